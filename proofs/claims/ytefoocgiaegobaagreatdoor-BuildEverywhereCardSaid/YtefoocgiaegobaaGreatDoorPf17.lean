import Derived.Test.YtefoocgiaegobaaGreatDoorPf16
set_option linter.all false
set_option maxHeartbeats 4000000
set_option maxRecDepth 100000
section
namespace Go.Sx
open Go Go.Proofs Tryz
variable {GB:Gh}
section
variable {GB:Gh} {C:aD} {n:Nat} {Q0:Exit->Act->World->Prop} {fr fr':aA} {own own':aO} {cf cf':Cf} {vc:List Prop}
def aDW{lk:LK}{bk:BM}{dst:Option Nat}{t ty':TypeId}{pos:String}{af:Array Edge}{gd:Option (Nat×Bool)}{x y:Operand}{e len s nm off:Nat}{k:IntKind}{i:Nat}(hu:prog.underlying t=some (.array len e))(hs:(prog.info? e).map (·.size)=some s)
  (e1:aP lk x=some (.ov nm off))(e2:aP lk y=some (.d (.v (.int k (i:Nat)))))(hi:i<len):bH prog GB C n lk bk ⟨dst, .indexAddr t x y,ty',pos,af,gd⟩ (.ov nm (off+i*s)) [] []:= .yd fun ρ G ov a w r=>by
 obtain⟨p,h1,h2⟩:=r.ev e1;obtain⟨q,h3,h4⟩:=r.ev e2;rw[c8] at h4;subst h4;obtain⟨b,hb,rfl⟩:=h2;refine⟨_,⟨b,hb,J⟩,?_⟩;obtain⟨j,hj,hjs⟩: ∃j,prog.info? e=some j/\j.size=s:=by
  cases h:prog.info? e with
  |none=>rw[h] at hs;cases hs
  |some j=>rw[h] at hs;exact⟨j,J,by simpa using hs⟩
 intro a' w' hf hh;simp only[execOp,bj hf h1,bj hf h3];have:(Instr.indexAt t (.pointer (some ⟨b,off,none⟩)) (.int k (i:Nat))).run prog w'= .ok (.pointer (some ⟨b,off+i*s,none⟩)) w':=by
  unfold Instr.indexAt;show(underlying t>>=_).run prog w'=_;rw[bc (qx hu w')];show(underlying t>>=_).run prog w'=_;rw[bc (qx hu w')];have h0:0<=((i:Nat):Int):=Int.natCast_nonneg i;have h1:((i:Nat):Int)<((len:Nat):Int):=by omega
  simp only[h0,h1,and_self,if_true];show(sizeOf e>>=_).run prog w'=_;rw[bc (uc hj w'),o8,hjs,bZ];rfl
 exact cH this
def I'(fr:aA)(cf:Cf):Option (TypeId×Nat×Nat×Int):=match cd fr cf with
 |some ⟨_, .indexAddr t x y,_,_,_,_⟩=>match aP (bz fr cf) x with
  |some (.ov nm off)=>match aP (bz fr cf) y with
   |some (.d (.v (.int _ i)))=>some (t,nm,off,i)
   |_=>none
  |_=>none
 |_=>none
def Ba[fu:Fu](i:Nat){t nm off e len s:Nat}(h:I' fr cf=some (t,nm,off,((i:Nat):Int)))(hu:prog.underlying t=some (.array len e))(hs:(prog.info? e).map (·.size)=some s)(hi:i<len)
  (hgo:cA tt n fu.n fr own cf (.ov nm (off+i*s)) [] []=⟨vc,fr',own',cf'⟩)(k:aj prog GB C n Q0 fr' own' cf')
  (hv:ah vc:=by first|exact trivial|(simp only[ah];kernel_rfl)|(simp only[ah];omega)):aj prog GB C n Q0 fr own cf:=by
 unfold I' at h;split at h<;>try (cases h;done)
 rename_i hh;split at h<;>try (cases h;done)
 rename_i hx;split at h<;>cases h;rename_i hy;exact us hh (aDW hu hs hx hy hi) hgo hv k
def Xc{lk:LK}{bk:BM}{d s:Nat}{e t ty':TypeId}{pos:String}{af:Array Edge}{gd:Option (Nat×Bool)}{ps:List (Nat×Operand)}{fo:List (Nat×Nat×Nat)}{i:TI}{z zx:List FX}{k:Nat}{pre post:List DV}(hi:fg prog t=some i)(hk:i.k= .st fo)(hz:i.z=some z)
  (hb:ta lk fo z ps=some zx)(h0:zx[k]? =some .nl)(h1:jq (zx.take k)=some pre)(h2:jq (zx.drop (k+1))=some post):bH prog GB C n lk bk ⟨some d, .build t ⟨ps⟩,ty',pos,af,gd⟩ (.bx false pre d post) [(d,some (.b e s [] true))] [d]:=by
 intro hd tl tb K' s1 s2 hf hk';refine⟨fun ρ G ov a w r Q=>?_⟩;obtain⟨v,hv,hv'⟩:=yX hi hz;have:=K5 hi hk;have hsp:zx=zx.take k++ .nl::zx.drop (k+1):=by
  obtain⟨hk1,hk2⟩:=aU.1 h0
  conv=>lhs;rw[<-lR k zx,bY hk1,hk2]
 obtain⟨l,h1',h2'⟩:=CY (r.mono s1 s2) (fo:=fo) ps _ _ _ hb (hv' ρ G);rw[hsp] at h2';obtain⟨m1,m2',rfl,k1,y,m2,rfl,k2,k3⟩:=PQ h2'
 cases (show y= .slice none 0 0 from k2)
 have hy:Yd prog C (cv a) ov G ⟨some d, .build t ⟨ps⟩,ty',pos,af,gd⟩ (.agg ⟨m1++Value.slice none 0 0::m2⟩):=Ds h1';have r3:=r.new' (x:=⟨none,0,0⟩) (B':= .b e s [] true) (os:=[]) (ov':=ov) (f:= .bx false pre d post) (y:= .agg ⟨m1++Value.slice none 0 0::m2⟩) hf (bw.refl G) r.h
  ⟨[],by simp only[if_true];exact .inl ⟨J,J,J⟩, .nil,by simp,fun _ o ho=>by cases ho⟩ (fun o ho=>by cases ho) (fun m B _ _ o ho _=>⟨ho,by simp⟩)
  ⟨m1,m2,by simp,tu k1 h1,tu k3 h2⟩ (r.putA _ hd)
 exact jF (hy a w (cB a) r.h) (hk'.run _ G ov _ w r3)
def MQ(fr:aA)(cf:Cf):Option (Nat×List FX):=match cd fr cf with
 |some ⟨some d, .build t ⟨ps⟩,_,_,_,_⟩=>match dh tt t with
  |some ⟨.st fo,_,some zx,_⟩=>match ta (bz fr cf) fo zx ps with
   |some l=>some (d,l)
   |none=>none
  |_=>none
 |_=>none
def bzp[fu:Fu]{d:Nat}{zx:List FX}(e s kk:Nat)(pre post:List DV)(h:MQ fr cf=some (d,zx))(h0:zx[kk]? =some .nl)(h1:jq (zx.take kk)=some pre)(h2:jq (zx.drop (kk+1))=some post)(hgo:cA tt n fu.n fr own cf (.bx false pre d post) [(d,some (.b e s [] true))] [d]=⟨vc,fr',own',cf'⟩)(k:aj prog GB C n Q0 fr' own' cf')
  (hv:ah vc:=by first|exact trivial|(simp only[ah];kernel_rfl)|(simp only[ah];omega)):aj prog GB C n Q0 fr own cf:=by
 unfold MQ at h;split at h<;>try (cases h;done)
 rename_i hh;split at h<;>try (cases h;done)
 rename_i hT;split at h<;>cases h;rename_i hb;exact us hh (Xc (er _ _ hT) J J hb h0 h1 h2) hgo hv k
end
def sp1(f:aH)(m:ab)(k:Nat):List aH:=if k=0 then [] else j' f m 1
def sp2(f:aH)(m:ab)(k:Nat):List aH:=if k<=1 then [] else j' f m (-1)
def iD(p:ZP):DV:=eP p.q
def lH(r:List ZP):DV:= .sl (r.map iD)
def Fq(l:List ZP):dG 6 (l.map iD):=fun d hd=>by
 obtain⟨u,_,rfl⟩:=bV.1 hd;exact⟨rfl,rfl⟩
def O9(l:List (List ZP)):dG 1 (l.map lH):=fun d hd=>by
 obtain⟨u,_,rfl⟩:=bV.1 hd;exact⟨rfl,rfl⟩
def Ku{r:List ZP}{i:Nat}(h:i<r.length):(r.map iD)[((i:Nat):Int).toNat]? =some (iD (r.getD i (0,0))):=by
 rw[bZ,eX,aK,aX h];rfl
def X7{r:List ZP}{i:Nat}(h:i<r.length):(r.map iD)[(((i+1)%r.length:Nat):Int).toNat]? =some (iD (e7 r i)):=Ku (dZ _ (by omega))
def aCB{r:List ZP}(h:dq r):PF GB prog 82 [.sl (r.map iD)] (.sl ((eG r).map vX)):=by
 have hm:=ir iD r;have h3:=h.n3;have h6:=h.n6;refine fn (fu:=⟨15⟩) func82 J J ntmps82 J J (fun C=>?_);refine ao 8 (.d (vI (r.length:Nat))) J (by rw[hm]<;>rfl) ?_;refine gx J<|?_;refine nr 3 3 161 14 J J J ?_;refine lp (X:=Nat) (fun k=>[(9, .d (vI (k:Nat))),(3, .rw 3)]) (fun k=>[(3,some (.b 161 14 ((jl r k).map vX) true))]) (fun k=>k<=r.length) (fun k=>r.length-k) 0 J (bK _) (fun _=>J) (fun k hk=>?_);have hel:=fun hh=>(Gv (k:=k) h hh).1;refine br J J J (fun hc10=>?_) (fun hc10=>?_)
 .
  have hkr:k<r.length:=by omega
  have hel:=hel (by omega);have hem:=ir vX (jl r k);refine ix (fu:=⟨7⟩) _ J (Ku hkr) J<|?_;refine ao 22 (.d (vI ((k+1)%r.length:Nat))) J (by rw[hm]<;>rfl) ?_;refine gx J<|ix _ J (X7 hkr) J<|cl J (Z6 (v:=r.getD k (0,0)) (w:=e7 r k) (h.le _ (xi hkr)) (h.le _ (Al hkr)) (h.ne k hkr)) J<|?_;refine rf J J<|ap ((jl r (k+1)).map vX) J (by rw[jl,cR];rfl) (U' [dl (r.getD k (0,0)) (e7 r k)]) J<|?_;refine gI 31 3 J ?_;exact at_ (k+1) ⟨(by omega),(by omega)⟩
 .
  obtain rfl:k=r.length:=by omega
  refine lB 3 J ?_;exact rz J J
def oz(rs:List (List ZP)):List ab:=(cb rs).map aH.l
def eRR(rs:List (List ZP))(fill:Int):DV:= .ag [.sl (rs.map lH), .v (.int .i64 fill), .sl ((jH (oz rs)).map eL)]
def lG(r:List ZP):DV:= .sl ((r.map ZP.q).map l6)
def aDQ(l:List (List ZP)):dG 1 (l.map lG):=fun d hd=>by
 obtain⟨u,_,rfl⟩:=bV.1 hd;exact⟨rfl,rfl⟩
theorem D3{r:List ZP}(h: ∀p∈r,ZP.le 100 p): ∀p∈r.map ZP.q,aI p 1200:=fun p hp=>by
 obtain⟨z,hz,rfl⟩:=bV.1 hp;have:=HO (h z hz);exact⟨BQ.mono this.x (by decide),BQ.mono this.y (by decide)⟩
def JJ(r:List ZP):DV.sl ((r.map ZP.q).map eP)=lH r:=by unfold lH;rw[List.map_map];rfl
def Mh{rs:List (List ZP)}{k:Nat}{r:List ZP}(h:rs[k]? =some r):cb (rs.take (k+1))=cb (rs.take k)++eG r:=by
 unfold cb;rw[gU,h,qY];simp
def vm{rs:List (List ZP)}(h: ∀r∈rs,dq r)(k:Nat):(cb (rs.take k)).length<=6*k:=by
 have:=(ng (rs:=rs.take k) (fun r hr=>h r (fV hr))).1;have h2:(rs.take k).length<=k:=by rw[bM];omega
 omega
def aCz{rs:List (List ZP)}{fill:Int}(h: ∀r∈rs,dq r)(hn:rs.length<=100):PF GB prog 24 [.sl (rs.map lG), .v (.int .i64 fill)] (eRR rs fill):=by
 have hm:=ir lG rs;refine fn (fu:=⟨8⟩) func24 J J ntmps24 J J (fun C=>?_);refine bzp (fu:=⟨14⟩) 62 1 0 [] [.v (.int .i64 fill), .sl []] J J J J J<|?_;refine ao 15 (.d (vI (rs.length:Nat))) J (by rw[hm]<;>rfl) ?_;refine gx J<|?_;refine nr 6 6 115 6 J J J ?_;refine lp (X:=Nat) (fun k=>[(16, .d (vI (k:Nat))),(6, .rw 6),(5, .ov 5 0)]) (fun k=>[(5,some (.o 44 [.rw 13, .d (.v (.int .i64 fill)), .d (.sl [])] true)),(13,some (.b 62 1 ((rs.take k).map lH) true)),(6,some (.b 115 6 (((cb (rs.take k)).map aH.l).map eL) true))]) (fun k=>k<=rs.length) (fun k=>rs.length-k) 0 J (bK _) (fun _=>J) (fun k hk=>?_);refine br (fu2:=⟨0⟩) J J J (fun hc17=>?_) (fun hc17=>?_)
 .
  obtain⟨r,hz⟩: ∃s,rs[k]? =some s:=⟨_,aX (by omega)⟩;have hr:=h r (aS hz);have hel:(eG r).length<=6:=by have:=(tq hr).1;have:=hr.n6;omega
  have het:=vm h k;have hrl:((rs.take k).map lH).length=k:=by rw[aJ,bM];omega
  refine ix _ J (d6 hz) J<|cl (fu:=⟨0⟩) J (WT (ps:=r.map ZP.q) (D3 hr.le) (by rw[aJ];have:=hr.n6;omega)) J<|?_;refine ao 21 (.d (lH r)) J (by rw[JJ]) ?_;refine gx J<|rf J J<|ap ((rs.take (k+1)).map lH) J (AQ hz) (O9 [r]) J<|cl (fu:=⟨1⟩) J (aCB (r:=r) hr) J<|?_;refine ao 30 (.d (vI ((eG r).length:Nat))) J (by rw[ir vX (eG r)]<;>rfl) ?_;refine gx J<|?_;rw[<-iW (cb (rs.take k)),<-List.take_zero (l:=eG r)];refine lp (X:=Nat) (fun j=>[(31, .d (vI (j:Nat))),(6, .rw 6)]) (fun j=>[(6,some (.b 115 6 (((cb (rs.take k)++(eG r).take j).map aH.l).map eL) true))]) (fun j=>j<=(eG r).length) (fun j=>(eG r).length-j) 0 J (bK _) (fun _=>J) (fun j hk=>?_);have hml:(((cb (rs.take k)++(eG r).take j).map aH.l).map eL).length<=6*k+6:=by rw[aJ,aJ,aT,bM];omega
  refine br J J J (fun hc32=>?_) (fun hc32=>?_)
  .
   obtain⟨e,he⟩: ∃s,(eG r)[j]? =some s:=⟨_,aX (by omega)⟩;refine ix _ J (d6 he) J<|rf J J<|ap (((cb (rs.take k)++(eG r).take (j+1)).map aH.l).map eL) J (by rw[gU,he];simp only[cR,dQ];rfl) (pk [e.l]) J<|?_;refine gI 39 6 J ?_;exact at_ (j+1) ⟨(by omega),(by omega)⟩
  .
   obtain rfl:j=(eG r).length:=by omega
   rw[dT,<-Mh hz];refine gI 26 13 J ?_;exact at_ (k+1) ⟨(by omega),(by omega)⟩
 .
  obtain rfl:k=rs.length:=by omega
  rw[dT];refine qD 6 J ?_;refine qD 13 J ?_;refine gx rfl<|cl rfl (SI (ls:=oz rs) (fun l hl=>by obtain⟨f,hf,rfl⟩:=bV.1 hl;exact((ng h).2 f hf).lb) (by unfold oz;rw[aJ];have:=(ng h).1;omega)) rfl<|?_;exact rz J J
def Fh{rs:List (List ZP)}(h: ∀r∈rs,dq r)(hn:rs.length<=100):PF GB prog 16 [.sl (rs.map lH)] (.sl (rs.map lG)):=by
 have hm:=ir lH rs;refine fn (fu:=⟨15⟩) func16 J J ntmps16 J J (fun C=>?_);refine ao 7 (.d (vI (rs.length:Nat))) J (by rw[hm]<;>rfl) ?_;refine gx J<|?_;refine nr 3 3 48 1 J J J ?_;refine lp (X:=Nat) (fun k=>[(8, .d (vI (k:Nat))),(3, .rw 3)]) (fun k=>[(3,some (.b 48 1 ((rs.take k).map lG) true))]) (fun k=>k<=rs.length) (fun k=>rs.length-k) 0 J (bK _) (fun _=>J) (fun k hk=>?_);have hml:((rs.take k).map lG).length<=k:=by rw[aJ,bM];omega
 refine br J J J (fun hc9=>?_) (fun hc9=>?_)
 .
  obtain⟨r,hz⟩: ∃s,rs[k]? =some s:=⟨_,aX (by omega)⟩;have hr:=h r (aS hz);refine ix (fu:=⟨1⟩) _ J (d6 hz) J<|?_;refine ao 11 (.d (.sl ((r.map ZP.q).map eP))) J (by rw[JJ]) ?_;refine gx J<|cl J (Ji (ps:=r.map ZP.q) (D3 hr.le) (by rw[aJ];have:=hr.n6;omega)) J<|rf J J<|ap ((rs.take (k+1)).map lG) J (AQ hz) (aDQ [r]) J<|?_;refine gI 16 3 J ?_;exact at_ (k+1) ⟨(by omega),(by omega)⟩
 .
  obtain rfl:k=rs.length:=by omega
  refine lB 3 J ?_;exact rz J (by rw[dT];rfl)

def p7:aa:=⟨mkRat 1 7,mkRat 1 5⟩
structure LP (l:ab):Prop where
 s:LS l
 p:0<l.value p7
def Er(es:List Int):Nat->Nat->List ab×Nat
 |0,a=>([],a)
 |i+1,a=>((lF es a).1::(Er es i (lF es a).2).1,(Er es i (lF es a).2).2)
def JT(es:List Int)(most a:Nat):List ab×Nat:=Er es (aB es ((most:Int)+1) a).1 (aB es ((most:Int)+1) a).2
def Oi(l:ab):ab:=if(l.value p7).num.sign<0 then l.rev else l
def aJn(xs:List ab)(i:Nat):List ab:=(xs.take i).map Oi++xs.drop i
def aIX(es:List Int)(a:Nat):List ab×Nat:=((JT es 3 a).1.map Oi,(JT es 3 a).2)

def SK(ds:List Int):dG 1 (ds.map vI):=fun d hd=>by
 obtain⟨n,_,rfl⟩:=bV.1 hd;exact⟨rfl,rfl⟩
def Zk(es:List Int):(es.map vI).take (min es.length 400)=(es.take 400).map vI:=by
 rw[kK];rcases Nat.le_total es.length 400 with h|h
 ·rw[gV h,bQ (by simp),bQ (by simpa using h)]
 ·rw[Nat.min_eq_right h]
def Uc{es:List Int}(hb:es.length<=1125899906842624):PN GB prog 15 [.sl (es.map vI)] 126 Unit (fun _=>[.sl ((es.take 400).map vI), .v (.int .i64 (0:Nat))]):=by
 have hel:(es.map vI).length=es.length:=by simp
 refine fnN func15 J J ntmps15 J J (fun C hmb=>?_);refine oy 0 (min es.length 400) ((es.take 400).map vI) J J (by rw[hel];show(if _ then _ else _:Int)=_;split<;>omega) (Zk es) (SK _) (by omega) (by omega) J<|?_;exact WC () J J J J J


def XP(p r:ZP):(f9 p.q r.q<0↔lu p r<0)/\(f9 p.q r.q=0↔lu p r=0):=by
 have e1: ∀a b:Int,bO (a:Rat) (b:Rat)<0↔a<b:=fun a b=>by rw[zj,rL]
 have e2: ∀a b:Int,bO (a:Rat) (b:Rat)=0↔a=b:=fun a b=>by rw[s5,nT]
 have f1:=e1 p.1 r.1;have f2:=e2 p.1 r.1;have f3:=e1 p.2 r.2;have f4:=e2 p.2 r.2;show(f9 ⟨(p.1:Rat),(p.2:Rat)⟩ ⟨(r.1:Rat),(r.2:Rat)⟩<0↔_)/\(f9 ⟨(p.1:Rat),(p.2:Rat)⟩ ⟨(r.1:Rat),(r.2:Rat)⟩=0↔_);unfold f9 lu;dsimp only;generalize bO (p.1:Rat) (r.1:Rat)=u at*;generalize bO (p.2:Rat) (r.2:Rat)=v at*;by_cases h:p.1<r.1
 ·rw[if_pos (by omega),if_pos h];omega
 ·by_cases h2:r.1<p.1
  ·rw[if_pos (by omega),if_neg h,if_pos h2];omega
  ·rw[if_neg (by omega),if_neg h,if_neg h2]
   by_cases h3:p.2<r.2
   ·rw[if_pos h3];omega
   ·rw[if_neg h3]
    split<;>omega
def Rq(x:ZP): ∀l:List ZP,dH f9 x.q (l.map ZP.q)=(kD x l).map ZP.q
 |[]=>rfl
 |u::t=>by
  obtain⟨h1,h2⟩:=XP u x;rw[bW,dH,kD,Rq x t];by_cases k1:lu u x<0
  ·rw[if_pos (h1.2 k1),if_pos k1];rfl
  ·rw[if_neg (fun e=>k1 (h1.1 e)),if_neg k1]
   by_cases k2:lu u x=0
   ·rw[if_pos (h2.2 k2),if_pos k2];rfl
   ·rw[if_neg (fun e=>k2 (h2.1 e)),if_neg k2];rfl
def aAV(l:List ZP):om f9 (l.map ZP.q)=(oE l).map ZP.q:=by
 have key: ∀(l o:List ZP),(l.map ZP.q).foldl (fun out x=>dH f9 x out) (o.map ZP.q)=(l.foldl (fun out x=>kD x out) o).map ZP.q:=by
  intro l
  induction l with
  |nil=>intro o;rfl
  |cons x t ih=>intro o;rw[bW,dX,dX,Rq,ih]
 exact key l []
def Pe(l:List ZP):(l.map ZP.q).map eP=l.map iD:=by rw[List.map_map];rfl
def O1{l:List ZP}(h: ∀p∈l,ZP.le 100 p)(hn:l.length<=100000):PF GB prog 90 [.sl (l.map iD)] (.sl ((oE l).map iD)):=by
 have:=VP (GB:=GB) (ps:=l.map ZP.q) (D3 h) (by rw[aJ];exact hn);rw[aAV,Pe,Pe] at this;exact this
def aAJ(u v:ZP):(aa.cross (iP u.1 u.2) (iP v.1 v.2))=((rg u v:Int):Rat):=by
 unfold aa.cross iP rg;push_cast;rfl
def H6(u v:ZP):(aa.cross (iP u.1 u.2) (iP v.1 v.2)).num.sign≠0↔rg u v≠0:=by
 rw[aAJ,qL];exact not_congr fM
def arq{α β:Type}(f:α->β)(l:List α):((l.map f).take (l.length-1)).drop 0=l.dropLast.map f:=by
 rw[jJ,<-kK,List.dropLast_eq_take]
def Ng{l:List ZP}(h:0<l.length): ∃u,l.getLast? =some u/\l[l.length-1]? =some u/\l.getD (l.length-1) (0,0)=u:=by
 refine⟨l[l.length-1],?_,aX (by omega),?_⟩
 ·rw[nV];exact aX (by omega)
 ·rw[aK,aX (by omega)];rfl
def U8{l:List ZP}(h:0<l.length): ∃u,l[0]? =some u/\l.getD 0 (0,0)=u:=by
 refine⟨l[0],aX (by omega),?_⟩;rw[aK,aX (by omega)];rfl
def Dh{u p:ZP}:(u.1=p.1/\u.2=p.2)↔u=p:=⟨fun h=>Prod.ext h.1 h.2,fun h=>by rw[h];exact⟨J,J⟩⟩
def Sd{b:Nat}{es:List Int}(hes:es.length<=400){a:Nat}(ha:a<=es.length):PM GB prog 33 (ja [none] b) b 126 [.sl (es.map vI), .v (.int .i64 (a:Nat))] (lH (iu es a).1) [.sl (es.map vI), .v (.int .i64 ((iu es a).2:Nat))]:=by
 have hk0:=jy (n:=4) ha;refine wq (fu:=⟨6⟩) func33 J J ntmps33 J J (fun C b m lo hmb=>?_);refine mg (X:=Nat) (fun a2=>[]) (fun a2=>[(1000000,some (.o 126 [.d (.sl (es.map vI)), .d (.v (.int .i64 (a2:Nat)))] false))]) (fun a2=>iu es a=pc es a2/\a2<=es.length) [] [1000000] rfl ?_ (fun _=>J) (fun a2 ⟨hR,ha2⟩=>?_)
 .
  refine gx J<|cm J (fun b=>(rE (n:=4) hes ha (by decide) (by decide))) J<|?_;refine br J J J (fun hc15=>?_) (fun hc15=>?_)
  .
   have hx1:=jy (n:=5) hk0;have hy1:=jy (n:=5) hx1;have hz1:=jy (n:=4) hy1;have hw1:=jy (n:=4) hz1;have hl0:=kP (es:=es) (n:=5) (a:=(aB es 4 a).2) (by decide);have hl1:=kP (es:=es) (n:=5) (a:=(aB es 5 (aB es 4 a).2).2) (by decide);have hl2:=kP (es:=es) (n:=4) (a:=(aB es 5 (aB es 5 (aB es 4 a).2).2).2) (by decide);have hl3:=kP (es:=es) (n:=4) (a:=(aB es 4 (aB es 5 (aB es 5 (aB es 4 a).2).2).2).2) (by decide);refine cm J (fun b=>(rE (n:=5) hes hk0 (by decide) (by decide))) J<|cm J (fun b=>(rE (n:=5) hes hx1 (by decide) (by decide))) J<|?_;refine cm J (fun b=>(rE (n:=4) hes hy1 (by decide) (by decide))) J<|cm J (fun b=>(rE (n:=4) hes hz1 (by decide) (by decide))) J<|?_;refine cl J (mA (m:=(((aB es 5 (aB es 4 a).2).1:Int)-4)) (n:=(((aB es 5 (aB es 5 (aB es 4 a).2).2).1:Int)-4)) (by omega) (by omega)) J<|?_;refine cl J (mA (m:=(((aB es 5 (aB es 4 a).2).1:Int)-4+1+((aB es 4 (aB es 5 (aB es 5 (aB es 4 a).2).2).2).1:Int))) (n:=(((aB es 5 (aB es 5 (aB es 4 a).2).2).1:Int)-4)) (by omega) (by omega)) J<|?_;refine cl J (mA (m:=(((aB es 5 (aB es 4 a).2).1:Int)-4+1+((aB es 4 (aB es 5 (aB es 5 (aB es 4 a).2).2).2).1:Int))) (n:=(((aB es 5 (aB es 5 (aB es 4 a).2).2).1:Int)-4+1+((aB es 4 (aB es 4 (aB es 5 (aB es 5 (aB es 4 a).2).2).2).2).1:Int))) (by omega) (by omega)) J<|?_;refine cl J (mA (m:=(((aB es 5 (aB es 4 a).2).1:Int)-4)) (n:=(((aB es 5 (aB es 5 (aB es 4 a).2).2).1:Int)-4+1+((aB es 4 (aB es 4 (aB es 5 (aB es 5 (aB es 4 a).2).2).2).2).1:Int))) (by omega) (by omega)) J<|?_;refine rf J J<|?_
   exact mn hmb J J (by rw[show iu es a=_ from if_pos hc15];rfl) (by rw[show iu es a=_ from if_pos hc15];rfl)
  .
   refine br J J J (fun hc46=>?_) (fun hc46=>?_)
   .
    obtain⟨hp1,hp2,hp3⟩:=vY hk0;obtain⟨hu1,hu2,hu3,hu4⟩:=yt hp3;obtain⟨hv1,hv2,hv3,hv4⟩:=yt hu4;haveI:=jo (k:=10) (m:=(vF es (pF es (aB es 4 a).2).2).1.1) (by omega) (by decide);haveI:=jo (k:=10) (m:=(vF es (pF es (aB es 4 a).2).2).1.2) (by omega) (by decide);haveI:=jo (k:=10) (m:=(vF es (vF es (pF es (aB es 4 a).2).2).2).1.1) (by omega) (by decide);haveI:=jo (k:=10) (m:=(vF es (vF es (pF es (aB es 4 a).2).2).2).1.2) (by omega) (by decide);refine cm J (fun b=>(IA hes hk0)) J<|cm J (fun b=>(P5 hes hp3)) J<|cm J (fun b=>(P5 hes hu4)) J<|cl J (Vf (p:=iP (vF es (pF es (aB es 4 a).2).2).1.1 (vF es (pF es (aB es 4 a).2).2).1.2) (q:=iP (vF es (vF es (pF es (aB es 4 a).2).2).2).1.1 (vF es (vF es (pF es (aB es 4 a).2).2).2).1.2)) J<|?_;refine cl J (Io (q:=aa.cross (iP (vF es (pF es (aB es 4 a).2).2).1.1 (vF es (pF es (aB es 4 a).2).2).1.2) (iP (vF es (vF es (pF es (aB es 4 a).2).2).2).1.1 (vF es (vF es (pF es (aB es 4 a).2).2).2).1.2))) J<|?_;refine br J J J (fun hc58=>?_) (fun hc58=>?_)
    .
     refine cl J (uK (n:=1) (by decide) (by decide)) J<|cl J (EC (m:=(pF es (aB es 4 a).2).1.1) (n:=(pF es (aB es 4 a).2).1.2) (m':=(vF es (pF es (aB es 4 a).2).2).1.1) (n':=(vF es (pF es (aB es 4 a).2).2).1.2) (k:=1) (by omega) (by omega) (by omega) (by omega) (by decide)) J<|?_;refine cl J (uK (n:=1) (by decide) (by decide)) J<|cl J (EC (m:=(pF es (aB es 4 a).2).1.1) (n:=(pF es (aB es 4 a).2).1.2) (m':=(vF es (vF es (pF es (aB es 4 a).2).2).2).1.1) (n':=(vF es (vF es (pF es (aB es 4 a).2).2).2).1.2) (k:=1) (by omega) (by omega) (by omega) (by omega) (by decide)) J<|?_;refine rf J J<|?_;exact mn hmb J J (by rw[show iu es a=_ from(if_neg hc15).trans ((if_pos hc46).trans (if_pos ((H6 _ _).1 hc58)))];rfl) (by rw[show iu es a=_ from(if_neg hc15).trans ((if_pos hc46).trans (if_pos ((H6 _ _).1 hc58)))])
    .
     exact at_ (vF es (vF es (pF es (aB es 4 a).2).2).2).2 ⟨(if_neg hc15).trans ((if_pos hc46).trans (if_neg (fun e=>hc58 ((H6 _ _).2 e)))),hv4⟩
   .
    exact at_ (aB es 4 a).2 ⟨(if_neg hc15).trans (if_neg hc46),hk0⟩
 .
  have hj1:=kP (es:=es) (n:=4) (a:=a2) (by decide);have hj2:=jy (n:=4) ha2;refine cm J (fun b=>(rE (n:=4) hes ha2 (by decide) (by decide))) J<|?_;refine nr 10 10 81 6 J J J ?_;refine lp (X:=List ZP×Nat×Nat) (fun⟨r,i,a3⟩=>[(11, .d (vI (i:Nat))),(10, .rw 10)]) (fun⟨r,i,a3⟩=>[(1000000,some (.o 126 [.d (.sl (es.map vI)), .d (.v (.int .i64 (a3:Nat)))] false)),(10,some (.b 81 6 (r.map iD) true))]) (fun⟨r,i,a3⟩=>mH es i a3 r=mH es (3+(aB es 4 a2).1) (aB es 4 a2).2 []/\a3<=es.length/\lh r/\r.length+i<=6) (fun⟨r,i,a3⟩=>i) ⟨[],3+(aB es 4 a2).1,(aB es 4 a2).2⟩ J ⟨J,hj2,lh.nil,by simp;omega⟩ (fun _=>J) (fun⟨r,i,a3⟩ hk=>?_)
  try dsimp only at hk⊢
  obtain⟨h1,h2,h3,h4⟩:=hk;have hrl:(r.map iD).length=r.length:=by simp
  refine br (fu2:=⟨0⟩) J J J (fun hc73=>?_) (fun hc73=>?_)
  .
   obtain⟨j,rfl⟩: ∃j,i=j+1:=⟨i-1,by omega⟩;obtain⟨hq1,hq2,hq3⟩:=vY h2;refine cm (fu:=⟨8⟩) J (fun b=>(IA hes h2)) J<|?_;refine pi (v1:=fun hg80=>by simp only[ah];kernel_rfl) J J J J (fun hg80=>?_) (fun hg80=>?_)
   .
    have hlast: ¬r.getLast? =some (pF es a3).1:=by rw[bT (l:=r) (by omega)];simp
    refine rf J J<|ap ((r++[(pF es a3).1]).map iD) J (by rw[cR];rfl) (Fq [_]) J<|?_;refine gI 95 10 J ?_;exact at_ ⟨r++[(pF es a3).1],j,(pF es a3).2⟩ (by dsimp only;exact⟨⟨by rw[<-h1,mH,if_neg hlast],hq3,h3.snoc ⟨by omega,by omega⟩ hlast,by simp;omega⟩,(by omega)⟩)
   .
    obtain⟨q,hq,hqi,hqd⟩:=Ng (l:=r) (by omega);have hqm:=h3.le q (pY hq);unfold ZP.le at hqm;refine lb (iD q) J (by rw[show(((r.map iD).length:Nat):Int)-1=((r.length-1:Nat):Int) by omega];exact d6 hqi) J<|cl J (GP (m:=q.1) (n:=q.2) (m':=(pF es a3).1.1) (n':=(pF es a3).1.2) (by omega) (by omega) (by omega) (by omega)) J<|?_;refine bb J J J (fun hc91=>?_) (fun hc91=>?_)
    .
     have hlast: ¬r.getLast? =some (pF es a3).1:=by rw[hq];intro e;have:=Dh.2 (Option.some.inj e);simp[this] at hc91
     refine rf J J<|ap ((r++[(pF es a3).1]).map iD) J (by rw[cR];rfl) (Fq [_]) J<|?_;refine gI 95 10 J ?_;exact at_ ⟨r++[(pF es a3).1],j,(pF es a3).2⟩ (by dsimp only;exact⟨⟨by rw[<-h1,mH,if_neg hlast],hq3,h3.snoc ⟨by omega,by omega⟩ hlast,by simp;omega⟩,(by omega)⟩)
    .
     have hlast:r.getLast? =some (pF es a3).1:=by rw[hq];congr 1;exact Dh.1 (by simpa using hc91)
     exact at_ ⟨r,j,(pF es a3).2⟩ (by dsimp only;exact⟨⟨by rw[<-h1,mH,if_pos hlast],hq3,h3,by omega⟩,(by omega)⟩)
  .
   obtain rfl:i=0:=by omega
   have hg:=h1;rw[mH] at hg;refine qD 10 J ?_;refine gx J<|?_;refine lp (fu:=⟨5⟩) (X:=List ZP×Nat) (fun⟨l,m⟩=>[(10, .d (.sl (l.map iD)))]) (fun⟨l,m⟩=>[]) (fun⟨l,m⟩=>kj m l=kj 6 r/\l.length<=m+1/\lh l/\l.length<=6) (fun⟨l,m⟩=>m) ⟨r,6⟩ J ⟨J,by omega,h3,by omega⟩ (fun _=>J) (fun⟨l,m⟩ hk=>?_)
   try dsimp only at hk⊢
   obtain⟨t1,t2,t3,t4⟩:=hk;have hll:(l.map iD).length=l.length:=by simp
   refine pi (v2:=fun hg98=>by simp only[ah];kernel_rfl) J J J J (fun hg98=>?_) (fun hg98=>?_)
   .
    obtain⟨q,hqi,hqd⟩:=U8 (l:=l) (by omega);obtain⟨q2,hq0,hqi2,hqd2⟩:=Ng (l:=l) (by omega);have hqm:=t3.le q (aS hqi);have hqm2:=t3.le q2 (aS hqi2);unfold ZP.le at hqm hqm2;refine ix _ J (d6 (i:=0) hqi) J<|ix (iD q2) J (by rw[show(((l.map iD).length:Nat):Int)-1=((l.length-1:Nat):Int) by omega];exact d6 hqi2) J<|?_;refine cl J (GP (m:=q.1) (n:=q.2) (m':=q2.1) (n':=q2.2) (by omega) (by omega) (by omega) (by omega)) J<|?_;refine bd J J J (fun hc110=>?_) (fun hc110=>?_)
    .
     have hcond:1<l.length/\l.getD 0 (0,0)=l.getD (l.length-1) (0,0):=⟨by omega,by rw[hqd,hqd2];exact Dh.1 hc110⟩;refine oy 0 (l.length-1) (l.dropLast.map iD) J J (by omega) (arq iD l) (Fq l) (bK _) (by omega) J<|?_;exact at_ ⟨l.dropLast,m-1⟩ (by dsimp only;exact⟨⟨by rw[<-t1];obtain⟨m,rfl⟩: ∃q,m=q+1:=⟨m-1,by omega⟩;rw[kj,if_pos hcond];rfl,by rw[oQ];omega,t3.drop,by rw[oQ];omega⟩,(by omega)⟩)
    .
     have hcond: ¬(1<l.length/\l.getD 0 (0,0)=l.getD (l.length-1) (0,0)):=fun e=>hc110 (Dh.2 (by rw[<-hqd,<-hqd2];exact e.2));refine cl (fu:=⟨1⟩) J (O1 (l:=l) t3.le (by omega)) J<|?_;have hgen:kj 6 r=l:=by rw[<-t1];cases m with|zero=>rfl|succ m=>rw[kj,if_neg hcond]
     refine ao 118 (.d (vI ((oE l).length:Nat))) J (by rw[aJ];rfl) ?_;refine gx J<|?_;refine br J J J (fun hc119=>?_) (fun hc119=>?_)
     .
      have hfin:iu es a=(wZ,a3):=by rw[hR,pc,<-hg,hgen,if_pos (by omega)]
      refine cl J (mA (m:=0) (n:=0) (by decide) (by decide)) J<|cl J (mA (m:=2) (n:=0) (by decide) (by decide)) J<|cl J (mA (m:=0) (n:=2) (by decide) (by decide)) J<|?_;refine rf J J<|?_;exact mn hmb J J (by rw[hfin];rfl) (by rw[hfin])
     .
      have hfin:iu es a=(l,a3):=by rw[hR,pc,<-hg,hgen,if_neg (by omega)]
      exact mn hmb J J (by rw[hfin];rfl) (by rw[hfin])
   .
    have hcond: ¬(1<l.length/\l.getD 0 (0,0)=l.getD (l.length-1) (0,0)):=fun e=>by omega
    refine cl (fu:=⟨1⟩) J (O1 (l:=l) t3.le (by omega)) J<|?_;have hgen:kj 6 r=l:=by rw[<-t1];cases m with|zero=>rfl|succ m=>rw[kj,if_neg hcond]
    refine ao 118 (.d (vI ((oE l).length:Nat))) J (by rw[aJ];rfl) ?_;refine gx J<|?_;refine br J J J (fun hc119=>?_) (fun hc119=>?_)
    .
     have hfin:iu es a=(wZ,a3):=by rw[hR,pc,<-hg,hgen,if_pos (by omega)]
     refine cl J (mA (m:=0) (n:=0) (by decide) (by decide)) J<|cl J (mA (m:=2) (n:=0) (by decide) (by decide)) J<|cl J (mA (m:=0) (n:=2) (by decide) (by decide)) J<|?_;refine rf J J<|?_;exact mn hmb J J (by rw[hfin];rfl) (by rw[hfin])
    .
     have hfin:iu es a=(l,a3):=by rw[hR,pc,<-hg,hgen,if_neg (by omega)]
     exact mn hmb J J (by rw[hfin];rfl) (by rw[hfin])
def HT:DV:= .v (.pointer none)
def Vj(l:ab)(p q:DV):List DV:=[.v (.bool false), .v (.bool false), .v (.bool (decide (l.a<0))),dN l.a.natAbs, .v (.bool (decide (l.b<0))),dN l.b.natAbs, .v (.bool (decide (l.c<0))),dN l.c.natAbs,p,q]
inductive RF (ns:List RN):Int->(Nat->Bool)->DV->Bool->(Nat->Bool)->Prop where
 |leaf (b:Bool) (f:Nat->Bool):RF ns (q8 b) f (eT (.leaf b)) true f
 |bad (rt:Int) (f:Nat->Bool) (h1:rt≠ -1) (h2:rt≠ -2) (h:rt<0\/(ns.length:Int)<=rt\/(∃k:Nat,rt=k/\k<ns.length/\f k=true)):RF ns rt f HT false f
 |line (k:Nat) (n:RN) (f:Nat->Bool) (h:ns[k]? =some n) (hf:f k=false) (hl:n.g.ln=none):RF ns (k:Int) f HT false (lg f k)
 |left (k:Nat) (n:RN) (l:ab) (f f2:Nat->Bool) (p:DV) (h:ns[k]? =some n) (hf:f k=false) (hl:n.g.ln=some l) (h1:RF ns n.l (lg f k) p false f2):RF ns (k:Int) f HT false f2
 |node (k:Nat) (n:RN) (l:ab) (f f2 f3:Nat->Bool) (p q:DV) (ok:Bool) (h:ns[k]? =some n) (hf:f k=false) (hl:n.g.ln=some l) (h1:RF ns n.l (lg f k) p true f2) (h2:RF ns n.r f2 q ok f3):RF ns (k:Int) f (.pt (Vj l p q)) ok f3
def aKB(n:Nat)(f:Nat->Bool):Bool:=(List.range n).all f
def RN.of(n:NQ):RN:=⟨⟨decide (n.l.a<0),dg n.l.a.natAbs,decide (n.l.b<0),dg n.l.b.natAbs,decide (n.l.c<0),dg n.l.c.natAbs⟩,n.a,n.b⟩
def TU(ns:List NQ):ns.map eN=(ns.map RN.of).map RN.d:=by
 rw[List.map_map];rfl
def aG5(t:Tr):eA t=yM (t.num 0) ((t.wr 0).map RN.of):=by
 unfold eA yM;rw[TU];rfl
def SA(a:Int):n7 (decide (a<0)) (dg a.natAbs)=a:=by
 unfold n7;rw[(ew _).1];split
 ·rename_i h;have:=of_decide_eq_true h;omega
 ·rename_i h;have: ¬a<0:=fun e=>h (decide_eq_true e);omega
def HW(a:Int):l8 (decide (a<0)) (dg a.natAbs):=⟨(ew _).2.2,fun h=>ya.2 (by have:=of_decide_eq_true h;omega)⟩
def RN.of_l(n:NQ):(RN.of n).g.l=n.l:=by
 unfold RN.of RL.l;simp only[SA]
def RN.of_ln{n:NQ}(h:n.l.ok):(RN.of n).g.ln=some n.l:=by
 unfold RL.ln;rw[if_pos ⟨⟨HW _,HW _,HW _⟩,by rw[RN.of_l];exact h⟩,RN.of_l]
def RN.of_sm{n:NQ}(h:LB n.l):(RN.of n).g.sm:=by
 have key: ∀a:Int,a.natAbs<2^96->bp (dg a.natAbs)/\(dg a.natAbs).length<=3:=fun a ha=>⟨(ew _).2.1,by have:=lC ha;omega⟩;exact⟨key _ h.bl.a,key _ h.bl.b,key _ h.bl.c⟩
def Bw(b:Bool)(k:Nat):q8 b≠(k:Int):=by cases b<;>(unfold q8;simp)
def RR.det{ns:List RN}{rt:Int}{s s1:RS}{t1:Tr}(h:RR ns rt s t1 s1): ∀{s2:RS} {t2:Tr},RR ns rt s t2 s2->t1=t2/\s1=s2:=by
 induction h with
 |leaf b s=>
  intro s2 t2 h;generalize hr:q8 b=r at h
  cases h with
  |leaf b' s=>
   have:b=b':=by cases b<;>cases b'<;>first|rfl|(simp[q8] at hr)
   subst this;exact⟨J,J⟩
  |bad rt s h1 h2 h=>cases b<;>simp[q8] at hr<;>omega
  |line k=>exact absurd hr (Bw _ _)
  |node k=>exact absurd hr (Bw _ _)
 |bad rt s h1 h2 h=>
  intro s2 t2 h'
  cases h' with
  |leaf b s=>cases b<;>simp[q8] at h1 h2
  |bad=>exact⟨J,J⟩
  |line k n s hn hf=>
   have:=(aU.1 hn).1;rcases h with h|h|⟨j,e,_,hj⟩
   ·omega
   ·omega
   ·have:j=k:=by omega
    subst this;rw[hf] at hj;cases hj
  |node k n l s s2 s3 x y hn hf=>
   have:=(aU.1 hn).1;rcases h with h|h|⟨j,e,_,hj⟩
   ·omega
   ·omega
   ·have:j=k:=by omega
    subst this;rw[hf] at hj;cases hj
 |line k n s hn hf hl=>
  intro s2 t2 h';generalize hr:(k:Int)=r at h'
  cases h' with
  |leaf b s=>exact absurd hr.symm (Bw _ _)
  |bad rt s h1 h2 h=>
   have:=(aU.1 hn).1;rcases h with h|h|⟨j,e,_,hj⟩
   ·omega
   ·omega
   ·have:j=k:=by omega
    subst this;rw[hf] at hj;cases hj
  |line k' n' s hn' hf' hl'=>
   have:k=k':=by omega
   subst this;exact⟨J,J⟩
  |node k' n' l s s2 s3 x y hn' hf' hl'=>
   have:k=k':=by omega
   subst this;rw[hn] at hn';cases hn';rw[hl] at hl';cases hl'
 |node k n l s s2 s3 x y hn hf hl h1 h2 i1 i2=>
  intro s4 t4 h';generalize hr:(k:Int)=r at h'
  cases h' with
  |leaf b s=>exact absurd hr.symm (Bw _ _)
  |bad rt s h1 h2 h=>
   have:=(aU.1 hn).1;rcases h with h|h|⟨j,e,_,hj⟩
   ·omega
   ·omega
   ·have:j=k:=by omega
    subst this;rw[hf] at hj;cases hj
  |line k' n' s hn' hf' hl'=>
   have:k=k':=by omega
   subst this;rw[hn] at hn';cases hn';rw[hl] at hl';cases hl'
  |node k' n' l' s s2' s3' x' y' hn' hf' hl' h1' h2'=>
   have:k=k':=by omega
   subst this;rw[hn] at hn';cases hn';rw[hl] at hl';cases hl';obtain⟨rfl,rfl⟩:=i1 h1';obtain⟨rfl,rfl⟩:=i2 h2';exact⟨J,J⟩
def po(ns:List NQ):Tr->Int->List Nat->Prop
 | .leaf b,rt,L=>rt=q8 b/\L=[]
 | .node l x y,rt,L=> ∃(k:Nat) (a b:Int) (L1 L2:List Nat),rt=(k:Int)/\ns[k]? =some ⟨l,a,b⟩/\po ns x a L1/\po ns y b L2/\L=k::(L1++L2)
def po.rr{ns:List NQ}: ∀{t:Tr} {rt:Int} {L:List Nat} {s:RS},po ns t rt L->t.all ab.ok->L.Nodup->(∀j∈L,s.f j=false)-> ∃f,RR (ns.map RN.of) rt s t ⟨f,s.c+t.size,s.b⟩/\ ∀j,j∉L->f j=s.f j
 | .leaf b,rt,L,s,⟨e,e2⟩,_,_,_=>by
  subst e e2;exact⟨s.f, .leaf b s,fun _ _=>J⟩
 | .node l x y,rt,L,s,⟨k,a,b,L1,L2,e,hk,hx,hy,e2⟩,⟨h0,h1,h2⟩,hnd,hf=>by
  subst e e2;obtain⟨hkn,hnd⟩:=List.nodup_cons.1 hnd;obtain⟨hd1,hd2,hdis⟩:=List.nodup_append.1 hnd;have hfk:=hf k aQ;have hn1: ∀j∈L1,j≠k:=fun j hj e=>hkn (e▸cJ _ hj);have hn2: ∀j∈L2,j≠k:=fun j hj e=>hkn (e▸cV _ hj);obtain⟨f1,r1,g1⟩:=po.rr (s:=⟨lg s.f k,s.c+1,s.b⟩) hx h1 hd1 (fun j hj=>by simp only;rw[zh (hn1 j hj)];exact hf j (aZ _ (cJ _ hj)));simp only at r1 g1;obtain⟨f2,r2,g2⟩:=po.rr (s:=⟨f1,s.c+1+x.size,s.b⟩) hy h2 hd2 (fun j hj=>by
   simp only;rw[g1 j (fun h=>hdis _ h _ hj J),zh (hn2 j hj)];exact hf j (aZ _ (cV _ hj)))
  simp only at r2 g2;have hc:s.c+(Tr.node l x y).size=s.c+1+x.size+y.size:=by simp only[Tr.size];omega
  rw[hc];refine⟨f2, .node k (RN.of ⟨l,a,b⟩) l s _ _ x y (by rw[eX,hk];rfl) hfk (RN.of_ln h0) r1 r2,fun j hj=>?_⟩;simp only[aV,bS,not_or] at hj;rw[g2 j hj.2.2,g1 j hj.2.1,zh hj.1]
def po.len{ns:List NQ}: ∀{t:Tr} {rt:Int} {L:List Nat},po ns t rt L->L.length=t.size
 | .leaf _,_,_,⟨_,h⟩=>by rw[h];rfl
 | .node l x y,_,_,⟨k,a,b,L1,L2,_,_,h1,h2,h⟩=>by
  rw[h,bX,aT,po.len h1,po.len h2];simp only[Tr.size];omega
def Yo(ns:List NQ)(t:Tr)(rt:Int):Prop:= ∃L,po ns t rt L/\L.Nodup/\L.length=ns.length
def UO{ns:List NQ}{t:Tr}{rt:Int}(h:Yo ns t rt)(ho:t.all ab.ok):vG (ns.map RN.of) rt=some t:=by
 obtain⟨L,h1,h2,h3⟩:=h;obtain⟨f,r,_⟩:=h1.rr (s:=q7) ho h2 (fun _ _=>rfl);have hr:=C8 (ns:=ns.map RN.of) (m:=(ns.map RN.of).length+1) (rt:=rt) (s:=q7) (by have:=El (ns.map RN.of).length q7.f;omega);obtain⟨e1,e2⟩:=hr.1.det r;unfold vG;simp only;rw[e2,e1,if_pos ⟨J,by show q7.c+t.size=_;rw[aJ,<-h3,h1.len];show 0+_=_;omega⟩]
def HH{ns:List NQ}: ∀{t:Tr} {n:Nat},(∀i,i<t.size->ns[n+i]? =(t.wr n)[i]?)->po ns t (t.num n) (List.range' n t.size)
 | .leaf b,n,_=>⟨J,J⟩
 | .node l x y,n,h=>by
  have hsz:(Tr.node l x y).size=1+x.size+y.size:=J;have hw:(Tr.node l x y).wr n=⟨l,x.num (n+1),y.num (n+1+x.size)⟩::(x.wr (n+1)++y.wr (n+1+x.size)):=by simp[Tr.wr]
  have hx:=x.wr_len (n+1);have hy:=y.wr_len (n+1+x.size);refine⟨n,x.num (n+1),y.num (n+1+x.size),List.range' (n+1) x.size,List.range' (n+1+x.size) y.size,J,?_,HH fun i hi=>?_,HH fun i hi=>?_,?_⟩
  ·have:=h 0 (by omega)
   rw[hw,fQ] at this;rw[this];rfl
  ·have:=h (1+i) (by omega)
   rw[hw,lZ 1 i,List.getElem?_cons_succ,cN (by omega)] at this;rw[show n+1+i=n+(i+1) by omega];exact this
  ·have:=h (1+x.size+i) (by omega)
   rw[hw,show 1+x.size+i=(x.size+i)+1 by omega,List.getElem?_cons_succ,fR (by omega),hx,Nat.add_sub_cancel_left] at this;rw[show n+1+x.size+i=n+(x.size+i+1) by omega];exact this
  ·rw[hsz,show 1+x.size+y.size=(x.size+y.size)+1 by omega,List.range'_succ,List.range'_append_1]
def YA{t:Tr}(ho:t.all ab.ok):vG ((t.wr 0).map RN.of) (t.num 0)=some t:=
 UO ⟨_,HH (n:=0) (fun i _=>by rw[dS]),List.nodup_range',by rw[List.length_range',t.wr_len]⟩ ho
def To{t:Tr}(hb:t.all LB): ∀n∈(t.wr 0).map RN.of,n.g.sm:=fun n hn=>by
 obtain⟨m,hm,rfl⟩:=bV.1 hn;exact RN.of_sm (Tr.all_wr 0 hb m hm)
def aJj{t:Tr}(hs:t.size<=65536):((t.wr 0).map RN.of).length<=65536:=by rw[aJ,t.wr_len];exact hs
def l00:ab:=⟨0,1,0⟩
def t00:Tr:= .node l00 (.leaf true) (.leaf false)
def oq.red_size{k:Nat}{t:Tr}(h:oq k t)(hr:t.Red []):t.size<=k*(1+k):=by
 obtain⟨K,h1,h2,h3⟩:=h.am;exact dR (Tr.size_le h2 hr h.gd.ok d8.nil h3) (jL h1 (by omega))
structure si (k:Nat) (t:Tr):Prop where
 o:oq k t
 s:t.size<=3000
def si.lb{k:Nat}{t:Tr}(h:si k t):t.all LB:=h.o.gd.lb
def si.ok{k:Nat}{t:Tr}(h:si k t):t.all ab.ok:=h.o.gd.ok
def oq.x{k:Nat}{t:Tr}(h:oq k t)(hr:t.Red [])(hk:k<=54):si k t:=
 ⟨h,dR (h.red_size hr) (dR (jL hk (show 1+k<=55 by omega)) (by decide))⟩
def Fa(rs:List (List ZP))(fill:Int):(iG rs fill).Red []:=Tr.restrict_red _ _
def aIT(es:List Int)(a:Nat):(Tr×Tr)×Nat:=
 let x:=sI es 0 a
 let y:=sI es 0 x.2
 let k:=aB es 3 y.2
 let u:=if(k.1:Int)=0 then mG es 3 k.2 else(x.1,k.2)
 let j:=aB es 3 u.2
 let v:=if(j.1:Int)=0 then mG es 3 j.2 else(y.1,j.2)
 ((u.1,v.1),v.2)
def aIZ(es:List Int)(a:Nat):(Tr×Tr)×Nat:=
 let x:=sI es 0 a
 let y:=sI es 0 x.2
 let k:=aB es 6 y.2
 if(k.1:Int)=0 then((x.1, .node (lF es k.2).1 x.1 x.1),(lF es k.2).2)
 else if(k.1:Int)=1 then((x.1,y.1.mergeQ 1 x.1 []),k.2)
 else if(k.1:Int)=2 then((x.1,y.1.mergeQ 3 x.1 []),k.2)
 else if(k.1:Int)=3 then((x.1,(mG es 3 k.2).1),(mG es 3 k.2).2)
 else((x.1,y.1),k.2)
def LH(es:List Int):Nat->Nat->List Tr×Nat
 |0,a=>([],a)
 |n+1,a=>((sI es 0 a).1::(LH es n (sI es 0 a).2).1,(LH es n (sI es 0 a).2).2)
def aJa(r:List ZP)(i k:Nat):Bool:=decide (k=i)||decide (k=(i+1)%r.length)||decide (0<tV (r.getD i (0,0)).q (e7 r i).q (r.getD k (0,0)).q)
def aHD(r:List ZP):Bool:=(List.range r.length).all fun i=>(List.range r.length).all fun k=>aJa r i k
section
variable {GB:Gh} {C:aD} {n:Nat} {Q0:Exit->Act->World->Prop} {fr fr' fr1 fr2:aA} {own own' own1 own2:aO} {cf cf' cf1 cf2:Cf} {vc vc1 vc2:List Prop}
def aJ7(fr:aA)(cf:Cf):Option Int:=match cd fr cf with
 |some ⟨_, .binOp .and _ x (.const (.int .i64 3)) _,_,_,_,_⟩=>match aP (bz fr cf) x with
  |some (.d (.v (.int .i64 p)))=>some p
  |_=>none
 |_=>none
end
def Sw{es0 es:List Int}(hb:es0.length<=1125899906842624)(he:es=es0.take 400):PN GB prog 15 [.sl (es0.map vI)] 126 Unit (fun _=>[.sl (es.map vI), .v (.int .i64 (0:Nat))]):=by
 subst he;exact Uc hb
def aKz(cs:List RL):Option (List ab):=if cs.all (fun r=>r.ln.isSome) then some (cs.filterMap RL.ln) else none
def aKy:Option (List ab)->DV
 |some ls=> .tp [.sl (ls.map eH),vB true]
 |none=> .tp [.sl [],vB false]
def aKO:Option aF->DV
 |some c=> .tp [.sl (c.map bh),vB true]
 |none=> .tp [.sl [],vB false]
def aJZ(ai al:Addr)(more:Nat):Option Tr->DV
 |none=> .tp [.v (.pointer none),Ad ai]
 |some t=>if 1024<t.depth+more then .tp [.v (.pointer none),Ad al] else .tp [eU t, .v .nilIface]
def aK0(ai:Addr)(f:Tr->Tr):Option Tr->Tr ⊕ Addr
 |some t=> .inl (f t)
 |none=> .inr ai
def aJk(ai ae:Addr):Option Tr->Option (List ab)->Tr ⊕ Addr
 |some t,some ls=>(match qb ls [] with
  |some c=> .inl (t.restrict c)
  |none=> .inr ae)
 |_,_=> .inr ai
def aKg(ai:Addr):Option ab->Option Tr->DV
 |some m,some t=> .tp [eA (t.restrict (bF [] m)),eA (t.restrict (bF [] m.rev)), .v .nilIface]
 |_,_=> .tp [Ij,Ij,Ad ai]

def ePr(a b:Tr):DV:= .ag [eU a,eU b]
def prZ:DV:= .ag [.v (.pointer none), .v (.pointer none)]
def R7{k:Nat}{t:Tr}(h:si k t):PF GB prog 129 [eA t] (.tp [eU t,vB true]):=by
 have:=aHC (GB:=GB) (rt:=t.num 0) (To h.lb) (aJj (by have:=h.s;omega)) (YA h.ok);rw[<-aG5] at this;exact this
def QY(l:List Rat):fj l=om bO l:=by
 unfold fj om;have key: ∀(l o:List Rat),l.foldl (fun out x=>eE x out) o=l.foldl (fun out x=>dH bO x out) o:=by
  intro l
  induction l with
  |nil=>intro o;rfl
  |cons a t ih=>intro o;rw[dX,dX,K4,ih]
 exact key l []
def B5(l:List Rat):(fj l).length<=l.length:=by
 have:=Du bO l [];rw[QY];simpa[om] using this
theorem DW{k:Nat}{l:List Rat}(h: ∀q∈l,BQ q k): ∀g∈cE l,BQ g (2*k+100):=fun g hg=>by
 cases l with
 |nil=>
  rw[cE,aY] at hg;subst hg;exact BQ.mono (k:=1) ⟨by decide,by decide⟩ (by omega)
 |cons a t=>
  rw[cE] at hg;rcases aV.1 hg with rfl|hg
  ·haveI:=h a aQ
   exact BQ.mono (inferInstance:BQ (a-1) _) (by omega)
  ·rcases bS.1 hg with hg|hg
   ·obtain⟨c,hc,d,hd,rfl⟩:=K6 hg
    haveI:=h c hc;haveI:=h d hd;exact BQ.mono (inferInstance:BQ ((c+d)/2) _) (by omega)
   ·rw[aY] at hg
    haveI:=h _ (List.getLast_mem (l:=a::t) (by simp));subst hg;exact BQ.mono (inferInstance:BQ ((a::t).getLast (by simp)+1) _) (by omega)
def tO(a:ab)(t:List ab):List Rat:=t.filterMap fun b=>if crossI a b=0 then none else some (ge a b).x
def Gk(a:ab)(t:List ab):fi (a::t)=(if a.b=0 then [a.base.x] else [])++(tO a t++fi t):=rfl
def UN(a:ab)(t:List ab):(tO a t).length<=t.length:=List.length_filterMap_le _ _
def E': ∀l:List ab,(fi l).length<=l.length*(l.length+1)
 |[]=>aM _
 |a::t=>by
  have h1:=E' t;have h2:=UN a t;have h3:(if a.b=0 then [a.base.x] else []).length<=1:=by split<;>simp
  rw[Gk,aT,aT,bX];have e:(t.length+1)*(t.length+1+1)=t.length*(t.length+1)+2*t.length+2:=by simp only[cS,dV];omega
  rw[e];omega
theorem AG: ∀{l:List ab},(∀a∈l,LB a)-> ∀x∈fi l,BQ x 900
 |[],_,x,h=>by cases h
 |a::t,hl,x,h=>by
  haveI:=hl a aQ;have ht: ∀b∈t,LB b:=fun b hb=>hl b (aZ _ hb);rw[Gk] at h;rcases bS.1 h with h|h
  ·split at h
   ·rw[aY] at h;subst h;infer_instance
   ·cases h
  ·rcases bS.1 h with h|h
   ·obtain⟨b,hb,e⟩:=List.mem_filterMap.1 h
    haveI:=ht b hb;split at e
    ·cases e
    ·cases e;exact BQ.mono (inferInstance:BQ (ge a b).x 772) (by decide)
   ·exact AG ht x h
def JC(l:List ab)(x:Rat):(gD l x).length<=l.length:=List.length_filterMap_le _ _
theorem On{l:List ab}(hl: ∀a∈l,LB a){x:Rat}(hx:BQ x 1900): ∀y∈gD l x,BQ y 2400:=fun y hy=>by
 obtain⟨a,ha,hb,rfl⟩:=aGT hy;haveI:=hl a ha;unfold yA;exact BQ.mono (inferInstance:BQ (-(((a.a:Rat)*x+(a.c:Rat))/(a.b:Rat))) _) (by omega)
def Js{l:List ab}{k:Nat}{a:ab}{x:Rat}(h:l[k]? =some a):gD (l.drop k) x=(if a.b=0 then [] else [yA a x])++gD (l.drop (k+1)) x:=by
 obtain⟨hk,rfl⟩:=aU.1 h;rw[bY hk];unfold gD;rw[List.filterMap_cons];split<;>(rename_i e;split at e<;>simp_all)
def Qp{t:List ab}{k:Nat}{a b:ab}(h:t[k]? =some b):tO a (t.drop k)=(if crossI a b=0 then [] else [(ge a b).x])++tO a (t.drop (k+1)):=by
 obtain⟨hk,rfl⟩:=aU.1 h;rw[bY hk];unfold tO;rw[List.filterMap_cons];split<;>(rename_i e;split at e<;>simp_all)
def Qa{l:List ab}{k:Nat}{a:ab}(h:l[k]? =some a):fi (l.drop k)=(if a.b=0 then [a.base.x] else [])++(tO a (l.drop (k+1))++fi (l.drop (k+1))):=by
 obtain⟨hk,rfl⟩:=aU.1 h;rw[bY hk,Gk]
def xL{α:Type}{a b c:List α}(h:a++b=c):a.length<=c.length:=by rw[<-h,aT];omega
def vt(l:List ab)(x:Rat):List aa:=(cE (fj (gD l x))).map fun y=>⟨x,y⟩
def Vp(l:List ab):nC l=(cE (fj (fi l))).flatMap (vt l):=rfl
def J2(l:List ab)(x:Rat):(vt l x).length<=l.length+1:=by
 unfold vt;rw[aJ,BF];have:=B5 (gD l x);have:=JC l x;omega
def JM{α β:Type}(f:α->List β)(m:Nat): ∀l:List α,(∀x,(f x).length<=m)->(l.flatMap f).length<=l.length*m
 |[],_=>by simp
 |a::t,h=>by
  have:=JM f m t h;have:=h a;rw[lW,aT,bX,gX];omega
def Ln{l:List ab}(h:l.length<=6000):(cE (fj (fi l))).length<=36006001:=by
 have h1:=E' l;have h2:=B5 (fi l);have h3:l.length*(l.length+1)<=6000*6001:=jL h (by omega);rw[BF];omega
def Km{l:List ab}(h:l.length<=6000):(nC l).length<=216072012001:=by
 have h1:=JM (vt l) 6001 (cE (fj (fi l))) (fun x=>by have:=J2 l x;omega);have h2:(cE (fj (fi l))).length*6001<=36006001*6001:=bU _ (Ln h);rw[Vp];omega
def atS{α β:Type}{f:α->List β}{l:List α}{k:Nat}{x:α}(h:l[k]? =some x):(l.drop k).flatMap f=f x++(l.drop (k+1)).flatMap f:=by
 obtain⟨hk,rfl⟩:=aU.1 h;rw[bY hk,lW]
def YP{α β:Type}{f:α->β}{l:List α}{k:Nat}{x:α}(h:l[k]? =some x):(l.drop k).map f=f x::(l.drop (k+1)).map f:=by
 obtain⟨hk,rfl⟩:=aU.1 h;rw[bY hk,bW]
def Af{α:Type}(l:List α):l.drop l.length=[]:=by simp
def K8{qs:List Rat}{k:Nat}(hb: ∀q∈qs,BQ q k)(hk:k<=100000)(hn:qs.length<=40000000):PF GB prog 146 [.sl (qs.map eQ)] (.sl ((fj qs).map eQ)):=by
 have hm':=ir eQ qs;refine fn (fu:=⟨15⟩) func146 J J ntmps146 J J (fun C=>?_);refine ao 8 (.d (vI (qs.length:Nat))) J (by rw[hm']<;>rfl) ?_;refine gx J<|?_;refine HN 3 J ?_;refine lp (X:=List Rat×Nat) (fun⟨xs,i⟩=>[(9, .d (vI (i:Nat))),(3, .d (.sl (xs.map eQ)))]) (fun⟨xs,i⟩=>[]) (fun⟨xs,i⟩=>xs=qj bO id qs i/\i<=qs.length) (fun⟨xs,i⟩=>qs.length-i) ⟨[],0⟩ J ⟨J,bK _⟩ (fun _=>J) (fun⟨xs,i⟩ hk=>?_)
 try dsimp only at hk⊢
 obtain⟨h1,h2⟩:=hk;refine br J J J (fun hc10=>?_) (fun hc10=>?_)
 .
  obtain⟨q,hz⟩: ∃s,qs[i]? =some s:=⟨_,aX (by omega)⟩;haveI hqb:=hb q (aS hz);have hxl:=ir eQ xs;have hxn:xs.length<=i:=by rw[h1];exact GU
  have hxb: ∀u∈xs,BQ u k:=fun u hu=>by rw[h1] at hu;obtain⟨z,hz,he⟩:=Gs hu;rw[he];exact hb z hz
  refine ix (fu:=⟨11⟩) _ J (d6 hz) J<|?_;refine mg (fu:=⟨5⟩) (X:=Nat) (fun n=>[(6, .d (vI (n:Nat)))]) (fun n=>[]) (fun n=>kH bO q xs=n) [6] [] rfl ?_ (fun _=>J) (fun n hnx=>?_)
  .
   refine gx J<|?_;refine lp (fu:=⟨6⟩) (X:=Nat) (fun n=>[(6, .d (vI (n:Nat)))]) (fun n=>[]) (fun n=>n<=xs.length/\ ∀j (h:j<xs.length),j<n->bO xs[j] q<0) (fun n=>xs.length-n) 0 J ⟨bK _,fun j _ hj=>absurd hj (by omega)⟩ (fun _=>J) (fun n hk=>?_);obtain⟨n1,n2⟩:=hk;refine pi (v2:=fun hg16=>by simp only[ah];kernel_rfl) J J J J (fun hg16=>?_) (fun hg16=>?_)
   .
    refine ix _ J (tY (by omega)) J<|cl J (wL (a:=xs[n]'(by omega)) (b:=q) (ha:=hxb _ (fJ (by omega))) (hb:=hqb) (by omega) (by omega)) J<|?_;refine br J J J (fun hc25=>?_) (fun hc25=>?_)
    .
     exact at_ (n+1) ⟨⟨by omega,fun j h hj=>by by_cases q:j=n;(subst q;exact hc25);exact n2 j h (by omega)⟩,(by omega)⟩
    .
     exact at_ n (wG bO n1 n2 (fun h=>hc25))
   .
    exact at_ n (wG bO n1 n2 (fun h=>absurd h (by omega)))
  .
   have hnl:n<=xs.length:=by rw[<-hnx];exact Gl _ _ _
   refine pi (v1:=fun hg31=>by simp only[ah];kernel_rfl) J J J J (fun hg31=>?_) (fun hg31=>?_)
   .
    have hnew: ∀h:n<xs.length,bO xs[n] q≠0:=fun h=>absurd h (by omega);obtain⟨ys,hys⟩: ∃ys,ys=xs.take n++q::xs.drop n:=⟨_,rfl⟩;have hin:dH bO q xs=ys:=by rw[hys];exact wc bO hnx hnew
    have hyl:ys.length<=xs.length+1:=by rw[hys];simp;omega
    refine s3 n _ J J J J (mz _) (by rw[hxl];exact hnl) J<|ro J J<|oy n xs.length _ J J (by rw[hxl]) J (mz _) hnl (by omega) J<|?_;refine ap _ J J (vM mz _ _ _) J<|xt (hv:=by simp only[ah];exact⟨by kernel_rfl,by omega⟩) (ho:=fun _=>⟨wK mz _ _,by simp⟩) (ys.map eQ) J (by rw[hys,cR,bW,kK,mS,bQ (l:=xs.map eQ) (i:=xs.length) (by simp)];rfl) (yC mz _ _ _ _) J<|?_;exact at_ ⟨ys,i+1⟩ (by dsimp only;exact⟨⟨by rw[tj hz,<-h1];exact hin.symm,by omega⟩,(by omega)⟩)
   .
    refine ix _ J (tY (by omega)) J<|cl J (wL (a:=xs[n]'(by omega)) (b:=q) (ha:=hxb _ (fJ (by omega))) (hb:=hqb) (by omega) (by omega)) J<|?_;refine br J J J (fun hc40=>?_) (fun hc40=>?_)
    .
     have hnew: ∀h:n<xs.length,bO xs[n] q≠0:=fun h=>hc40;obtain⟨ys,hys⟩: ∃ys,ys=xs.take n++q::xs.drop n:=⟨_,rfl⟩;have hin:dH bO q xs=ys:=by rw[hys];exact wc bO hnx hnew
     have hyl:ys.length<=xs.length+1:=by rw[hys];simp;omega
     refine s3 n _ J J J J (mz _) (by rw[hxl];exact hnl) J<|ro J J<|oy n xs.length _ J J (by rw[hxl]) J (mz _) hnl (by omega) J<|?_;refine ap _ J J (vM mz _ _ _) J<|xt (hv:=by simp only[ah];exact⟨by kernel_rfl,by omega⟩) (ho:=fun _=>⟨wK mz _ _,by simp⟩) (ys.map eQ) J (by rw[hys,cR,bW,kK,mS,bQ (l:=xs.map eQ) (i:=xs.length) (by simp)];rfl) (yC mz _ _ _ _) J<|?_;exact at_ ⟨ys,i+1⟩ (by dsimp only;exact⟨⟨by rw[tj hz,<-h1];exact hin.symm,by omega⟩,(by omega)⟩)
    .
     have hin:dH bO q xs=xs:=Cb bO hnx (by omega) (Decidable.not_not.1 hc40);exact at_ ⟨xs,i+1⟩ (by dsimp only;exact⟨⟨by rw[tj hz,<-h1];exact hin.symm,by omega⟩,(by omega)⟩)
 .
  have hfin:fj qs=xs:=by rw[QY,h1,GM (by omega),List.map_id]
  exact rz J (by rw[hfin];rfl)
def Qg{cuts:List Rat}{k:Nat}(hb: ∀q∈cuts,BQ q k)(hk':k<=100000)(hn:cuts.length<=40000000):PF GB prog 145 [.sl (cuts.map eQ)] (.sl ((cE cuts).map eQ)):=by
 have hm:=ir eQ cuts;refine fn (fu:=⟨10⟩) func145 J J ntmps145 J J (fun C=>?_);refine ao 6 (.d (vI (cuts.length:Nat))) J (by rw[hm]<;>rfl) ?_;refine gx J<|?_;refine br J J J (fun hc7=>?_) (fun hc7=>?_)
 .
  obtain rfl:cuts=[]:=bT (by omega);refine rf J J<|?_;exact rz J (by rw[cE];show DV.sl [_]=DV.sl [_];rw[XW])
 .
  obtain⟨a,ct,rfl⟩: ∃a t,cuts=a::t:=by cases cuts with|nil=>exact absurd rfl hc7|cons a t=>exact⟨a,t,rfl⟩
  haveI hab:=hb a aQ;have hcl:ct.length+1<=40000000:=hn;refine ix _ J J J<|cl J (uK (n:=1) (by decide) (by decide)) J<|cl (fu:=⟨0⟩) J (yD (a:=a) (b:=((1:Int):Rat)) (by omega) (by omega)) J<|?_;refine ao 14 (.d (eQ (a-1))) J J ?_;refine gx J<|ro J J<|?_;refine lp (fu:=⟨6⟩) (X:=Nat) (fun i=>[(4, .d (vI ((i+1:Nat):Int))),(3, .rw 15)]) (fun i=>[(15,some (.b 79 3 (((a-1)::fe ((a::ct).take (i+1))).map eQ) true))]) (fun i=>i<=ct.length) (fun i=>ct.length-i) 0 J (bK _) (fun _=>J) (fun i hk=>?_);have hm2:=ir eQ (a::ct);have hml:=E8 (a::ct.take i);rw[bX,bM] at hml;have hml2:=E8 (a::ct);rw[bX] at hml2;refine ao 18 (.d (vI ((ct.length+1:Nat):Int))) J (by rw[hm2]<;>rfl) ?_;refine gx J<|?_;refine br (fu2:=⟨11⟩) J J J (fun hc19=>?_) (fun hc19=>?_)
  .
   obtain⟨u,hu⟩: ∃s,(a::ct)[i]? =some s:=⟨_,aX (by simp;omega)⟩;obtain⟨w,hw⟩: ∃s,(a::ct)[i+1]? =some s:=⟨_,aX (by simp;omega)⟩;haveI:=hb u (aS hu);haveI:=hb w (aS hw);refine ix _ J (by rw[show((((i+1:Nat):Int))-1).toNat=i by omega,eX,hu];rfl) J<|ix _ J (by rw[bZ,eX,hw];rfl) J<|?_;refine cl J (Xg (a:=u) (b:=w) (by omega) (by omega)) J<|rf J J<|ap (hv:=by simp only[ah];exact⟨by kernel_rfl,by omega⟩) (((a-1)::fe ((a::ct).take (i+1+1))).map eQ) J (by rw[MJ hu hw,<-cK,cR];rfl) (mz [(u+w)/2]) J<|?_;refine gI 34 15 J ?_;exact at_ (i+1) ⟨(by omega),(by omega)⟩
  .
   obtain rfl:i=ct.length:=by omega
   obtain⟨z,hz⟩: ∃s,(a::ct)[ct.length]? =some s:=⟨_,aX (by simp)⟩;haveI:=hb z (aS hz);rw[show(a::ct).take (ct.length+1)=a::ct from dT (l:=a::ct)];refine ao 38 (.d (vI ((ct.length+1:Nat):Int))) J (by rw[hm2]<;>rfl) ?_;refine gx J<|ix _ J (by rw[show((((ct.length+1:Nat):Int))-1).toNat=ct.length by omega,eX,hz];rfl) J<|cl J (uK (n:=1) (by decide) (by decide)) J<|?_;refine cl J (uk (a:=z) (b:=((1:Int):Rat)) (by omega) (by omega)) J<|rf J J<|ap ((cE (a::ct)).map eQ) J (by rw[R4 hz,<-cK,cR];rfl) (mz [z+1]) J<|?_;refine lB 45 J ?_;exact rz J J
def RI{l:List ab}(hb: ∀a∈l,LB a)(ho: ∀a∈l,a.Ne)(hn:l.length<=6000):PF GB prog 58 [.sl (l.map eL)] (.sl ((nC l).map eP)):=by
 have hbl:=hb;have hml:=ir eL l;have htot:=Km hn;have hgl:=Ln hn;have hxl:=E' l;have hxl2:l.length*(l.length+1)<=6000*6001:=jL hn (by omega);refine fn (fu:=⟨15⟩) func58 J J ntmps58 J J (fun C=>?_);refine ao 19 (.d (vI (l.length:Nat))) J (by rw[aJ]<;>rfl) ?_;refine gx J<|?_;refine nr 3 3 79 3 J J J ?_;refine lp (X:=List Rat×Nat) (fun⟨cur,i⟩=>[(20, .d (vI (i:Nat))),(3, .rw 3)]) (fun⟨cur,i⟩=>[(3,some (.b 79 3 (cur.map eQ) true))]) (fun⟨cur,i⟩=>cur++fi (l.drop i)=fi l/\i<=l.length) (fun⟨cur,i⟩=>l.length-i) ⟨[],0⟩ J ⟨by simp,bK _⟩ (fun _=>J) (fun⟨cur,i⟩ hk=>?_)
 try dsimp only at hk⊢
 obtain⟨h1,h2⟩:=hk;have hcl:=xL h1;have hcm:=ir eQ cur;refine br (fu2:=⟨0⟩) J J J (fun hc21=>?_) (fun hc21=>?_)
 .
  obtain⟨a,ha⟩: ∃s,l[i]? =some s:=⟨_,aX (by omega)⟩;haveI hab:=hb a (aS ha);have hao:=ho a (aS ha);refine ix (fu:=⟨7⟩) _ J (d6 ha) J<|?_;refine mg (X:=List Rat) (fun cur1=>[(3, .rw 3)]) (fun cur1=>[(3,some (.b 79 3 (cur1.map eQ) true))]) (fun cur1=>cur1++(tO a ((l.drop (i+1)).drop 0)++fi (l.drop (i+1)))=fi l) [3] [3] rfl ?_ (fun _=>J) (fun cur1 hc1=>?_)
  .
   refine gx J<|cl J (yF (z:=a.b)) J<|?_;refine br J J J (fun hc28=>?_) (fun hc28=>?_)
   .
    refine cl J (aFj (l:=a) hao) J<|rf J J<|ap ((cur++[a.base.x]).map eQ) J (by rw[cR];rfl) (mz [_]) J<|?_;refine gI 34 3 J ?_;exact at_ (cur++[a.base.x]) (by rw[<-h1,Qa ha,if_pos (fM.1 hc28)];simp)
   .
    exact at_ cur (by rw[<-h1,Qa ha,if_neg (fun e=>hc28 (fM.2 e))];simp)
  .
   have hcl1:=xL hc1;have hdl:(l.drop (i+1)).length<=6000:=by rw[gR];omega
   have hcm1:=ir eQ cur1;refine oy (fu:=⟨1⟩) (i+1) l.length ((l.drop (i+1)).map eL) J J (by rw[hml]) (by rw[bQ (by rw[hml];exact aM _),mS]) (pk l) (by omega) (by rw[hml];exact aM _) J<|?_;refine ao 39 (.d (vI ((l.drop (i+1)).length:Nat))) J (by rw[aJ]<;>rfl) ?_;refine gx J<|?_;refine lp (X:=List Rat×Nat) (fun⟨cur2,j⟩=>[(40, .d (vI (j:Nat))),(3, .rw 3)]) (fun⟨cur2,j⟩=>[(3,some (.b 79 3 (cur2.map eQ) true))]) (fun⟨cur2,j⟩=>cur2++(tO a ((l.drop (i+1)).drop j)++fi (l.drop (i+1)))=fi l/\j<=(l.drop (i+1)).length) (fun⟨cur2,j⟩=>(l.drop (i+1)).length-j) ⟨cur1,0⟩ J ⟨hc1,bK _⟩ (fun _=>J) (fun⟨cur2,j⟩ hk=>?_)
   try dsimp only at hk⊢
   obtain⟨j1,j2⟩:=hk;have hcl2:=xL j1;have hcm2:=ir eQ cur2;refine br J J J (fun hc41=>?_) (fun hc41=>?_)
   .
    obtain⟨b,hb⟩: ∃s,(l.drop (i+1))[j]? =some s:=⟨_,aX (by omega)⟩;haveI hbb:=hbl b (iL (aS hb));refine ix _ J (d6 hb) J<|cl J (X5 (l:=a) (m:=b)) J<|?_;refine bd J J J (fun hc50=>?_) (fun hc50=>?_)
    .
     refine rf J J<|ap ((cur2++[(ge a b).x]).map eQ) J (by rw[cR];rfl) (mz [_]) J<|?_;refine gI 55 3 J ?_;exact at_ ⟨cur2++[(ge a b).x],j+1⟩ (by dsimp only;exact⟨⟨by rw[<-j1,Qp hb,if_neg hc50];simp,by omega⟩,(by omega)⟩)
    .
     exact at_ ⟨cur2,j+1⟩ (by dsimp only;exact⟨⟨by rw[<-j1,Qp hb,if_pos (Decidable.not_not.1 hc50)];simp,by omega⟩,(by omega)⟩)
   .
    obtain rfl:j=(l.drop (i+1)).length:=by omega
    exact at_ ⟨cur2,i+1⟩ (by dsimp only;exact⟨⟨by rw[Af] at j1;exact j1,by omega⟩,(by omega)⟩)
 .
  obtain rfl:i=l.length:=by omega
  obtain rfl:cur=fi l:=by rw[Af] at h1;simpa[fi] using h1
  refine qD 3 J ?_;refine gx J<|cl J (K8 (qs:=fi l) (k:=900) (AG hb) (by decide) (by omega)) J<|cl (fu:=⟨1⟩) J (Qg (cuts:=fj (fi l)) (k:=900) (fun q hq=>AG hb q (yb.1 hq)) (by decide) (by have:=B5 (fi l);omega)) J<|?_;refine ao 61 (.d (vI ((cE (fj (fi l))).length:Nat))) J (by rw[aJ]<;>rfl) ?_;refine gx J<|?_;refine nr 10 10 81 6 J J J ?_;refine lp (X:=List aa×Nat) (fun⟨pts,g⟩=>[(62, .d (vI (g:Nat))),(10, .rw 10)]) (fun⟨pts,g⟩=>[(10,some (.b 81 6 (pts.map eP) true))]) (fun⟨pts,g⟩=>pts++((cE (fj (fi l))).drop g).flatMap (vt l)=nC l/\g<=(cE (fj (fi l))).length) (fun⟨pts,g⟩=>(cE (fj (fi l))).length-g) ⟨[],0⟩ J ⟨J,bK _⟩ (fun _=>J) (fun⟨pts,g⟩ hk=>?_)
  try dsimp only at hk⊢
  obtain⟨g1,g2⟩:=hk;have hpl:=xL g1;have hpm:=ir eP pts;refine br J J J (fun hc63=>?_) (fun hc63=>?_)
  .
   obtain⟨x,hx⟩: ∃s,(cE (fj (fi l)))[g]? =some s:=⟨_,aX (by omega)⟩;haveI hxb:BQ x 1900:=DW (k:=900) (fun q hq=>AG hb q (yb.1 hq)) x (aS hx);refine ix (fu:=⟨15⟩) _ J (d6 hx) J<|?_;refine ao 67 (.d (vI (l.length:Nat))) J (by rw[aJ]<;>rfl) ?_;refine gx J<|?_;refine nr 13 13 79 3 J J J ?_;refine lp (X:=List Rat×Nat) (fun⟨ys,j⟩=>[(68, .d (vI (j:Nat))),(13, .rw 13)]) (fun⟨ys,j⟩=>[(13,some (.b 79 3 (ys.map eQ) true))]) (fun⟨ys,j⟩=>ys++gD (l.drop j) x=gD l x/\j<=l.length) (fun⟨ys,j⟩=>l.length-j) ⟨[],0⟩ J ⟨J,bK _⟩ (fun _=>J) (fun⟨ys,j⟩ hk=>?_)
   try dsimp only at hk⊢
   obtain⟨y1,y2⟩:=hk;have hyl:=xL y1;have hym:=ir eQ ys;have hyt:=JC l x;refine br (fu2:=⟨0⟩) J J J (fun hc69=>?_) (fun hc69=>?_)
   .
    obtain⟨a,ha⟩: ∃s,l[j]? =some s:=⟨_,aX (by omega)⟩;haveI hala:=hb a (aS ha);refine ix _ J (d6 ha) J<|cl J (yF (z:=a.b)) J<|?_;refine br J J J (fun hc75=>?_) (fun hc75=>?_)
    .
     have hab: ¬a.b=0:=fun e=>hc75 (fM.2 e);have habR:((a.b:Int):Rat)≠0:=fun e=>hab (cW.1 e);refine cl J (ju (z:=a.a)) J<|cl J (ji (a:=(a.a:Rat)) (b:=x)) J<|cl J (ju (z:=a.c)) J<|cl J (uk (a:=(a.a:Rat)*x) (b:=(a.c:Rat))) J<|?_;refine cl J (ju (z:=a.b)) J<|cl J (yp (a:=(a.a:Rat)*x+(a.c:Rat)) (b:=(a.b:Rat)) habR) J<|cl J (yH (q:=((a.a:Rat)*x+(a.c:Rat))/(a.b:Rat))) J<|?_;refine rf J J<|ap (hv:=by simp only[ah];exact⟨by kernel_rfl,by omega⟩) ((ys++[yA a x]).map eQ) J (by rw[cR];rfl) (mz [_]) J<|?_;refine gI 92 13 J ?_;exact at_ ⟨ys++[yA a x],j+1⟩ (by dsimp only;exact⟨⟨by rw[<-y1,Js ha,if_neg hab];simp,by omega⟩,(by omega)⟩)
    .
     have hab:a.b=0:=fM.1 (Decidable.not_not.1 hc75);exact at_ ⟨ys,j+1⟩ (by dsimp only;exact⟨⟨by rw[<-y1,Js ha,if_pos hab];simp,by omega⟩,(by omega)⟩)
   .
    obtain rfl:j=l.length:=by omega
    obtain rfl:ys=gD l x:=by rw[Af] at y1;simpa[gD] using y1
    have hyb:=On hb hxb;have hgy:(cE (fj (gD l x))).length<=6001:=by have:=J2 l x;unfold vt at this;rw[aJ] at this;omega
    refine qD 13 J ?_;refine gx J<|cl J (K8 (qs:=gD l x) (k:=2400) hyb (by decide) (by omega)) J<|cl (fu:=⟨1⟩) J (Qg (cuts:=fj (gD l x)) (k:=2400) (fun q hq=>hyb q (yb.1 hq)) (by decide) (by have:=B5 (gD l x);omega)) J<|?_;refine ao 97 (.d (vI ((cE (fj (gD l x))).length:Nat))) J (by rw[aJ]<;>rfl) ?_;refine gx J<|?_;refine lp (X:=List aa×Nat) (fun⟨pts2,j⟩=>[(98, .d (vI (j:Nat))),(10, .rw 10)]) (fun⟨pts2,j⟩=>[(10,some (.b 81 6 (pts2.map eP) true))]) (fun⟨pts2,j⟩=>pts2++(((cE (fj (gD l x))).drop j).map (fun y=>(⟨x,y⟩:aa))++((cE (fj (fi l))).drop (g+1)).flatMap (vt l))=nC l/\j<=(cE (fj (gD l x))).length) (fun⟨pts2,j⟩=>(cE (fj (gD l x))).length-j) ⟨pts,0⟩ J ⟨by rw[atS hx] at g1;exact g1,bK _⟩ (fun _=>J) (fun⟨pts2,j⟩ hk=>?_)
    try dsimp only at hk⊢
    obtain⟨w1,w2⟩:=hk;have hpl2:=xL w1;have hpm2:=ir eP pts2;refine br J J J (fun hc99=>?_) (fun hc99=>?_)
    .
     obtain⟨y,hy⟩: ∃s,(cE (fj (gD l x)))[j]? =some s:=⟨_,aX (by omega)⟩;refine ix _ J (d6 hy) J<|rf J J<|ap ((pts2++[(⟨x,y⟩:aa)]).map eP) J (by rw[cR];rfl) (pe [(⟨x,y⟩:aa)]) J<|?_;refine gI 107 10 J ?_;exact at_ ⟨pts2++[⟨x,y⟩],j+1⟩ (by dsimp only;exact⟨⟨by rw[<-w1,YP hy];simp,by omega⟩,(by omega)⟩)
    .
     obtain rfl:j=(cE (fj (gD l x))).length:=by omega
     exact at_ ⟨pts2,g+1⟩ (by dsimp only;exact⟨⟨by rw[Af] at w1;exact w1,by omega⟩,(by omega)⟩)
  .
   obtain rfl:g=(cE (fj (fi l))).length:=by omega
   obtain rfl:pts=nC l:=by rw[Af] at g1;simpa using g1
   refine lB 10 J ?_;exact rz J J
def Mq:Tr->aa->Bool
 | .leaf _,_=>true
 | .node l x y,p=>if(l.value p).num.sign=1 then Mq x p else if(l.value p).num.sign= -1 then Mq y p else false
def asJ(ls:List ab):(jH ls).length<=ls.length:=by
 have:=Du gH (ls.map ab.canon) [];unfold jH om;rw[aJ,iK] at this;omega
theorem Sn{l:List ab}(hl: ∀a∈l,LB a): ∀p∈nC l,aI p 4900:=fun p hp=>by
 obtain⟨h1,h2⟩:=Ni.1 hp;have hx:BQ p.x 1900:=DW (k:=900) (fun q hq=>AG hl q (yb.1 hq)) _ h1;have hy:BQ p.y 4900:=DW (k:=2400) (fun q hq=>On hl hx q (yb.1 hq)) _ h2;exact⟨hx.mono (by decide),hy⟩
structure Two (a b:Tr):Prop where
 ga:a.gd
 gb:b.gd
 sa:a.size<=3000
 sb:b.size<=3000
def f1R(x y:Bool):Bool:=x&&!y
def f2R(x y:Bool):Bool:=y&&!x
def f3R(x y:Bool):Bool:=x&&y
def f4R(x y:Bool):Bool:=!x&&!y
def anK(f:Bool->Bool->Bool)(a b:Tr)(k:Nat):Bool:=((IK a b).take k).any fun p=>f (uh a p) (uh b p)
def Nx:Tr->List ab->List (List ab×Bool)
 | .leaf b,c=>if P8 c then [(s7 c,b)] else []
 | .node l x y,c=>if P8 c then Nx x (s7 c++[l])++Nx y (s7 c++[l.rev]) else []
def aI6(c:List ab)(p:aa):Bool:=c.all fun l=>decide (0<Int.sign (l.value p).num)
def aK1(c:List ab):Option aa:=(nC (jH c)).find? (aI6 c)
def aK3(c:aF):Prop:=(c.map fun s=>s.l.dir).Pairwise c7
def aKU(c:List ab):Prop:=(c.map ab.dir).Pairwise c7
def XD(c:aF):Bool:=!c.isEmpty&&c.all fun s=>!s.v.nl&&!s.v.nh
def aGh(c:List ab)(v:aa):Bool:=c.all fun l=>decide (0<=Int.sign (l.dir.cross v).num)
def aKl(c:List ab):Bool:=!c.isEmpty&&(c.flatMap fun l=>[l.dir,b8 l.dir]).all fun v=>!aGh c v
def Cr:ab:=⟨1,0,0⟩
def Vo(c:List ab)(i:Nat):List aa:=
 if 0<Int.sign ((c.getD i Cr).dir.cross (c.getD ((i+1)%c.length) Cr).dir).num then [ge (c.getD i Cr) (c.getD ((i+1)%c.length) Cr)] else []
def Dn(c:List ab):List aa:=(List.range c.length).flatMap (Vo c)
def aIS(v:List aa)(i:Nat):List aa:=[v.getD 0 ⟨0,0⟩,v.getD (i+1) ⟨0,0⟩,v.getD (i+2) ⟨0,0⟩]
def PK(v:List aa):List (List aa):=(List.range (v.length-2)).map (aIS v)
def aJM(cs:List (List ab)):List (List aa):=cs.flatMap fun c=>PK (Dn c)
end Go.Sx
end
