import Derived.Test.YtochlbkonkgedaaGreatDoorQb16
set_option linter.all false
set_option maxHeartbeats 4000000
set_option maxRecDepth 100000
section
namespace Go.Sx
open Go Go.Proofs Tryz
variable {GB:Gh}
section
variable {GB:Gh} {C:aD} {n:Nat} {Q0:Exit->Act->World->Prop} {fr fr':aA} {own own':aI} {cf cf':Cf} {vc:List Prop}
def aDG{lk:LK}{bk:BM}{dst:Option Nat}{t ty':TypeId}{pos:String}{af:Array Edge}{gd:Option (Nat×Bool)}{x y:Operand}{e len s nm off:Nat}{k:IntKind}{i:Nat}(hu:prog.underlying t=some (.array len e))(hs:(prog.info? e).map (·.size)=some s)
  (e1:aO lk x=some (.ov nm off))(e2:aO lk y=some (.d (.v (.int k (i:Nat)))))(hi:i<len):b8 prog GB C n lk bk ⟨dst, .indexAddr t x y,ty',pos,af,gd⟩ (.ov nm (off+i*s)) [] []:= .yd fun ρ G ov a w r=>by
 obtain⟨p,h1,h2⟩:=r.ev e1;obtain⟨q,h3,h4⟩:=r.ev e2;rw[dl] at h4;subst h4;obtain⟨b,hb,rfl⟩:=h2;refine⟨_,⟨b,hb,J⟩,?_⟩;obtain⟨j,hj,hjs⟩: ∃j,prog.info? e=some j/\j.size=s:=by
  cases h:prog.info? e with
  |none=>rw[h] at hs;cases hs
  |some j=>rw[h] at hs;exact⟨j,J,by simpa using hs⟩
 intro a' w' hf hh;simp only[execOp,bm hf h1,bm hf h3];have:(Instr.indexAt t (.pointer (some ⟨b,off,none⟩)) (.int k (i:Nat))).run prog w'= .ok (.pointer (some ⟨b,off+i*s,none⟩)) w':=by
  unfold Instr.indexAt;show(underlying t>>=_).run prog w'=_;rw[bc (q6 hu w')];show(underlying t>>=_).run prog w'=_;rw[bc (q6 hu w')];have h0:0<=((i:Nat):Int):=Int.natCast_nonneg i;have h1:((i:Nat):Int)<((len:Nat):Int):=by omega
  simp only[h0,h1,and_self,if_true];show(sizeOf e>>=_).run prog w'=_;rw[bc (tw hj w'),pB,hjs,bZ];rfl
 exact c6 this
def Sb(fr:aA)(cf:Cf):Option (TypeId×Nat×Nat×Int):=match ce fr cf with
 |some ⟨_, .indexAddr t x y,_,_,_,_⟩=>match aO (bE fr cf) x with
  |some (.ov nm off)=>match aO (bE fr cf) y with
   |some (.d (.v (.int _ i)))=>some (t,nm,off,i)
   |_=>none
  |_=>none
 |_=>none
def Gl[fu:Fu](i:Nat){t nm off e len s:Nat}(h:Sb fr cf=some (t,nm,off,((i:Nat):Int)))(hu:prog.underlying t=some (.array len e))(hs:(prog.info? e).map (·.size)=some s)(hi:i<len)
  (hgo:cI tt n fu.n fr own cf (.ov nm (off+i*s)) [] []=⟨vc,fr',own',cf'⟩)(k:aj prog GB C n Q0 fr' own' cf')
  (hv:ah vc:=by first|exact trivial|(simp only[ah];kernel_rfl)|(simp only[ah];omega)):aj prog GB C n Q0 fr own cf:=by
 unfold Sb at h;split at h<;>try (cases h;done)
 rename_i hh;split at h<;>try (cases h;done)
 rename_i hx;split at h<;>cases h;rename_i hy;exact us hh (aDG hu hs hx hy hi) hgo hv k
def UO{lk:LK}{bk:BM}{d s:Nat}{e t ty':TypeId}{pos:String}{af:Array Edge}{gd:Option (Nat×Bool)}{ps:List (Nat×Operand)}{fo:List (Nat×Nat×Nat)}{i:TI}{z zx:List FX}{k:Nat}{pre post:List DV}(hi:fg prog t=some i)(hk:i.k= .st fo)(hz:i.z=some z)
  (hb:tB lk fo z ps=some zx)(h0:zx[k]? =some .nl)(h1:js (zx.take k)=some pre)(h2:js (zx.drop (k+1))=some post):b8 prog GB C n lk bk ⟨some d, .build t ⟨ps⟩,ty',pos,af,gd⟩ (.bx false pre d post) [(d,some (.b e s [] true))] [d]:=by
 intro hd tl tb K' s1 s2 hf hk';refine⟨fun ρ G ov a w r Q=>?_⟩;obtain⟨v,hv,hv'⟩:=Bs hi hz;have:=Se hi hk;have hsp:zx=zx.take k++ .nl::zx.drop (k+1):=by
  obtain⟨hk1,hk2⟩:=aS.1 h0
  conv=>lhs;rw[<-lM k zx,cX hk1,hk2]
 obtain⟨l,h1',h2'⟩:=DC (r.mono s1 s2) (fo:=fo) ps _ _ _ hb (hv' ρ G);rw[hsp] at h2';obtain⟨m1,m2',rfl,k1,y,m2,rfl,k2,k3⟩:=Qi h2'
 cases (show y= .slice none 0 0 from k2)
 have hy:Yd prog C (cG a) ov G ⟨some d, .build t ⟨ps⟩,ty',pos,af,gd⟩ (.agg ⟨m1++Value.slice none 0 0::m2⟩):=F7 h1';have r3:=r.new' (x:=⟨none,0,0⟩) (B':= .b e s [] true) (os:=[]) (ov':=ov) (f:= .bx false pre d post) (y:= .agg ⟨m1++Value.slice none 0 0::m2⟩) hf (bD.refl G) r.h
  ⟨[],by simp only[if_true];exact .inl ⟨J,J,J⟩, .nil,by simp,fun _ o ho=>by cases ho⟩ (fun o ho=>by cases ho) (fun m B _ _ o ho _=>⟨ho,by simp⟩)
  ⟨m1,m2,by simp,tv k1 h1,tv k3 h2⟩ (r.putA _ hd)
 exact ke (hy a w (c9 a) r.h) (hk'.run _ G ov _ w r3)
def Q5(fr:aA)(cf:Cf):Option (Nat×List FX):=match ce fr cf with
 |some ⟨some d, .build t ⟨ps⟩,_,_,_,_⟩=>match dB tt t with
  |some ⟨.st fo,_,some zx,_⟩=>match tB (bE fr cf) fo zx ps with
   |some l=>some (d,l)
   |none=>none
  |_=>none
 |_=>none
def UC[fu:Fu]{d:Nat}{zx:List FX}(e s kk:Nat)(pre post:List DV)(h:Q5 fr cf=some (d,zx))(h0:zx[kk]? =some .nl)(h1:js (zx.take kk)=some pre)(h2:js (zx.drop (kk+1))=some post)(hgo:cI tt n fu.n fr own cf (.bx false pre d post) [(d,some (.b e s [] true))] [d]=⟨vc,fr',own',cf'⟩)(k:aj prog GB C n Q0 fr' own' cf')
  (hv:ah vc:=by first|exact trivial|(simp only[ah];kernel_rfl)|(simp only[ah];omega)):aj prog GB C n Q0 fr own cf:=by
 unfold Q5 at h;split at h<;>try (cases h;done)
 rename_i hh;split at h<;>try (cases h;done)
 rename_i hT;split at h<;>cases h;rename_i hb;exact us hh (UO (d9 _ _ hT) J J hb h0 h1 h2) hgo hv k
end
def sp1(f:aE)(m:ab)(k:Nat):List aE:=if k=0 then [] else jI f m 1
def sp2(f:aE)(m:ab)(k:Nat):List aE:=if k<=1 then [] else jI f m (-1)
def iI(p:ZP):DV:=eP p.q
def mt(r:List ZP):DV:= .sl (r.map iI)
def HV(l:List ZP):dH 6 (l.map iI):=fun d hd=>by
 obtain⟨u,_,rfl⟩:=bJ.1 hd;exact⟨rfl,rfl⟩
def OL(l:List (List ZP)):dH 1 (l.map mt):=fun d hd=>by
 obtain⟨u,_,rfl⟩:=bJ.1 hd;exact⟨rfl,rfl⟩
def QQ{r:List ZP}{i:Nat}(h:i<r.length):(r.map iI)[((i:Nat):Int).toNat]? =some (iI (r.getD i (0,0))):=by
 rw[bZ,fS,aK,aX h];rfl
def aF6{r:List ZP}{i:Nat}(h:i<r.length):(r.map iI)[(((i+1)%r.length:Nat):Int).toNat]? =some (iI (dP r i)):=QQ (dW _ (by omega))
def U9{r:List ZP}(h:cp r):PF GB prog 28 [.sl (r.map iI)] (.sl ((eO r).map xi)):=by
 have hm:=oH iI r;have h3:=h.n3;have h6:=h.n6;refine fn (fu:=⟨15⟩) func28 J J ntmps28 J J (fun C=>?_);refine ao 8 (.d (vI (r.length:Nat))) J (by rw[hm]<;>rfl) ?_;refine gx J<|?_;refine nr 3 3 101 14 J J J ?_;refine lp (X:=Nat) (fun k=>[(9, .d (vI (k:Nat))),(3, .rw 3)]) (fun k=>[(3,some (.b 101 14 ((jr r k).map xi) true))]) (fun k=>k<=r.length) (fun k=>r.length-k) 0 J (bT _) (fun _=>J) (fun k hk=>?_);have hel:=fun hh=>(KY (k:=k) h hh).1;refine br J J J (fun hc10=>?_) (fun hc10=>?_)
 .
  have hkr:k<r.length:=by omega
  have hel:=hel (by omega);have hem:=oH xi (jr r k);refine ix (fu:=⟨7⟩) _ J (QQ hkr) J<|?_;refine ao 22 (.d (vI ((k+1)%r.length:Nat))) J (by rw[hm]<;>rfl) ?_;refine gx J<|ix _ J (aF6 hkr) J<|cl J (asV (v:=r.getD k (0,0)) (w:=dP r k) (h.le _ (zy hkr)) (h.le _ (BV hkr)) (h.ne k hkr)) J<|?_;refine rf J J<|ap ((jr r (k+1)).map xi) J (by rw[jr,dV];rfl) (aDf [bj (r.getD k (0,0)) (dP r k)]) J<|?_;refine iv 31 3 J ?_;exact at_ (k+1) ⟨(by omega),(by omega)⟩
 .
  obtain rfl:k=r.length:=by omega
  refine mD 3 J ?_;exact rz J J
def um(rs:List (List ZP)):List ab:=(bO rs).map aE.l
def UK(rs:List (List ZP))(fill:Int):DV:= .ag [.sl (rs.map mt), .v (.int .i64 fill), .sl ((lz (um rs)).map eL)]
def mF(r:List ZP):DV:= .sl ((r.map ZP.q).map mv)
def ZA(l:List (List ZP)):dH 1 (l.map mF):=fun d hd=>by
 obtain⟨u,_,rfl⟩:=bJ.1 hd;exact⟨rfl,rfl⟩
theorem I'{r:List ZP}(h: ∀p∈r,ZP.le 100 p): ∀p∈r.map ZP.q,aB p 1200:=fun p hp=>by
 obtain⟨z,hz,rfl⟩:=bJ.1 hp;have:=Jf (h z hz);exact⟨BQ.mono this.x (by decide),BQ.mono this.y (by decide)⟩
def NG(r:List ZP):DV.sl ((r.map ZP.q).map eP)=mt r:=by unfold mt;rw[List.map_map];rfl
def Ou{rs:List (List ZP)}{k:Nat}{r:List ZP}(h:rs[k]? =some r):bO (rs.take (k+1))=bO (rs.take k)++eO r:=by
 unfold bO;rw[fN,h,qS];simp
def xu{rs:List (List ZP)}(h: ∀r∈rs,cp r)(k:Nat):(bO (rs.take k)).length<=6*k:=by
 have:=(lj (rs:=rs.take k) (fun r hr=>h r (fL hr))).1;have h2:(rs.take k).length<=k:=by rw[cK];omega
 omega
def Xq{rs:List (List ZP)}{fill:Int}(h: ∀r∈rs,cp r)(hn:rs.length<=100):PF GB prog 9 [.sl (rs.map mF), .v (.int .i64 fill)] (UK rs fill):=by
 have hm:=oH mF rs;refine fn (fu:=⟨8⟩) func9 J J ntmps9 J J (fun C=>?_);refine UC (fu:=⟨14⟩) 71 1 0 [] [.v (.int .i64 fill), .sl []] J J J J J<|?_;refine ao 15 (.d (vI (rs.length:Nat))) J (by rw[hm]<;>rfl) ?_;refine gx J<|?_;refine nr 6 6 51 6 J J J ?_;refine lp (X:=Nat) (fun k=>[(16, .d (vI (k:Nat))),(6, .rw 6),(5, .ov 5 0)]) (fun k=>[(5,some (.o 39 [.rw 13, .d (.v (.int .i64 fill)), .d (.sl [])] true)),(13,some (.b 71 1 ((rs.take k).map mt) true)),(6,some (.b 51 6 (((bO (rs.take k)).map aE.l).map eL) true))]) (fun k=>k<=rs.length) (fun k=>rs.length-k) 0 J (bT _) (fun _=>J) (fun k hk=>?_);refine br (fu2:=⟨0⟩) J J J (fun hc17=>?_) (fun hc17=>?_)
 .
  obtain⟨r,hz⟩: ∃s,rs[k]? =some s:=⟨_,aX (by omega)⟩;have hr:=h r (aM hz);have hel:(eO r).length<=6:=by have:=(rA hr).1;have:=hr.n6;omega
  have het:=xu h k;have hrl:((rs.take k).map mt).length=k:=by rw[aJ,cK];omega
  refine ix _ J (ee hz) J<|cl (fu:=⟨0⟩) J (YY (ps:=r.map ZP.q) (I' hr.le) (by rw[aJ];have:=hr.n6;omega)) J<|?_;refine ao 21 (.d (mt r)) J (by rw[NG]) ?_;refine gx J<|rf J J<|ap ((rs.take (k+1)).map mt) J (FC hz) (OL [r]) J<|cl (fu:=⟨1⟩) J (U9 (r:=r) hr) J<|?_;refine ao 30 (.d (vI ((eO r).length:Nat))) J (by rw[oH xi (eO r)]<;>rfl) ?_;refine gx J<|?_;rw[<-iU (bO (rs.take k)),<-List.take_zero (l:=eO r)];refine lp (X:=Nat) (fun j=>[(31, .d (vI (j:Nat))),(6, .rw 6)]) (fun j=>[(6,some (.b 51 6 (((bO (rs.take k)++(eO r).take j).map aE.l).map eL) true))]) (fun j=>j<=(eO r).length) (fun j=>(eO r).length-j) 0 J (bT _) (fun _=>J) (fun j hk=>?_);have hml:(((bO (rs.take k)++(eO r).take j).map aE.l).map eL).length<=6*k+6:=by rw[aJ,aJ,aR,cK];omega
  refine br J J J (fun hc32=>?_) (fun hc32=>?_)
  .
   obtain⟨e,he⟩: ∃s,(eO r)[j]? =some s:=⟨_,aX (by omega)⟩;refine ix _ J (ee he) J<|rf J J<|ap (((bO (rs.take k)++(eO r).take (j+1)).map aE.l).map eL) J (by rw[fN,he];simp only[dV,dX];rfl) (qg [e.l]) J<|?_;refine iv 39 6 J ?_;exact at_ (j+1) ⟨(by omega),(by omega)⟩
  .
   obtain rfl:j=(eO r).length:=by omega
   rw[dS,<-Ou hz];refine iv 26 13 J ?_;exact at_ (k+1) ⟨(by omega),(by omega)⟩
 .
  obtain rfl:k=rs.length:=by omega
  rw[dS];refine uA 6 J ?_;refine uA 13 J ?_;refine gx rfl<|cl rfl (ask (ls:=um rs) (fun l hl=>by obtain⟨f,hf,rfl⟩:=bJ.1 hl;exact((lj h).2 f hf).lb) (by unfold um;rw[aJ];have:=(lj h).1;omega)) rfl<|?_;exact rz J J
def aF9{rs:List (List ZP)}(h: ∀r∈rs,cp r)(hn:rs.length<=100):PF GB prog 5 [.sl (rs.map mt)] (.sl (rs.map mF)):=by
 have hm:=oH mt rs;refine fn (fu:=⟨15⟩) func5 J J ntmps5 J J (fun C=>?_);refine ao 7 (.d (vI (rs.length:Nat))) J (by rw[hm]<;>rfl) ?_;refine gx J<|?_;refine nr 3 3 94 1 J J J ?_;refine lp (X:=Nat) (fun k=>[(8, .d (vI (k:Nat))),(3, .rw 3)]) (fun k=>[(3,some (.b 94 1 ((rs.take k).map mF) true))]) (fun k=>k<=rs.length) (fun k=>rs.length-k) 0 J (bT _) (fun _=>J) (fun k hk=>?_);have hml:((rs.take k).map mF).length<=k:=by rw[aJ,cK];omega
 refine br J J J (fun hc9=>?_) (fun hc9=>?_)
 .
  obtain⟨r,hz⟩: ∃s,rs[k]? =some s:=⟨_,aX (by omega)⟩;have hr:=h r (aM hz);refine ix (fu:=⟨1⟩) _ J (ee hz) J<|?_;refine ao 11 (.d (.sl ((r.map ZP.q).map eP))) J (by rw[NG]) ?_;refine gx J<|cl J (L4 (ps:=r.map ZP.q) (I' hr.le) (by rw[aJ];have:=hr.n6;omega)) J<|rf J J<|ap ((rs.take (k+1)).map mF) J (FC hz) (ZA [r]) J<|?_;refine iv 16 3 J ?_;exact at_ (k+1) ⟨(by omega),(by omega)⟩
 .
  obtain rfl:k=rs.length:=by omega
  refine mD 3 J ?_;exact rz J (by rw[dS];rfl)

def p7:aa:=⟨mkRat 1 7,mkRat 1 5⟩
structure LP (l:ab):Prop where
 s:LS l
 p:0<l.value p7
def Lf(es:List Int):Nat->Nat->List ab×Nat
 |0,a=>([],a)
 |i+1,a=>((lF es a).1::(Lf es i (lF es a).2).1,(Lf es i (lF es a).2).2)
def Rg(es:List Int)(most a:Nat):List ab×Nat:=Lf es (au es ((most:Int)+1) a).1 (au es ((most:Int)+1) a).2
def QL(l:ab):ab:=if(l.value p7).num.sign<0 then l.rev else l
def aJp(xs:List ab)(i:Nat):List ab:=(xs.take i).map QL++xs.drop i
def aIS(es:List Int)(a:Nat):List ab×Nat:=((Rg es 3 a).1.map QL,(Rg es 3 a).2)

def aGc(ds:List Int):dH 1 (ds.map vI):=fun d hd=>by
 obtain⟨n,_,rfl⟩:=bJ.1 hd;exact⟨rfl,rfl⟩
def aw6(es:List Int):(es.map vI).take (min es.length 400)=(es.take 400).map vI:=by
 rw[mW];rcases Nat.le_total es.length 400 with h|h
 ·rw[gT h,bX (by simp),bX (by simpa using h)]
 ·rw[Nat.min_eq_right h]
def Vl{es:List Int}(hb:es.length<=1125899906842624):PN GB prog 4 [.sl (es.map vI)] 70 Unit (fun _=>[.sl ((es.take 400).map vI), .v (.int .i64 (0:Nat))]):=by
 have hel:(es.map vI).length=es.length:=by simp
 refine fnN func4 J J ntmps4 J J (fun C hmb=>?_);refine sv 0 (min es.length 400) ((es.take 400).map vI) J J (by rw[hel];show(if _ then _ else _:Int)=_;split<;>omega) (aw6 es) (aGc _) (by omega) (by omega) J<|?_;exact rzN () J J J J J


def WD(p r:ZP):(ge p.q r.q<0↔l6 p r<0)/\(ge p.q r.q=0↔l6 p r=0):=by
 have e1: ∀a b:Int,cg (a:Rat) (b:Rat)<0↔a<b:=fun a b=>by rw[Bn,sQ]
 have e2: ∀a b:Int,cg (a:Rat) (b:Rat)=0↔a=b:=fun a b=>by rw[wc,nM]
 have f1:=e1 p.1 r.1;have f2:=e2 p.1 r.1;have f3:=e1 p.2 r.2;have f4:=e2 p.2 r.2;show(ge ⟨(p.1:Rat),(p.2:Rat)⟩ ⟨(r.1:Rat),(r.2:Rat)⟩<0↔_)/\(ge ⟨(p.1:Rat),(p.2:Rat)⟩ ⟨(r.1:Rat),(r.2:Rat)⟩=0↔_);unfold ge l6;dsimp only;generalize cg (p.1:Rat) (r.1:Rat)=u at*;generalize cg (p.2:Rat) (r.2:Rat)=v at*;by_cases h:p.1<r.1
 ·rw[if_pos (by omega),if_pos h];omega
 ·by_cases h2:r.1<p.1
  ·rw[if_pos (by omega),if_neg h,if_pos h2];omega
  ·rw[if_neg (by omega),if_neg h,if_neg h2]
   by_cases h3:p.2<r.2
   ·rw[if_pos h3];omega
   ·rw[if_neg h3]
    split<;>omega
def TY(x:ZP): ∀l:List ZP,eE ge x.q (l.map ZP.q)=(ld x l).map ZP.q
 |[]=>rfl
 |u::t=>by
  obtain⟨h1,h2⟩:=WD u x;rw[bL,eE,ld,TY x t];by_cases k1:l6 u x<0
  ·rw[if_pos (h1.2 k1),if_pos k1];rfl
  ·rw[if_neg (fun e=>k1 (h1.1 e)),if_neg k1]
   by_cases k2:l6 u x=0
   ·rw[if_pos (h2.2 k2),if_pos k2];rfl
   ·rw[if_neg (fun e=>k2 (h2.1 e)),if_neg k2];rfl
def aB8(l:List ZP):rm ge (l.map ZP.q)=(pj l).map ZP.q:=by
 have key: ∀(l o:List ZP),(l.map ZP.q).foldl (fun out x=>eE ge x out) (o.map ZP.q)=(l.foldl (fun out x=>ld x out) o).map ZP.q:=by
  intro l
  induction l with
  |nil=>intro o;rfl
  |cons x t ih=>intro o;rw[bL,dT,dT,TY,ih]
 exact key l []
def Ob(l:List ZP):(l.map ZP.q).map eP=l.map iI:=by rw[List.map_map];rfl
def QW{l:List ZP}(h: ∀p∈l,ZP.le 100 p)(hn:l.length<=100000):PF GB prog 52 [.sl (l.map iI)] (.sl ((pj l).map iI)):=by
 have:=Xp (GB:=GB) (ps:=l.map ZP.q) (I' h) (by rw[aJ];exact hn);rw[aB8,Ob,Ob] at this;exact this
def WE(u v:ZP):(aa.cross (iP u.1 u.2) (iP v.1 v.2))=((sF u v:Int):Rat):=by
 unfold aa.cross iP sF;push_cast;rfl
def GY(u v:ZP):(aa.cross (iP u.1 u.2) (iP v.1 v.2)).num.sign≠0↔sF u v≠0:=by
 rw[WE,rX];exact not_congr jL
def arM{α β:Type}(f:α->β)(l:List α):((l.map f).take (l.length-1)).drop 0=l.dropLast.map f:=by
 rw[jW,<-mW,List.dropLast_eq_take]
def Nb{l:List ZP}(h:0<l.length): ∃u,l.getLast? =some u/\l[l.length-1]? =some u/\l.getD (l.length-1) (0,0)=u:=by
 refine⟨l[l.length-1],?_,aX (by omega),?_⟩
 ·rw[nT];exact aX (by omega)
 ·rw[aK,aX (by omega)];rfl
def U4{l:List ZP}(h:0<l.length): ∃u,l[0]? =some u/\l.getD 0 (0,0)=u:=by
 refine⟨l[0],aX (by omega),?_⟩;rw[aK,aX (by omega)];rfl
def EN{u p:ZP}:(u.1=p.1/\u.2=p.2)↔u=p:=⟨fun h=>Prod.ext h.1 h.2,fun h=>by rw[h];exact⟨J,J⟩⟩
def aCh{b:Nat}{es:List Int}(hes:es.length<=400){a:Nat}(ha:a<=es.length):PM GB prog 19 (ip [none] b) b 70 [.sl (es.map vI), .v (.int .i64 (a:Nat))] (mt (iG es a).1) [.sl (es.map vI), .v (.int .i64 ((iG es a).2:Nat))]:=by
 have hk0:=iq (n:=4) ha;refine ui (fu:=⟨6⟩) func19 J J ntmps19 J J (fun C b m lo hmb=>?_);refine mg (X:=Nat) (fun a2=>[]) (fun a2=>[(1000000,some (.o 70 [.d (.sl (es.map vI)), .d (.v (.int .i64 (a2:Nat)))] false))]) (fun a2=>iG es a=pA es a2/\a2<=es.length) [] [1000000] rfl ?_ (fun _=>J) (fun a2 ⟨hR,ha2⟩=>?_)
 .
  refine gx J<|cm J (fun b=>(nC (n:=4) hes ha (by decide) (by decide))) J<|?_;refine br J J J (fun hc15=>?_) (fun hc15=>?_)
  .
   have hx1:=iq (n:=5) hk0;have hy1:=iq (n:=5) hx1;have hz1:=iq (n:=4) hy1;have hw1:=iq (n:=4) hz1;have hl0:=jq (es:=es) (n:=5) (a:=(au es 4 a).2) (by decide);have hl1:=jq (es:=es) (n:=5) (a:=(au es 5 (au es 4 a).2).2) (by decide);have hl2:=jq (es:=es) (n:=4) (a:=(au es 5 (au es 5 (au es 4 a).2).2).2) (by decide);have hl3:=jq (es:=es) (n:=4) (a:=(au es 4 (au es 5 (au es 5 (au es 4 a).2).2).2).2) (by decide);refine cm J (fun b=>(nC (n:=5) hes hk0 (by decide) (by decide))) J<|cm J (fun b=>(nC (n:=5) hes hx1 (by decide) (by decide))) J<|?_;refine cm J (fun b=>(nC (n:=4) hes hy1 (by decide) (by decide))) J<|cm J (fun b=>(nC (n:=4) hes hz1 (by decide) (by decide))) J<|?_;refine cl J (nD (m:=(((au es 5 (au es 4 a).2).1:Int)-4)) (n:=(((au es 5 (au es 5 (au es 4 a).2).2).1:Int)-4)) (by omega) (by omega)) J<|?_;refine cl J (nD (m:=(((au es 5 (au es 4 a).2).1:Int)-4+1+((au es 4 (au es 5 (au es 5 (au es 4 a).2).2).2).1:Int))) (n:=(((au es 5 (au es 5 (au es 4 a).2).2).1:Int)-4)) (by omega) (by omega)) J<|?_;refine cl J (nD (m:=(((au es 5 (au es 4 a).2).1:Int)-4+1+((au es 4 (au es 5 (au es 5 (au es 4 a).2).2).2).1:Int))) (n:=(((au es 5 (au es 5 (au es 4 a).2).2).1:Int)-4+1+((au es 4 (au es 4 (au es 5 (au es 5 (au es 4 a).2).2).2).2).1:Int))) (by omega) (by omega)) J<|?_;refine cl J (nD (m:=(((au es 5 (au es 4 a).2).1:Int)-4)) (n:=(((au es 5 (au es 5 (au es 4 a).2).2).1:Int)-4+1+((au es 4 (au es 4 (au es 5 (au es 5 (au es 4 a).2).2).2).2).1:Int))) (by omega) (by omega)) J<|?_;refine rf J J<|?_
   exact kg hmb J J (by rw[show iG es a=_ from if_pos hc15];rfl) (by rw[show iG es a=_ from if_pos hc15];rfl)
  .
   refine br J J J (fun hc46=>?_) (fun hc46=>?_)
   .
    obtain⟨hp1,hp2,hp3⟩:=x5 hk0;obtain⟨hu1,hu2,hu3,hu4⟩:=Ak hp3;obtain⟨hv1,hv2,hv3,hv4⟩:=Ak hu4;haveI:=jt (k:=10) (m:=(vF es (pF es (au es 4 a).2).2).1.1) (by omega) (by decide);haveI:=jt (k:=10) (m:=(vF es (pF es (au es 4 a).2).2).1.2) (by omega) (by decide);haveI:=jt (k:=10) (m:=(vF es (vF es (pF es (au es 4 a).2).2).2).1.1) (by omega) (by decide);haveI:=jt (k:=10) (m:=(vF es (vF es (pF es (au es 4 a).2).2).2).1.2) (by omega) (by decide);refine cm J (fun b=>(Lh hes hk0)) J<|cm J (fun b=>(O3 hes hp3)) J<|cm J (fun b=>(O3 hes hu4)) J<|cl J (aCb (p:=iP (vF es (pF es (au es 4 a).2).2).1.1 (vF es (pF es (au es 4 a).2).2).1.2) (q:=iP (vF es (vF es (pF es (au es 4 a).2).2).2).1.1 (vF es (vF es (pF es (au es 4 a).2).2).2).1.2)) J<|?_;refine cl J (Hi (q:=aa.cross (iP (vF es (pF es (au es 4 a).2).2).1.1 (vF es (pF es (au es 4 a).2).2).1.2) (iP (vF es (vF es (pF es (au es 4 a).2).2).2).1.1 (vF es (vF es (pF es (au es 4 a).2).2).2).1.2))) J<|?_;refine br J J J (fun hc58=>?_) (fun hc58=>?_)
    .
     refine cl J (zz (n:=1) (by decide) (by decide)) J<|cl J (I5 (m:=(pF es (au es 4 a).2).1.1) (n:=(pF es (au es 4 a).2).1.2) (m':=(vF es (pF es (au es 4 a).2).2).1.1) (n':=(vF es (pF es (au es 4 a).2).2).1.2) (k:=1) (by omega) (by omega) (by omega) (by omega) (by decide)) J<|?_;refine cl J (zz (n:=1) (by decide) (by decide)) J<|cl J (I5 (m:=(pF es (au es 4 a).2).1.1) (n:=(pF es (au es 4 a).2).1.2) (m':=(vF es (vF es (pF es (au es 4 a).2).2).2).1.1) (n':=(vF es (vF es (pF es (au es 4 a).2).2).2).1.2) (k:=1) (by omega) (by omega) (by omega) (by omega) (by decide)) J<|?_;refine rf J J<|?_;exact kg hmb J J (by rw[show iG es a=_ from(if_neg hc15).trans ((if_pos hc46).trans (if_pos ((GY _ _).1 hc58)))];rfl) (by rw[show iG es a=_ from(if_neg hc15).trans ((if_pos hc46).trans (if_pos ((GY _ _).1 hc58)))])
    .
     exact at_ (vF es (vF es (pF es (au es 4 a).2).2).2).2 ⟨(if_neg hc15).trans ((if_pos hc46).trans (if_neg (fun e=>hc58 ((GY _ _).2 e)))),hv4⟩
   .
    exact at_ (au es 4 a).2 ⟨(if_neg hc15).trans (if_neg hc46),hk0⟩
 .
  have hj1:=jq (es:=es) (n:=4) (a:=a2) (by decide);have hj2:=iq (n:=4) ha2;refine cm J (fun b=>(nC (n:=4) hes ha2 (by decide) (by decide))) J<|?_;refine nr 10 10 48 6 J J J ?_;refine lp (X:=List ZP×Nat×Nat) (fun⟨r,i,a3⟩=>[(11, .d (vI (i:Nat))),(10, .rw 10)]) (fun⟨r,i,a3⟩=>[(1000000,some (.o 70 [.d (.sl (es.map vI)), .d (.v (.int .i64 (a3:Nat)))] false)),(10,some (.b 48 6 (r.map iI) true))]) (fun⟨r,i,a3⟩=>n7 es i a3 r=n7 es (3+(au es 4 a2).1) (au es 4 a2).2 []/\a3<=es.length/\l8 r/\r.length+i<=6) (fun⟨r,i,a3⟩=>i) ⟨[],3+(au es 4 a2).1,(au es 4 a2).2⟩ J ⟨J,hj2,l8.nil,by simp;omega⟩ (fun _=>J) (fun⟨r,i,a3⟩ hk=>?_)
  try dsimp only at hk⊢
  obtain⟨h1,h2,h3,h4⟩:=hk;have hrl:(r.map iI).length=r.length:=by simp
  refine br (fu2:=⟨0⟩) J J J (fun hc73=>?_) (fun hc73=>?_)
  .
   obtain⟨j,rfl⟩: ∃j,i=j+1:=⟨i-1,by omega⟩;obtain⟨hq1,hq2,hq3⟩:=x5 h2;refine cm (fu:=⟨8⟩) J (fun b=>(Lh hes h2)) J<|?_;refine qt (v1:=fun hg80=>by simp only[ah];kernel_rfl) J J J J (fun hg80=>?_) (fun hg80=>?_)
   .
    have hlast: ¬r.getLast? =some (pF es a3).1:=by rw[bU (l:=r) (by omega)];simp
    refine rf J J<|ap ((r++[(pF es a3).1]).map iI) J (by rw[dV];rfl) (HV [_]) J<|?_;refine iv 95 10 J ?_;exact at_ ⟨r++[(pF es a3).1],j,(pF es a3).2⟩ (by dsimp only;exact⟨⟨by rw[<-h1,n7,if_neg hlast],hq3,h3.snoc ⟨by omega,by omega⟩ hlast,by simp;omega⟩,(by omega)⟩)
   .
    obtain⟨q,hq,hqi,hqd⟩:=Nb (l:=r) (by omega);have hqm:=h3.le q (pL hq);unfold ZP.le at hqm;refine lb (iI q) J (by rw[show(((r.map iI).length:Nat):Int)-1=((r.length-1:Nat):Int) by omega];exact ee hqi) J<|cl J (KI (m:=q.1) (n:=q.2) (m':=(pF es a3).1.1) (n':=(pF es a3).1.2) (by omega) (by omega) (by omega) (by omega)) J<|?_;refine bb J J J (fun hc91=>?_) (fun hc91=>?_)
    .
     have hlast: ¬r.getLast? =some (pF es a3).1:=by rw[hq];intro e;have:=EN.2 (Option.some.inj e);simp[this] at hc91
     refine rf J J<|ap ((r++[(pF es a3).1]).map iI) J (by rw[dV];rfl) (HV [_]) J<|?_;refine iv 95 10 J ?_;exact at_ ⟨r++[(pF es a3).1],j,(pF es a3).2⟩ (by dsimp only;exact⟨⟨by rw[<-h1,n7,if_neg hlast],hq3,h3.snoc ⟨by omega,by omega⟩ hlast,by simp;omega⟩,(by omega)⟩)
    .
     have hlast:r.getLast? =some (pF es a3).1:=by rw[hq];congr 1;exact EN.1 (by simpa using hc91)
     exact at_ ⟨r,j,(pF es a3).2⟩ (by dsimp only;exact⟨⟨by rw[<-h1,n7,if_pos hlast],hq3,h3,by omega⟩,(by omega)⟩)
  .
   obtain rfl:i=0:=by omega
   have hg:=h1;rw[n7] at hg;refine uA 10 J ?_;refine gx J<|?_;refine lp (fu:=⟨5⟩) (X:=List ZP×Nat) (fun⟨l,m⟩=>[(10, .d (.sl (l.map iI)))]) (fun⟨l,m⟩=>[]) (fun⟨l,m⟩=>kO m l=kO 6 r/\l.length<=m+1/\l8 l/\l.length<=6) (fun⟨l,m⟩=>m) ⟨r,6⟩ J ⟨J,by omega,h3,by omega⟩ (fun _=>J) (fun⟨l,m⟩ hk=>?_)
   try dsimp only at hk⊢
   obtain⟨t1,t2,t3,t4⟩:=hk;have hll:(l.map iI).length=l.length:=by simp
   refine qt (v2:=fun hg98=>by simp only[ah];kernel_rfl) J J J J (fun hg98=>?_) (fun hg98=>?_)
   .
    obtain⟨q,hqi,hqd⟩:=U4 (l:=l) (by omega);obtain⟨q2,hq0,hqi2,hqd2⟩:=Nb (l:=l) (by omega);have hqm:=t3.le q (aM hqi);have hqm2:=t3.le q2 (aM hqi2);unfold ZP.le at hqm hqm2;refine ix _ J (ee (i:=0) hqi) J<|ix (iI q2) J (by rw[show(((l.map iI).length:Nat):Int)-1=((l.length-1:Nat):Int) by omega];exact ee hqi2) J<|?_;refine cl J (KI (m:=q.1) (n:=q.2) (m':=q2.1) (n':=q2.2) (by omega) (by omega) (by omega) (by omega)) J<|?_;refine bd J J J (fun hc110=>?_) (fun hc110=>?_)
    .
     have hcond:1<l.length/\l.getD 0 (0,0)=l.getD (l.length-1) (0,0):=⟨by omega,by rw[hqd,hqd2];exact EN.1 hc110⟩;refine sv 0 (l.length-1) (l.dropLast.map iI) J J (by omega) (arM iI l) (HV l) (bT _) (by omega) J<|?_;exact at_ ⟨l.dropLast,m-1⟩ (by dsimp only;exact⟨⟨by rw[<-t1];obtain⟨m,rfl⟩: ∃q,m=q+1:=⟨m-1,by omega⟩;rw[kO,if_pos hcond];rfl,by rw[oJ];omega,t3.drop,by rw[oJ];omega⟩,(by omega)⟩)
    .
     have hcond: ¬(1<l.length/\l.getD 0 (0,0)=l.getD (l.length-1) (0,0)):=fun e=>hc110 (EN.2 (by rw[<-hqd,<-hqd2];exact e.2));refine cl (fu:=⟨1⟩) J (QW (l:=l) t3.le (by omega)) J<|?_;have hgen:kO 6 r=l:=by rw[<-t1];cases m with|zero=>rfl|succ m=>rw[kO,if_neg hcond]
     refine ao 118 (.d (vI ((pj l).length:Nat))) J (by rw[aJ];rfl) ?_;refine gx J<|?_;refine br J J J (fun hc119=>?_) (fun hc119=>?_)
     .
      have hfin:iG es a=(y8,a3):=by rw[hR,pA,<-hg,hgen,if_pos (by omega)]
      refine cl J (nD (m:=0) (n:=0) (by decide) (by decide)) J<|cl J (nD (m:=2) (n:=0) (by decide) (by decide)) J<|cl J (nD (m:=0) (n:=2) (by decide) (by decide)) J<|?_;refine rf J J<|?_;exact kg hmb J J (by rw[hfin];rfl) (by rw[hfin])
     .
      have hfin:iG es a=(l,a3):=by rw[hR,pA,<-hg,hgen,if_neg (by omega)]
      exact kg hmb J J (by rw[hfin];rfl) (by rw[hfin])
   .
    have hcond: ¬(1<l.length/\l.getD 0 (0,0)=l.getD (l.length-1) (0,0)):=fun e=>by omega
    refine cl (fu:=⟨1⟩) J (QW (l:=l) t3.le (by omega)) J<|?_;have hgen:kO 6 r=l:=by rw[<-t1];cases m with|zero=>rfl|succ m=>rw[kO,if_neg hcond]
    refine ao 118 (.d (vI ((pj l).length:Nat))) J (by rw[aJ];rfl) ?_;refine gx J<|?_;refine br J J J (fun hc119=>?_) (fun hc119=>?_)
    .
     have hfin:iG es a=(y8,a3):=by rw[hR,pA,<-hg,hgen,if_pos (by omega)]
     refine cl J (nD (m:=0) (n:=0) (by decide) (by decide)) J<|cl J (nD (m:=2) (n:=0) (by decide) (by decide)) J<|cl J (nD (m:=0) (n:=2) (by decide) (by decide)) J<|?_;refine rf J J<|?_;exact kg hmb J J (by rw[hfin];rfl) (by rw[hfin])
    .
     have hfin:iG es a=(l,a3):=by rw[hR,pA,<-hg,hgen,if_neg (by omega)]
     exact kg hmb J J (by rw[hfin];rfl) (by rw[hfin])
def Kr:DV:= .v (.pointer none)
def Zg(l:ab)(p q:DV):List DV:=[.v (.bool false), .v (.bool false), .v (.bool (decide (l.a<0))),dN l.a.natAbs, .v (.bool (decide (l.b<0))),dN l.b.natAbs, .v (.bool (decide (l.c<0))),dN l.c.natAbs,p,q]
inductive RF (ns:List RN):Int->(Nat->Bool)->DV->Bool->(Nat->Bool)->Prop where
 |leaf (b:Bool) (f:Nat->Bool):RF ns (sB b) f (eT (.leaf b)) true f
 |bad (rt:Int) (f:Nat->Bool) (h1:rt≠ -1) (h2:rt≠ -2) (h:rt<0\/(ns.length:Int)<=rt\/(∃k:Nat,rt=k/\k<ns.length/\f k=true)):RF ns rt f Kr false f
 |line (k:Nat) (n:RN) (f:Nat->Bool) (h:ns[k]? =some n) (hf:f k=false) (hl:n.g.ln=none):RF ns (k:Int) f Kr false (lO f k)
 |left (k:Nat) (n:RN) (l:ab) (f f2:Nat->Bool) (p:DV) (h:ns[k]? =some n) (hf:f k=false) (hl:n.g.ln=some l) (h1:RF ns n.l (lO f k) p false f2):RF ns (k:Int) f Kr false f2
 |node (k:Nat) (n:RN) (l:ab) (f f2 f3:Nat->Bool) (p q:DV) (ok:Bool) (h:ns[k]? =some n) (hf:f k=false) (hl:n.g.ln=some l) (h1:RF ns n.l (lO f k) p true f2) (h2:RF ns n.r f2 q ok f3):RF ns (k:Int) f (.pt (Zg l p q)) ok f3
def aKq(n:Nat)(f:Nat->Bool):Bool:=(List.range n).all f
def RN.of(n:NQ):RN:=⟨⟨decide (n.l.a<0),dg n.l.a.natAbs,decide (n.l.b<0),dg n.l.b.natAbs,decide (n.l.c<0),dg n.l.c.natAbs⟩,n.a,n.b⟩
def ZH(ns:List NQ):ns.map eN=(ns.map RN.of).map RN.d:=by
 rw[List.map_map];rfl
def aHv(t:Tr):eA t=Ay (t.num 0) ((t.wr 0).map RN.of):=by
 unfold eA Ay;rw[ZH];rfl
def Vw(a:Int):o4 (decide (a<0)) (dg a.natAbs)=a:=by
 unfold o4;rw[(eG _).1];split
 ·rename_i h;have:=of_decide_eq_true h;omega
 ·rename_i h;have: ¬a<0:=fun e=>h (decide_eq_true e);omega
def JF(a:Int):mm (decide (a<0)) (dg a.natAbs):=⟨(eG _).2.2,fun h=>Ao.2 (by have:=of_decide_eq_true h;omega)⟩
def RN.of_l(n:NQ):(RN.of n).g.l=n.l:=by
 unfold RN.of RL.l;simp only[Vw]
def RN.of_ln{n:NQ}(h:n.l.ok):(RN.of n).g.ln=some n.l:=by
 unfold RL.ln;rw[if_pos ⟨⟨JF _,JF _,JF _⟩,by rw[RN.of_l];exact h⟩,RN.of_l]
def RN.of_sm{n:NQ}(h:LB n.l):(RN.of n).g.sm:=by
 have key: ∀a:Int,a.natAbs<2^96->bw (dg a.natAbs)/\(dg a.natAbs).length<=3:=fun a ha=>⟨(eG _).2.1,by have:=mi ha;omega⟩;exact⟨key _ h.bl.a,key _ h.bl.b,key _ h.bl.c⟩
def D2(b:Bool)(k:Nat):sB b≠(k:Int):=by cases b<;>(unfold sB;simp)
def RR.det{ns:List RN}{rt:Int}{s s1:RS}{t1:Tr}(h:RR ns rt s t1 s1): ∀{s2:RS} {t2:Tr},RR ns rt s t2 s2->t1=t2/\s1=s2:=by
 induction h with
 |leaf b s=>
  intro s2 t2 h;generalize hr:sB b=r at h
  cases h with
  |leaf b' s=>
   have:b=b':=by cases b<;>cases b'<;>first|rfl|(simp[sB] at hr)
   subst this;exact⟨J,J⟩
  |bad rt s h1 h2 h=>cases b<;>simp[sB] at hr<;>omega
  |line k=>exact absurd hr (D2 _ _)
  |node k=>exact absurd hr (D2 _ _)
 |bad rt s h1 h2 h=>
  intro s2 t2 h'
  cases h' with
  |leaf b s=>cases b<;>simp[sB] at h1 h2
  |bad=>exact⟨J,J⟩
  |line k n s hn hf=>
   have:=(aS.1 hn).1;rcases h with h|h|⟨j,e,_,hj⟩
   ·omega
   ·omega
   ·have:j=k:=by omega
    subst this;rw[hf] at hj;cases hj
  |node k n l s s2 s3 x y hn hf=>
   have:=(aS.1 hn).1;rcases h with h|h|⟨j,e,_,hj⟩
   ·omega
   ·omega
   ·have:j=k:=by omega
    subst this;rw[hf] at hj;cases hj
 |line k n s hn hf hl=>
  intro s2 t2 h';generalize hr:(k:Int)=r at h'
  cases h' with
  |leaf b s=>exact absurd hr.symm (D2 _ _)
  |bad rt s h1 h2 h=>
   have:=(aS.1 hn).1;rcases h with h|h|⟨j,e,_,hj⟩
   ·omega
   ·omega
   ·have:j=k:=by omega
    subst this;rw[hf] at hj;cases hj
  |line k' n' s hn' hf' hl'=>
   have:k=k':=by omega
   subst this;exact⟨J,J⟩
  |node k' n' l s s2 s3 x y hn' hf' hl'=>
   have:k=k':=by omega
   subst this;rw[hn] at hn';cases hn';rw[hl] at hl';cases hl'
 |node k n l s s2 s3 x y hn hf hl h1 h2 i1 i2=>
  intro s4 t4 h';generalize hr:(k:Int)=r at h'
  cases h' with
  |leaf b s=>exact absurd hr.symm (D2 _ _)
  |bad rt s h1 h2 h=>
   have:=(aS.1 hn).1;rcases h with h|h|⟨j,e,_,hj⟩
   ·omega
   ·omega
   ·have:j=k:=by omega
    subst this;rw[hf] at hj;cases hj
  |line k' n' s hn' hf' hl'=>
   have:k=k':=by omega
   subst this;rw[hn] at hn';cases hn';rw[hl] at hl';cases hl'
  |node k' n' l' s s2' s3' x' y' hn' hf' hl' h1' h2'=>
   have:k=k':=by omega
   subst this;rw[hn] at hn';cases hn';rw[hl] at hl';cases hl';obtain⟨rfl,rfl⟩:=i1 h1';obtain⟨rfl,rfl⟩:=i2 h2';exact⟨J,J⟩
def p9(ns:List NQ):Tr->Int->List Nat->Prop
 | .leaf b,rt,L=>rt=sB b/\L=[]
 | .node l x y,rt,L=> ∃(k:Nat) (a b:Int) (L1 L2:List Nat),rt=(k:Int)/\ns[k]? =some ⟨l,a,b⟩/\p9 ns x a L1/\p9 ns y b L2/\L=k::(L1++L2)
def p9.rr{ns:List NQ}: ∀{t:Tr} {rt:Int} {L:List Nat} {s:RS},p9 ns t rt L->t.all ab.ok->L.Nodup->(∀j∈L,s.f j=false)-> ∃f,RR (ns.map RN.of) rt s t ⟨f,s.c+t.size,s.b⟩/\ ∀j,j∉L->f j=s.f j
 | .leaf b,rt,L,s,⟨e,e2⟩,_,_,_=>by
  subst e e2;exact⟨s.f, .leaf b s,fun _ _=>J⟩
 | .node l x y,rt,L,s,⟨k,a,b,L1,L2,e,hk,hx,hy,e2⟩,⟨h0,h1,h2⟩,hnd,hf=>by
  subst e e2;obtain⟨hkn,hnd⟩:=List.nodup_cons.1 hnd;obtain⟨hd1,hd2,hdis⟩:=List.nodup_append.1 hnd;have hfk:=hf k aQ;have hn1: ∀j∈L1,j≠k:=fun j hj e=>hkn (e▸bM _ hj);have hn2: ∀j∈L2,j≠k:=fun j hj e=>hkn (e▸cJ _ hj);obtain⟨f1,r1,g1⟩:=p9.rr (s:=⟨lO s.f k,s.c+1,s.b⟩) hx h1 hd1 (fun j hj=>by simp only;rw[CF (hn1 j hj)];exact hf j (aZ _ (bM _ hj)));simp only at r1 g1;obtain⟨f2,r2,g2⟩:=p9.rr (s:=⟨f1,s.c+1+x.size,s.b⟩) hy h2 hd2 (fun j hj=>by
   simp only;rw[g1 j (fun h=>hdis _ h _ hj J),CF (hn2 j hj)];exact hf j (aZ _ (cJ _ hj)))
  simp only at r2 g2;have hc:s.c+(Tr.node l x y).size=s.c+1+x.size+y.size:=by simp only[Tr.size];omega
  rw[hc];refine⟨f2, .node k (RN.of ⟨l,a,b⟩) l s _ _ x y (by rw[fS,hk];rfl) hfk (RN.of_ln h0) r1 r2,fun j hj=>?_⟩;simp only[aW,bW,not_or] at hj;rw[g2 j hj.2.2,g1 j hj.2.1,CF hj.1]
def p9.len{ns:List NQ}: ∀{t:Tr} {rt:Int} {L:List Nat},p9 ns t rt L->L.length=t.size
 | .leaf _,_,_,⟨_,h⟩=>by rw[h];rfl
 | .node l x y,_,_,⟨k,a,b,L1,L2,_,_,h1,h2,h⟩=>by
  rw[h,bV,aR,p9.len h1,p9.len h2];simp only[Tr.size];omega
def U6(ns:List NQ)(t:Tr)(rt:Int):Prop:= ∃L,p9 ns t rt L/\L.Nodup/\L.length=ns.length
def Y2{ns:List NQ}{t:Tr}{rt:Int}(h:U6 ns t rt)(ho:t.all ab.ok):xj (ns.map RN.of) rt=some t:=by
 obtain⟨L,h1,h2,h3⟩:=h;obtain⟨f,r,_⟩:=h1.rr (s:=td) ho h2 (fun _ _=>rfl);have hr:=F2 (ns:=ns.map RN.of) (m:=(ns.map RN.of).length+1) (rt:=rt) (s:=td) (by have:=KL (ns.map RN.of).length td.f;omega);obtain⟨e1,e2⟩:=hr.1.det r;unfold xj;simp only;rw[e2,e1,if_pos ⟨J,by show td.c+t.size=_;rw[aJ,<-h3,h1.len];show 0+_=_;omega⟩]
def KZ{ns:List NQ}: ∀{t:Tr} {n:Nat},(∀i,i<t.size->ns[n+i]? =(t.wr n)[i]?)->p9 ns t (t.num n) (List.range' n t.size)
 | .leaf b,n,_=>⟨J,J⟩
 | .node l x y,n,h=>by
  have hsz:(Tr.node l x y).size=1+x.size+y.size:=J;have hw:(Tr.node l x y).wr n=⟨l,x.num (n+1),y.num (n+1+x.size)⟩::(x.wr (n+1)++y.wr (n+1+x.size)):=by simp[Tr.wr]
  have hx:=x.wr_len (n+1);have hy:=y.wr_len (n+1+x.size);refine⟨n,x.num (n+1),y.num (n+1+x.size),List.range' (n+1) x.size,List.range' (n+1+x.size) y.size,J,?_,KZ fun i hi=>?_,KZ fun i hi=>?_,?_⟩
  ·have:=h 0 (by omega)
   rw[hw,fJ] at this;rw[this];rfl
  ·have:=h (1+i) (by omega)
   rw[hw,lX 1 i,List.getElem?_cons_succ,dK (by omega)] at this;rw[show n+1+i=n+(i+1) by omega];exact this
  ·have:=h (1+x.size+i) (by omega)
   rw[hw,show 1+x.size+i=(x.size+i)+1 by omega,List.getElem?_cons_succ,gX (by omega),hx,Nat.add_sub_cancel_left] at this;rw[show n+1+x.size+i=n+(x.size+i+1) by omega];exact this
  ·rw[hsz,show 1+x.size+y.size=(x.size+y.size)+1 by omega,List.range'_succ,List.range'_append_1]
def WB{t:Tr}(ho:t.all ab.ok):xj ((t.wr 0).map RN.of) (t.num 0)=some t:=
 Y2 ⟨_,KZ (n:=0) (fun i _=>by rw[fQ]),List.nodup_range',by rw[List.length_range',t.wr_len]⟩ ho
def aGm{t:Tr}(hb:t.all LB): ∀n∈(t.wr 0).map RN.of,n.g.sm:=fun n hn=>by
 obtain⟨m,hm,rfl⟩:=bJ.1 hn;exact RN.of_sm (Tr.all_wr 0 hb m hm)
def Wf{t:Tr}(hs:t.size<=65536):((t.wr 0).map RN.of).length<=65536:=by rw[aJ,t.wr_len];exact hs
def WL:ab:=⟨0,1,0⟩
def t00:Tr:= .node WL (.leaf true) (.leaf false)
def oq.red_size{k:Nat}{t:Tr}(h:oq k t)(hr:t.Red []):t.size<=k*(1+k):=by
 obtain⟨K,h1,h2,h3⟩:=h.am;exact eY (Tr.size_le h2 hr h.gd.ok d8.nil h3) (lJ h1 (by omega))
structure t7 (k:Nat) (t:Tr):Prop where
 o:oq k t
 s:t.size<=3000
def t7.lb{k:Nat}{t:Tr}(h:t7 k t):t.all LB:=h.o.gd.lb
def t7.ok{k:Nat}{t:Tr}(h:t7 k t):t.all ab.ok:=h.o.gd.ok
def oq.x{k:Nat}{t:Tr}(h:oq k t)(hr:t.Red [])(hk:k<=54):t7 k t:=
 ⟨h,eY (h.red_size hr) (eY (lJ hk (show 1+k<=55 by omega)) (by decide))⟩
def R1(rs:List (List ZP))(fill:Int):(fm rs fill).Red []:=Tr.restrict_red _ _
def aIJ(es:List Int)(a:Nat):(Tr×Tr)×Nat:=
 let x:=tE es 0 a
 let y:=tE es 0 x.2
 let k:=au es 3 y.2
 let u:=if(k.1:Int)=0 then nA es 3 k.2 else(x.1,k.2)
 let j:=au es 3 u.2
 let v:=if(j.1:Int)=0 then nA es 3 j.2 else(y.1,j.2)
 ((u.1,v.1),v.2)
def aJb(es:List Int)(a:Nat):(Tr×Tr)×Nat:=
 let x:=tE es 0 a
 let y:=tE es 0 x.2
 let k:=au es 6 y.2
 if(k.1:Int)=0 then((x.1, .node (lF es k.2).1 x.1 x.1),(lF es k.2).2)
 else if(k.1:Int)=1 then((x.1,y.1.mergeQ 1 x.1 []),k.2)
 else if(k.1:Int)=2 then((x.1,y.1.mergeQ 3 x.1 []),k.2)
 else if(k.1:Int)=3 then((x.1,(nA es 3 k.2).1),(nA es 3 k.2).2)
 else((x.1,y.1),k.2)
def Mb(es:List Int):Nat->Nat->List Tr×Nat
 |0,a=>([],a)
 |n+1,a=>((tE es 0 a).1::(Mb es n (tE es 0 a).2).1,(Mb es n (tE es 0 a).2).2)
def aJn(r:List ZP)(i k:Nat):Bool:=decide (k=i)||decide (k=(i+1)%r.length)||decide (0<vl (r.getD i (0,0)).q (dP r i).q (r.getD k (0,0)).q)
def aHd(r:List ZP):Bool:=(List.range r.length).all fun i=>(List.range r.length).all fun k=>aJn r i k
section
variable {GB:Gh} {C:aD} {n:Nat} {Q0:Exit->Act->World->Prop} {fr fr' fr1 fr2:aA} {own own' own1 own2:aI} {cf cf' cf1 cf2:Cf} {vc vc1 vc2:List Prop}
def aKx(fr:aA)(cf:Cf):Option Int:=match ce fr cf with
 |some ⟨_, .binOp .and _ x (.const (.int .i64 3)) _,_,_,_,_⟩=>match aO (bE fr cf) x with
  |some (.d (.v (.int .i64 p)))=>some p
  |_=>none
 |_=>none
end
def Yy{es0 es:List Int}(hb:es0.length<=1125899906842624)(he:es=es0.take 400):PN GB prog 4 [.sl (es0.map vI)] 70 Unit (fun _=>[.sl (es.map vI), .v (.int .i64 (0:Nat))]):=by
 subst he;exact Vl hb
def aKg(cs:List RL):Option (List ab):=if cs.all (fun r=>r.ln.isSome) then some (cs.filterMap RL.ln) else none
def aJW:Option (List ab)->DV
 |some ls=> .tp [.sl (ls.map e7),vB true]
 |none=> .tp [.sl [],vB false]
def aJ8:Option aG->DV
 |some c=> .tp [.sl (c.map bh),vB true]
 |none=> .tp [.sl [],vB false]
def aJD(ai al:Addr)(more:Nat):Option Tr->DV
 |none=> .tp [.v (.pointer none),Cc ai]
 |some t=>if 1024<t.depth+more then .tp [.v (.pointer none),Cc al] else .tp [eU t, .v .nilIface]
def aKi(ai:Addr)(f:Tr->Tr):Option Tr->Tr ⊕ Addr
 |some t=> .inl (f t)
 |none=> .inr ai
def aI5(ai ae:Addr):Option Tr->Option (List ab)->Tr ⊕ Addr
 |some t,some ls=>(match qO ls [] with
  |some c=> .inl (t.restrict c)
  |none=> .inr ae)
 |_,_=> .inr ai
def aJ6(ai:Addr):Option ab->Option Tr->DV
 |some m,some t=> .tp [eA (t.restrict (bP [] m)),eA (t.restrict (bP [] m.rev)), .v .nilIface]
 |_,_=> .tp [Ia,Ia,Cc ai]

def ePr(a b:Tr):DV:= .ag [eU a,eU b]
def prZ:DV:= .ag [.v (.pointer none), .v (.pointer none)]
def VI{k:Nat}{t:Tr}(h:t7 k t):PF GB prog 40 [eA t] (.tp [eU t,vB true]):=by
 have:=aGq (GB:=GB) (rt:=t.num 0) (aGm h.lb) (Wf (by have:=h.s;omega)) (WB h.ok);rw[<-aHv] at this;exact this
def mtQ(a:ab)(t:List ab):List Rat:=t.filterMap fun b=>if crossI a b=0 then none else some (gg a b).x
def aJY(l:List ab)(x:Rat):List aa:=(gH (K7 (LQ l x))).map fun y=>⟨x,y⟩
def Mx:Tr->aa->Bool
 | .leaf _,_=>true
 | .node l x y,p=>if(l.value p).num.sign=1 then Mx x p else if(l.value p).num.sign= -1 then Mx y p else false
def Vr(ls:List ab):(lz ls).length<=ls.length:=by
 have:=Gt fP (ls.map ab.canon) [];unfold lz rm;rw[aJ,gM] at this;omega
structure Two (a b:Tr):Prop where
 ga:a.gd
 gb:b.gd
 sa:a.size<=3000
 sb:b.size<=3000
def f1R(x y:Bool):Bool:=x&&!y
def f2R(x y:Bool):Bool:=y&&!x
def f3R(x y:Bool):Bool:=x&&y
def f4R(x y:Bool):Bool:=!x&&!y
def anK(f:Bool->Bool->Bool)(a b:Tr)(k:Nat):Bool:=((Ls a b).take k).any fun p=>f (uI a p) (uI b p)
def Rm:Tr->List ab->List (List ab×Bool)
 | .leaf b,c=>if Na c then [(tN c,b)] else []
 | .node l x y,c=>if Na c then Rm x (tN c++[l])++Rm y (tN c++[l.rev]) else []
def aI6(c:List ab)(p:aa):Bool:=c.all fun l=>decide (0<Int.sign (l.value p).num)
def aKn(c:List ab):Option aa:=(NF (lz c)).find? (aI6 c)
def aKa(c:aG):Prop:=(c.map fun s=>s.l.dir).Pairwise cD
def aKc(c:List ab):Prop:=(c.map ab.dir).Pairwise cD
def Yc(c:aG):Bool:=!c.isEmpty&&c.all fun s=>!s.v.nl&&!s.v.nh
def aHc(c:List ab)(v:aa):Bool:=c.all fun l=>decide (0<=Int.sign (l.dir.cross v).num)
def aKv(c:List ab):Bool:=!c.isEmpty&&(c.flatMap fun l=>[l.dir,bp l.dir]).all fun v=>!aHc c v
def sD:ab:=⟨1,0,0⟩
def aIZ(c:List ab)(i:Nat):List aa:=
 if 0<Int.sign ((c.getD i sD).dir.cross (c.getD ((i+1)%c.length) sD).dir).num then [gg (c.getD i sD) (c.getD ((i+1)%c.length) sD)] else []
def DJ(c:List ab):List aa:=(List.range c.length).flatMap (aIZ c)
def WN(v:List aa)(i:Nat):List aa:=[v.getD 0 ⟨0,0⟩,v.getD (i+1) ⟨0,0⟩,v.getD (i+2) ⟨0,0⟩]
def QO(v:List aa):List (List aa):=(List.range (v.length-2)).map (WN v)
def aJz(cs:List (List ab)):List (List aa):=cs.flatMap fun c=>QO (DJ c)
def Ho{l:ab}: ∀{c:List ab} {v:av},(qo l c v).2=true->jm l c v=some (qo l c v).1
 |[],v,_=>rfl
 |m::t,v,h=>by
  rw[qo] at h⊢;rw[jm];split
  ·rename_i e;rw[if_pos e] at h;exact Ho h
  ·rename_i e
   rw[if_neg e] at h;split
   ·rename_i k;rw[if_pos k] at h;exact Ho h
   ·rename_i k;rw[if_neg k] at h;cases h
def Rf{v:av}(h:v.Pos):v.ins (Ek v):=by
 obtain⟨lo,hi,nl,nh⟩:=v;unfold av.Pos at h;unfold Ek av.ins
 cases nl<;>cases nh<;>simp at* <;>grind
def Tp{p v:aa}: ∀{c:List ab} {s:Rat},0<s->0<yi p v c s/\yi p v c s<=s/\ ∀m∈c,0<m.value p->m.nor.dot v<0->yi p v c s<= -(m.value p/m.nor.dot v)/2
 |[],s,h=>⟨h,fZ,fun m hm=>by cases hm⟩
 |m::t,s,h=>by
  have hk:m.value (bt p v ((1:Int):Rat))-m.value p=m.nor.dot v:=by rw[i6];grind
  have key:0<BU p v m s/\BU p v m s<=s/\(0<m.value p->m.nor.dot v<0->BU p v m s<= -(m.value p/m.nor.dot v)/2):=by
   unfold BU DG;simp only[hk,jA,kC,Bn];split
   ·rename_i e;exact⟨h,fZ,fun _ k=>by rw[e] at k;exact absurd k (by decide)⟩
   ·split
    ·rename_i e;exact⟨h,fZ,fun k=>by rw[e] at k;exact absurd k (by decide)⟩
    ·split
     ·rename_i e
      split
      ·exact⟨by grind,by grind,fun _ _=>fZ⟩
      ·exact⟨h,fZ,fun _ _=>by grind⟩
     ·rename_i e
      exact⟨h,fZ,fun k1 k2=>absurd (I7 k2 k1) e⟩
  obtain⟨a1,a2,a3⟩:=key;obtain⟨b1,b2,b3⟩:=Tp (p:=p) (v:=v) (c:=t) a1;rw[yi];refine⟨b1,by grind,fun u hu k1 k2=>?_⟩;rcases aW.1 hu with rfl|hu
  ·have:=a3 k1 k2;grind
  ·exact b3 u hu k1 k2
def aB3{c:List ab}{p v:aa}(h: ∀m∈c,0<m.value p\/(m.value p=0/\0<m.nor.dot v)):fA c (Bz c p v):=fun m hm=>by
 obtain⟨s0,_,s2⟩:=Tp (p:=p) (v:=v) (c:=c) (s:=((1:Int):Rat)) (by decide);unfold Bz;generalize yi p v c ((1:Int):Rat)=s at*;rw[i6];rcases h m hm with k|⟨k,k2⟩
 ·by_cases q:m.nor.dot v<0
  ·have h3:=s2 m hm k q
   have h4:=I7 q k;have e:m.value p/m.nor.dot v*m.nor.dot v=m.value p:=by grind
   generalize m.value p/m.nor.dot v=z at*;have h5:=cj (a:= -z/2-s) (b:= -m.nor.dot v) (by grind) (by grind);grind
  ·have:=cj (cM s0) (show 0<=m.nor.dot v by grind)
   grind
 ·have:=bF s0 k2
  grind
def ayF{m:ab}(h:m.Ne):0<m.nor.dot (gO m.dir):=by
 have:=qn h;have e:m.nor.dot (gO m.dir)=m.nor.dot m.nor:=by unfold gO ab.dir ab.nor aa.dot;grind
 rw[e];exact this
def Z8{c:List ab}(hok: ∀m∈c,m.ok)(hb:wv c=true):fA c (AF c c):=by
 have key: ∀t:List ab,(∀m∈t,m∈c)->(∃m∈t,(jm m c av.all).isSome=true)->fA c (AF c t):=by
  intro t
  induction t with
  |nil=>rintro _ ⟨m,hm,_⟩;cases hm
  |cons m t ih=>
   intro hs hx;rw[AF];split
   ·rename_i e
    obtain⟨h1,h2⟩:=FT m c _ _ A8 (Ho e);have h3:=((h2 _).1 (Rf h1)).2;have hmo:=(hok m (hs m aQ)).ne;refine aB3 fun u hu=>?_;by_cases q:u=m
    ·subst q;exact .inr ⟨pn hmo _,ayF hmo⟩
    ·exact .inl (h3 u hu q)
   ·rename_i e
    refine ih (fun u hu=>hs u (aZ _ hu)) ?_;obtain⟨u,hu,h⟩:=hx;rcases aW.1 hu with rfl|hu
    ·rw[Il] at e;exact absurd h e
    ·exact⟨u,hu,h⟩
 unfold wv at hb;rw[iL,List.isEmpty_iff,mX] at hb;rcases hb with rfl|⟨m,hm,h⟩
 ·exact fun m hm=>by cases hm
 ·exact key c (fun _ h=>h) ⟨m,hm,h⟩
def fA.seg{c:List ab}{q p:aa}{e:Rat}(hq:fA c q)(hp:fA c p)(h0:0<=e)(h1:e<=1):fA c (ba q p e):=fun m hm=>by
 rw[kt];have a:=hq m hm;have b:=hp m hm;by_cases z:e=0
 ·subst z;grind
 ·have k1:=bF (show 0<e by grind) b
  have k2:=cj (show 0<=1-e by grind) (cM a);grind
def fA.open{c:List ab}{q:aa}(u:aa)(h:fA c q): ∃e:Rat,0<e/\ ∀d,0<=d->d<=e->fA c (bt q u d):=by
 have hd:b9 (c.map fun m=>(⟨m,av.all⟩:aE)) q:=fun s hs=>by
  obtain⟨m,hm,rfl⟩:=bJ.1 hs;exact h m hm
 obtain⟨e,he,ho⟩:=hd.open u;exact⟨e,he,fun d d0 d1 m hm=>ho d d0 d1 ⟨m,av.all⟩ (gN hm)⟩
def Hv(l:ab)(t u:Rat):l.at (t+u)=bt (l.at t) l.dir u:=by
 rw[<-tF,<-tF];unfold bt;simp only[aa.mk.injEq];constructor<;>grind
def J3(l:ab)(a b s:Rat):ba (l.at a) (l.at b) s=l.at (a+s*(b-a)):=by
 rw[<-tF,<-tF,<-tF];unfold ba bt;simp only[aa.mk.injEq];constructor<;>grind
def CM{l:ab}(h:l.Ne)(t:Rat):cB l (l.at t)=t:=by
 obtain⟨q,_,hq⟩:=BD h;have h2:=qn h;have e0:l.dir.dot l.dir=l.nor.dot l.nor:=by unfold ab.dir ab.nor aa.dot;grind
 have e1:(l.at t).dot l.dir=t*l.dir.dot l.dir:=by
  rw[<-tF,hq];unfold bt ab.dir aa.dot;grind
 unfold cB;rw[e1];rw[<-e0] at h2;generalize l.dir.dot l.dir=d at*;have:d≠0:=by grind
 grind
def Fk{l:ab}(h:l.Ne){p:aa}(hp:l.value p=0):l.at (cB l p)=p:=by
 obtain⟨t,rfl⟩:=Dt h hp;rw[CM h]
def J6(a:Int){g:Nat}(h:g∣a.natAbs):(g:Int)*zv (decide (a<0)) (a.natAbs/g)=a:=by
 obtain⟨k,hk⟩:=h;by_cases g0:g=0
 ·subst g0;simp at hk⊢;omega
 have e:a.natAbs/g=k:=by rw[hk];exact rT k (iY g0)
 rw[e];unfold zv;have hc:((g*k:Nat):Int)=(g:Int)*(k:Int):=by push_cast;rfl
 by_cases n:a<0
 ·simp only[n,decide_true,if_true];rw[Int.mul_neg];omega
 ·simp only[n,decide_false];show(g:Int)*(k:Int)=a;omega
def aBD{a b c:Int}(h: ¬(a=0/\b=0)): ∃g:Int,0<g/\g*(gt a b c).a=a/\g*(gt a b c).b=b/\g*(gt a b c).c=c:=by
 have hg:0<Nat.gcd (Nat.gcd a.natAbs b.natAbs) c.natAbs:=kS _ (iY fun e=>h ⟨kR.1 (lL e),kR.1 (lU e)⟩);refine⟨(Nat.gcd (Nat.gcd a.natAbs b.natAbs) c.natAbs:Nat),by omega,?_,?_,?_⟩
 ·exact J6 a (qN (kK _ _) (kK _ _))
 ·exact J6 b (qN (kK _ _) (lY _ _))
 ·exact J6 c (lY _ _)
def HZ{v w:ZP}(h:v≠w): ∃g:Rat,0<g/\(i5 v.1 v.2 w.1 w.2).value v.q=0/\(i5 v.1 v.2 w.1 w.2).value w.q=0/\w.q=bt v.q (i5 v.1 v.2 w.1 w.2).dir g:=by
 obtain⟨m,n⟩:=v;obtain⟨p,q⟩:=w;have hne: ¬(jH n q=0/\kr m p=0):=fun e=>h (by unfold jH kr at e;rw[Prod.mk.injEq];omega);obtain⟨g,g0,ga,gb,gc⟩:=aBD (c:=qA m n p q) hne;dsimp only;unfold i5;generalize gt (jH n q) (kr m p) (qA m n p q)=l at*;have g0':(0:Rat)<(g:Rat):=by exact_mod_cast g0
 have ra:(g:Rat)*(l.a:Rat)= -((q:Rat)-(n:Rat)):=by rw[<-dZ,ga];unfold jH;push_cast;grind
 have rb:(g:Rat)*(l.b:Rat)=(p:Rat)-(m:Rat):=by rw[<-dZ,gb];unfold kr;push_cast;grind
 have rc:(g:Rat)*(l.c:Rat)= -(-((q:Rat)-(n:Rat))*(m:Rat)+((p:Rat)-(m:Rat))*(n:Rat)):=by rw[<-dZ,gc];unfold qA jH kr;push_cast;grind
 have z: ∀x:Rat,(g:Rat)*x=0->x=0:=fun x hx=>by
  rcases cS.1 hx with e|e
  ·rw[e] at g0';exact absurd g0' (by decide)
  ·exact e
 refine⟨g,g0',z _ ?_,z _ ?_,?_⟩
 ·rw[n5];unfold ZP.q iP;dsimp only;grind
 ·rw[n5];unfold ZP.q iP;dsimp only;grind
 ·unfold ZP.q iP bt ab.dir;simp only[aa.mk.injEq];constructor<;>grind
def Al{v w:ZP}(h:v≠w)(ho:(bj v w).l.ok):(bj v w).l.at (bj v w).v.lo=v.q/\(bj v w).l.at (bj v w).v.hi=w.q/\(bj v w).v.lo<(bj v w).v.hi:=by
 obtain⟨g,g0,h1,h2,h3⟩:=HZ h;unfold bj at ho⊢;dsimp only at ho⊢;generalize i5 v.1 v.2 w.1 w.2=l at*;have e1:=Fk ho.ne h1;have e2:=Fk ho.ne h2;refine⟨e1,e2,?_⟩;have:cB l w.q=cB l v.q+g:=by
  have e3:=Hv l (cB l v.q) g;rw[e1,<-h3] at e3;rw[<-e3,CM ho.ne]
 rw[this];grind
def Br{r:List ZP}{k:Nat}: ∀{n:Nat},k<n->bj (r.getD k (0,0)) (dP r k)∈jr r n
 |n+1,h=>by
  rw[jr];by_cases e:k=n
  ·subst e;exact cJ _ (aV.2 J)
  ·exact bM _ (Br (by omega))
def axX{r:List ZP}(hr:cp r){c:List ab}(hc: ∀e∈eO r,∀t,e.v.ins t-> ¬fA c (e.l.at t)){q p:aa}(hq:fA c q)(hp:fA c p):wu r q p:=fun k hk s t s0 s1 t0 t1 he=>by
 have hm:bj (r.getD k (0,0)) (dP r k)∈eO r:=Br hk;have ho:=((rA hr).2 _ hm).ok;obtain⟨e1,e2,e3⟩:=Al (hr.ne k hk) ho;have hno:=hc _ hm;have hx:=hq.seg hp t0 t1;rw[<-he,<-e1,<-e2,J3] at hx;have hv: ∀u,(bj (r.getD k (0,0)) (dP r k)).v.lo<u->u<(bj (r.getD k (0,0)) (dP r k)).v.hi-> ¬fA c ((bj (r.getD k (0,0)) (dP r k)).l.at u):=fun u h1 h2=>hno u ⟨.inr h1, .inr h2⟩;generalize bj (r.getD k (0,0)) (dP r k)=e at*;have hb:=Kv s0 s1 (fZ) (cM e3) (cM e3) (fZ);generalize e.v.lo+s*(e.v.hi-e.v.lo)=u at*;obtain⟨d,d0,hd⟩:=hx.open e.l.dir;obtain⟨d',d0',hd'⟩:=hx.open (bp e.l.dir);by_cases h1:e.v.lo<u
 ·by_cases h2:u<e.v.hi
  ·exact hv u h1 h2 hx
  ·have eu:u=e.v.hi:=by grind
   obtain⟨z,z0,z1,z2⟩: ∃z:Rat,0<z/\z<=d'/\z<e.v.hi-e.v.lo:=by
    by_cases k:d'<(e.v.hi-e.v.lo)/2
    ·exact⟨d',d0',fZ,by grind⟩
    ·exact⟨(e.v.hi-e.v.lo)/2,by grind,by grind,by grind⟩
   refine hv (u+ -z) (by grind) (by grind) ?_;rw[Hv];have:=hd' z (cM z0) z1;have e5:bt (e.l.at u) (bp e.l.dir) z=bt (e.l.at u) e.l.dir (-z):=by unfold bt bp;simp only[aa.mk.injEq];constructor<;>grind
   rw[e5] at this;exact this
 ·have eu:u=e.v.lo:=by grind
  obtain⟨z,z0,z1,z2⟩: ∃z:Rat,0<z/\z<=d/\z<e.v.hi-e.v.lo:=by
   by_cases k:d<(e.v.hi-e.v.lo)/2
   ·exact⟨d,d0,fZ,by grind⟩
   ·exact⟨(e.v.hi-e.v.lo)/2,by grind,by grind,by grind⟩
  refine hv (u+z) (by grind) (by grind) ?_;rw[Hv];exact hd z (cM z0) z1
def Qc{rs:List (List ZP)}{fill:Int}(hr: ∀r∈rs,cp r){c:List ab}(hc: ∀e∈bO rs,∀t,e.v.ins t-> ¬fA c (e.l.at t)){q p:aa}(hq:fA c q)(hp:fA c p):fe rs fill q=fe rs fill p:=by
 have key: ∀(rs:List (List ZP)),(∀r∈rs,cp r)->(∀e∈bO rs,∀t,e.v.ins t-> ¬fA c (e.l.at t))-> ∀n:Int,rs.foldl (fun n r=>n+om r q) n=rs.foldl (fun n r=>n+om r p) n:=by
  intro rs
  induction rs with
  |nil=>intro _ _ n;rfl
  |cons r t ih=>
   intro hr hc n;rw[dT,dT,<-O6 (axX (hr r aQ) (fun e he=>hc e (cN.2 ⟨r,aQ,he⟩)) hq hp)];exact ih (fun r h=>hr r (aZ _ h)) (fun e he=>hc e (by obtain⟨r,h1,h2⟩:=cN.1 he;exact cN.2 ⟨r,aZ _ h1,h2⟩)) _
 unfold fe;rw[key rs hr hc]
def CU{cuts:List Rat}(h:cuts.Pairwise (· < ·)){i j:Nat}(hij:i<j)(hj:j<cuts.length):cuts.getD i 0<cuts.getD j 0:=by
 rw[aK,aK,aX hj,aX (by omega)];exact nL.1 h i j (by omega) hj hij
def HK{cuts:List Rat}{marks:List Bool}(h:cuts.Pairwise (· < ·)): ∀{k:Nat},∀v∈i4 cuts marks (k+1),k<cuts.length->(v.nh=false/\v.hi<=cuts.getD k 0)/\(v.nl=true\/v.lo<cuts.getD k 0)
 |k,v,hv,hk=>by
  have hg:((gE cuts k).nh=false/\(gE cuts k).hi<=cuts.getD k 0)/\((gE cuts k).nl=true\/(gE cuts k).lo<cuts.getD k 0):=by
   unfold gE;dsimp only;refine⟨⟨by simp;omega,by rw[if_pos hk];exact fZ⟩,?_⟩;by_cases z:k=0
   ·left;simp[z]
   ·right;rw[if_neg z];exact CU h (by omega) hk
  have hold: ∀v∈i4 cuts marks k,(v.nh=false/\v.hi<=cuts.getD k 0)/\(v.nl=true\/v.lo<cuts.getD k 0):=fun v hv=>by
   cases k with
   |zero=>cases hv
   |succ k=>
    have ih:=HK h v hv (by omega);have:=CU h (Nat.lt_succ_self k) hk;exact⟨⟨ih.1.1,by have:=ih.1.2;grind⟩,ih.2.imp id fun z=>by grind⟩
  rw[i4] at hv;split at hv
  ·split at hv
   ·split at hv
    ·rename_i w hw
     rcases bW.1 hv with q|q
     ·exact hold v ((sW _).subset q)
     ·rw[aV] at q;subst q
      exact⟨hg.1,(hold w (pL hw)).2⟩
    ·rcases bW.1 hv with q|q
     ·exact hold v q
     ·rw[aV] at q;subst q;exact hg
   ·rcases bW.1 hv with q|q
    ·exact hold v q
    ·rw[aV] at q;subst q;exact hg
  ·exact hold v hv
def R6{cuts:List Rat}{marks:List Bool}(h:cuts.Pairwise (· < ·)){x:Rat}{i:Nat}(hm:marks.getD i false=true)(hx:(gE cuts i).ins x): ∀{k:Nat},k<=cuts.length+1->i<k-> ∃v∈i4 cuts marks k,v.ins x
 |k+1,hk,hi=>by
  by_cases e:i=k
  ·subst e
   rw[i4,if_pos hm];split
   ·rename_i h0
    split
    ·rename_i w hw
     refine⟨_,cJ _ (aV.2 J),?_,hx.2⟩;obtain⟨j,rfl⟩: ∃j,i=j+1:=⟨i-1,by omega⟩;have:=(HK h w (pL hw) (by omega)).2;have hl:=hx.1;unfold gE at hl;dsimp only at hl;rw[if_neg (by omega),show j+1-1=j by omega] at hl;have hl':cuts.getD j 0<x:=hl.resolve_left (by simp);exact this.imp id fun z=>by show w.lo<x;grind
    ·exact⟨_,cJ _ (aV.2 J),hx⟩
   ·exact⟨_,cJ _ (aV.2 J),hx⟩
  ·obtain⟨v,hv,hvx⟩:=R6 h hm hx (k:=k) (by omega) (by omega)
   rw[i4];split
   ·split
    ·split
     ·rename_i w hw
      by_cases q:v=w
      ·subst q
       refine⟨_,cJ _ (aV.2 J),hvx.1,?_⟩;show(gE cuts k).nh=true\/x<(gE cuts k).hi;obtain⟨j,rfl⟩: ∃j,k=j+1:=⟨k-1,by omega⟩;obtain⟨⟨b1,b2⟩,_⟩:=HK h v hv (by omega);have hh:=hvx.2.resolve_left (by rw[b1];decide);unfold gE;dsimp only;by_cases z:j+1<cuts.length
       ·right;rw[if_pos z];have:=CU h (Nat.lt_succ_self j) z;grind
       ·left;simp;omega
      ·refine⟨v,bM _ ?_,hvx⟩
       obtain⟨l,hl⟩:=List.getLast?_eq_some_iff.1 hw;rw[hl] at hv⊢;rw[List.dropLast_concat];rcases bW.1 hv with z|z
       ·exact z
       ·rw[aV] at z;exact absurd z q
     ·exact⟨v,bM _ hv,hvx⟩
    ·exact⟨v,bM _ hv,hvx⟩
   ·exact⟨v,hv,hvx⟩
def O8: ∀{l:List Rat} {i:Nat},i+1<l.length->(jh l).getD i 0=(l.getD i 0+l.getD (i+1) 0)/2
 |[],_,h=>by simp at h
 |[_],_,h=>by simp at h
 |a::b::t,0,_=>by simp[jh]
 |a::b::t,i+1,h=>by
  have:=O8 (l:=b::t) (i:=i) (by simp at h⊢;omega);rw[jh,lS,this];simp only[lS]
def DW: ∀(l:List Rat) (a:Rat),(jh (a::l)).length=l.length
 |[],_=>rfl
 |b::t,a=>by rw[jh,bV,DW t b,bV]
def ayE{cuts:List Rat}(h:cuts.Pairwise (· < ·)){i j:Nat}(hi:i<=cuts.length)(hj:j<cuts.length):(cuts.getD j 0<(gH cuts).getD i 0↔j<i)/\cuts.getD j 0≠(gH cuts).getD i 0:=by
 have mono: ∀{a b:Nat},a<=b->b<cuts.length->cuts.getD a 0<=cuts.getD b 0:=fun{a b} hab hb=>by
  by_cases e:a=b
  ·subst e;exact fZ
  ·exact cM (CU h (by omega) hb)
 cases cuts with
 |nil=>simp at hj
 |cons a t=>
  have hl:(a::t).length=t.length+1:=J;rw[gH]
  cases i with
  |zero=>
   rw[tK];have:=mono (bT j) hj;rw[tK] at this;constructor
   ·constructor
    ·intro q;exfalso;grind
    ·intro q;omega
   ·intro q;grind
  |succ i=>
   rw[lS];by_cases e:i<t.length
   ·have e1:(jh (a::t)++[(a::t).getLast (by simp)+1]).getD i 0=((a::t).getD i 0+(a::t).getD (i+1) 0)/2:=by
     rw[<-O8 (by omega),aK,aK,dK (by rw[DW];exact e)]
    rw[e1];have h1:=CU h (Nat.lt_succ_self i) (by omega);by_cases q:j<=i
    ·have:=mono q (by omega)
     constructor
     ·exact⟨fun _=>by omega,fun _=>by grind⟩
     ·grind
    ·have:=mono (show i+1<=j by omega) hj
     constructor
     ·exact⟨fun _=>by exfalso;grind,fun _=>by omega⟩
     ·grind
   ·have ei:i=t.length:=by omega
    have e1:(jh (a::t)++[(a::t).getLast (by simp)+1]).getD i 0=(a::t).getLast (by simp)+1:=by
     rw[aK,gX (by rw[DW];omega),DW,ei];simp
    rw[e1];have:=NC h (by simp) ((a::t).getD j 0) (by rw[aK,aX hj];exact gV _);constructor
    ·exact⟨fun _=>by omega,fun _=>by grind⟩
    ·grind
def Pq(x:Rat): ∀{cuts:List Rat},cuts.Pairwise (· < ·)-> ∃i,i<=cuts.length/\ ∀j,j<cuts.length->(cuts.getD j 0<x↔j<i)
 |[],_=>⟨0,bQ _,fun j hj=>by simp at hj⟩
 |a::t,h=>by
  rw[bK] at h;by_cases q:a<x
  ·obtain⟨i,h1,h2⟩:=Pq x h.2
   refine⟨i+1,by simp;exact h1,fun j hj=>?_⟩
   cases j with
   |zero=>simp[q]
   |succ j=>rw[lS,h2 j (by simpa using hj)];omega
  ·refine⟨0,bT _,fun j hj=>⟨fun k=>?_,fun k=>by omega⟩⟩
   exfalso
   cases j with
   |zero=>simp at k;grind
   |succ j=>
    rw[lS] at k;have hj':j<t.length:=by simpa using hj
    have:=h.1 (t.getD j 0) (by rw[aK,aX hj'];exact gV _);grind
def N7{out:List Rat}{s:av}{y:Rat}:y∈i8 out s↔y∈out\/(s.nl=false/\y=s.lo)\/(s.nh=false/\y=s.hi):=by
 unfold i8
 cases e1:s.nl<;>cases e2:s.nh<;>simp[xm]<;>grind
def Az{v:av}{x:Rat}:oo [v] x=true↔v.ins x:=by
 unfold oo Db Db av.ins;have h1:=Dp x v.lo;have h2:=Bn x v.hi;rw[decide_eq_true_eq]
 cases e1:v.nl<;>cases e2:v.nh<;>simp only[if_true,dJ,if_false,false_or,true_or,h1,h2,and_true,true_and,show(0:Int)<1 from by decide,show(-1:Int)<0 from by decide]<;>grind
def PP{cuts:List Rat}{v:av}(hl:v.nl=true\/v.lo∈cuts)(hh:v.nh=true\/v.hi∈cuts){x g:Rat}(ho: ∀u∈cuts,(u<x↔u<g)/\u≠x/\u≠g)(h:v.ins x):v.ins g:=by
 refine⟨?_,?_⟩
 ·rcases hl with e|e
  ·exact .inl e
  ·rcases h.1 with k|k
   ·exact .inl k
   ·exact .inr ((ho _ e).1.1 k)
 ·rcases hh with e|e
  ·exact .inl e
  ·rcases h.2 with k|k
   ·exact .inl k
   ·obtain⟨a,b,c⟩:=ho _ e
    right;by_cases q:v.hi<g
    ·have:=a.2 q;grind
    ·grind
def Yp{v w:av}{t:Rat}(hv:v.ins t)(hw:w.ins t): ∃z∈jg 2 [v] [w],z.ins t:=by
 have hmem: ∀y,y∈gP ([v]++[w])↔((v.nl=false/\y=v.lo)\/(v.nh=false/\y=v.hi))\/(w.nl=false/\y=w.lo)\/(w.nh=false/\y=w.hi):=fun y=>by
  show y∈i8 (i8 [] v) w↔_;rw[N7,N7];simp
 have hasc:=(NO ([v]++[w])).1;have h0: ∀u∈gP ([v]++[w]),u≠t:=fun u hu e=>by
  subst e;rcases(hmem u).1 hu with(⟨a,b⟩|⟨a,b⟩)|⟨a,b⟩|⟨a,b⟩
  ·have:=hv.1.resolve_left (by rw[a];decide);grind
  ·have:=hv.2.resolve_left (by rw[a];decide);grind
  ·have:=hw.1.resolve_left (by rw[a];decide);grind
  ·have:=hw.2.resolve_left (by rw[a];decide);grind
 have l1:v.nl=true\/v.lo∈gP ([v]++[w]):=by
  cases e:v.nl with
  |true=>exact .inl J
  |false=>exact .inr ((hmem _).2 (.inl (.inl ⟨e,J⟩)))
 have l2:v.nh=true\/v.hi∈gP ([v]++[w]):=by
  cases e:v.nh with
  |true=>exact .inl J
  |false=>exact .inr ((hmem _).2 (.inl (.inr ⟨e,J⟩)))
 have l3:w.nl=true\/w.lo∈gP ([v]++[w]):=by
  cases e:w.nl with
  |true=>exact .inl J
  |false=>exact .inr ((hmem _).2 (.inr (.inl ⟨e,J⟩)))
 have l4:w.nh=true\/w.hi∈gP ([v]++[w]):=by
  cases e:w.nh with
  |true=>exact .inl J
  |false=>exact .inr ((hmem _).2 (.inr (.inr ⟨e,J⟩)))
 unfold jg mC;generalize gP ([v]++[w])=cuts at*;obtain⟨i,hi,ho⟩:=Pq t hasc;have hord: ∀u∈cuts,(u<t↔u<(gH cuts).getD i 0)/\u≠t/\u≠(gH cuts).getD i 0:=fun u hu=>by
  obtain⟨j,hj,e⟩:=pM.1 hu;have e':cuts.getD j 0=u:=by rw[aK,aX hj];exact e
  obtain⟨g1,g2⟩:=ayE hasc hi hj;have:=ho j hj;rw[e'] at g1 g2 this;exact⟨this.trans g1.symm,h0 u hu,g2⟩
 have hlen:(gH cuts).length=cuts.length+1:=Qd;refine R6 hasc (i:=i) ?_ ?_ (by rw[aJ,hlen];exact bQ _) (by rw[aJ,hlen];omega)
 ·rw[aK,fS,aX (by omega)]
  show JQ 2 (oo [v] _) (oo [w] _)=true;have e:(gH cuts)[i]'(by omega)=(gH cuts).getD i 0:=by rw[aK,aX (by omega)];rfl
  rw[e,Az.2 (PP l1 l2 hord hv),Az.2 (PP l3 l4 hord hw)];rfl
 ·unfold gE av.ins
  dsimp only;refine⟨?_,?_⟩
  ·by_cases z:i=0
   ·left;simp[z]
   ·right;rw[if_neg z];exact(ho (i-1) (by omega)).2 (by omega)
  ·by_cases z:i=cuts.length
   ·left;simp[z]
   ·right
    rw[if_pos (by omega)];have a:=ho i (by omega);have b:=h0 (cuts.getD i 0) (by rw[aK,aX (by omega)];exact gV _);have c: ¬cuts.getD i 0<t:=fun k=>by have:=a.1 k;omega
    grind
def Ky{l m:ab}(h:crossI l m=0):l.cutK m=0:=by
 have e:l.cutK m= -(crossI l m:Rat):=by unfold ab.cutK ab.nor ab.dir aa.dot crossI;push_cast;grind
 rw[e,h];rfl
def P4{k:Rat}{side:Int}(hs:side=1\/side= -1)(h:0<(side:Rat)*k):k.num.sign=side:=by
 rcases hs with rfl|rfl
 ·exact(jd k).2 (by grind)
 ·have:k.num.sign<0:=(lc k).2 (by grind)
  have:=qT k.num;omega
def avu{f:aE}{m:ab}{side:Int}(hs:side=1\/side= -1)(hl:f.l.Ne){t:Rat}(ht:f.v.ins t)(hm:0<(side:Rat)*m.value (f.l.at t)): ∃g∈jI f m side,g.l=f.l/\g.v.ins t:=by
 have hv:=oc f.l m t;have ho: ¬vX f.l m=true:=fun e=>by
  unfold vX at e;rw[decide_eq_true_eq,jA] at e;rw[Ky e.1,show f.l.cutC m=m.value f.l.base from J,e.2] at hv;rw[hv] at hm;grind
 unfold jI;rw[if_neg ho];have hh: ∃w,vj f.l m side=[w]/\w.ins t:=by
  unfold vj;by_cases hc:crossI f.l m=0
  ·rw[if_pos hc]
   rw[Ky hc,show f.l.cutC m=m.value f.l.base from J] at hv;rw[if_pos (P4 hs (by rw[hv] at hm;grind))];exact⟨_,J,Zd t⟩
  ·rw[if_neg hc]
   have hp:=AM hl hc;have hK:f.l.cutK m≠0:=fun e=>by
    have e2:f.l.cutK m= -(crossI f.l m:Rat):=by unfold ab.cutK ab.nor ab.dir aa.dot crossI;push_cast;grind
    rw[e2] at e;have:(crossI f.l m:Rat)=0:=by grind
    exact hc (dY.1 this)
   generalize hx:cB f.l (gg f.l m)=x at*;have hv2: ∀u,m.value (f.l.at u)=f.l.cutK m*(u-x):=fun u=>by rw[oc,hp];grind
   rw[hv2] at hm;have e1:m.value (f.l.at (x+1))=f.l.cutK m:=by rw[hv2];grind
   rw[e1];generalize f.l.cutK m=K at*;by_cases q:K.num.sign=side
   ·rw[if_pos q]
    refine⟨_,J, .inr ?_, .inl J⟩;show x<t;rcases hs with rfl|rfl
    ·have:=(jd K).1 q
     have:=(AH this).1 (show 0<K*(t-x) by grind);grind
    ·have:=(lc K).1 (by omega)
     have:=(Hz this).1 (show K*(t-x)<0 by grind);grind
   ·rw[if_neg q]
    refine⟨_,J, .inl J, .inr ?_⟩;show t<x;have h3:=eB K;rcases hs with rfl|rfl
    ·have kn:K<0:=by
      rcases h3 with h|h|h
      ·exact absurd h hK
      ·exact absurd ((jd K).2 h) q
      ·exact h
     have:=(Hz kn (b:=x-t)).1 (by grind);grind
    ·have kp:0<K:=by
      rcases h3 with h|h|h
      ·exact absurd h hK
      ·exact h
      ·exact absurd (by have:=(lc K).2 h;have:=qT K.num;omega) q
     have:=(AH kp (b:=x-t)).1 (by grind);grind
 obtain⟨w,e,hw⟩:=hh;rw[e];obtain⟨z,hz,hzt⟩:=Yp ht hw;exact⟨⟨f.l,z⟩,gN hz,J,hzt⟩
def D9(E:List aE)(c:List ab)(l:List aE):Prop:= ∀e∈E,∀t,e.v.ins t->fA c (e.l.at t)-> ∃f∈l,f.l=e.l/\f.v.ins t
def D9.split{E l:List aE}{c:List ab}(h:D9 E c l)(hE: ∀e∈E,e.l.Ne){m:ab}{side:Int}(hs:side=1\/side= -1){m':ab}(hm': ∀p,m'.value p=(side:Rat)*m.value p):D9 E (c++[m']) (l.flatMap fun g=>jI g m side):=fun e he t ht hin=>by
 obtain⟨h1,h2⟩:=HX.1 hin;obtain⟨f,hf,ef,hft⟩:=h e he t ht h1;rw[hm'] at h2;obtain⟨g,hg,eg,hgt⟩:=avu (f:=f) hs (by rw[ef];exact hE e he) hft (by rw[ef];exact h2);exact⟨g,cN.2 ⟨f,hf,hg⟩,by rw[eg,ef],hgt⟩
def I2{acc:aa->Bool}{E:List aE}(hE: ∀e∈E,e.l.Ne)(ha: ∀(c:List ab) (q p:aa),(∀e∈E,∀t,e.v.ins t-> ¬fA c (e.l.at t))->fA c q->fA c p->acc q=acc p): ∀{n:Nat} {l:List aE} {c:List ab} {p:aa},(∀f∈l,pz f)->n9 n l->(∀m∈c,m.ok)->D9 E c l->fA c p->iw (kB acc n l c).lns p->(kB acc n l c).val p=acc p
 |n,[],c,p,_,_,hc,hcov,hp,_=>by
  have e:kB acc n [] c= .leaf (acc (AF c c)):=by cases n<;>rfl
  rw[e,Tr.val];exact ha c _ _ (fun e he t ht hin=>by obtain⟨f,hf,_⟩:=hcov e he t ht hin;cases hf) (Z8 hc ((auT hc).2 ⟨p,hp⟩)) hp
 |0,f::t,_,_,_,hf,_,_,_,_=>by
  obtain⟨K,hK,hs⟩:=hf;obtain⟨m,hm,_⟩:=hs f aQ;have:K=[]:=bU (by omega);rw[this] at hm;cases hm
 |n+1,f::t,c,p,hok,hf,hc,hcov,hp,hoff=>by
  have fo:=hok f aQ;have hok': ∀side,∀g∈(f::t).flatMap fun g=>jI g f.l side,pz g:=fun side g hg=>by
   obtain⟨q,hq,hg⟩:=cN.1 hg;exact(Gm (hok q hq) fo.lb g hg).1
  rw[kB] at hoff⊢;by_cases q:0<f.l.value p
  ·rw[Tr.val_pos q]
   exact I2 hE ha (hok' 1) (hf.split hok) (Ns hc fo.ok) (hcov.split hE (.inl J) fun p=>by grind) (HX.2 ⟨hp,q⟩) hoff.x
  ·rw[Tr.val_neg q]
   have:=hoff.l;exact I2 hE ha (hok' (-1)) (hf.split hok) (Ns hc fo.ok.rev) (hcov.split hE (.inr J) fun p=>by rw[iE];grind) (HX.2 ⟨hp,by rw[iE];grind⟩) hoff.y
def Ny{rs:List (List ZP)}{fill:Int}(hr: ∀r∈rs,cp r){p:aa}(ho:iw (me rs fill).lns p):(fm rs fill).val p=fe rs fill p:=by
 obtain⟨h1,h2⟩:=lj hr;have hok:(me rs fill).all ab.ok:=rE fun f hf=>(h2 f hf).ok;unfold fm;rw[Tr.val_restrict _ _ _ hok d8.nil (fun s hs=>by cases hs) ho];unfold me at ho⊢;refine I2 (E:=bO rs) (fun e he=>(h2 e he).ok.ne) (fun c q p hno hq hp=>Qc hr hno hq hp) h2 ?_ (fun m hm=>by cases hm) (fun e he t ht _=>⟨e,he,J,ht⟩) (fun m hm=>by cases hm) ho;exact⟨(bO rs).map (·.l),by rw[aJ];exact bQ _,fun f hf=>⟨f.l,gN hf, .inl J⟩⟩
end Go.Sx
end
