import Derived.Test.YtefoocgiaegobaaGreatDoorPc5
set_option linter.all false
set_option maxRecDepth 100000
section
namespace Go.Sx
open Go Go.Proofs Tryz
section
variable {P:Program} {T:TT} {GB:Gh} {C:aA} {n:Nat} {lk:LK} {bk:BM} {ρ:NE} {G:Gh} {ov:List av} {a:Act} {w:World}
variable {dst:Option Nat} {t t' ty':TypeId} {pos:String} {af:Array Edge} {gd:Option (Nat×Bool)} {x y:Operand} {e s by_:Nat}
def BF{vs:List Value}{rest cs:List Value}{i sz j:Nat}{v':Value}(hil:i<vs.length)(hvs: ∀v∈vs,(aF v).length=sz)(hv':aF v'=cP (aF vs[i]) j cs)(hj:j+cs.length<=sz):cP (aH vs++rest) (i*sz+j) cs=aH (vs.set i v')++rest:=by
 have hm:(aF vs[i]).length=sz:=hvs _ (gT hil);have hl':(aF v').length=sz:=by rw[hv',wN,hm]
 rw[<-Vi (rest:=rest) (u:=v') vs i hil hvs hl',hv'];have hlv:=f0 vs hvs;have hle:i*sz+sz<=vs.length*sz:=by rw[<-gN];exact bX _ hil
 generalize hmm:aF vs[i]=m at*;have hX:aH vs++rest=(aH vs).take (i*sz)++(m++((aH vs).drop (i*sz+sz)++rest)):=by
  have t1:=yZ (rest:=rest) hvs hil;rw[hmm] at t1;obtain⟨_,t2⟩:=vb t1;have t3:m=((aH vs).drop (i*sz)).take sz:=by
   have:m=((aH vs++rest).drop (i*sz)).take sz:=t2;rw[this,iU (by omega),fK (by rw[lQ];omega)]
  rw[t3]
  conv=>lhs;rw[<-lV (i*sz) (aH vs),<-lV sz ((aH vs).drop (i*sz)),pJ]
  simp[fX]
 have hP:((aH vs).take (i*sz)).length=i*sz:=by rw[bR];omega
 generalize (aH vs).take (i*sz)=A at hX hP;generalize (aH vs).drop (i*sz+sz)++rest=Z at hX;rw[hX,<-hP,I1 A m Z (cP m j cs) (by rw[wN])];rw[rR _ m j (by omega),rR _ _ _ (by simp only[bK];omega)];rw[List.take_append,aT (by omega),Nat.add_sub_cancel_left,fK (by omega)];rw[List.drop_append,fL (by omega),jL,show A.length+j+cs.length-A.length=j+cs.length by omega,iU (by omega)];simp[fX]
def yv(ag:Option Nat)(d:DV)(j:Nat)(u:DV):Option DV:=match d with
 | .ag l=>match ag with
  |some k=>bif u.okc&&(Nat.beq u.cells.length k&&Nat.ble (j+k) l.length) then some (.ag (t8 l j u.cells)) else none
  |none=>bif u.flat&&Nat.blt j l.length then some (.ag (l.set j u)) else none
 |d=>match ag with
  |some _=>none
  |none=>bif d.flat&&(u.flat&&Nat.beq j 0) then some u else none
def bj.wroteRow{nm b:Nat}{ty:TypeId}{sz:Nat}{ds ds':List DV}{lo lo':Bool}{m':List Value}{own':List av}(r:bj GB C n lk bk ρ G ov a w)(hb:bk nm=some (.b ty sz ds lo))(ha:(ρ nm).a=some ⟨b,0,none⟩)(hB:cD G ⟨ρ nm,sz,ty,ds',lo⟩ [⟨b,m',ty,lo'⟩])
  (h1:⟨b,m',ty,lo'⟩∈own')(h2: ∀o∈ov,o.b≠b->o∈own'){K:Act->World->Prop}(hk:SX GB C n (dh lk dst .un) (Sx.upB bk [(nm,some (.b ty sz ds' lo))]) K){a':Act}{w':World}(rl:eO C n (Sx.put (b9 a) dst undef) own' G a' w'):K a' w':=by
 have r2:=r.upB (G':=G) (ov':=own') (w':=w') (B':= .b ty sz ds' lo) (bg.refl _) rl.h (hB.toBk J) (fun o ho=>by rw[aN.1 ho];exact h1) (fun o ho hne=>h2 o ho fun e=>hne (by rw[ha,e])) ⟨_,hb⟩;exact hk.run _ _ _ a' w' (r2.put J (jv rl))
def Iz(cs:List Value)(o:Nat)(v:Value):cP cs o [v]=cs.set o v:=rfl
def Uq{i:TI}{ag:Option Nat}{nm sz k j:Nat}{ty:TypeId}{ds ds':List DV}{lo:Bool}{d d' u:DV}(hi:dO P t=some i)(ha:i.ag=some ag)(hx:aC lk x=some (.be nm sz k j))(hb:bk nm=some (.b ty sz ds lo))(hy:evD lk y=some u)(he:ds[k]? =some d)(hl:yv ag d j u=some d')(hds:ds.set k d'=ds'):
  bm P GB C n lk bk ⟨dst, .store t x y,ty',pos,af,gd⟩ .un [(nm,some (.b ty sz ds' lo))] []:=by
 intro hd tl tb K s1 s2 hf hk;refine⟨fun ρ G ov a w r Q=>?_⟩;subst hds;have r1:=r.mono s1 s2;obtain⟨y',h1,h2⟩:=r1.evD hy;obtain⟨x',h3,b,hwb,rfl⟩:=r1.ev hx;obtain⟨B,hB,hBo⟩:=r1.row (y:= .nilFunc) hb;obtain⟨b',vs,rest,lo',e1,rfl,hv,hvs,hil,hup⟩:=hB.upd he;rw[hwb] at e1;cases e1;obtain⟨v,g1,g2⟩:=hv.get he;obtain⟨g3,g4⟩:=aL.1 g1;have hlv:=f0 vs hvs;have hle:k*sz+sz<=vs.length*sz:=by rw[<-gN];exact bX _ hil
 have hml:(aF v).length=sz:=hvs _ (aU g1)
 cases ag with
 |some q=>
  have:=tA hi ha;unfold yv at hl;split at hl
  ·rename_i l
   simp only at hl
   cases hc:(u.okc&&(Nat.beq u.cells.length q&&Nat.ble (j+q) l.length)) with
   |false=>rw[hc] at hl;cases hl
   |true=>
    rw[hc] at hl;cases hl;simp only[bZ,Nat.ble_eq] at hc;obtain⟨c1,c2,c3⟩:=hc;replace c2:=aY c2;obtain⟨c4,c5⟩:=h2.cells c1;obtain⟨m,rfl,hm⟩:=ef.1 g2;have hcl:(aF y').length=q:=by rw[c4.len,c2]
    have hmd:=hm.len;have hsz:m.length=sz:=hml;have key:=hup (.agg ⟨cP m j (aF y')⟩) (.ag (t8 l j u.cells)) (ef.2 ⟨_,J,hm.ov c4⟩) (by show(cP m j (aF y')).length=sz;rw[wN,hsz]);have hov:=BF (rest:=rest) (v':= .agg ⟨cP m j (aF y')⟩) (cs:=aF y') (j:=j) hil hvs (by rw[g4];rfl) (by omega);obtain⟨own',u1,u2,u3⟩:=f5.of_mem (cs':=cP (aH vs++rest) (k*sz+j) (aF y')) (hBo _ aZ);refine A4 h3 h1 u1 hcl (by rw[bK];omega) (dT.2 c5) hd (fun a' w' rl=>?_) a w Q ⟨r.h,r.sz,co a,r.df⟩;rw[hov] at u2;exact r.wroteRow (s2 _ _ hb) hwb key u2 u3 hk rl
  ·simp at hl
 |none=>
  have:=qz hi ha;unfold yv at hl;split at hl
  ·rename_i l
   simp only at hl
   cases hc:(u.flat&&Nat.blt j l.length) with
   |false=>rw[hc] at hl;cases hl
   |true=>
    rw[hc] at hl;cases hl;simp only[bZ,lN] at hc;obtain⟨c1,c2⟩:=hc;have hfl:=h2.flat c1;have hcl:=u7 hfl;obtain⟨m,rfl,hm⟩:=ef.1 g2;have hmd:=hm.len;have hsz:m.length=sz:=hml;have key:=hup (.agg ⟨m.set j y'⟩) (.ag (l.set j u)) (ef.2 ⟨_,J,hm.set j h2⟩) (by show(m.set j y').length=sz;rw[aW,hsz]);have hov:=BF (rest:=rest) (v':= .agg ⟨m.set j y'⟩) (cs:=[y']) (j:=j) hil hvs (by rw[g4];rfl) (by simp;omega);rw[Iz] at hov;obtain⟨own',u1,u2,u3⟩:=f5.of_mem (cs':=(aH vs++rest).set (k*sz+j) y') (hBo _ aZ);refine x5 h3 h1 u1 (by rw[bK];omega) hfl hd (fun a' w' rl=>?_) a w Q ⟨r.h,r.sz,co a,r.df⟩;rw[hov] at u2;exact r.wroteRow (s2 _ _ hb) hwb key u2 u3 hk rl
  ·rename_i hna
   simp only at hl
   cases hc:(d.flat&&(u.flat&&Nat.beq j 0)) with
   |false=>rw[hc] at hl;cases hl
   |true=>
    rw[hc] at hl;cases hl;simp only[bZ] at hc;obtain⟨c0,c1,c2⟩:=hc
    cases aY c2
    have hfl:=h2.flat c1;have hcl:=u7 hfl;have hvl:=u7 (g2.flat c0);have h1z:1=sz:=by rw[<-hml,hvl];rfl
    have key:=hup y' d' h2 (by rw[hcl,<-h1z];rfl);have hov:=BF (rest:=rest) (v':=y') (cs:=[y']) (j:=0) hil hvs (by rw[g4,hvl,hcl];rfl) (by simp;omega);rw[Iz] at hov;obtain⟨own',u1,u2,u3⟩:=f5.of_mem (cs':=(aH vs++rest).set (k*sz+0) y') (hBo _ aZ);refine x5 h3 h1 u1 (by rw[bK];omega) hfl hd (fun a' w' rl=>?_) a w Q ⟨r.h,r.sz,co a,r.df⟩;rw[hov] at u2;exact r.wroteRow (s2 _ _ hb) hwb key u2 u3 hk rl
def ju(lk:LK)(dflt:Nat):Option Operand->Option Int
 |none=>some (dflt:Nat)
 |some o=>match aC lk o with
  |some (.d (.v (.int .i64 i)))=>some i
  |_=>none
def Tm{l:List DV}{lo hi:Option Operand}{nlo nhi:Nat}[hT:cB P t e s by_](hx:evD lk x=some (.sl l))(ho:dq s l)(hlo:ju lk 0 lo=some (nlo:Int))(hhi:ju lk l.length hi=some (nhi:Int))(h1:nlo<=nhi)(h2:nhi<=l.length):
  bm P GB C n lk bk ⟨dst, .slice t x lo hi none,ty',pos,af,gd⟩ (.d (.sl ((l.take nhi).drop nlo))) [] []:= .yd fun ρ G ov a w r=>by
 obtain⟨u,h3,h4⟩:=r.evD hx;obtain⟨s',z,es,rfl,hsl,hl⟩:=gP.1 h4;have hn:=hsl.len;have hcap:=hsl.cap;have hll:=hl.len;have key: ∀mx',nhi<=mx'->mx'<=z.c->Is G (.sl ((l.take nhi).drop nlo)) (jG z.a z.n z.c nlo nhi mx' s):=by
  intro mx' hm1 hm2;rcases wC hsl hl ho with he|he
  ·subst he
   have:l=[]:=bM (by rw[<-hll];rfl);subst this;have e1:nhi=0:=by simp at h2;exact h2
   have e2:nlo=0:=by omega
   subst e1 e2;refine gP.2 ⟨s,⟨_,0,mx'⟩,[],J,⟨J,bJ _, .inl J⟩,by simpa using IsLs.nil⟩
  ·subst he
   refine gP.2 ⟨s',⟨_,_,_⟩,_,J,hsl.sub nlo nhi mx' h1 (by omega) hm1 hm2,(hl.take nhi).drop nlo⟩
 have bnd: ∀{o:Operand} {d:Nat} {i:Int},ju lk d (some o)=some i->az (b9 a) o=some (.int .i64 i):=fun{o d i} h=>by
  simp only[ju] at h;split at h<;>cases h;rename_i he;obtain⟨q,g1,g2⟩:=r.ev he;rw[cj] at g2;subst g2;exact g1
 match lo,hi,hlo,hhi with
 |none,none,hlo,hhi=>
  simp only[ju,Option.some.injEq] at hlo hhi;have e1:nlo=0:=by omega
  have e2:nhi=l.length:=by omega
  subst e1 e2;refine⟨_,key z.c (by omega) (aS _),?_⟩;intro a w0 hf hh;simp only[execOp,aP hf h3,oW];have h9:=uJ (P:=P) (t:=t) (ad:=z.a) (len:=z.n) (cap:=z.c) w0 (lo:=none) (hi:=none) (mx:=none) (l:=0) (h:=l.length) (m:=z.c) (fun w0=>by
   simp[Instr.sliceBounds,Result.andThen,run_pure];omega)
  exact cv h9
 |none,some o2,hlo,hhi=>
  simp only[ju,Option.some.injEq] at hlo;have e1:nlo=0:=by omega
  subst e1;refine⟨_,key z.c (by omega) (aS _),?_⟩;have h9:=vr (P:=P) (C:=C) (own:=ov) (G:=G) (t:=t) (dst:=dst) (ty':=ty') (pos:=pos) (af:=af) (gd:=gd) h3 (bnd hhi) (by omega) (by omega);have e9:jG z.a z.n z.c 0 nhi z.c s= .slice z.a nhi z.c:=by
   unfold jG
   cases z.a with
   |none=>simp
   |some ad=>simp[Addr.add]
  rw[e9];simpa using h9
 |some o1,none,hlo,hhi=>
  simp only[ju,Option.some.injEq] at hhi;have e2:nhi=l.length:=by omega
  subst e2;refine⟨_,key z.c (by omega) (aS _),?_⟩;have h9:=Ka (P:=P) (C:=C) (own:=ov) (G:=G) (t:=t) (dst:=dst) (ty':=ty') (pos:=pos) (af:=af) (gd:=gd) h3 (bnd hlo) (by omega) (by omega);have e9:z.n=l.length:=by omega
  rw[bT,e9] at h9;rw[e9];exact h9
 |some o1,some o2,hlo,hhi=>
  refine⟨_,key z.c (by omega) (aS _),?_⟩;have h9:=PK (P:=P) (C:=C) (own:=ov) (G:=G) (t:=t) (dst:=dst) (ty':=ty') (pos:=pos) (af:=af) (gd:=gd) h3 (bnd hlo) (bnd hhi) (by omega) (by omega) (by omega);simpa using h9
def Ls{l:List DV}{hi mx:Operand}{nhi:Nat}[hT:cB P t e s by_](hx:evD lk x=some (.sl l))(ho:dq s l)(hhi:ju lk 0 (some hi)=some (nhi:Int))(hmx:ju lk 0 (some mx)=some (nhi:Int))(h2:nhi<=l.length):
  bm P GB C n lk bk ⟨dst, .slice t x none (some hi) (some mx),ty',pos,af,gd⟩ (.ct (l.take nhi)) [] []:= .yd fun ρ G ov a w r=>by
 obtain⟨u,h3,h4⟩:=r.evD hx;obtain⟨s',z,es,rfl,hsl,hl⟩:=gP.1 h4;have hn:=hsl.len;have hcap:=hsl.cap;have hll:=hl.len;have bnd: ∀{o:Operand} {d:Nat} {i:Int},ju lk d (some o)=some i->az (b9 a) o=some (.int .i64 i):=fun{o d i} h=>by
  simp only[ju] at h;split at h<;>cases h;rename_i he;obtain⟨q,g1,g2⟩:=r.ev he;rw[cj] at g2;subst g2;exact g1
 refine⟨.slice z.a nhi nhi,⟨⟨_,_,J⟩,Ux hsl hl ho h2 (aS _) (by omega)⟩,?_⟩;have h9:=MP (P:=P) (C:=C) (own:=ov) (G:=G) (t:=t) (dst:=dst) (ty':=ty') (pos:=pos) (af:=af) (gd:=gd) h3 (bnd hhi) (bnd hmx) (by omega) (Int.le_refl _) (by omega);simpa using h9
def Kr{d:Nat}{i:TI}{z:DV}{ds ds2:List DV}[hT:cB P t e s by_][hN:mp P t'](hi:dO P e=some i)(hz:kA i=some z)(hs:Nat.beq z.cells.length s=true)(hx:aC lk x=some (.ct ds)\/(aC lk x=some .nl/\ds=[]))(ox:dq s ds)(hy:oh lk bk s y=some ds2)(hk2:dq s ds2)(hne:0<ds2.length)
  (hby:Nat.blt 0 by_=true)(hbd:(ds.length+ds2.length)*by_<=140737488355328){ds':List DV}(hds:ds++ds2=ds'):
  bm P GB C n lk bk ⟨some d, .call ⟨.builtin .append, #[x,y], #[t,t']⟩,ty',pos,af,gd⟩ (.rw d) [(d,some (.b e s ds' true))] [d]:=by
 intro hd tl tb K s1 s2 hf hk;refine⟨fun ρ G ov a w r Q=>?_⟩;subst hds;have r1:=r.mono s1 s2;obtain⟨v,hz1,hz2,hz3⟩:=ui hi hz;have cz:=((hz2 G).cells hz3).1.len;replace hs:=aY hs;rw[lN] at hby
 obtain⟨w2,us,h1,h2,h3,h4,h5,h6⟩:=AR (P:=P) r1 hy hk2;have hxs:oh lk bk s x=some ds:=by
  unfold oh;rcases hx with hx|⟨hx,rfl⟩<;>rw[hx]<;>rfl
 obtain⟨w1,vs,g1,g2,g3,g4,g5,g6⟩:=AR (P:=P) r1 hxs ox;have hc1:w1.c=w1.n:=by
  rcases hx with hx|⟨hx,rfl⟩
  ·obtain⟨y1,k1,⟨a1,n1,rfl⟩,_⟩:=r1.ev hx
   rw[k1] at g1;simp only[Option.some.injEq,Value.slice.injEq] at g1;omega
  ·obtain⟨y1,k1,k2⟩:=r1.ev hx
   cases k2
   rw[k1] at g1;simp only[Option.some.injEq,Value.slice.injEq] at g1;omega
 have hl3:=h3.len;have hl4:=g3.len;have hall: ∀v∈vs++us,(aF v).length=s:=fun v hv=>by
  rcases dK.1 hv with hv|hv
  ·exact g4 v hv
  ·exact h4 v hv
 refine BV (z:=v) (xs:=aH vs) (ys:=aH us) (ad:=w1.a) (len:=w1.n) (cap:=w1.c) g1 h1 g6 h6 (by omega) hby (by rw[g2,h2,hl3,hl4];exact hbd) hd (fun b cap' hc a' w' rl=>?_) a w Q ⟨r.h,r.sz,co a,r.df⟩;rw[<-qo] at rl;have hnd':=(bU.1 rl.h.nd).1;refine r.newRow (z:=⟨some ⟨b,0,none⟩,w1.n+w2.n,cap'⟩) (B:=[⟨b,aH (vs++us)++dw v (cap'-(w1.n+w2.n)),e,true⟩]) hf ⟨vs++us, .inr ⟨b,_,true,by simp[g2,h2],J,f0 _ hall,?_,by simpa[g2,h2] using hc⟩,g3.app h3,hall,fun _ o ho=>by rw[aN.1 ho]⟩
  (fun o ho=>by rw[aN.1 ho];exact aZ) (fun m B' hm e o ho _=>⟨aK _ ho,fun e'=>by cases e';exact hnd' o ho J⟩) hk rl
 rw[f0 _ hall,bK,rG,cz,hs,<-cK,g2,h2];congr 1;rw[g2,h2] at hc;dsimp only;omega
end
section
variable {GB:Gh} {C:aA} {n:Nat} {Q0:Exit->Act->World->Prop} {fr fr':ao} {own own':aB} {cf cf':Cf} {vc:List Prop} {ops:Array Oper} {o:Oper} {K:List Kt} {r:List Oper}
def bw(fr:ao)(cf:Cf):Option Oper:=match xC cf with
 |some (ops,o)=>bif pz ops (ba fr cf) o.guard then some o else none
 |none=>none
def C6(h:bw fr cf=some o): ∃ops,xC cf=some (ops,o)/\pz ops (ba fr cf) o.guard=true:=by
 unfold bw at h;split at h<;>try (cases h;done)
 rename_i ops o' hh
 cases hg:pz ops (ba fr cf) o'.guard with
 |false=>rw[hg] at h;cases h
 |true=>rw[hg] at h;cases h;exact⟨ops,hh,hg⟩
def us{q:Nat}{f:FX}{bl:List (Nat×Option Bk)}{nw:List Nat}(hh:bw fr cf=some o)(h:bm prog GB C n (ba fr cf) (eG fr own cf) o f bl nw)
  (hgo:bG tt n q fr own cf f bl nw=⟨vc,fr',own',cf'⟩)(hv:ah vc)(k:ak prog GB C n Q0 fr' own' cf'):ak prog GB C n Q0 fr own cf:=by
 obtain⟨ops,h1,h2⟩:=C6 hh;exact uo h1 h2 h hgo hv k
def sY(fr:ao)(cf:Cf):Option (FuncId×List DV):=match bw fr cf with
 |some ⟨_, .call ⟨.value fo,args,_⟩,_,_,_,_⟩=>ly (ba fr cf) fo args
 |_=>none
def cl[fu:Fu]{f:FuncId}{ds:List DV}{rv:DV}(ha:sY fr cf=some (f,ds))(hF:PF GB prog f ds rv)(hgo:bG tt n fu.n fr own cf (.d rv) [] []=⟨vc,fr',own',cf'⟩)(k:ak prog GB C n Q0 fr' own' cf')
  (hv:ah vc:=by first|exact trivial|(simp only[ah];kernel_rfl)|(simp only[ah];omega)|(simp only[ah,aX,aW,aV];omega)):ak prog GB C n Q0 fr own cf:=by
 unfold sY at ha;split at ha<;>try (cases ha;done)
 rename_i hh;exact us hh (yK ha hF) hgo hv k
def MB{P:Program}{lk:LK}{bk:BM}{fo:Operand}{args:Array Operand}{tys:Array TypeId}{f:FuncId}{ds:List DV}{ι:Type}{rv:ι->DV}{dst:Option Nat}{ty:TypeId}{pos:String}{af:Array Edge}(ha:ly lk fo args=some (f,ds))(hF:PX GB P f ds ι rv)(hd:bH n dst=true)
  {Q:Exit->Act->World->Prop}{ops:Array Oper}(hk: ∀x,SX GB C n (dh lk dst (.d (rv x))) bk (wpListIn (FW C.rd) 0 P ops Q r)):SX GB C n lk bk (wpListIn (FW C.rd) 0 P ops Q (⟨dst, .call ⟨.value fo,args,tys⟩,ty,pos,af,none⟩::r)):=by
 refine⟨fun ρ G ov a w rl0=>?_⟩;obtain⟨h1,h2⟩:=uK ha;obtain⟨y,hy,hy'⟩:=rl0.ev h1;rw[(bc (G:=G)).1 hy'] at hy;obtain⟨vs,h3,h4⟩:=rl0.evDs h2;have hch:=zC (n:=n) (dst:=dst) (tys:=tys) (ty':=ty) (pos:=pos) (af:=af) (gd:=none) (Φ:=fun a w=>a.defers=C.mks/\wpListIn (FW C.rd) 0 P ops Q r a w) hy h3 (hF G vs rl0.gb h4) hd (fun v G' hG hK a' w' rl=>by
  obtain⟨x,hx⟩:=hK;exact⟨rl.df,(hk x).run ρ G' ov a' w' ⟨rl0.gb.trans hG.le,rl.h,rl.sz,rl.df,(jv rl).fx (fun k g _ e=>by obtain⟨u,h5,h6⟩:=rl0.fx k g e;exact⟨u,h5,h6.up hG.le⟩) hx,
   fun nm B e=>by obtain⟨os,h5,h6⟩:=rl0.bx nm B e;exact⟨os,h5.up hG.le,h6⟩,rl0.dj,rl0.fxd⟩⟩)
 have:=fun Q=>hch a w Q ⟨rl0.h,rl0.sz,co a,rl0.df⟩;simp only[wpListIn,Region.wanted,if_true];exact x8 this fun a' w' k=>⟨k.1.trans rl0.df.symm,k.2⟩
def cx[fu:Fu]{fo:Operand}{args:Array Operand}{tys:Array TypeId}{dst:Option Nat}{ty:TypeId}{pos:String}{af:Array Edge}{f:FuncId}{ds:List DV}{ι:Type}{rv:ι->DV}{vc:ι->List Prop}{fr':ι->ao}{own':ι->aB}{cf':ι->Cf}(ha:ly (aD fr) fo args=some (f,ds))(hF:PX GB prog f ds ι rv)
  (hgo: ∀x,bG tt n fu.n fr own (.ops ops (⟨dst, .call ⟨.value fo,args,tys⟩,ty,pos,af,none⟩::r) K) (.d (rv x)) [] []=⟨vc x,fr' x,own' x,cf' x⟩)(k: ∀x,ak prog GB C n Q0 (fr' x) (own' x) (cf' x))
  (hd:bH n dst=true:=by rfl)(hv: ∀x,ah (vc x):=by intro;first|exact trivial|(simp only[ah];kernel_rfl)|(simp only[ah];omega)|(simp only[ah,aX,aW,aV];omega)):ak prog GB C n Q0 fr own (.ops ops (⟨dst, .call ⟨.value fo,args,tys⟩,ty,pos,af,none⟩::r) K):=by
 refine MB ha hF hd fun x=>?_;have h1:=hgo x;unfold bG at h1;simp only[ow,List.all_nil,hd,Bool.and_true,cond_true,lG,sU] at h1;have:=d9 (GB:=GB) (C:=C) (Q0:=Q0) h1 (hv x) (k x);show SX GB C n _ _ _;rw[<-xB];exact this
def Eg(fr:ao)(cf:Cf):Option (List DV×Int×Nat):=match bw fr cf with
 |some ⟨_, .indexAddr t x y,_,_,_,_⟩=>match evD (ba fr cf) x with
  |some (.sl l)=>match aC (ba fr cf) y with
   |some (.d (.v (.int _ i)))=>match cd tt t with
    |some ⟨.sl _ s _,_,_,_⟩=>some (l,i,s)
    |_=>none
   |_=>none
  |_=>none
 |_=>none
def K3(n q:Nat)(fr:ao)(own:aB)(cf:Cf)(d:DV)(s:Nat):th:=bif d.okc&&Nat.beq d.cells.length s then i7 d.cells fun cs=>bG tt n q fr own cf (.ep cs) [] [] else j0
def ix[fu:Fu](d:DV){l:List DV}{i:Int}{s:Nat}(h:Eg fr cf=some (l,i,s))(he:l[i.toNat]? =some d)(hgo:K3 n fu.n fr own cf d s=⟨vc,fr',own',cf'⟩)(k:ak prog GB C n Q0 fr' own' cf')(h0:0<=i:=by omega)
  (hv:ah vc:=by first|exact trivial|(simp only[ah];kernel_rfl)|(simp only[ah];omega)|(simp only[ah,aX,aW,aV];omega)):ak prog GB C n Q0 fr own cf:=by
 unfold Eg at h;split at h<;>try (cases h;done)
 rename_i hh;split at h<;>try (cases h;done)
 rename_i hx;split at h<;>try (cases h;done)
 rename_i hy;split at h<;>cases h;rename_i hT;have:=iI (dG _ _ hT) J;unfold K3 at hgo
 cases hc:(d.okc&&Nat.beq d.cells.length s) with
 |false=>simp only[hc,cond_false,j0] at hgo;cases hgo;exact absurd hv (fun x=>x)
 |true=>
  simp only[hc,cond_true,ot] at hgo;exact us hh (MV hx hy h0 he hc) hgo hv k
structure Mt where
 ds:List DV
 k:Nat
 j:Nat
 ag:Option Nat
def Kn(fr:ao)(own:aB)(cf:Cf):Option Mt:=match bw fr cf with
 |some ⟨_, .load t x,_,_,_,_⟩=>match aC (ba fr cf) x with
  |some (.be nm sz k j)=>match eG fr own cf nm with
   |some (.b _ s ds _)=>bif Nat.beq s sz then(match cd tt t with
    |some i=>match i.ag with
     |some ag=>some ⟨ds,k,j,ag⟩
     |none=>none
    |none=>none) else none
   |_=>none
  |_=>none
 |_=>none
def JG(n q:Nat)(fr:ao)(own:aB)(cf:Cf)(d:DV)(ag:Option Nat)(j:Nat):th:=bif d.okc then(match tX ag d.cells j with
 |some c=>bG tt n q fr own cf (.d c) [] []
 |none=>j0) else j0
def lb[fu:Fu](d:DV){ds:List DV}{k' j:Nat}{ag:Option Nat}(h:Kn fr own cf=some ⟨ds,k',j,ag⟩)(he:ds[k']? =some d)(hgo:JG n fu.n fr own cf d ag j=⟨vc,fr',own',cf'⟩)(k:ak prog GB C n Q0 fr' own' cf')
  (hv:ah vc:=by first|exact trivial|(simp only[ah];kernel_rfl)|(simp only[ah];omega)|(simp only[ah,aX,aW,aV];omega)):ak prog GB C n Q0 fr own cf:=by
 unfold Kn at h;split at h<;>try (cases h;done)
 rename_i hh;split at h<;>try (cases h;done)
 rename_i hx;split at h<;>try (cases h;done)
 rename_i ty s ds' lo hb;rw[cond_eq_ite] at h;split at h<;>try (cases h;done)
 rename_i hs
 cases aY hs
 split at h<;>try (cases h;done)
 rename_i hT;split at h<;>cases h;rename_i ha;unfold JG at hgo
 cases hc:d.okc with
 |false=>simp only[hc,cond_false,j0] at hgo;cases hgo;exact absurd hv (fun x=>x)
 |true=>
  simp only[hc,cond_true] at hgo
  cases hl:tX ag d.cells j with
  |none=>simp only[hl,j0] at hgo;cases hgo;exact absurd hv (fun x=>x)
  |some c=>simp only[hl] at hgo;exact us hh (N' (dG _ _ hT) ha hx hb he hc hl) hgo hv k
structure O9 where
 nm:Nat
 ty:TypeId
 s:Nat
 ds:List DV
 lo:Bool
 k:Nat
 j:Nat
 ag:Option Nat
 u:DV
def I7(fr:ao)(own:aB)(cf:Cf):Option O9:=match bw fr cf with
 |some ⟨_, .store t x y,_,_,_,_⟩=>match aC (ba fr cf) x with
  |some (.be nm sz k j)=>match eG fr own cf nm with
   |some (.b ty s ds lo)=>bif Nat.beq s sz then(match cd tt t with
    |some i=>match i.ag with
     |some ag=>match evD (ba fr cf) y with
      |some u=>some ⟨nm,ty,s,ds,lo,k,j,ag,u⟩
      |none=>none
     |none=>none
    |none=>none) else none
   |_=>none
  |_=>none
 |_=>none
def sb[fu:Fu](d:DV){nm:Nat}{ty:TypeId}{s:Nat}{ds:List DV}{lo:Bool}{k' j:Nat}{ag:Option Nat}{u d':DV}(ds':List DV)(h:I7 fr own cf=some ⟨nm,ty,s,ds,lo,k',j,ag,u⟩)(he:ds[k']? =some d)(hl:yv ag d j u=some d')(hds:ds.set k' d'=ds')
  (hgo:bG tt n fu.n fr own cf .un [(nm,some (.b ty s ds' lo))] []=⟨vc,fr',own',cf'⟩)(k:ak prog GB C n Q0 fr' own' cf')
  (hv:ah vc:=by first|exact trivial|(simp only[ah];kernel_rfl)|(simp only[ah];omega)|(simp only[ah,aX,aW,aV];omega)):ak prog GB C n Q0 fr own cf:=by
 unfold I7 at h;split at h<;>try (cases h;done)
 rename_i hh;split at h<;>try (cases h;done)
 rename_i hx;split at h<;>try (cases h;done)
 rename_i hb;rw[cond_eq_ite] at h;split at h<;>try (cases h;done)
 rename_i hs
 cases aY hs
 split at h<;>try (cases h;done)
 rename_i hT;split at h<;>try (cases h;done)
 rename_i ha;split at h<;>cases h;rename_i hy;exact us hh (Uq (dG _ _ hT) ha hx hb hy he hl hds) hgo hv k
structure Oj where
 d:Nat
 e:Nat
 s:Nat
 b:Nat
 z:DV
 l:Int
def Jz(fr:ao)(cf:Cf):Option Oj:=match bw fr cf with
 |some ⟨some d, .makeSlice t x y,_,_,_,_⟩=>match aC (ba fr cf) x with
  |some (.d (.v (.int _ l)))=>match cd tt t with
   |some ⟨.sl e s b,_,_,_⟩=>match cd tt e with
    |some i=>match kA i with
     |some z=>bif Nat.beq z.cells.length s then some ⟨d,e,s,b,z,l⟩ else none
     |none=>none
    |none=>none
   |_=>none
  |_=>none
 |_=>none
def mk[fu:Fu]{d e s b:Nat}{z:DV}{l:Int}{k':IntKind}(ds:List DV)(h:Jz fr cf=some ⟨d,e,s,b,z,l⟩)(hy:(match bw fr cf with|some ⟨_, .makeSlice _ _ y,_,_,_,_⟩=>aC (ba fr cf) y|_=>none)=some (.d (.v (.int k' l))))(hds:List.replicate l.toNat z=ds)
  (hgo:bG tt n fu.n fr own cf (.rw d) [(d,some (.b e s ds true))] [d]=⟨vc,fr',own',cf'⟩)(k:ak prog GB C n Q0 fr' own' cf')(h0:0<=l:=by omega)(hb:b*l<=140737488355328:=by omega)(hl:l<=1152921504606846976:=by omega)
  (hv:ah vc:=by first|exact trivial|(simp only[ah];kernel_rfl)|(simp only[ah];omega)|(simp only[ah,aX,aW,aV];omega)):ak prog GB C n Q0 fr own cf:=by
 unfold Jz at h;split at h<;>try (cases h;done)
 rename_i hh;split at h<;>try (cases h;done)
 rename_i hx;split at h<;>try (cases h;done)
 rename_i hT;split at h<;>try (cases h;done)
 rename_i hi;split at h<;>try (cases h;done)
 rename_i hz;rw[cond_eq_ite] at h;split at h<;>cases h;rename_i hs;rw[hh] at hy;have:=iI (dG _ _ hT) J;exact us hh (TB (dG _ _ hi) hz hs hx hy h0 hb hl hds) hgo hv k
structure Kd where
 d:Nat
 e:Nat
 s:Nat
 ds:List DV
def v6(fr:ao)(cf:Cf):Option Kd:=match bw fr cf with
 |some ⟨some d, .buildSlice t len parts,_,_,_,_⟩=>match cd tt t with
  |some ⟨.sl e s _,_,_,_⟩=>match cd tt e with
   |some i=>match kA i with
    |some z=>match qx (ba fr cf) 0 parts.toList with
     |some ds=>bif Nat.beq z.cells.length s&&(wF s ds&&(Nat.beq parts.toList.length len&&(Nat.ble (len*s) 1000&&Nat.blt 0 (len*s)))) then some ⟨d,e,s,ds⟩ else none
     |none=>none
    |none=>none
   |none=>none
  |_=>none
 |_=>none
def If{d e s:Nat}{ds:List DV}(h:v6 fr cf=some ⟨d,e,s,ds⟩): ∃o,bw fr cf=some o/\o.dst=some d/\bm prog GB C n (ba fr cf) (eG fr own cf) o (.rw d) [(d,some (.b e s ds true))] [d]:=by
 unfold v6 at h;split at h<;>try (cases h;done)
 rename_i hh;split at h<;>try (cases h;done)
 rename_i hT;split at h<;>try (cases h;done)
 rename_i hi;split at h<;>try (cases h;done)
 rename_i hz;split at h<;>try (cases h;done)
 rename_i hr;rw[cond_eq_ite] at h;split at h<;>cases h;rename_i hc;simp only[bZ] at hc;have:=iI (dG _ _ hT) J;exact⟨_,hh,J,H4 (dG _ _ hi) hz hc.1 hr hc.2.1 hc.2.2.1 hc.2.2.2.1 hc.2.2.2.2⟩
def ro[fu:Fu]{d e s:Nat}{ds:List DV}(h:v6 fr cf=some ⟨d,e,s,ds⟩)(hgo:bG tt n fu.n fr own cf (.rw d) [(d,some (.b e s ds true))] [d]=⟨vc,fr',own',cf'⟩)(k:ak prog GB C n Q0 fr' own' cf')
  (hv:ah vc:=by first|exact trivial|(simp only[ah];kernel_rfl)|(simp only[ah];omega)|(simp only[ah,aX,aW,aV];omega)):ak prog GB C n Q0 fr own cf:=by
 obtain⟨o,h1,_,h3⟩:=If (GB:=GB) (C:=C) (n:=n) (own:=own) h;exact us h1 h3 hgo hv k
def rf[fu:Fu]{d e s:Nat}{ds:List DV}(h:v6 fr cf=some ⟨d,e,s,ds⟩)(hgo:bG tt n fu.n fr own cf (.d (.sl ds)) [(d,none)] [d]=⟨vc,fr',own',cf'⟩)(k:ak prog GB C n Q0 fr' own' cf')
  (hv:ah vc:=by first|exact trivial|(simp only[ah];kernel_rfl)|(simp only[ah];omega)|(simp only[ah,aX,aW,aV];omega)):ak prog GB C n Q0 fr own cf:=by
 obtain⟨o,h1,h2,h3⟩:=If (GB:=GB) (C:=C) (n:=n) (own:=own) h;exact us h1 (h3.frzRow h2) hgo hv k
def F3(fr:ao)(cf:Cf):Option (Nat×Nat×Nat):=match bw fr cf with
 |some ⟨some d, .buildSlice t 0 ⟨[]⟩,_,_,_,_⟩=>match cd tt t with
  |some ⟨.sl e s _,_,_,_⟩=>some (d,e,s)
  |_=>none
 |_=>none
def wJ[fu:Fu]{d e s:Nat}(h:F3 fr cf=some (d,e,s))(hgo:bG tt n fu.n fr own cf (.rw d) [(d,some (.b e s [] true))] [d]=⟨vc,fr',own',cf'⟩)(k:ak prog GB C n Q0 fr' own' cf')
  (hv:ah vc:=by first|exact trivial|(simp only[ah];kernel_rfl)|(simp only[ah];omega)|(simp only[ah,aX,aW,aV];omega)):ak prog GB C n Q0 fr own cf:=by
 unfold F3 at h;split at h<;>try (cases h;done)
 rename_i hh;split at h<;>cases h;rename_i hT;have:=iI (dG _ _ hT) J;exact us hh MT hgo hv k
structure Vq where
 d:Nat
 nm:Option Nat
 e:Nat
 s:Nat
 b:Nat
 ds:List DV
 ds2:List DV
def yl(fr:ao)(own:aB)(cf:Cf):Option Vq:=match bw fr cf with
 |some ⟨some d, .call ⟨.builtin .append,⟨[x,y]⟩,⟨[t,t']⟩⟩,_,_,_,_⟩=>match cd tt t with
  |some ⟨.sl e s b,_,_,_⟩=>match cd tt t' with
   |some ⟨.sl _ _ _,_,_,_⟩=>match cd tt e with
    |some i=>match kA i with
     |some z=>bif Nat.beq z.cells.length s&&Nat.blt 0 b then(match oh (ba fr cf) (eG fr own cf) s y with
      |some ds2=>match aC (ba fr cf) x with
       |some (.rw nm)=>match eG fr own cf nm with
        |some (.b e' s' ds true)=>bif (Nat.beq e' e&&Nat.beq s' s)&&!Nat.beq nm d then some ⟨d,some nm,e,s,b,ds,ds2⟩ else none
        |_=>none
       |some (.ct ds)=>some ⟨d,none,e,s,b,ds,ds2⟩
       |some .nl=>some ⟨d,none,e,s,b,[],ds2⟩
       |_=>none
      |none=>none) else none
     |none=>none
    |none=>none
   |_=>none
  |_=>none
 |_=>none
def Jl(d:Nat)(nm:Option Nat)(B:Bk):List (Nat×Option Bk):=match nm with
 |some nm=>[(nm,none),(d,some B)]
 |none=>[(d,some B)]
def G9{d:Nat}{nm:Option Nat}{e s b:Nat}{ds ds2:List DV}(h:yl fr own cf=some ⟨d,nm,e,s,b,ds,ds2⟩)(ds':List DV)(hds:ds++ds2=ds')(ho:nm.isNone=true->dq s ds/\0<ds2.length)(ho2:dq s ds2)(hbd:(ds.length+ds2.length)*b<=140737488355328):
  ∃o,bw fr cf=some o/\o.dst=some d/\bm prog GB C n (ba fr cf) (eG fr own cf) o (.rw d) (Jl d nm (.b e s ds' true)) [d]:=by
 unfold yl at h;split at h<;>try (cases h;done)
 rename_i hh;split at h<;>try (cases h;done)
 rename_i hT;split at h<;>try (cases h;done)
 rename_i hT';split at h<;>try (cases h;done)
 rename_i hi;split at h<;>try (cases h;done)
 rename_i hz;rw[cond_eq_ite] at h;split at h<;>try (cases h;done)
 rename_i hc;simp only[bZ] at hc;split at h<;>try (cases h;done)
 rename_i hy;have:=iI (dG _ _ hT) J;have hN:mp prog _:=⟨_,(iI (dG _ _ hT') J).un⟩;refine⟨_,hh,?_⟩;split at h<;>try (cases h;done)
 ·rename_i hx
  split at h<;>try (cases h;done)
  rename_i hb;rw[cond_eq_ite] at h;split at h<;>cases h;rename_i hq;simp only[bZ,gM] at hq
  cases aY hq.1.1
  cases aY hq.1.2
  exact⟨J,M3 (dG _ _ hi) hz hc.1 hx hb hy ho2 hc.2 hbd hq.2 hds⟩
 ·rename_i hx
  cases h
  obtain⟨h1,h2⟩:=ho rfl;exact⟨J,Kr (dG _ _ hi) hz hc.1 (.inl hx) h1 hy ho2 h2 hc.2 hbd hds⟩
 ·rename_i hx
  cases h
  obtain⟨h1,h2⟩:=ho rfl;exact⟨J,Kr (dG _ _ hi) hz hc.1 (.inr ⟨hx,J⟩) h1 hy ho2 h2 hc.2 hbd hds⟩
def ap[fu:Fu]{d:Nat}{nm:Option Nat}{e s b:Nat}{ds ds2:List DV}(ds':List DV)(h:yl fr own cf=some ⟨d,nm,e,s,b,ds,ds2⟩)(hds:ds++ds2=ds')(ho2:dq s ds2)(hgo:bG tt n fu.n fr own cf (.rw d) (Jl d nm (.b e s ds' true)) [d]=⟨vc,fr',own',cf'⟩)(k:ak prog GB C n Q0 fr' own' cf')
  (ho:nm.isNone=true->dq s ds/\0<ds2.length:=by intro h;first|(cases h;done)|exact⟨yJ rfl,by simp⟩)(hbd:(ds.length+ds2.length)*b<=140737488355328:=by simp;omega)
  (hv:ah vc:=by first|exact trivial|(simp only[ah];kernel_rfl)|(simp only[ah];omega)|(simp only[ah,aX,aW,aV];omega)):ak prog GB C n Q0 fr own cf:=by
 obtain⟨o,h1,_,h3⟩:=G9 (GB:=GB) (C:=C) (n:=n) h ds' hds ho ho2 hbd;exact us h1 h3 hgo hv k
def E6(fr:ao)(cf:Cf):Option (List DV×Int×Int×Nat×Bool):=match bw fr cf with
 |some ⟨_, .slice t x lo hi mx,_,_,_,_⟩=>match evD (ba fr cf) x with
  |some (.sl l)=>match cd tt t with
   |some ⟨.sl _ s _,_,_,_⟩=>match ju (ba fr cf) 0 lo,ju (ba fr cf) l.length hi with
    |some i,some j=>match mx with
     |none=>some (l,i,j,s,false)
     |some _=>none
    |_,_=>none
   |_=>none
  |_=>none
 |_=>none
def n7[fu:Fu]{l:List DV}{i j:Int}{s:Nat}(nlo nhi:Nat)(ls:List DV)(h:E6 fr cf=some (l,i,j,s,false))(ei:i=nlo)(ej:j=nhi)(hls:(l.take nhi).drop nlo=ls)(ho:dq s l)(h1:nlo<=nhi)(h2:nhi<=l.length)
  (hgo:bG tt n fu.n fr own cf (.d (.sl ls)) [] []=⟨vc,fr',own',cf'⟩)(k:ak prog GB C n Q0 fr' own' cf')
  (hv:ah vc:=by first|exact trivial|(simp only[ah];kernel_rfl)|(simp only[ah];omega)|(simp only[ah,aX,aW,aV];omega)):ak prog GB C n Q0 fr own cf:=by
 unfold E6 at h;split at h<;>try (cases h;done)
 rename_i hh;split at h<;>try (cases h;done)
 rename_i hx;split at h<;>try (cases h;done)
 rename_i hT;split at h<;>try (cases h;done)
 rename_i hi hj;split at h<;>cases h;have:=iI (dG _ _ hT) J;subst ei ej hls;exact us hh (Tm hx ho hi hj h1 h2) hgo hv k
def D4(fr:ao)(cf:Cf):Option (List DV×Int×Int×Nat):=match bw fr cf with
 |some ⟨_, .slice t x none (some hi) (some mx),_,_,_,_⟩=>match evD (ba fr cf) x with
  |some (.sl l)=>match cd tt t with
   |some ⟨.sl _ s _,_,_,_⟩=>match ju (ba fr cf) 0 (some hi),ju (ba fr cf) 0 (some mx) with
    |some i,some j=>some (l,i,j,s)
    |_,_=>none
   |_=>none
  |_=>none
 |_=>none
def s3[fu:Fu]{l:List DV}{i j:Int}{s:Nat}(nhi:Nat)(ls:List DV)(h:D4 fr cf=some (l,i,j,s))(ei:i=nhi)(ej:j=nhi)(hls:l.take nhi=ls)(ho:dq s l)(h2:nhi<=l.length)
  (hgo:bG tt n fu.n fr own cf (.ct ls) [] []=⟨vc,fr',own',cf'⟩)(k:ak prog GB C n Q0 fr' own' cf')
  (hv:ah vc:=by first|exact trivial|(simp only[ah];kernel_rfl)|(simp only[ah];omega)|(simp only[ah,aX,aW,aV];omega)):ak prog GB C n Q0 fr own cf:=by
 unfold D4 at h;split at h<;>try (cases h;done)
 rename_i hh;split at h<;>try (cases h;done)
 rename_i hx;split at h<;>try (cases h;done)
 rename_i hT;split at h<;>cases h;rename_i hi hj;have:=iI (dG _ _ hT) J;subst ei ej hls;exact us hh (Ls hx ho hi hj h2) hgo hv k
def HC(fr:ao)(cf:Cf):Option (Nat×List DV):=match bw fr cf with
 |some ⟨some d, .box _ x,_,_,_,_⟩=>match aC (ba fr cf) x with
  |some f=>bif f.okc&&sT f d then(match gj f.cells with
   |some l=>some (d,l)
   |none=>none) else none
  |none=>none
 |_=>none
end
section
variable {GB:Gh} {C:aA} {n:Nat} {Q0:Exit->Act->World->Prop} {fr fr':ao} {own own':aB} {cf cf':Cf} {vc:List Prop} {ops:Array Oper} {o:Oper} {K:List Kt} {r:List Oper}
def Yr(x y m:Nat)(k:Option Nat):Option Nat:=bif Nat.beq m x then some y else bif Nat.beq m y then none else k
def mG(x y:Nat):FX->FX
 | .rw m=>bif Nat.beq m x then .rw y else bif Nat.beq m y then .no else .rw m
 | .ov m o=>bif Nat.beq m x then .ov y o else bif Nat.beq m y then .no else .ov m o
 | .be m s i j=>bif Nat.beq m x then .be y s i j else bif Nat.beq m y then .no else .be m s i j
 | .rs m s i j=>bif Nat.beq m x then .rs y s i j else bif Nat.beq m y then .no else .rs m s i j
 | .bx tp pre m post=>bif Nat.beq m x then .bx tp pre y post else bif Nat.beq m y then .no else .bx tp pre m post
 |f=>f
def nj(x y:Nat):Option Bk->Option Bk
 |some (.o ty cs lo)=>some (.o ty (cs.map (mG x y)) lo)
 |B=>B
def XW(x y k:Nat):Nat:=bif Nat.beq k x then y else bif Nat.beq k y then x else k
def wc{α:Type}(g:FX->FX):List FX->(List FX->α)->α
 |[],k=>k []
 |f::t,k=>wc g t fun t'=>vd (g f) fun f'=>k (f'::t')
def HK{α:Type}{g:FX->FX}: ∀{cs:List FX} {k:List FX->α},wc g cs k=k (cs.map g)
 |[],k=>rfl
 |f::t,k=>by simp only[wc,vO];rw[HK];rfl
def yg{α:Type}(g:FX->FX):ao->(ao->α)->α
 |[],k=>k []
 |(j,f)::t,k=>yg g t fun t'=>vd (g f) fun f'=>k ((j,f')::t')
def BO{α:Type}{g:FX->FX}: ∀{fr:ao} {k:ao->α},yg g fr k=k (fr.map fun e=>(e.1,g e.2))
 |[],k=>rfl
 |(j,f)::t,k=>by simp only[yg,vO];rw[BO];rfl
def xD{α:Type}(x y:Nat):aB->(aB->α)->α
 |[],k=>k []
 |(j,B)::t,k=>xD x y t fun t'=>bif Nat.beq j y then k ((x,none)::t') else match B with
  |some (.o ty cs lo)=>wc (mG x y) cs fun cs'=>bif Nat.beq j x then k ((y,some (.o ty cs' lo))::t') else k ((j,some (.o ty cs' lo))::t')
  |B=>bif Nat.beq j x then k ((y,B)::t') else k ((j,B)::t')
def yR{α:Type}{x y:Nat}: ∀{own:aB} {k:aB->α},xD x y own k=k (own.map fun e=>(bif Nat.beq e.1 y then x else bif Nat.beq e.1 x then y else e.1,bif Nat.beq e.1 y then none else nj x y e.2))
 |[],k=>rfl
 |(j,B)::t,k=>by
  simp only[xD,yR (own:=t),cZ]
  cases Nat.beq j y with
  |true=>rfl
  |false=>
   cases B with
   |none=>cases Nat.beq j x<;>rfl
   |some B=>cases B<;>cases Nat.beq j x<;>simp only[cond_false,cond_true,HK,nj]
def AB{x y:Nat}(hxy:x≠y): ∀{own:aB} {k:Nat},aG (own.map fun e=>(bif Nat.beq e.1 y then x else bif Nat.beq e.1 x then y else e.1,bif Nat.beq e.1 y then none else nj x y e.2)) k=if k=x then none else if k=y then nj x y (aG own x) else nj x y (aG own k)
 |[],k=>by simp[aG,nj]
 |(j,B)::t,k=>by
  have bq: ∀a b:Nat,Nat.beq a b=decide (a=b):=fun a b=>by
   by_cases h:a=b
   ·subst h;simp
   ·rw[decide_eq_false h]
    cases hb:Nat.beq a b with
    |false=>rfl
    |true=>exact absurd (aY hb) h
  simp only[cZ];rw[jb,AB hxy (own:=t),jb,jb];by_cases h1:j=y
  ·subst h1
   simp only[bq,decide_true,cond_true];by_cases h2:k=x
   ·simp[h2]
   ·by_cases h3:k=j
    ·subst h3;simp[h2,Ne.symm h2,hxy]
    ·simp[h2,h3]
  ·by_cases h4:j=x
   ·subst h4
    simp only[bq,h1,decide_false,cond_false,decide_true,cond_true];by_cases h2:k=y
    ·subst h2;simp[Ne.symm h1]
    ·by_cases h3:k=j
     ·subst h3;simp[h1]
     ·simp[h2,h3]
   ·simp only[bq,h1,h4,decide_false,cond_false]
    by_cases h2:k=j
    ·subst h2;simp[h1,h4]
    ·by_cases h3:k=x
     ·subst h3;simp[h2]
     ·by_cases h5:k=y
      ·subst h5;simp[h2,h3,Ne.symm h4]
      ·simp[h2,h3,h5]
def De{x y:Nat}(hxy:x≠y){ρ:NE}{G:Gh}{f:FX}{v:Value}(h:bp ρ G f v):bp (fun k=>if k=y then ρ x else ρ k) G (mG x y f) v:=by
 have key: ∀m:Nat,Nat.beq m y=false->(fun k=>if k=y then ρ x else ρ k) m=ρ m:=fun m hm=>if_neg fun e=>by subst e;simp at hm
 cases f with
 |rw m=>
  simp only[mG]
  cases hb:Nat.beq m x with
  |true=>cases aY hb;simp only[cond_true];show v=_;simp;exact h
  |false=>
   cases hb':Nat.beq m y with
   |true=>trivial
   |false=>simp only[cond_false];show v=_;rw[key m hb'];exact h
 |ov m off=>
  simp only[mG]
  cases hb:Nat.beq m x with
  |true=>cases aY hb;simp only[cond_true];obtain⟨b,h1,h2⟩:=h;exact⟨b,by simp;exact h1,h2⟩
  |false=>
   cases hb':Nat.beq m y with
   |true=>trivial
   |false=>simp only[cond_false];obtain⟨b,h1,h2⟩:=h;exact⟨b,by rw[key m hb'];exact h1,h2⟩
 |be m s i j=>
  simp only[mG]
  cases hb:Nat.beq m x with
  |true=>cases aY hb;simp only[cond_true];obtain⟨b,h1,h2⟩:=h;exact⟨b,by simp;exact h1,h2⟩
  |false=>
   cases hb':Nat.beq m y with
   |true=>trivial
   |false=>simp only[cond_false];obtain⟨b,h1,h2⟩:=h;exact⟨b,by rw[key m hb'];exact h1,h2⟩
 |rs m s i j=>
  simp only[mG]
  cases hb:Nat.beq m x with
  |true=>cases aY hb;simp only[cond_true];obtain⟨b,c,h1,h2⟩:=h;exact⟨b,c,by simp;exact h1,h2⟩
  |false=>
   cases hb':Nat.beq m y with
   |true=>trivial
   |false=>simp only[cond_false];obtain⟨b,c,h1,h2⟩:=h;exact⟨b,c,by rw[key m hb'];exact h1,h2⟩
 |bx tp pre m post=>
  simp only[mG]
  cases hb:Nat.beq m x with
  |true=>cases aY hb;simp only[cond_true];obtain⟨m1,m2,e,h1,h2⟩:=h;exact⟨m1,m2,by simpa using e,h1,h2⟩
  |false=>
   cases hb':Nat.beq m y with
   |true=>trivial
   |false=>simp only[cond_false];obtain⟨m1,m2,e,h1,h2⟩:=h;exact⟨m1,m2,by rw[key m hb'];exact e,h1,h2⟩
 |_=>exact h
def Bb{x y:Nat}(hxy:x≠y){ρ:NE}{G:Gh}: ∀{cs:List FX} {m:List Value},ce ρ G cs m->ce (fun k=>if k=y then ρ x else ρ k) G (cs.map (mG x y)) m
 |[],m,h=>h
 |f::t,m,⟨v,q,e,h1,h2⟩=>⟨v,q,e,De hxy h1,Bb hxy h2⟩
def si(x y:Nat)(fr:ao)(own:aB):Option uh:=bif Nat.beq x y then none else yg (mG x y) fr fun fr'=>xD x y own fun own'=>some ⟨fr',own'⟩
def S5{x y:Nat}{Φ:Act->World->Prop}{R:uh}(hy:Nat.blt y 2000000=true)(h:si x y fr own=some R)(hk:SX GB C n (aD R.fr) (aG R.own) Φ):SX GB C n (aD fr) (aG own) Φ:=by
 unfold si at h;rw[cond_eq_ite] at h;split at h<;>try (cases h;done)
 rename_i hb;have hxy:x≠y:=fun e=>hb (by subst e;simp);rw[BO,yR] at h;cases h;refine⟨fun ρ G ov a w r=>hk.run (fun k=>if k=y then ρ x else ρ k) G ov a w ?_⟩;have inv: ∀m B,aG (own.map fun e=>(bif Nat.beq e.1 y then x else bif Nat.beq e.1 x then y else e.1,bif Nat.beq e.1 y then none else nj x y e.2)) m=some B-> ∃m0 B0,aG own m0=some B0/\nj x y (some B0)=some B/\(m=y/\m0=x\/m≠y/\m≠x/\m0=m):=fun m B e=>by
  rw[AB hxy] at e;split at e
  ·cases e
  ·rename_i hm
   split at e
   ·cases hl:aG own x with
    |none=>rw[hl] at e;cases e
    |some B0=>rw[hl] at e;exact⟨x,B0,hl,e, .inl ⟨by assumption,J⟩⟩
   ·cases hl:aG own m with
    |none=>rw[hl] at e;cases e
    |some B0=>rw[hl] at e;exact⟨m,B0,hl,e, .inr ⟨by assumption,hm,J⟩⟩
 have rho: ∀m m0,(m=y/\m0=x\/m≠y/\m≠x/\m0=m)->(fun k=>if k=y then ρ x else ρ k) m=ρ m0:=fun m m0 h=>by
  rcases h with⟨h1,h2⟩|⟨h1,_,h2⟩
  ·subst h1 h2;simp
  ·subst h2;exact if_neg h1
 refine⟨r.gb,r.h,r.sz,r.df,fun k f e=>?_,fun m B e=>?_,fun m m' B B' e e' hne=>?_,fun m p h1 h2 e=>by
  have:y<2000000:=by simpa[lN] using hy
  show(if m=y then ρ x else ρ m).a=_;rw[if_neg (by omega)];exact r.fxd m p h1 h2 e⟩
 ·rw[x4] at e
  cases hf:aD fr k with
  |none=>rw[hf] at e;cases e
  |some g=>
   rw[hf] at e;cases e;obtain⟨v,h1,h2⟩:=r.fx k g hf;exact⟨v,h1,De hxy h2⟩
 ·obtain⟨m0,B0,h1,h2,h3⟩:=inv m B e
  obtain⟨os,h4,h5⟩:=r.bx m0 B0 h1;refine⟨os,?_,h5⟩;have hr:=rho m m0 h3
  cases B0 with
  |b=>cases h2;obtain⟨vs,q1,q2,q3,q4⟩:=h4;exact⟨vs,by rw[hr];exact q1,q2,q3,q4⟩
  |c=>cases h2;obtain⟨vs,q1,q2,q3,q4,q5⟩:=h4;exact⟨vs,by rw[hr];exact q1,q2,q3,q4,by rw[hr];exact q5⟩
  |o ty cs lo=>cases h2;obtain⟨b,q,q1,q2,q3⟩:=h4;exact⟨b,q,by rw[hr];exact q1,q2,Bb hxy q3⟩
 ·obtain⟨m0,B0,h1,_,h3⟩:=inv m B e
  obtain⟨m1,B1,h4,_,h6⟩:=inv m' B' e';have q1:=rho m m0 h3;have q2:=rho m' m1 h6;simp only at q1 q2;rw[q1,q2];refine r.dj m0 m1 B0 B1 h1 h4 fun e=>?_;rcases h3 with⟨h7,h8⟩|⟨h7,h8,h9⟩<;>rcases h6 with⟨g7,g8⟩|⟨g7,g8,g9⟩
  ·exact hne (h7.trans g7.symm)
  ·exact g8 (by rw[<-g9,<-e,h8])
  ·exact h8 (by rw[<-h9,e,g8])
  ·exact hne (by rw[<-h9,e,g9])
def fA(x y:Nat){fr1:ao}{own1:aB}{e:Exit}(h:si x y fr own=some ⟨fr1,own1⟩)(k:ak prog GB C n Q0 fr1 own1 (.ex e K))(hy:Nat.blt y 2000000=true:=by rfl):ak prog GB C n Q0 fr own (.ex e K):=S5 hy h k
def Of{d nm:Nat}(hnm:Nat.blt nm 2000000=true)(hl:aD fr d=some .nl){Φ:Act->World->Prop}{ty s:Nat}(hf:i9 [nm] none (aD fr) (aG own))(h:SX GB C n (aD ((d, .rw nm)::fr)) (aG (jg own nm (some (.b ty s [] true)))) Φ):SX GB C n (aD fr) (aG own) Φ:=by
 refine⟨fun ρ G ov a w r=>?_⟩;obtain⟨f1,f2⟩:=hf nm aZ;have hset:aG (jg own nm (some (.b ty s [] true)))=upB (aG own) [(nm,some (.b ty s [] true))]:=by funext j;rw[ru];rfl
 rw[hset] at h;refine h.run (fun k=>if k=nm then⟨none,0,0⟩ else ρ k) G ov a w ⟨r.gb,r.h,r.sz,r.df,fun k f e=>?_,fun m B e=>?_,fun m m' B B' e e' hne=>?_,fun m p h1 h2 e=>by
  have:nm<2000000:=by simpa[lN] using hnm
  show(if m=nm then(⟨none,0,0⟩:SV) else ρ m).a=_;rw[if_neg (by omega)];exact r.fxd m p h1 h2 e⟩
 ·rw[gi] at e
  split at e
  ·cases e;rename_i hk;subst hk
   obtain⟨v,h1,h2⟩:=r.fx _ _ hl;exact⟨v,h1,by rw[show v=_ from h2];show _=_;simp⟩
  ·obtain⟨v,h1,h2⟩:=r.fx k f e
   exact⟨v,h1,h2.ren fun m hm=>o6 _ fun hc=>f1 k f (by simp) e (by rw[hm,hc])⟩
 ·simp only[upB] at e
  by_cases hm:m=nm
  ·subst hm;simp only[if_true] at e;cases e
   exact⟨[],⟨[],by simp only[if_true];exact .inl ⟨J,J,J⟩, .nil,by simp,fun _ o ho=>by cases ho⟩,fun o ho=>by cases ho⟩
  ·simp only[hm,if_false] at e
   obtain⟨os,h1,h2⟩:=r.bx m B e;exact⟨os,h1.ren (if_neg hm) fun q hq=>o6 _ fun hc=>f2 m B hm e (by rw[<-hc];exact hq),h2⟩
 ·simp only[upB] at e e'
  intro b hb hb';by_cases hm:m=nm
  ·simp[hm] at hb
  ·by_cases hm':m'=nm
   ·simp[hm'] at hb'
   ·simp only[hm,hm',if_false] at e e' hb hb'
    exact r.dj m m' B B' e e' hne b hb hb'
def nr(d nm ty s:Nat){own1:aB}{c:Code}(hl:aD fr d=some .nl)(hf:ow [nm] none fr own=true)(ho:pj own nm (some (.b ty s [] true)) id=own1)(k:ak prog GB C n Q0 ((d, .rw nm)::fr) own1 (.code c K))(hnm:Nat.blt nm 2000000=true:=by rfl):ak prog GB C n Q0 fr own (.code c K):=by
 subst ho;exact Of hnm hl (tZ hf) k
def gv:List (Option DV)->Nat->List DV
 |[],_=>[]
 |some d::t,b=>d::gv t b
 |none::t,b=> .v (.pointer (some ⟨b,0,none⟩))::gv t b
def xd(lk:LK):List Operand->Option (Option Nat×List (Option DV))
 |[]=>some (none,[])
 |x::t=>match aC lk x,xd lk t with
  |some (.ov nm 0),some (none,l)=>some (some nm,none::l)
  |some f,some (q,l)=>match iG f with
   |some d=>some (q,some d::l)
   |none=>none
  |_,_=>none
def AD(lk:LK)(fo:Operand)(args:Array Operand):Option (FuncId×Nat×List (Option DV)):=match aC lk fo with
 |some (.d (.v (.func (.func f) ⟨[]⟩ ⟨[]⟩)))=>match xd lk args.toList with
  |some (some nm,l)=>some (f,nm,l)
  |_=>none
 |_=>none
def Bl{lk:LK}{bk:BM}{ρ:NE}{G:Gh}{ov:List av}{a:Act}{w:World}(r:bj GB C n lk bk ρ G ov a w){b:Nat}: ∀{x:List Operand} {q:Option Nat} {l:List (Option DV)},xd lk x=some (q,l)->(∀nm,q=some nm->(ρ nm).a=some ⟨b,0,none⟩)->
  ∃y,fI (b9 a) x=some y/\IsLs G (gv l b) y
 |[],q,l,e,_=>by cases e;exact⟨[],J, .nil⟩
 |x::t,q,l,e,hb=>by
  simp only[xd] at e;split at e
  ·rename_i nm l' h1 h2
   cases e
   obtain⟨y,h3,b',h4,rfl⟩:=r.ev h1;have:=hb nm J;rw[h4] at this;cases this;obtain⟨ys,h5,h6⟩:=Bl r (b:=b) h2 (fun nm e=>by cases e);exact⟨_::ys,by simp only[fI,h3,h5], .cons ((bc (G:=G)).2 J) h6⟩
  ·rename_i f q' l' _ h1 h2
   cases hd:iG f with
   |none=>rw[hd] at e;cases e
   |some d=>
   rw[hd] at e;cases e;obtain⟨y,h3,h4⟩:=r.ev h1;obtain⟨ys,h5,h6⟩:=Bl r (b:=b) h2 hb;exact⟨y::ys,by simp only[fI,h3,h5], .cons (lA h4 hd) h6⟩
  ·cases e
def bj.lend{lk:LK}{bk:BM}{ρ:NE}{G:Gh}{ov:List av}{a:Act}{w:World}{nm:Nat}{ty:TypeId}{cs:List FX}{lo:Bool}{csd:List DV}(r:bj GB C n lk bk ρ G ov a w)(hb:bk nm=some (.o ty cs lo))(hc:gj cs=some csd):
  ∃b m rest,(ρ nm).a=some ⟨b,0,none⟩/\IsLs G csd m/\ov.Perm ([⟨b,m,ty,lo⟩]++rest)/\ ∀o∈ov,o.b≠b->o∈rest:=by
 obtain⟨os,⟨b,m,h1,rfl,h2⟩,h3⟩:=r.bx _ _ hb;obtain⟨l1,l2,rfl⟩:=nQ (h3 _ aZ);refine⟨b,m,l1++l2,h1,od h2 hc,nL,fun o ho hne=>?_⟩;rcases dK.1 ho with ho|ho
 ·exact cW _ ho
 ·rcases aR.1 ho with rfl|ho
  ·exact absurd J hne
  ·exact fZ _ ho
def Pw{P:Program}{lk:LK}{bk:BM}{fo:Operand}{args:Array Operand}{tys:Array TypeId}{f:FuncId}{nm:Nat}{l:List (Option DV)}{rv:DV}{dst:Option Nat}{ty ty0:TypeId}{pos:String}{af:Array Edge}{gd:Option (Nat×Bool)}{cs:List FX}{csd cs':List DV}{lo:Bool}
  (ha:AD lk fo args=some (f,nm,l))(hb:bk nm=some (.o ty0 cs lo))(hc:gj cs=some csd)(hF: ∀b,PM GB P f (gv l b) b ty0 csd rv cs'){csx:List FX}(hx:cs'.map .d=csx):bm P GB C n lk bk ⟨dst, .call ⟨.value fo,args,tys⟩,ty,pos,af,gd⟩ (.d rv) [(nm,some (.o ty0 csx lo))] []:=by
 intro hd tl tb K' s1 s2 hf hk;refine⟨fun ρ G ov a w r Q=>?_⟩;subst hx;have r1:=r.mono s1 s2;unfold AD at ha;split at ha<;>try (cases ha;done)
 rename_i h1;split at ha<;>cases ha;rename_i h2;obtain⟨y,hy,hy'⟩:=r1.ev h1;rw[(bc (G:=G)).1 hy'] at hy;obtain⟨b,m,rest,h3,h4,h5,h6⟩:=r1.lend hb hc;obtain⟨vs,h7,h8⟩:=Bl r1 (b:=b) h2 (fun nm e=>by cases e;exact h3);refine Sy (M:=[⟨b,m,ty0,lo⟩]) (rest:=rest) hy h7 h5 (hF b G vs m lo r.gb h8 h4) hd (fun v css G' hG hl hK a' w' rl=>?_) a w Q ⟨r.h,r.sz,co a,r.df⟩;obtain⟨hr,m',rfl,hm'⟩:=hK;have rl':eO C n (Sx.put (b9 a) dst v) (⟨b,m',ty0,lo⟩::rest) G' a' w':=rl;have r2:=r.upB (G':=G') (ov':=⟨b,m',ty0,lo⟩::rest) (w':=w') (B':= .o ty0 (cs'.map .d) lo) (os:=[⟨b,m',ty0,lo⟩]) hG.le rl'.h ⟨b,m',h3,J,o9 hm'⟩ (fun o ho=>by rw[aN.1 ho];exact aZ)
  (fun o ho hne=>aK _ (h6 o ho fun e=>hne (by rw[h3,e]))) ⟨_,s2 _ _ hb⟩
 exact hk.run ρ G' _ a' w' (r2.put (f:= .d rv) hr (jv rl'))
structure O5 where
 f:FuncId
 nm:Nat
 l:List (Option DV)
 ty:TypeId
 cs:List DV
 lo:Bool
def GY(fr:ao)(own:aB)(cf:Cf):Option O5:=match bw fr cf with
 |some ⟨_, .call ⟨.value fo,args,_⟩,_,_,_,_⟩=>match AD (ba fr cf) fo args with
  |some (f,nm,l)=>match eG fr own cf nm with
   |some (.o ty cs lo)=>match gj cs with
    |some csd=>some ⟨f,nm,l,ty,csd,lo⟩
    |none=>none
   |_=>none
  |none=>none
 |_=>none
def tn{α:Type}:List DV->(List FX->α)->α
 |[],k=>k []
 |d::t,k=>tn t fun t'=>k (.d d::t')
def xn{α:Type}: ∀{l:List DV} {k:List FX->α},tn l k=k (l.map .d)
 |[],k=>rfl
 |d::t,k=>by simp only[tn];rw[xn];rfl
def cm[fu:Fu]{f:FuncId}{nm:Nat}{l:List (Option DV)}{ty:TypeId}{cs cs':List DV}{lo:Bool}{rv:DV}(ha:GY fr own cf=some ⟨f,nm,l,ty,cs,lo⟩)(hF: ∀b,PM GB prog f (gv l b) b ty cs rv cs')
  (hgo:(tn cs' fun csx=>bG tt n fu.n fr own cf (.d rv) [(nm,some (.o ty csx lo))] [])=⟨vc,fr',own',cf'⟩)(k:ak prog GB C n Q0 fr' own' cf')
  (hv:ah vc:=by first|exact trivial|(simp only[ah];kernel_rfl)|(simp only[ah];omega)|(simp only[ah,aX,aW,aV];omega)):ak prog GB C n Q0 fr own cf:=by
 unfold GY at ha;split at ha<;>try (cases ha;done)
 rename_i hh;split at ha<;>try (cases ha;done)
 rename_i h1;split at ha<;>try (cases ha;done)
 rename_i h2;split at ha<;>cases ha;rename_i h3;rw[xn] at hgo;exact us hh (Pw h1 h2 h3 hF J) hgo hv k
abbrev NM:Nat:=1000000
def sO:Nat->List (Option DV)->ao
 |_,[]=>[]
 |i,some v::t=>(i, .d v)::sO (i+1) t
 |i,none::t=>(i, .ov NM 0)::sO (i+1) t
def AO(b:Nat): ∀l:List (Option DV),(gv l b).length=l.length
 |[]=>rfl
 |some d::t=>by simp[gv,AO b t]
 |none::t=>by simp[gv,AO b t]
def AV{b:Nat}{ρ:NE}{G:Gh}(hρ:(ρ NM).a=some ⟨b,0,none⟩): ∀{ds:List (Option DV)} {vs:List Value} (i:Nat),IsLs G (gv ds b) vs-> ∀k f,aD (sO i ds) k=some f-> ∃y,(∃j,k=i+j/\vs[j]? =some y)/\bp ρ G f y
 |[],vs,i,h,k,f,e=>by cases e
 |some d::t,vs,i,h,k,f,e=>by
  obtain⟨y,m,rfl,h1,h2⟩:=bD.1 h;simp only[sO] at e;rw[gi] at e;split at e
  ·cases e;rename_i hk;exact⟨y,⟨0,hk,rfl⟩,h1⟩
  ·obtain⟨u,⟨j,hj,hu⟩,h3⟩:=AV hρ (i+1) h2 k f e
   exact⟨u,⟨j+1,by omega,by simpa using hu⟩,h3⟩
 |none::t,vs,i,h,k,f,e=>by
  obtain⟨y,m,rfl,h1,h2⟩:=bD.1 h;simp only[sO] at e;rw[gi] at e;split at e
  ·cases e;rename_i hk;exact⟨y,⟨0,hk,rfl⟩,b,hρ,(bc (G:=G)).1 h1⟩
  ·obtain⟨u,⟨j,hj,hu⟩,h3⟩:=AV hρ (i+1) h2 k f e
   exact⟨u,⟨j+1,by omega,by simpa using hu⟩,h3⟩
def zq(C:aA)(b:Nat)(m:List Value)(ty:TypeId)(lo:Bool)(rv:DV)(cs':List DV):Ending->World->Prop:=vw C [⟨b,m,ty,lo⟩] (fun v css G'=>Is G' rv v/\ ∃m',css=[m']/\IsLs G' cs' m')
def qI[fu:Fu]{b:Nat}{f:FuncId}{fb:Func}{c:Code}{k:Nat}{l:List (Option DV)}{cs cs':List DV}{ty:TypeId}{rv:DV}(hf:prog.funcs[f]? =some fb)(hb:fb.body=some c)(hn:(fb.name== "runtime.NumGoroutine")=false)(hm:fb.ntmps=k)(hlen:Nat.ble l.length k=true)
  (hgo:(tn cs fun csx=>go tt k fu.n [] (sO 0 l) [(NM,some (.o ty csx false))] (.code c []))=⟨vc,fr,own,cf⟩)(h: ∀C b m lo,C.mb=[b]->ak prog GB C k (en C prog fb (zq C b m ty lo rv cs')) fr own cf)
  (hv:ah vc:=by first|exact trivial|(simp only[ah];kernel_rfl)|(simp only[ah];omega)|(simp only[ah,aX,aW,aV];omega)):PM GB prog f (gv l b) b ty cs rv cs':=by
 intro G vs m lo hg hvs hm';refine rg.introR hf hb hn hm (by rw[hvs.len,AO];exact hlen) fun C _ hmb hrd hfx=>?_;intro a w rl;refine rK hrd ?_;rw[xn] at hgo;have h1:=d9 (GB:=GB) (C:=C) (Q0:=en C prog fb (zq C b m ty lo rv cs')) hgo hv (h C b m lo (by simpa using hmb));refine h1.run (fun _=>⟨some ⟨b,0,none⟩,0,0⟩) G [⟨b,m,ty,false⟩] a w ⟨hg,rl.h,rl.sz,rl.df,fun k f e=>?_,fun nm B e=>?_,fun nm nm' B B' e e' hne=>?_,fun nm p _ _ e=>by rw[hfx] at e;cases e⟩
 ·obtain⟨y,⟨j,hj,hy⟩,h2⟩:=AV (ρ:=fun _=>⟨some ⟨b,0,none⟩,0,0⟩) (b:=b) rfl 0 hvs k f e
  refine⟨y,rl.fr k y ?_,h2⟩;rw[hj];exact rX vs 0 j y hy
 ·rw[jb] at e
  split at e
  ·cases e;exact⟨[⟨b,m,ty,false⟩],⟨b,m,J,J,o9 hm'⟩,fun o ho=>ho⟩
  ·cases e
 ·rw[jb] at e e'
  split at e<;>split at e'
  ·rename_i h2 h3;exact absurd (h2.trans h3.symm) hne
  ·cases e'
  ·cases e
  ·cases e
def Gq(own:aB)(nm:Nat):Option (TypeId×List DV):=match aG own nm with
 |some (.o ty cs false)=>match gj cs with
  |some l=>some (ty,l)
  |none=>none
 |_=>none
def i5{fb:Func}{b:Nat}{m:List Value}{ty:TypeId}{lo:Bool}{ds cs1 cs':List DV}{rv:DV}(hmb:C.mb=[b])(hr:lP tt fr own fb.results.toList=some ds)(ho:Gq own NM=some (ty,cs1))(hd:kC ds=rv)(hc:cs1=cs'):
  ak prog GB C n (en C prog fb (zq C b m ty lo rv cs')) fr own (.ex .ret []):=by
 refine⟨fun ρ G ov a w r=>?_⟩;obtain⟨vs,h1,h2⟩:=uP r hr;have hk:Is G rv (eE vs):=hd▸uw h2;unfold Gq at ho;split at ho<;>try (cases ho;done)
 rename_i hb;split at ho<;>cases ho;rename_i hl;obtain⟨b',m',rest,h3,h4,h5,h6⟩:=r.lend hb hl;have hbb:b'=b:=by
  have:=(r.h.hown _ (h5.mem_iff.2 (cW _ aZ))).2.2.2 J;rw[hmb] at this;simpa using this
 subst hbb hc;exact Ts (C:=C) (n:=n) (fr:=b9 a) (own:=ov) (G:=G) (M:=[⟨b',m,ty,lo⟩]) (css:=[m']) (K:=fun v css G'=>Is G' rv v/\ ∃m',css=[m']/\IsLs G' cs1 m') h1 J ([⟨b',m',ty,false⟩]++rest) h5 (List.sublist_append_left _ _) ⟨hk,m',J,h4⟩ a w ⟨r.h,r.sz,co a,r.df⟩
end
section
variable {GB:Gh} {C:aA} {n:Nat} {fr1 fr2:ao} {own1 own2:aB} {cf1 cf2:Cf} {vc1 vc2:List Prop} {Q0:Exit->Act->World->Prop} {fr fr':ao} {own own':aB} {cf cf':Cf} {vc:List Prop} {ops:Array Oper} {o:Oper} {K:List Kt} {r:List Oper}
def Lu[fu:Fu]{f:FuncId}{fb:Func}{c:Code}{m:Nat}{ds:List DV}{ι:Type}{rv:ι->DV}(hf:prog.funcs[f]? =some fb)(hb:fb.body=some c)(hn:(fb.name== "runtime.NumGoroutine")=false)(hm:fb.ntmps=m)(hlen:Nat.ble ds.length m=true)
  (hgo:go tt m fu.n [] (ni 0 ds) [] (.code c [])=⟨vc,fr,own,cf⟩)(k: ∀C:aA,ak prog GB C m (en C prog fb (gA C (fun v G'=> ∃x,Is G' (rv x) v))) fr own cf)
  (hv:ah vc:=by first|exact trivial|(simp only[ah];kernel_rfl)|(simp only[ah];omega)|(simp only[ah,aX,aW,aV];omega)):PX GB prog f ds ι rv:=by
 intro G vs hg hvs;refine Fn.introR hf hb hn hm (by rw[hvs.len];exact hlen) fun C _ _ hrd hfx=>?_;intro a w rl;refine rK hrd ?_;have h:=d9 (GB:=GB) (C:=C) (Q0:=en C prog fb (gA C (fun v G'=> ∃x,Is G' (rv x) v))) hgo hv (k C);exact h.run (fun _=>⟨none,0,0⟩) G [] a w ⟨hg,rl.h,rl.sz,rl.df,(fun k f e=>r6 hvs rl.fr k f e),(fun nm B e=>by cases e),(fun nm nm' B B' e=>by cases e),fun nm p _ _ e=>by rw[hfx] at e;cases e⟩
def JN{fb:Func}{e:Exit}{ds:List DV}{ι:Type}{rv:ι->DV}(x:ι)(hr:lP tt fr own fb.results.toList=some ds)(hd:kC ds=rv x)(he:ue e=true:=by rfl):ak prog GB C n (en C prog fb (gA C (fun v G'=> ∃x,Is G' (rv x) v))) fr own (.ex e []):=by
 refine⟨fun ρ G ov a w r=>?_⟩;obtain⟨vs,h1,h2⟩:=uP r hr;have hk: ∃x,Is G (rv x) (eE vs):=⟨x,hd▸uw h2⟩
 cases e with
 |ret=>exact zD (C:=C) (n:=n) (fr:=b9 a) (own:=ov) (G:=G) (K:=fun v G'=> ∃x,Is G' (rv x) v) h1 hk a w ⟨r.h,r.sz,co a,r.df⟩
 |normal=>exact AJ (C:=C) (n:=n) (fr:=b9 a) (own:=ov) (G:=G) (K:=fun v G'=> ∃x,Is G' (rv x) v) h1 hk a w ⟨r.h,r.sz,co a,r.df⟩
 |_=>cases he
def csd[fu1:Fu][fu2:Fu](d:Nat){p:Prop}{hp:Decidable p}(hl:aD fr d=some (.d (.v (.bool (@decide p hp)))))(g1:go tt n fu1.n [] ((d, .tt)::fr) own (.ops ops r K)=⟨vc1,fr1,own1,cf1⟩)(g2:go tt n fu2.n [] ((d, .ff)::fr) own (.ops ops r K)=⟨vc2,fr2,own2,cf2⟩)
  (k1:p->ak prog GB C n Q0 fr1 own1 cf1)(k2: ¬p->ak prog GB C n Q0 fr2 own2 cf2)
  (v1:p->ah vc1:=by intro;first|exact trivial|(simp only[ah];omega)|(simp only[ah,aX,aW,aV];omega))(v2: ¬p->ah vc2:=by intro;first|exact trivial|(simp only[ah];omega)|(simp only[ah,aX,aW,aV];omega)):ak prog GB C n Q0 fr own (.ops ops r K):=
 kB (fu1:=fu1) (fu2:=fu2) d hl g1 g2 (fun h=>k1 (of_decide_eq_true h)) (fun h=>k2 (of_decide_eq_false h)) (fun h=>v1 (of_decide_eq_true h)) (fun h=>v2 (of_decide_eq_false h))
def JU(d:Nat)(hl:aD fr d=some .nl){c:Code}(h:ak prog GB C n Q0 ((d, .d (.sl []))::fr) own (.code c K)):ak prog GB C n Q0 fr own (.code c K):=
 kt (g:= .d (.sl [])) hl (fun ρ G y hy=>(show Is G (.sl []) y from lA (ρ:=ρ) (f:= .nl) hy J)) h
def bm.to{lk:LK}{bk:BM}{o:Oper}{f g:FX}(h:bm prog GB C n lk bk o f [] [])(e: ∀ρ G y,bp ρ G f y->bp ρ G g y):bm prog GB C n lk bk o g [] []:=fun hd tl tb Q h1 h2 hf hk=>
 h hd tl tb Q h1 h2 hf ⟨fun ρ G ov a w r=>hk.run ρ G ov a w ⟨r.gb,r.h,r.sz,r.df,fun k f' e'=>by
  cases ho:o.dst with
  |none=>exact r.fx k f' (by simpa only[ho,dh] using e')
  |some d=>
   have hr:=r.fx;simp only[ho,dh] at e' hr;by_cases q:k=d
   ·rw[if_pos q] at e';cases e'
    obtain⟨y,h3,h4⟩:=hr k f (by rw[if_pos q]);exact⟨y,h3,e _ _ _ h4⟩
   ·rw[if_neg q] at e'
    exact hr k f' (by rw[if_neg q];exact e'),r.bx,r.dj,r.fxd⟩⟩
def tv(fr:ao)(own:aB)(cf:Cf):Option (Oper×FX):=match bw fr cf with
 |some o=>match sF tt (ba fr cf) (eG fr own cf) o.dst o.op with
  |some ⟨none,f,[],[]⟩=>some (o,f)
  |_=>none
 |none=>none
def oB[fu1:Fu][fu2:Fu]{f:FX}{p:Prop}{hp:Decidable p}(hs:tv fr own cf=some (o,f))(hb:oA f=some (@decide p hp))(g1:bG tt n fu1.n fr own cf .tt [] []=⟨vc1,fr1,own1,cf1⟩)(g2:bG tt n fu2.n fr own cf .ff [] []=⟨vc2,fr2,own2,cf2⟩)
  (k1:p->ak prog GB C n Q0 fr1 own1 cf1)(k2: ¬p->ak prog GB C n Q0 fr2 own2 cf2)
  (v1:p->ah vc1:=by intro;first|exact trivial|(simp only[ah];kernel_rfl)|(simp only[ah];omega)|(simp only[ah,aX,aW,aV];omega))(v2: ¬p->ah vc2:=by intro;first|exact trivial|(simp only[ah];kernel_rfl)|(simp only[ah];omega)|(simp only[ah,aX,aW,aV];omega)):ak prog GB C n Q0 fr own cf:=by
 unfold tv at hs;split at hs<;>try (cases hs;done)
 rename_i o' hh;split at hs<;>cases hs;rename_i hc;obtain⟨dst,op,ty,pos,af,gd⟩:=o;have h0:=sS (P:=prog) (GB:=GB) (C:=C) (n:=n) (ty':=ty) (pos:=pos) (af:=af) (gd:=gd) dG hc (fun p e=>by cases e);by_cases h:p
 ·exact us hh (bm.to h0 fun ρ G y hy=>by rw[qO hy hb,decide_eq_true h];exact J) g1 (v1 h) (k1 h)
 ·exact us hh (bm.to h0 fun ρ G y hy=>by rw[qO hy hb,decide_eq_false h];exact J) g2 (v2 h) (k2 h)
def Pq{tl:LK}{tb:BM}{Ψ:Act->World->Prop}{d:Nat}{B:Bk}{f:FX}{v:DV}
  (hz: ∀lk bk ρ G ov a w,bj GB C n lk bk ρ G ov a w->bk d=some B-> ∃G' ov',bg G G'/\bh C ov' G' w/\(∀o∈ov,(ρ d).a≠some ⟨o.b,0,none⟩->o∈ov')/\ ∀y,bp ρ G f y->Is G' v y)(hk:SX GB C n (dh tl (some d) (.d v)) (Sx.upB tb [(d,none)]) Ψ):SX GB C n (dh tl (some d) f) (Sx.upB tb [(d,some B)]) Ψ:=by
 refine⟨fun ρ G ov a w r=>?_⟩;have hbd:Sx.upB tb [(d,some B)] d=some B:=by simp[Sx.upB]
 obtain⟨G',ov',h1,h2,h3,h4⟩:=hz _ _ ρ G ov a w r hbd;refine hk.run ρ G' ov' a w ⟨r.gb.trans h1,h2,r.sz,r.df,fun k g e=>?_,fun m B' e=>?_,fun m m' B1 B2 e e'=>?_,r.fxd⟩
 ·by_cases hk:k=d
  ·subst hk
   simp only[dh,if_true] at e;cases e;obtain⟨y,g1,g2⟩:=r.fx k f (by simp[dh]);exact⟨y,g1,h4 y g2⟩
  ·simp only[dh,hk,if_false] at e
   obtain⟨y,g1,g2⟩:=r.fx k g (by simp[dh,hk,e]);exact⟨y,g1,g2.up h1⟩
 ·simp only[Sx.upB] at e
  split at e
  ·cases e
  ·rename_i hm
   have e':Sx.upB tb [(d,some B)] m=some B':=by simp[Sx.upB,hm,e]
   obtain⟨os,g1,g2⟩:=r.bx m B' e';exact⟨os,g1.up h1,fun o ho=>h3 o (g2 o ho) fun hc=>r.dj m d B' B e' hbd hm _ (g1.blk ho) hc⟩
 ·simp only[Sx.upB] at e e'
  split at e
  ·cases e
  ·rename_i hm
   split at e'
   ·cases e'
   ·rename_i hm'
    exact r.dj m m' B1 B2 (by simp[Sx.upB,hm,e]) (by simp[Sx.upB,hm',e'])
def bm.frz2{lk:LK}{bk:BM}{o:Oper}{d nm:Nat}{B:Bk}{f:FX}{v:DV}(hd:o.dst=some d)(h:bm prog GB C n lk bk o f [(nm,none),(d,some B)] [d])
  (hz: ∀lk bk ρ G ov a w,bj GB C n lk bk ρ G ov a w->bk d=some B-> ∃G' ov',bg G G'/\bh C ov' G' w/\(∀o∈ov,(ρ d).a≠some ⟨o.b,0,none⟩->o∈ov')/\ ∀y,bp ρ G f y->Is G' v y):bm prog GB C n lk bk o (.d v) [(nm,none),(d,none)] [d]:=by
 intro hd' tl tb K s1 s2 hf hk;refine h hd' tl tb K s1 s2 hf ?_;rw[hd] at hk⊢;exact Pq (tb:=Sx.upB tb [(nm,none)]) hz hk
def Mk(d:Nat)(nm:Option Nat):List (Nat×Option Bk):=match nm with
 |some nm=>[(nm,none),(d,none)]
 |none=>[(d,none)]
def xX[fu:Fu]{d:Nat}{nm:Option Nat}{e s b:Nat}{ds ds2:List DV}(ds':List DV)(h:yl fr own cf=some ⟨d,nm,e,s,b,ds,ds2⟩)(hds:ds++ds2=ds')(ho2:dq s ds2)(hgo:bG tt n fu.n fr own cf (.d (.sl ds')) (Mk d nm) [d]=⟨vc,fr',own',cf'⟩)(k:ak prog GB C n Q0 fr' own' cf')
  (ho:nm.isNone=true->dq s ds/\0<ds2.length:=by intro h;first|(cases h;done)|exact⟨yJ rfl,by simp⟩)(hbd:(ds.length+ds2.length)*b<=140737488355328:=by simp;omega)
  (hv:ah vc:=by first|exact trivial|(simp only[ah];kernel_rfl)|(simp only[ah];omega)|(simp only[ah,aX,aW,aV];omega)):ak prog GB C n Q0 fr own cf:=by
 obtain⟨o,h1,h2,h3⟩:=G9 (GB:=GB) (C:=C) (n:=n) h ds' hds ho ho2 hbd
 cases nm with
 |none=>exact us h1 (h3.frzRow h2) hgo hv k
 |some nm=>exact us h1 (bm.frz2 h2 h3 fun _ _ _ _ _ _ _ r hb=>r.frzRow hb) hgo hv k
def iB[fu:Fu]{f:FX}(hs:tv fr own cf=some (o,f))(hb:oA f=some true)(hgo:bG tt n fu.n fr own cf .tt [] []=⟨vc,fr',own',cf'⟩)(k:ak prog GB C n Q0 fr' own' cf')
  (hv:ah vc:=by first|exact trivial|(simp only[ah];kernel_rfl)|(simp only[ah];omega)|(simp only[ah,aX,aW,aV];omega)):ak prog GB C n Q0 fr own cf:=by
 unfold tv at hs;split at hs<;>try (cases hs;done)
 rename_i o' hh;split at hs<;>cases hs;rename_i hc;obtain⟨dst,op,ty,pos,af,gd⟩:=o;have h0:=sS (P:=prog) (GB:=GB) (C:=C) (n:=n) (ty':=ty) (pos:=pos) (af:=af) (gd:=gd) dG hc (fun p e=>by cases e);exact us hh (bm.to h0 fun ρ G y hy=>by rw[qO hy hb];exact J) hgo hv k
def fq[fu:Fu]{f:FX}(hs:tv fr own cf=some (o,f))(hb:oA f=some false)(hgo:bG tt n fu.n fr own cf .ff [] []=⟨vc,fr',own',cf'⟩)(k:ak prog GB C n Q0 fr' own' cf')
  (hv:ah vc:=by first|exact trivial|(simp only[ah];kernel_rfl)|(simp only[ah];omega)|(simp only[ah,aX,aW,aV];omega)):ak prog GB C n Q0 fr own cf:=by
 unfold tv at hs;split at hs<;>try (cases hs;done)
 rename_i o' hh;split at hs<;>cases hs;rename_i hc;obtain⟨dst,op,ty,pos,af,gd⟩:=o;have h0:=sS (P:=prog) (GB:=GB) (C:=C) (n:=n) (ty':=ty) (pos:=pos) (af:=af) (gd:=gd) dG hc (fun p e=>by cases e);exact us hh (bm.to h0 fun ρ G y hy=>by rw[qO hy hb];exact J) hgo hv k
end
section
variable {GB:Gh} {C:aA} {n:Nat} {Q0:Exit->Act->World->Prop} {fr fr':ao} {own own':aB} {cf cf':Cf} {vc:List Prop} {ops:Array Oper} {o:Oper} {K:List Kt} {r:List Oper}
def Fw(GB:Gh)(C:aA)(n:Nat)(lk:LK)(bk:BM)(o:Oper)(ι:Type)(f:ι->FX)(bl:ι->List (Nat×Option Bk))(nw:List Nat):Prop:=
 bH n o.dst=true-> ∀(tl:LK) (tb:BM) (K:Act->World->Prop),gD lk tl->gD bk tb->i9 nw o.dst tl tb->(∀x,SX GB C n (dh tl o.dst (f x)) (Sx.upB tb (bl x)) K)->SX GB C n tl tb (fun a w=> ∀Q,o.wp prog a w K Q)
def Xb:Cf->Option (Array Oper×Oper×List Oper×List Kt)
 | .ops ops (o::r) K=>some (ops,o,r,K)
 |_=>none
def Bo(n q:Nat)(fr:ao)(own:aB)(cf:Cf)(f:FX)(bl:List (Nat×Option Bk)):th:=match cf with
 | .ops ops (o::r) K=>lG own bl fun own'=>sn fr o.dst f fun fr'=>go tt n q [] fr' own' (.ops ops r K)
 |_=>j0
def Bg(n:Nat)(fr:ao)(own:aB)(cf:Cf)(nw:List Nat):Bool:=match cf with
 | .ops ops (o::_) _=>ow nw o.dst fr own&&bH n o.dst&&pz ops (aD fr) o.guard
 |_=>false
def PH{q:Nat}{ι:Type}{f:ι->FX}{bl:ι->List (Nat×Option Bk)}{nw:List Nat}{vc:ι->List Prop}{fr':ι->ao}{own':ι->aB}{cf':ι->Cf}(hh:bw fr cf=some o)(ho:Bg n fr own cf nw=true)(h:Fw GB C n (ba fr cf) (eG fr own cf) o ι f bl nw)
  (hgo: ∀x,Bo n q fr own cf (f x) (bl x)=⟨vc x,fr' x,own' x,cf' x⟩)(hv: ∀x,ah (vc x))(k: ∀x,ak prog GB C n Q0 (fr' x) (own' x) (cf' x)):ak prog GB C n Q0 fr own cf:=by
 obtain⟨ops,h1,h2⟩:=C6 hh
 cases cf with
 |ops ops' r K=>
  cases r with
  |nil=>cases h1
  |cons o' r=>
   cases h1
   simp only[Bg,bZ] at ho;refine⟨fun ρ G ov a w rl=>?_⟩;show wpListIn _ _ _ _ _ (o::r) a w;unfold wpListIn;rw[if_pos (yr ho.2 ρ G ov a w rl)];refine x8 ((h ho.1.2 _ _ (fun a w=>a.defers=C.mks/\wpListIn (FW C.rd) 0 prog ops (cQ C.rd prog Q0 K) r a w) (gD.refl _) (gD.refl _) (tZ ho.1.1) (fun x=>?_)).run ρ G ov a w rl) fun a' w' k=>⟨k.1.trans rl.df.symm,k.2⟩;refine⟨fun ρ G ov a w r0=>⟨r0.df,SX.run (GB:=GB) (C:=C) (n:=n) ?_ ρ G ov a w r0⟩⟩;have hx:=hgo x;unfold Bo at hx;simp only[qH,sU] at hx;have:=d9 (GB:=GB) (C:=C) (Q0:=Q0) hx (hv x) (k x);show SX GB C n (dh (aD fr) o.dst (f x)) (Sx.upB (aG own) (bl x)) _;rw[<-xB,<-w6];exact this
 |_=>cases ho
def T7{lk:LK}{bk:BM}{fo:Operand}{args:Array Operand}{tys:Array TypeId}{f:FuncId}{d:Nat}{ds:List DV}{ι:Type}{ty ty0:TypeId}{pos:String}{af:Array Edge}{gd:Option (Nat×Bool)}{cs':ι->List DV}
  (ha:ly lk fo args=some (f,ds))(hF:PN GB prog f ds ty0 ι cs'):Fw GB C n lk bk ⟨some d, .call ⟨.value fo,args,tys⟩,ty,pos,af,gd⟩ ι (fun _=> .ov d 0) (fun x=>[(d,some (.o ty0 ((cs' x).map .d) true))]) [d]:=by
 intro hd tl tb K' s1 s2 hf hk;refine⟨fun ρ G ov a w r Q=>?_⟩;have r1:=r.mono s1 s2;obtain⟨h1,h2⟩:=uK ha;obtain⟨y,hy,hy'⟩:=r1.ev h1;rw[(bc (G:=G)).1 hy'] at hy;obtain⟨vs,h3,h4⟩:=r1.evDs h2;refine vm (M:=[]) (rest:=ov) hy h3 (List.Perm.refl _) (hF G vs r.gb h4) hd (fun v own1 G' hG hK a' w' rl=>?_) a w Q ⟨r.h,r.sz,co a,r.df⟩;obtain⟨x,b,m,rfl,rfl,hm⟩:=hK;have rl':eO C n (Sx.put (b9 a) (some d) (.pointer (some ⟨b,0,none⟩))) (⟨b,m,ty0,true⟩::ov) G' a' w':=by simpa[relo,gE] using rl
 have hnd:=(bU.1 rl'.h.nd).1;exact(hk x).run _ G' _ a' w' (r.new (x:=⟨some ⟨b,0,none⟩,0,0⟩) (B':= .o ty0 ((cs' x).map .d) true) (os:=[⟨b,m,ty0,true⟩]) hf hG.le rl'.h ⟨b,m,by simp,J,o9 hm⟩ (fun o ho=>by rw[aN.1 ho];exact aZ)
  (fun o ho=>aK _ ho) (fun o ho e=>by cases e;exact hnd o ho J) (f:= .ov d 0) (y:= .pointer (some ⟨b,0,none⟩)) ⟨b,by simp,J⟩ (jv rl'))
def Gk(fr:ao)(cf:Cf):Option (FuncId×List DV×Nat):=match bw fr cf with
 |some ⟨some d, .call ⟨.value fo,args,_⟩,_,_,_,_⟩=>match ly (ba fr cf) fo args with
  |some (f,ds)=>some (f,ds,d)
  |none=>none
 |_=>none
def cn[fu:Fu]{f:FuncId}{d:Nat}{ds:List DV}{ty:TypeId}{ι:Type}{cs':ι->List DV}{vc:ι->List Prop}{fr':ι->ao}{own':ι->aB}{cf':ι->Cf}(ha:Gk fr cf=some (f,ds,d))(hF:PN GB prog f ds ty ι cs')
  (hgo: ∀x,(tn (cs' x) fun csx=>Bo n fu.n fr own cf (.ov d 0) [(d,some (.o ty csx true))])=⟨vc x,fr' x,own' x,cf' x⟩)(k: ∀x,ak prog GB C n Q0 (fr' x) (own' x) (cf' x))(ho:Bg n fr own cf [d]=true:=by rfl)
  (hv: ∀x,ah (vc x):=by intro;first|exact trivial|(simp only[ah];kernel_rfl)|(simp only[ah];omega)|(simp only[ah,aX,aW,aV];omega)):ak prog GB C n Q0 fr own cf:=by
 unfold Gk at ha;split at ha<;>try (cases ha;done)
 rename_i hh;split at ha<;>cases ha;rename_i h1;simp only[xn] at hgo;exact PH hh ho (T7 h1 hF) hgo hv k
def XO(C:aA)(b:Nat)(m:List Value)(ty:TypeId)(lo:Bool)(ι:Type)(rv:ι->DV)(cs':ι->List DV):Ending->World->Prop:=vw C [⟨b,m,ty,lo⟩] (fun v css G'=> ∃x,Is G' (rv x) v/\ ∃m',css=[m']/\IsLs G' (cs' x) m')
end
section
variable {GB:Gh} {C:aA} {n:Nat} {Q0:Exit->Act->World->Prop} {fr fr':ao} {own own':aB} {cf cf':Cf} {vc:List Prop} {ops:Array Oper} {o:Oper} {K:List Kt} {r:List Oper}
def Ws(fr:ao)(cf:Cf):Option Nat:=match bw fr cf with
 |some o=>o.dst
 |none=>none
def Yt(C:aA)(b:Nat)(ty:TypeId)(s:Nat)(ty2:TypeId)(ι:Type)(rows cs':ι->List DV):Ending->World->Prop:=oc C (fun v own' G'=> ∃x w m' B,v= .slice w.a w.n w.c/\own'=⟨b,m',ty,false⟩::B/\IsLs G' (cs' x) m'/\cD G' ⟨w,s,ty2,rows x,true⟩ B/\ ∀o∈B,b≠o.b)
end
section
variable {GB:Gh} {C:aA} {n:Nat} {Q0:Exit->Act->World->Prop} {fr fr':ao} {own own':aB} {cf cf':Cf} {vc:List Prop} {ops:Array Oper} {o:Oper} {K:List Kt} {r:List Oper}
def Cc(C:aA)(ty:TypeId)(ι:Type)(cs:ι->List DV):Ending->World->Prop:=oc C (fun v own' G'=> ∃x b m,v= .pointer (some ⟨b,0,none⟩)/\own'=[⟨b,m,ty,true⟩]/\IsLs G' (cs x) m)
def O4[fu:Fu]{f:FuncId}{fb:Func}{c:Code}{m:Nat}{ds:List DV}{ty:TypeId}{ι:Type}{cs:ι->List DV}(hf:prog.funcs[f]? =some fb)(hb:fb.body=some c)(hn:(fb.name== "runtime.NumGoroutine")=false)(hm:fb.ntmps=m)(hlen:Nat.ble ds.length m=true)
  (hgo:go tt m fu.n [] (ni 0 ds) [] (.code c [])=⟨vc,fr,own,cf⟩)(k: ∀C:aA,C.mb=[]->ak prog GB C m (en C prog fb (Cc C ty ι cs)) fr own cf)
  (hv:ah vc:=by first|exact trivial|(simp only[ah];kernel_rfl)|(simp only[ah];omega)|(simp only[ah,aX,aW,aV];omega)):PN GB prog f ds ty ι cs:=by
 intro G vs hg hvs;refine j'.introR hf hb hn hm (by rw[hvs.len];exact hlen) fun C _ hmb hrd hfx=>?_;intro a w rl;refine rK hrd ?_;have h:=d9 (GB:=GB) (C:=C) (Q0:=en C prog fb (Cc C ty ι cs)) hgo hv (k C (by simpa using hmb));exact h.run (fun _=>⟨none,0,0⟩) G [] a w ⟨hg,rl.h,rl.sz,rl.df,(fun k f e=>r6 hvs rl.fr k f e),(fun nm B e=>by cases e),(fun nm nm' B B' e=>by cases e),fun nm p _ _ e=>by rw[hfx] at e;cases e⟩
def OD{fb:Func}{t d:Nat}{ty:TypeId}{ι:Type}{cs:ι->List DV}{cs1:List FX}{l:List DV}(x:ι)(hr:fb.results.toList=[.tmp t])(hl:aD fr t=some (.ov d 0))(hw:aG own d=some (.o ty cs1 true))(hc:gj cs1=some l)(hd:l=cs x):
  ak prog GB C n (en C prog fb (Cc C ty ι cs)) fr own (.ex .ret []):=by
 refine⟨fun ρ G ov a w r=>?_⟩;subst hd;obtain⟨b,m,rest,h3,h4,h5,h6⟩:=r.lend hw hc;obtain⟨y,hy,b',hb',hy'⟩:=r.ev (x:= .tmp t) (f:= .ov d 0) hl;rw[h3] at hb';cases hb';subst hy';exact Ox (C:=C) (n:=n) (fr:=b9 a) (own:=ov) (G:=G) (vs:=[.pointer (some ⟨b,0,none⟩)]) (by rw[hr];exact .tmp hy .nil) (⟨b,m,ty,true⟩::rest) [⟨b,m,ty,true⟩] (by simpa using h5) (.cons_cons _ (mV _)) (fun _=>⟨x,b,m,J,J,h4⟩) a w ⟨r.h,r.sz,co a,r.df⟩
def UY[fu:Fu]{d:Nat}{l:List DV}(h:HC fr cf=some (d,l))(hgo:bG tt n fu.n fr own cf (.d (.pt l)) [(d,none)] [d]=⟨vc,fr',own',cf'⟩)(k:ak prog GB C n Q0 fr' own' cf')
  (hv:ah vc:=by first|exact trivial|(simp only[ah];kernel_rfl)|(simp only[ah];omega)|(simp only[ah,aX,aW,aV];omega)):ak prog GB C n Q0 fr own cf:=by
 unfold HC at h;split at h<;>try (cases h;done)
 rename_i hh;split at h<;>try (cases h;done)
 rename_i g hx;rw[cond_eq_ite] at h;split at h<;>try (cases h;done)
 rename_i hc;simp only[bZ] at hc;split at h<;>cases h;rename_i hl;exact us hh (OL hx hc.1 hc.2 hl) hgo hv k
end
section
variable {GB:Gh} {C:aA} {n:Nat} {Q0:Exit->Act->World->Prop} {fr fr':ao} {own own':aB} {cf cf':Cf} {vc:List Prop} {ops:Array Oper} {o:Oper} {K:List Kt} {r:List Oper}
def iv:List (Option DV)->SV->List DV
 |[],_=>[]
 |some d::t,w=>d::iv t w
 |none::t,w=> .v (.slice w.a w.n w.c)::iv t w
def vC(lk:LK):List Operand->Option (Option Nat×List (Option DV))
 |[]=>some (none,[])
 |x::t=>match aC lk x,vC lk t with
  |some (.rw nm),some (none,l)=>some (some nm,none::l)
  |some f,some (q,l)=>match iG f with
   |some d=>some (q,some d::l)
   |none=>none
  |_,_=>none
def pi(lk:LK)(fo:Operand)(args:Array Operand):Option (FuncId×Nat×List (Option DV)):=match aC lk fo with
 |some (.d (.v (.func (.func f) ⟨[]⟩ ⟨[]⟩)))=>match vC lk args.toList with
  |some (some nm,l)=>some (f,nm,l)
  |_=>none
 |_=>none
def uN{lk:LK}{bk:BM}{ρ:NE}{G:Gh}{ov:List av}{a:Act}{w:World}(r:bj GB C n lk bk ρ G ov a w){z:SV}: ∀{x:List Operand} {q:Option Nat} {l:List (Option DV)},vC lk x=some (q,l)->(∀nm,q=some nm->ρ nm=z)->
  ∃y,fI (b9 a) x=some y/\IsLs G (iv l z) y
 |[],q,l,e,_=>by cases e;exact⟨[],J, .nil⟩
 |x::t,q,l,e,hb=>by
  simp only[vC] at e;split at e
  ·rename_i nm l' h1 h2
   cases e
   obtain⟨y,h3,h4⟩:=r.ev h1
   cases (show y=_ from h4)
   obtain⟨ys,h5,h6⟩:=uN r (z:=z) h2 (fun nm e=>by cases e);have hz:=hb nm J;subst hz;exact⟨Value.slice (ρ nm).a (ρ nm).n (ρ nm).c::ys,by simp only[fI,h3,h5], .cons ((bc (G:=G)).2 J) h6⟩
  ·rename_i f q' l' _ h1 h2
   cases hd:iG f with
   |none=>rw[hd] at e;cases e
   |some d=>
   rw[hd] at e;cases e;obtain⟨y,h3,h4⟩:=r.ev h1;obtain⟨ys,h5,h6⟩:=uN r (z:=z) h2 hb;exact⟨y::ys,by simp only[fI,h3,h5], .cons (lA h4 hd) h6⟩
  ·cases e
def NS{lk:LK}{bk:BM}{fo:Operand}{args:Array Operand}{tys:Array TypeId}{f:FuncId}{nm d:Nat}{l:List (Option DV)}{s:Nat}{ty ty0:TypeId}{pos:String}{af:Array Edge}{gd:Option (Nat×Bool)}{dsi dso pre post:List DV}{lo:Bool}(hne:Nat.beq nm d=false)
  (ha:pi lk fo args=some (f,nm,l))(hb:bk nm=some (.b ty0 s dsi lo))(hF:PB GB prog f (iv l) s ty0 dsi (fun w=> .tp (pre++ .v (.slice w.a w.n w.c)::post)) dso):bm prog GB C n lk bk ⟨some d, .call ⟨.value fo,args,tys⟩,ty,pos,af,gd⟩ (.bx true pre d post) [(nm,none),(d,some (.b ty0 s dso lo))] [d]:=by
 intro hd tl tb K' s1 s2 hf hk;refine⟨fun ρ G ov a w r Q=>?_⟩;have r1:=r.mono s1 s2;unfold pi at ha;split at ha<;>try (cases ha;done)
 rename_i h1;split at ha<;>cases ha;rename_i h2;obtain⟨y,hy,hy'⟩:=r1.ev h1;rw[(bc (G:=G)).1 hy'] at hy;obtain⟨B,g1,g2⟩:=r1.bx _ _ hb;have hB:cD G ⟨ρ nm,s,ty0,dsi,lo⟩ B:=g1;obtain⟨vs,h7,h8⟩:=uN r1 (z:=ρ nm) h2 (fun nm e=>by cases e;rfl);have hp: ∃rest,ov.Perm (B++rest)/\ ∀o∈ov,(∀o'∈B,o.b≠o'.b)->o∈rest:=by
  rcases hB with⟨vs',⟨_,_,e⟩|⟨b0,r0,lo0,_,e,_⟩,_⟩
  ·rw[e];exact⟨ov,List.Perm.refl _,fun o ho _=>ho⟩
  ·rw[e] at g2⊢
   obtain⟨l1,l2,e2⟩:=nQ (g2 _ aZ);rw[e2];refine⟨l1++l2,nL,fun o ho hno=>?_⟩;rcases dK.1 ho with ho|ho
   ·exact cW _ ho
   ·rcases aR.1 ho with rfl|ho
    ·exact absurd J (hno _ aZ)
    ·exact fZ _ ho
 obtain⟨rest,h5,h6⟩:=hp;refine vm (M:=B) (rest:=rest) hy h7 h5 (hF G (ρ nm) vs B r.gb hB.weak h8) hd (fun v own1 G' hG hK a' w' rl=>?_) a w Q ⟨r.h,r.sz,co a,r.df⟩;obtain⟨z,hr,vs',k1,k2,k3,k4⟩:=hK;have k1':=k1.relo (gE B);have e2:lo=true-> ∀o∈own1.map (relo (gE B)),o.lo=true:=fun hl o ho=>by
  obtain⟨o',_,rfl⟩:=bY.1 ho;obtain⟨_,_,_,_,hlo⟩:=hB;exact AN _ (hlo hl)
 generalize own1.map (relo (gE B))=B' at rl e2 k1';have rl':eO C n (Sx.put (b9 a) (some d) v) (B'++rest) G' a' w':=rl;have hdis:=(iQ.1 rl'.h.nd).2.2;have r2:=r.dropB nm;have hnn:nm≠d:=fun e=>by subst e;rw[qT] at hne;cases hne
 have hf2:i9 [d] (some d) tl (Sx.upB tb [(nm,none)]):=fun q hq=>by
  obtain⟨f1,f2⟩:=hf q hq;refine⟨f1,fun k B e1 e=>?_⟩;simp only[Sx.upB] at e;split at e
  ·cases e
  ·exact f2 k B e1 e
 have hsep: ∀q B0,Sx.upB tb [(nm,none)] q=some B0-> ∀o∈ov,(ρ q).a=some ⟨o.b,0,none⟩->o∈rest:=fun q B0 e o ho hbq=>by
  simp only[Sx.upB] at e;split at e
  ·cases e
  ·rename_i hqn
   refine h6 o ho fun o' ho' he=>?_;exact r.dj nm q _ _ (s2 _ _ hb) e (Ne.symm hqn) o'.b (g1.blk ho') (by rw[hbq,he])
 obtain⟨m,rfl,hm⟩:=kH.1 hr;obtain⟨m1,m2',rfl,c1,c2⟩: ∃m1 m2',m=m1++m2'/\IsLs G' pre m1/\IsLs G' (.v (.slice z.a z.n z.c)::post) m2':=IsLs.unapp hm;obtain⟨u,m2,rfl,c3,c4⟩:=bD.1 c2;rw[bc.1 c3] at rl';have r3:=r2.new' (x:=z) (B':= .b ty0 s dso lo) (os:=B') (ov':=B'++rest) (f:= .bx true pre d post) (y:= .tuple ⟨m1++Value.slice z.a z.n z.c::m2⟩) hf2 hG.le rl'.h ⟨vs',by simpa using k1',k2,k3,e2⟩ (fun o ho=>cW _ ho)
  (fun q B0 hq e o ho hbq=>⟨fZ _ (hsep q B0 e o ho hbq),fun hc=>by
   have hx: ∃o1∈B',o1.b=o.b:=by
    rcases k1' with⟨_,h,_⟩|⟨b0,rest0,lo0,h,hB,_⟩
    ·rw[show z=_ from h] at hc;cases hc
    ·rw[show z=_ from h] at hc;cases hc;exact⟨⟨_,aH vs'++rest0,_,lo0⟩,by rw[hB];exact aZ,J⟩
   obtain⟨o1,ho1,he1⟩:=hx;exact hdis o1 ho1 o (hsep q B0 e o ho hbq) he1⟩) ⟨m1,m2,by simp,c1,c4⟩ (jv rl')
 exact hk.run _ G' _ a' w' r3
structure PE where
 f:FuncId
 nm:Nat
 l:List (Option DV)
 ty:TypeId
 s:Nat
 ds:List DV
 lo:Bool
 d:Nat
def vW(fr:ao)(own:aB)(cf:Cf):Option PE:=match bw fr cf with
 |some ⟨some d, .call ⟨.value fo,args,_⟩,_,_,_,_⟩=>match pi (ba fr cf) fo args with
  |some (f,nm,l)=>match eG fr own cf nm with
   |some (.b ty s ds lo)=>bif Nat.beq nm d then none else some ⟨f,nm,l,ty,s,ds,lo,d⟩
   |_=>none
  |none=>none
 |_=>none
def cb[fu:Fu]{f:FuncId}{nm d:Nat}{l:List (Option DV)}{ty:TypeId}{s:Nat}{dsi dso pre post:List DV}{lo:Bool}(dso':List DV)(ha:vW fr own cf=some ⟨f,nm,l,ty,s,dsi,lo,d⟩)(hF:PB GB prog f (iv l) s ty dsi (fun w=> .tp (pre++ .v (.slice w.a w.n w.c)::post)) dso)(he:dso=dso')
  (hgo:bG tt n fu.n fr own cf (.bx true pre d post) [(nm,none),(d,some (.b ty s dso' lo))] [d]=⟨vc,fr',own',cf'⟩)(k:ak prog GB C n Q0 fr' own' cf')
  (hv:ah vc:=by first|exact trivial|(simp only[ah];kernel_rfl)|(simp only[ah];omega)|(simp only[ah,aX,aW,aV];omega)):ak prog GB C n Q0 fr own cf:=by
 subst he;unfold vW at ha;split at ha<;>try (cases ha;done)
 rename_i hh;split at ha<;>try (cases ha;done)
 rename_i h1;split at ha<;>try (cases ha;done)
 rename_i h2;rw[cond_eq_ite] at ha;split at ha<;>cases ha;rename_i h3;exact us hh (NS (by cases hq:Nat.beq nm d with|false=>rfl|true=>exact absurd hq h3) h1 h2 hF) hgo hv k
def sA:Nat->List (Option DV)->ao
 |_,[]=>[]
 |i,some v::t=>(i, .d v)::sA (i+1) t
 |i,none::t=>(i, .rw NM)::sA (i+1) t
def BH(w:SV): ∀l:List (Option DV),(iv l w).length=l.length
 |[]=>rfl
 |some d::t=>by simp[iv,BH w t]
 |none::t=>by simp[iv,BH w t]
def Ao{w:SV}{ρ:NE}{G:Gh}(hρ:ρ NM=w): ∀{ds:List (Option DV)} {vs:List Value} (i:Nat),IsLs G (iv ds w) vs-> ∀k f,aD (sA i ds) k=some f-> ∃y,(∃j,k=i+j/\vs[j]? =some y)/\bp ρ G f y
 |[],vs,i,h,k,f,e=>by cases e
 |some d::t,vs,i,h,k,f,e=>by
  obtain⟨y,m,rfl,h1,h2⟩:=bD.1 h;simp only[sA] at e;rw[gi] at e;split at e
  ·cases e;rename_i hk;exact⟨y,⟨0,hk,rfl⟩,h1⟩
  ·obtain⟨u,⟨j,hj,hu⟩,h3⟩:=Ao hρ (i+1) h2 k f e
   exact⟨u,⟨j+1,by omega,by simpa using hu⟩,h3⟩
 |none::t,vs,i,h,k,f,e=>by
  obtain⟨y,m,rfl,h1,h2⟩:=bD.1 h;simp only[sA] at e;rw[gi] at e;split at e
  ·cases e;rename_i hk;exact⟨y,⟨0,hk,rfl⟩,by show y=_;rw[hρ];exact bc.1 h1⟩
  ·obtain⟨u,⟨j,hj,hu⟩,h3⟩:=Ao hρ (i+1) h2 k f e
   exact⟨u,⟨j+1,by omega,by simpa using hu⟩,h3⟩
def WP(C:aA)(s:Nat)(ty:TypeId)(pre post dso:List DV):Ending->World->Prop:=oc C (fun v own' G'=> ∃w',Is G' (.tp (pre++ .v (.slice w'.a w'.n w'.c)::post)) v/\cD G' ⟨w',s,ty,dso,false⟩ own')
def QA{B:List av}{G:Gh}{w:SV}{s:Nat}{ty:TypeId}{ds:List DV}{lo:Bool}{ov:List av}(h:cD G ⟨w,s,ty,ds,lo⟩ B)(g: ∀o∈B,o∈ov): ∃rest,ov.Perm (B++rest):=by
 rcases h with⟨vs',⟨_,_,e⟩|⟨b0,r0,lo0,_,e,_⟩,_⟩
 ·rw[e];exact⟨ov,List.Perm.refl _⟩
 ·rw[e] at g⊢
  obtain⟨l1,l2,e2⟩:=nQ (g _ aZ);rw[e2];exact⟨l1++l2,nL⟩
def KO(lk:LK):List Operand->Option (List (Option DV))
 |[]=>some []
 |x::t=>match aC lk x,KO lk t with
  |some .nl,some l=>some (none::l)
  |some f,some l=>match iG f with
   |some d=>some (some d::l)
   |none=>none
  |_,_=>none
def TY(lk:LK)(fo:Operand)(args:Array Operand):Option (FuncId×List (Option DV)):=match aC lk fo with
 |some (.d (.v (.func (.func f) ⟨[]⟩ ⟨[]⟩)))=>match KO lk args.toList with
  |some l=>some (f,l)
  |_=>none
 |_=>none
def Yy(fr:ao)(cf:Cf):Option (FuncId×List (Option DV)×Nat):=match bw fr cf with
 |some ⟨some d, .call ⟨.value fo,args,_⟩,_,_,_,_⟩=>match TY (ba fr cf) fo args with
  |some (f,l)=>some (f,l,d)
  |none=>none
 |_=>none
end
section
variable {P:Program} {C:aA} {n:Nat} {fr:Fr} {own own':List av} {G:Gh} {Φ:Act->World->Prop}
variable {dst:Option Nat} {t t' ty':TypeId} {pos:String} {af:Array Edge} {gd:Option (Nat×Bool)} {x y:Operand} {e s by_:Nat}
def VO(G:Gh)(ov:List av):Gh:=fun b=>match G b with
 |some cs=>some cs
 |none=>(ov.find? fun o=>Nat.beq o.b b).map (·.cs)
end
def DV.np:DV->Bool
 | .v _=>true
 | .tp l=>l.all fun d=>match d with
  | .v _=>true
  |_=>false
 |_=>false
section
variable {GB:Gh} {C:aA} {n:Nat} {Q0:Exit->Act->World->Prop} {fr fr':ao} {own own':aB} {cf cf':Cf} {vc:List Prop} {lk:LK} {bk:BM} {ρ:NE} {G:Gh} {ov:List av} {a:Act} {w:World}
variable {dst:Option Nat} {t t' ty':TypeId} {pos:String} {af:Array Edge} {gd:Option (Nat×Bool)} {x y:Operand} {e s by_:Nat}
def MQ:Option Bk->Option (List DV)
 |some (.b _ _ ds _)=>some ds
 |some (.c _ _ ds _)=>some ds
 |_=>none
def Vw(lk:LK)(bk:BM)(x:Operand):Option DV:=match aC lk x with
 |some (.rw nm)=>match MQ (bk nm) with
  |some ds=>some (.sl ds)
  |none=>none
 |some f=>iG f
 |none=>none
def Gs(lk:LK)(bk:BM):List Operand->Option (List DV)
 |[]=>some []
 |x::t=>match Vw lk bk x,Gs lk bk t with
  |some d,some l=>some (d::l)
  |_,_=>none
def NX(lk:LK)(bk:BM)(fo:Operand)(args:Array Operand):Option (FuncId×List DV):=match aC lk fo with
 |some (.d (.v (.func (.func f) ⟨[]⟩ ⟨[]⟩)))=>match Gs lk bk args.toList with
  |some ds=>some (f,ds)
  |none=>none
 |_=>none
def Xn(fr:ao)(own:aB)(cf:Cf):Option (FuncId×List DV):=match bw fr cf with
 |some ⟨_, .call ⟨.value fo,args,_⟩,_,_,_,_⟩=>NX (ba fr cf) (eG fr own cf) fo args
 |_=>none
end
section
variable {GB:Gh} {C:aA} {n:Nat} {Q0:Exit->Act->World->Prop} {fr fr':ao} {own own':aB} {cf cf':Cf} {vc:List Prop}
structure Qw where
 d:Nat
 nm:Nat
 e:Nat
 s:Nat
 ds:List DV
 ds2:List DV
 cap:Nat
def Xz(fr:ao)(own:aB)(cf:Cf):Option Qw:=match bw fr cf with
 |some ⟨some d, .call ⟨.builtin .append,⟨[x,y]⟩,⟨[t,t']⟩⟩,_,_,_,_⟩=>match cd tt t,cd tt t' with
  |some ⟨.sl e s _,_,_,_⟩,some ⟨.sl _ _ _,_,_,_⟩=>match aC (ba fr cf) x with
   |some (.rw nm)=>match eG fr own cf nm,oh (ba fr cf) (eG fr own cf) s y with
    |some (.c e' s' ds cap),some ds2=>bif (Nat.beq e' e&&Nat.beq s' s)&&!Nat.beq nm d then some ⟨d,nm,e,s,ds,ds2,cap⟩ else none
    |_,_=>none
   |_=>none
  |_,_=>none
 |_=>none
def PI(GB:Gh)(P:Program)(f:FuncId)(i:Int)(s:Nat)(ty ty2:TypeId)(ds:List DV)(x:DV)(cap:Nat)(dso:List DV):Prop:=
 ∀G w w2 B B2,bg GB G->cD G ⟨w,s,ty,ds,false⟩ B->cap<=w.c->cD G ⟨w2,s,ty2,[x],false⟩ B2->j' P f [.slice w.a w.n w.c, .int .i64 i, .slice w2.a w2.n w2.c] (B++B2) G fun v own' G'=> ∃w',v= .slice w'.a w'.n w'.c/\cD G' ⟨w',s,ty,dso,false⟩ own'
structure NU where
 f:FuncId
 nm:Nat
 nm2:Nat
 i:Int
 ty:TypeId
 ty2:TypeId
 s:Nat
 ds:List DV
 x:DV
 cap:Nat
 d:Nat
def Wg(fr:ao)(own:aB)(cf:Cf):Option NU:=match bw fr cf with
 |some ⟨some d, .call ⟨.value fo,⟨[x1,x2,x3]⟩,_⟩,_,_,_,_⟩=>match aC (ba fr cf) fo,aC (ba fr cf) x1 with
  |some (.d (.v (.func (.func f) ⟨[]⟩ ⟨[]⟩))),some (.rw nm)=>match aC (ba fr cf) x2,aC (ba fr cf) x3 with
   |some (.d (.v (.int .i64 i))),some (.rw nm2)=>match eG fr own cf nm,eG fr own cf nm2 with
    |some (.c ty s ds cap),some (.b ty2 s2 [x] true)=>bif (!Nat.beq nm d&&!Nat.beq nm2 d)&&(!Nat.beq nm nm2&&(Nat.beq s2 s&&Nat.blt 0 cap)) then some ⟨f,nm,nm2,i,ty,ty2,s,ds,x,cap,d⟩ else none
    |_,_=>none
   |_,_=>none
  |_,_=>none
 |_=>none
def ke(d:Nat){ops:Array Oper}{r:List Oper}{K:List Kt}(hl:aD fr d=some (.d (.v (.bool true))))(k:ak prog GB C n Q0 ((d, .tt)::fr) own (.ops ops r K)):ak prog GB C n Q0 fr own (.ops ops r K):=kt (g:= .tt) hl (fun _ G _ e=>(bc (G:=G)).1 e) k
def qE(d:Nat){ops:Array Oper}{r:List Oper}{K:List Kt}(hl:aD fr d=some (.d (.v (.bool false))))(k:ak prog GB C n Q0 ((d, .ff)::fr) own (.ops ops r K)):ak prog GB C n Q0 fr own (.ops ops r K):=kt (g:= .ff) hl (fun _ G _ e=>(bc (G:=G)).1 e) k
end
end Go.Sx
end
