import Derived.Test.YtefoocgiaegobaaGreatDoorPd5
set_option linter.all false
set_option maxRecDepth 100000
section
namespace Go.Sx
open Go Go.Proofs Tryz
section
variable {P:Program} {T:TT} {GB:Gh} {C:aC} {n:Nat} {lk:LK} {bk:BM} {ρ:NE} {G:Gh} {ov:List ao} {a:Act} {w:World}
variable {dst:Option Nat} {t t' ty':TypeId} {pos:String} {af:Array Edge} {gd:Option (Nat×Bool)} {x y:Operand} {e s by_:Nat}
def El{vs:List Value}{rest cs:List Value}{i sz j:Nat}{v':Value}(hil:i<vs.length)(hvs: ∀v∈vs,(aD v).length=sz)(hv':aD v'=cj (aD vs[i]) j cs)(hj:j+cs.length<=sz):cj (aF vs++rest) (i*sz+j) cs=aF (vs.set i v')++rest:=by
 have hm:(aD vs[i]).length=sz:=hvs _ (cV hil);have hl':(aD v').length=sz:=by rw[hv',w4,hm]
 rw[<-RA (rest:=rest) (u:=v') vs i hil hvs hl',hv'];have hlv:=ew vs hvs;have hle:i*sz+sz<=vs.length*sz:=by rw[<-gK];exact bV _ hil
 generalize hmm:aD vs[i]=m at*;have hX:aF vs++rest=(aF vs).take (i*sz)++(m++((aF vs).drop (i*sz+sz)++rest)):=by
  have t1:=GS (rest:=rest) hvs hil;rw[hmm] at t1;obtain⟨_,t2⟩:=zd t1;have t3:m=((aF vs).drop (i*sz)).take sz:=by
   have:m=((aF vs++rest).drop (i*sz)).take sz:=t2;rw[this,jN (by omega),fS (by rw[gL];omega)]
  rw[t3]
  conv=>lhs;rw[<-lU (i*sz) (aF vs),<-lU sz ((aF vs).drop (i*sz)),List.drop_drop]
  simp[dY]
 have hP:((aF vs).take (i*sz)).length=i*sz:=by rw[cJ];omega
 generalize (aF vs).take (i*sz)=A at hX hP;generalize (aF vs).drop (i*sz+sz)++rest=Z at hX;rw[hX,<-hP,Ny A m Z (cj m j cs) (by rw[w4])];rw[oF _ m j (by omega),oF _ _ _ (by simp only[aY];omega)];rw[List.take_append,aU (by omega),Nat.add_sub_cancel_left,fS (by omega)];rw[mU,gN (by omega),cY,show A.length+j+cs.length-A.length=j+cs.length by omega,jN (by omega)];simp[dY]
def Ci(ag:Option Nat)(d:DV)(j:Nat)(u:DV):Option DV:=match d with
 | .ag l=>match ag with
  |some k=>bif u.okc&&(Nat.beq u.cells.length k&&Nat.ble (j+k) l.length) then some (.ag (x6 l j u.cells)) else none
  |none=>bif u.flat&&Nat.blt j l.length then some (.ag (l.set j u)) else none
 |d=>match ag with
  |some _=>none
  |none=>bif d.flat&&(u.flat&&Nat.beq j 0) then some u else none
def bE.wroteRow{nm b:Nat}{ty:TypeId}{sz:Nat}{ds ds':List DV}{lo lo':Bool}{m':List Value}{own':List ao}(r:bE GB C n lk bk ρ G ov a w)(hb:bk nm=some (.b ty sz ds lo))(ha:(ρ nm).a=some ⟨b,0,none⟩)(hB:dk G ⟨ρ nm,sz,ty,ds',lo⟩ [⟨b,m',ty,lo'⟩])
  (h1:⟨b,m',ty,lo'⟩∈own')(h2: ∀o∈ov,o.b≠b->o∈own'){K:Act->World->Prop}(hk:SX GB C n (dP lk dst .un) (Sx.upB bk [(nm,some (.b ty sz ds' lo))]) K){a':Act}{w':World}(rl:fC C n (Sx.put (cg a) dst undef) own' G a' w'):K a' w':=by
 have r2:=r.upB (G':=G) (ov':=own') (w':=w') (B':= .b ty sz ds' lo) (bz.refl _) rl.h (hB.toBk J) (fun o ho=>by rw[aV.1 ho];exact h1) (fun o ho hne=>h2 o ho fun e=>hne (by rw[ha,e])) ⟨_,hb⟩;exact hk.run _ _ _ a' w' (r2.put J (jt rl))
def Mm(cs:List Value)(o:Nat)(v:Value):cj cs o [v]=cs.set o v:=rfl
def aCh{i:TI}{ag:Option Nat}{nm sz k j:Nat}{ty:TypeId}{ds ds':List DV}{lo:Bool}{d d' u:DV}(hi:eE P t=some i)(ha:i.ag=some ag)(hx:aO lk x=some (.be nm sz k j))(hb:bk nm=some (.b ty sz ds lo))(hy:evD lk y=some u)(he:ds[k]? =some d)(hl:Ci ag d j u=some d')(hds:ds.set k d'=ds'):
  bO P GB C n lk bk ⟨dst, .store t x y,ty',pos,af,gd⟩ .un [(nm,some (.b ty sz ds' lo))] []:=by
 intro hd tl tb K s1 s2 hf hk;refine⟨fun ρ G ov a w r Q=>?_⟩;subst hds;have r1:=r.mono s1 s2;obtain⟨y',h1,h2⟩:=r1.evD hy;obtain⟨x',h3,b,hwb,rfl⟩:=r1.ev hx;obtain⟨B,hB,hBo⟩:=r1.row (y:= .nilFunc) hb;obtain⟨b',vs,rest,lo',e1,rfl,hv,hvs,hil,hup⟩:=hB.upd he;rw[hwb] at e1;cases e1;obtain⟨v,g1,g2⟩:=hv.get he;obtain⟨g3,g4⟩:=aM.1 g1;have hlv:=ew vs hvs;have hle:k*sz+sz<=vs.length*sz:=by rw[<-gK];exact bV _ hil
 have hml:(aD v).length=sz:=hvs _ (bZ g1)
 cases ag with
 |some q=>
  have:=vy hi ha;unfold Ci at hl;split at hl
  ·rename_i l
   simp only at hl
   cases hc:(u.okc&&(Nat.beq u.cells.length q&&Nat.ble (j+q) l.length)) with
   |false=>rw[hc] at hl;cases hl
   |true=>
    rw[hc] at hl;cases hl;simp only[aN,Nat.ble_eq] at hc;obtain⟨c1,c2,c3⟩:=hc;replace c2:=aR c2;obtain⟨c4,c5⟩:=h2.cells c1;obtain⟨m,rfl,hm⟩:=dG.1 g2;have hcl:(aD y').length=q:=by rw[c4.len,c2]
    have hmd:=hm.len;have hsz:m.length=sz:=hml;have key:=hup (.agg ⟨cj m j (aD y')⟩) (.ag (x6 l j u.cells)) (dG.2 ⟨_,J,hm.ov c4⟩) (by show(cj m j (aD y')).length=sz;rw[w4,hsz]);have hov:=El (rest:=rest) (v':= .agg ⟨cj m j (aD y')⟩) (cs:=aD y') (j:=j) hil hvs (by rw[g4];rfl) (by omega);obtain⟨own',u1,u2,u3⟩:=ig.of_mem (cs':=cj (aF vs++rest) (k*sz+j) (aD y')) (hBo _ aQ);refine Cs h3 h1 u1 hcl (by rw[aY];omega) (eK.2 c5) hd (fun a' w' rl=>?_) a w Q ⟨r.h,r.sz,cB a,r.df⟩;rw[hov] at u2;exact r.wroteRow (s2 _ _ hb) hwb key u2 u3 hk rl
  ·simp at hl
 |none=>
  have:=vo hi ha;unfold Ci at hl;split at hl
  ·rename_i l
   simp only at hl
   cases hc:(u.flat&&Nat.blt j l.length) with
   |false=>rw[hc] at hl;cases hl
   |true=>
    rw[hc] at hl;cases hl;simp only[aN,mK] at hc;obtain⟨c1,c2⟩:=hc;have hfl:=h2.flat c1;have hcl:=ze hfl;obtain⟨m,rfl,hm⟩:=dG.1 g2;have hmd:=hm.len;have hsz:m.length=sz:=hml;have key:=hup (.agg ⟨m.set j y'⟩) (.ag (l.set j u)) (dG.2 ⟨_,J,hm.set j h2⟩) (by show(m.set j y').length=sz;rw[aS,hsz]);have hov:=El (rest:=rest) (v':= .agg ⟨m.set j y'⟩) (cs:=[y']) (j:=j) hil hvs (by rw[g4];rfl) (by simp;omega);rw[Mm] at hov;obtain⟨own',u1,u2,u3⟩:=ig.of_mem (cs':=(aF vs++rest).set (k*sz+j) y') (hBo _ aQ);refine uO h3 h1 u1 (by rw[aY];omega) hfl hd (fun a' w' rl=>?_) a w Q ⟨r.h,r.sz,cB a,r.df⟩;rw[hov] at u2;exact r.wroteRow (s2 _ _ hb) hwb key u2 u3 hk rl
  ·rename_i hna
   simp only at hl
   cases hc:(d.flat&&(u.flat&&Nat.beq j 0)) with
   |false=>rw[hc] at hl;cases hl
   |true=>
    rw[hc] at hl;cases hl;simp only[aN] at hc;obtain⟨c0,c1,c2⟩:=hc
    cases aR c2
    have hfl:=h2.flat c1;have hcl:=ze hfl;have hvl:=ze (g2.flat c0);have h1z:1=sz:=by rw[<-hml,hvl];rfl
    have key:=hup y' d' h2 (by rw[hcl,<-h1z];rfl);have hov:=El (rest:=rest) (v':=y') (cs:=[y']) (j:=0) hil hvs (by rw[g4,hvl,hcl];rfl) (by simp;omega);rw[Mm] at hov;obtain⟨own',u1,u2,u3⟩:=ig.of_mem (cs':=(aF vs++rest).set (k*sz+0) y') (hBo _ aQ);refine uO h3 h1 u1 (by rw[aY];omega) hfl hd (fun a' w' rl=>?_) a w Q ⟨r.h,r.sz,cB a,r.df⟩;rw[hov] at u2;exact r.wroteRow (s2 _ _ hb) hwb key u2 u3 hk rl
def lO(lk:LK)(dflt:Nat):Option Operand->Option Int
 |none=>some (dflt:Nat)
 |some o=>match aO lk o with
  |some (.d (.v (.int .i64 i)))=>some i
  |_=>none
def Vm{l:List DV}{lo hi:Option Operand}{nlo nhi:Nat}[hT:co P t e s by_](hx:evD lk x=some (.sl l))(ho:cC s l)(hlo:lO lk 0 lo=some (nlo:Int))(hhi:lO lk l.length hi=some (nhi:Int))(h1:nlo<=nhi)(h2:nhi<=l.length):
  bO P GB C n lk bk ⟨dst, .slice t x lo hi none,ty',pos,af,gd⟩ (.d (.sl ((l.take nhi).drop nlo))) [] []:= .yd fun ρ G ov a w r=>by
 obtain⟨u,h3,h4⟩:=r.evD hx;obtain⟨s',z,es,rfl,hsl,hl⟩:=jn.1 h4;have hn:=hsl.len;have hcap:=hsl.cap;have hll:=hl.len;have key: ∀mx',nhi<=mx'->mx'<=z.c->Is G (.sl ((l.take nhi).drop nlo)) (ma z.a z.n z.c nlo nhi mx' s):=by
  intro mx' hm1 hm2;rcases CM hsl hl ho with he|he
  ·subst he
   have:l=[]:=bK (by rw[<-hll];rfl);subst this;have e1:nhi=0:=by simp at h2;exact h2
   have e2:nlo=0:=by omega
   subst e1 e2;refine jn.2 ⟨s,⟨_,0,mx'⟩,[],J,⟨J,bQ _, .inl J⟩,by simpa using IsLs.nil⟩
  ·subst he
   refine jn.2 ⟨s',⟨_,_,_⟩,_,J,hsl.sub nlo nhi mx' h1 (by omega) hm1 hm2,(hl.take nhi).drop nlo⟩
 have bnd: ∀{o:Operand} {d:Nat} {i:Int},lO lk d (some o)=some i->aw (cg a) o=some (.int .i64 i):=fun{o d i} h=>by
  simp only[lO] at h;split at h<;>cases h;rename_i he;obtain⟨q,g1,g2⟩:=r.ev he;rw[dh] at g2;subst g2;exact g1
 match lo,hi,hlo,hhi with
 |none,none,hlo,hhi=>
  simp only[lO,Option.some.injEq] at hlo hhi;have e1:nlo=0:=by omega
  have e2:nhi=l.length:=by omega
  subst e1 e2;refine⟨_,key z.c (by omega) (aL _),?_⟩;intro a w0 hf hh;simp only[execOp,bi hf h3,qX];have h9:=Ae (P:=P) (t:=t) (ad:=z.a) (len:=z.n) (cap:=z.c) w0 (lo:=none) (hi:=none) (mx:=none) (l:=0) (h:=l.length) (m:=z.c) (fun w0=>by
   simp[Instr.sliceBounds,Result.andThen,run_pure];omega)
  exact cA h9
 |none,some o2,hlo,hhi=>
  simp only[lO,Option.some.injEq] at hlo;have e1:nlo=0:=by omega
  subst e1;refine⟨_,key z.c (by omega) (aL _),?_⟩;have h9:=Au (P:=P) (C:=C) (own:=ov) (G:=G) (t:=t) (dst:=dst) (ty':=ty') (pos:=pos) (af:=af) (gd:=gd) h3 (bnd hhi) (by omega) (by omega);have e9:ma z.a z.n z.c 0 nhi z.c s= .slice z.a nhi z.c:=by
   unfold ma
   cases z.a with
   |none=>simp
   |some ad=>simp[Addr.add]
  rw[e9];simpa using h9
 |some o1,none,hlo,hhi=>
  simp only[lO,Option.some.injEq] at hhi;have e2:nhi=l.length:=by omega
  subst e2;refine⟨_,key z.c (by omega) (aL _),?_⟩;have h9:=He (P:=P) (C:=C) (own:=ov) (G:=G) (t:=t) (dst:=dst) (ty':=ty') (pos:=pos) (af:=af) (gd:=gd) h3 (bnd hlo) (by omega) (by omega);have e9:z.n=l.length:=by omega
  rw[bW,e9] at h9;rw[e9];exact h9
 |some o1,some o2,hlo,hhi=>
  refine⟨_,key z.c (by omega) (aL _),?_⟩;have h9:=ZS (P:=P) (C:=C) (own:=ov) (G:=G) (t:=t) (dst:=dst) (ty':=ty') (pos:=pos) (af:=af) (gd:=gd) h3 (bnd hlo) (bnd hhi) (by omega) (by omega) (by omega);simpa using h9
def Uz{l:List DV}{hi mx:Operand}{nhi:Nat}[hT:co P t e s by_](hx:evD lk x=some (.sl l))(ho:cC s l)(hhi:lO lk 0 (some hi)=some (nhi:Int))(hmx:lO lk 0 (some mx)=some (nhi:Int))(h2:nhi<=l.length):
  bO P GB C n lk bk ⟨dst, .slice t x none (some hi) (some mx),ty',pos,af,gd⟩ (.ct (l.take nhi)) [] []:= .yd fun ρ G ov a w r=>by
 obtain⟨u,h3,h4⟩:=r.evD hx;obtain⟨s',z,es,rfl,hsl,hl⟩:=jn.1 h4;have hn:=hsl.len;have hcap:=hsl.cap;have hll:=hl.len;have bnd: ∀{o:Operand} {d:Nat} {i:Int},lO lk d (some o)=some i->aw (cg a) o=some (.int .i64 i):=fun{o d i} h=>by
  simp only[lO] at h;split at h<;>cases h;rename_i he;obtain⟨q,g1,g2⟩:=r.ev he;rw[dh] at g2;subst g2;exact g1
 refine⟨.slice z.a nhi nhi,⟨⟨_,_,J⟩,V0 hsl hl ho h2 (aL _) (by omega)⟩,?_⟩;have h9:=TC (P:=P) (C:=C) (own:=ov) (G:=G) (t:=t) (dst:=dst) (ty':=ty') (pos:=pos) (af:=af) (gd:=gd) h3 (bnd hhi) (bnd hmx) (by omega) (Int.le_refl _) (by omega);simpa using h9
def Mg{d:Nat}{i:TI}{z:DV}{ds ds2:List DV}[hT:co P t e s by_][hN:jl P t'](hi:eE P e=some i)(hz:mI i=some z)(hs:Nat.beq z.cells.length s=true)(hx:aO lk x=some (.ct ds)\/(aO lk x=some .nl/\ds=[]))(ox:cC s ds)(hy:pf lk bk s y=some ds2)(hk2:cC s ds2)(hne:0<ds2.length)
  (hby:Nat.blt 0 by_=true)(hbd:(ds.length+ds2.length)*by_<=140737488355328){ds':List DV}(hds:ds++ds2=ds'):
  bO P GB C n lk bk ⟨some d, .call ⟨.builtin .append, #[x,y], #[t,t']⟩,ty',pos,af,gd⟩ (.rw d) [(d,some (.b e s ds' true))] [d]:=by
 intro hd tl tb K s1 s2 hf hk;refine⟨fun ρ G ov a w r Q=>?_⟩;subst hds;have r1:=r.mono s1 s2;obtain⟨v,hz1,hz2,hz3⟩:=vN hi hz;have cz:=((hz2 G).cells hz3).1.len;replace hs:=aR hs;rw[mK] at hby
 obtain⟨w2,us,h1,h2,h3,h4,h5,h6⟩:=w5 (P:=P) r1 hy hk2;have hxs:pf lk bk s x=some ds:=by
  unfold pf;rcases hx with hx|⟨hx,rfl⟩<;>rw[hx]<;>rfl
 obtain⟨w1,vs,g1,g2,g3,g4,g5,g6⟩:=w5 (P:=P) r1 hxs ox;have hc1:w1.c=w1.n:=by
  rcases hx with hx|⟨hx,rfl⟩
  ·obtain⟨y1,k1,⟨a1,n1,rfl⟩,_⟩:=r1.ev hx
   rw[k1] at g1;simp only[Option.some.injEq,Value.slice.injEq] at g1;omega
  ·obtain⟨y1,k1,k2⟩:=r1.ev hx
   cases k2
   rw[k1] at g1;simp only[Option.some.injEq,Value.slice.injEq] at g1;omega
 have hl3:=h3.len;have hl4:=g3.len;have hall: ∀v∈vs++us,(aD v).length=s:=fun v hv=>by
  rcases cX.1 hv with hv|hv
  ·exact g4 v hv
  ·exact h4 v hv
 refine xi (z:=v) (xs:=aF vs) (ys:=aF us) (ad:=w1.a) (len:=w1.n) (cap:=w1.c) g1 h1 g6 h6 (by omega) hby (by rw[g2,h2,hl3,hl4];exact hbd) hd (fun b cap' hc a' w' rl=>?_) a w Q ⟨r.h,r.sz,cB a,r.df⟩;rw[<-oz] at rl;have hnd':=(cZ.1 rl.h.nd).1;refine r.newRow (z:=⟨some ⟨b,0,none⟩,w1.n+w2.n,cap'⟩) (B:=[⟨b,aF (vs++us)++de v (cap'-(w1.n+w2.n)),e,true⟩]) hf ⟨vs++us, .inr ⟨b,_,true,by simp[g2,h2],J,ew _ hall,?_,by simpa[g2,h2] using hc⟩,g3.app h3,hall,fun _ o ho=>by rw[aV.1 ho]⟩
  (fun o ho=>by rw[aV.1 ho];exact aQ) (fun m B' hm e o ho _=>⟨aJ _ ho,fun e'=>by cases e';exact hnd' o ho J⟩) hk rl
 rw[ew _ hall,aY,n0,cz,hs,<-dQ,g2,h2];congr 1;rw[g2,h2] at hc;dsimp only;omega
end
section
variable {GB:Gh} {C:aC} {n:Nat} {Q0:Exit->Act->World->Prop} {fr fr':aA} {own own':aH} {cf cf':Cf} {vc:List Prop} {ops:Array Oper} {o:Oper} {K:List Kt} {r:List Oper}
def b6(fr:aA)(cf:Cf):Option Oper:=match Dq cf with
 |some (ops,o)=>bif tj ops (bu fr cf) o.guard then some o else none
 |none=>none
def GO(h:b6 fr cf=some o): ∃ops,Dq cf=some (ops,o)/\tj ops (bu fr cf) o.guard=true:=by
 unfold b6 at h;split at h<;>try (cases h;done)
 rename_i ops o' hh
 cases hg:tj ops (bu fr cf) o'.guard with
 |false=>rw[hg] at h;cases h
 |true=>rw[hg] at h;cases h;exact⟨ops,hh,hg⟩
def us{q:Nat}{f:FX}{bl:List (Nat×Option Bk)}{nw:List Nat}(hh:b6 fr cf=some o)(h:bO prog GB C n (bu fr cf) (f7 fr own cf) o f bl nw)
  (hgo:cE tt n q fr own cf f bl nw=⟨vc,fr',own',cf'⟩)(hv:ah vc)(k:av prog GB C n Q0 fr' own' cf'):av prog GB C n Q0 fr own cf:=by
 obtain⟨ops,h1,h2⟩:=GO hh;exact uo h1 h2 h hgo hv k
def vW(fr:aA)(cf:Cf):Option (FuncId×List DV):=match b6 fr cf with
 |some ⟨_, .call ⟨.value fo,args,_⟩,_,_,_,_⟩=>rD (bu fr cf) fo args
 |_=>none
def cl[fu:Fu]{f:FuncId}{ds:List DV}{rv:DV}(ha:vW fr cf=some (f,ds))(hF:PF GB prog f ds rv)(hgo:cE tt n fu.n fr own cf (.d rv) [] []=⟨vc,fr',own',cf'⟩)(k:av prog GB C n Q0 fr' own' cf')
  (hv:ah vc:=by first|exact trivial|(simp only[ah];kernel_rfl)|(simp only[ah];omega)|(simp only[ah,aK,aS,aW];omega)):av prog GB C n Q0 fr own cf:=by
 unfold vW at ha;split at ha<;>try (cases ha;done)
 rename_i hh;exact us hh (Fo ha hF) hgo hv k
def Jh(fr:aA)(cf:Cf):Option (List DV×Int×Nat):=match b6 fr cf with
 |some ⟨_, .indexAddr t x y,_,_,_,_⟩=>match evD (bu fr cf) x with
  |some (.sl l)=>match aO (bu fr cf) y with
   |some (.d (.v (.int _ i)))=>match cH tt t with
    |some ⟨.sl _ s _,_,_,_⟩=>some (l,i,s)
    |_=>none
   |_=>none
  |_=>none
 |_=>none
def I1(n q:Nat)(fr:aA)(own:aH)(cf:Cf)(d:DV)(s:Nat):wP:=bif d.okc&&Nat.beq d.cells.length s then ki d.cells fun cs=>cE tt n q fr own cf (.ep cs) [] [] else mn
def ix[fu:Fu](d:DV){l:List DV}{i:Int}{s:Nat}(h:Jh fr cf=some (l,i,s))(he:l[i.toNat]? =some d)(hgo:I1 n fu.n fr own cf d s=⟨vc,fr',own',cf'⟩)(k:av prog GB C n Q0 fr' own' cf')(h0:0<=i:=by omega)
  (hv:ah vc:=by first|exact trivial|(simp only[ah];kernel_rfl)|(simp only[ah];omega)|(simp only[ah,aK,aS,aW];omega)):av prog GB C n Q0 fr own cf:=by
 unfold Jh at h;split at h<;>try (cases h;done)
 rename_i hh;split at h<;>try (cases h;done)
 rename_i hx;split at h<;>try (cases h;done)
 rename_i hy;split at h<;>cases h;rename_i hT;have:=lc (e7 _ _ hT) J;unfold I1 at hgo
 cases hc:(d.okc&&Nat.beq d.cells.length s) with
 |false=>simp only[hc,cond_false,mn] at hgo;cases hgo;exact absurd hv (fun x=>x)
 |true=>
  simp only[hc,cond_true,qP] at hgo;exact us hh (Q3 hx hy h0 he hc) hgo hv k
structure Sy where
 ds:List DV
 k:Nat
 j:Nat
 ag:Option Nat
def M9(fr:aA)(own:aH)(cf:Cf):Option Sy:=match b6 fr cf with
 |some ⟨_, .load t x,_,_,_,_⟩=>match aO (bu fr cf) x with
  |some (.be nm sz k j)=>match f7 fr own cf nm with
   |some (.b _ s ds _)=>bif Nat.beq s sz then(match cH tt t with
    |some i=>match i.ag with
     |some ag=>some ⟨ds,k,j,ag⟩
     |none=>none
    |none=>none) else none
   |_=>none
  |_=>none
 |_=>none
def ME(n q:Nat)(fr:aA)(own:aH)(cf:Cf)(d:DV)(ag:Option Nat)(j:Nat):wP:=bif d.okc then(match xt ag d.cells j with
 |some c=>cE tt n q fr own cf (.d c) [] []
 |none=>mn) else mn
def lb[fu:Fu](d:DV){ds:List DV}{k' j:Nat}{ag:Option Nat}(h:M9 fr own cf=some ⟨ds,k',j,ag⟩)(he:ds[k']? =some d)(hgo:ME n fu.n fr own cf d ag j=⟨vc,fr',own',cf'⟩)(k:av prog GB C n Q0 fr' own' cf')
  (hv:ah vc:=by first|exact trivial|(simp only[ah];kernel_rfl)|(simp only[ah];omega)|(simp only[ah,aK,aS,aW];omega)):av prog GB C n Q0 fr own cf:=by
 unfold M9 at h;split at h<;>try (cases h;done)
 rename_i hh;split at h<;>try (cases h;done)
 rename_i hx;split at h<;>try (cases h;done)
 rename_i ty s ds' lo hb;rw[cond_eq_ite] at h;split at h<;>try (cases h;done)
 rename_i hs
 cases aR hs
 split at h<;>try (cases h;done)
 rename_i hT;split at h<;>cases h;rename_i ha;unfold ME at hgo
 cases hc:d.okc with
 |false=>simp only[hc,cond_false,mn] at hgo;cases hgo;exact absurd hv (fun x=>x)
 |true=>
  simp only[hc,cond_true] at hgo
  cases hl:xt ag d.cells j with
  |none=>simp only[hl,mn] at hgo;cases hgo;exact absurd hv (fun x=>x)
  |some c=>simp only[hl] at hgo;exact us hh (aDp (e7 _ _ hT) ha hx hb he hc hl) hgo hv k
structure Tw where
 nm:Nat
 ty:TypeId
 s:Nat
 ds:List DV
 lo:Bool
 k:Nat
 j:Nat
 ag:Option Nat
 u:DV
def Ka(fr:aA)(own:aH)(cf:Cf):Option Tw:=match b6 fr cf with
 |some ⟨_, .store t x y,_,_,_,_⟩=>match aO (bu fr cf) x with
  |some (.be nm sz k j)=>match f7 fr own cf nm with
   |some (.b ty s ds lo)=>bif Nat.beq s sz then(match cH tt t with
    |some i=>match i.ag with
     |some ag=>match evD (bu fr cf) y with
      |some u=>some ⟨nm,ty,s,ds,lo,k,j,ag,u⟩
      |none=>none
     |none=>none
    |none=>none) else none
   |_=>none
  |_=>none
 |_=>none
def sb[fu:Fu](d:DV){nm:Nat}{ty:TypeId}{s:Nat}{ds:List DV}{lo:Bool}{k' j:Nat}{ag:Option Nat}{u d':DV}(ds':List DV)(h:Ka fr own cf=some ⟨nm,ty,s,ds,lo,k',j,ag,u⟩)(he:ds[k']? =some d)(hl:Ci ag d j u=some d')(hds:ds.set k' d'=ds')
  (hgo:cE tt n fu.n fr own cf .un [(nm,some (.b ty s ds' lo))] []=⟨vc,fr',own',cf'⟩)(k:av prog GB C n Q0 fr' own' cf')
  (hv:ah vc:=by first|exact trivial|(simp only[ah];kernel_rfl)|(simp only[ah];omega)|(simp only[ah,aK,aS,aW];omega)):av prog GB C n Q0 fr own cf:=by
 unfold Ka at h;split at h<;>try (cases h;done)
 rename_i hh;split at h<;>try (cases h;done)
 rename_i hx;split at h<;>try (cases h;done)
 rename_i hb;rw[cond_eq_ite] at h;split at h<;>try (cases h;done)
 rename_i hs
 cases aR hs
 split at h<;>try (cases h;done)
 rename_i hT;split at h<;>try (cases h;done)
 rename_i ha;split at h<;>cases h;rename_i hy;exact us hh (aCh (e7 _ _ hT) ha hx hb hy he hl hds) hgo hv k
structure MkA where
 d:Nat
 e:Nat
 s:Nat
 b:Nat
 z:DV
 l:Int
def Cb(fr:aA)(cf:Cf):Option MkA:=match b6 fr cf with
 |some ⟨some d, .makeSlice t x y,_,_,_,_⟩=>match aO (bu fr cf) x with
  |some (.d (.v (.int _ l)))=>match cH tt t with
   |some ⟨.sl e s b,_,_,_⟩=>match cH tt e with
    |some i=>match mI i with
     |some z=>bif Nat.beq z.cells.length s then some ⟨d,e,s,b,z,l⟩ else none
     |none=>none
    |none=>none
   |_=>none
  |_=>none
 |_=>none
def mk[fu:Fu]{d e s b:Nat}{z:DV}{l:Int}{k':IntKind}(ds:List DV)(h:Cb fr cf=some ⟨d,e,s,b,z,l⟩)(hy:(match b6 fr cf with|some ⟨_, .makeSlice _ _ y,_,_,_,_⟩=>aO (bu fr cf) y|_=>none)=some (.d (.v (.int k' l))))(hds:List.replicate l.toNat z=ds)
  (hgo:cE tt n fu.n fr own cf (.rw d) [(d,some (.b e s ds true))] [d]=⟨vc,fr',own',cf'⟩)(k:av prog GB C n Q0 fr' own' cf')(h0:0<=l:=by omega)(hb:b*l<=140737488355328:=by omega)(hl:l<=1152921504606846976:=by omega)
  (hv:ah vc:=by first|exact trivial|(simp only[ah];kernel_rfl)|(simp only[ah];omega)|(simp only[ah,aK,aS,aW];omega)):av prog GB C n Q0 fr own cf:=by
 unfold Cb at h;split at h<;>try (cases h;done)
 rename_i hh;split at h<;>try (cases h;done)
 rename_i hx;split at h<;>try (cases h;done)
 rename_i hT;split at h<;>try (cases h;done)
 rename_i hi;split at h<;>try (cases h;done)
 rename_i hz;rw[cond_eq_ite] at h;split at h<;>cases h;rename_i hs;rw[hh] at hy;have:=lc (e7 _ _ hT) J;exact us hh (WP (e7 _ _ hi) hz hs hx hy h0 hb hl hds) hgo hv k
structure Iq where
 d:Nat
 e:Nat
 s:Nat
 ds:List DV
def Db(fr:aA)(cf:Cf):Option Iq:=match b6 fr cf with
 |some ⟨some d, .buildSlice t len parts,_,_,_,_⟩=>match cH tt t with
  |some ⟨.sl e s _,_,_,_⟩=>match cH tt e with
   |some i=>match mI i with
    |some z=>match t6 (bu fr cf) 0 parts.toList with
     |some ds=>bif Nat.beq z.cells.length s&&(AQ s ds&&(Nat.beq parts.toList.length len&&(Nat.ble (len*s) 1000&&Nat.blt 0 (len*s)))) then some ⟨d,e,s,ds⟩ else none
     |none=>none
    |none=>none
   |none=>none
  |_=>none
 |_=>none
def PH{d e s:Nat}{ds:List DV}(h:Db fr cf=some ⟨d,e,s,ds⟩): ∃o,b6 fr cf=some o/\o.dst=some d/\bO prog GB C n (bu fr cf) (f7 fr own cf) o (.rw d) [(d,some (.b e s ds true))] [d]:=by
 unfold Db at h;split at h<;>try (cases h;done)
 rename_i hh;split at h<;>try (cases h;done)
 rename_i hT;split at h<;>try (cases h;done)
 rename_i hi;split at h<;>try (cases h;done)
 rename_i hz;split at h<;>try (cases h;done)
 rename_i hr;rw[cond_eq_ite] at h;split at h<;>cases h;rename_i hc;simp only[aN] at hc;have:=lc (e7 _ _ hT) J;exact⟨_,hh,J,W3 (e7 _ _ hi) hz hc.1 hr hc.2.1 hc.2.2.1 hc.2.2.2.1 hc.2.2.2.2⟩
def ro[fu:Fu]{d e s:Nat}{ds:List DV}(h:Db fr cf=some ⟨d,e,s,ds⟩)(hgo:cE tt n fu.n fr own cf (.rw d) [(d,some (.b e s ds true))] [d]=⟨vc,fr',own',cf'⟩)(k:av prog GB C n Q0 fr' own' cf')
  (hv:ah vc:=by first|exact trivial|(simp only[ah];kernel_rfl)|(simp only[ah];omega)|(simp only[ah,aK,aS,aW];omega)):av prog GB C n Q0 fr own cf:=by
 obtain⟨o,h1,_,h3⟩:=PH (GB:=GB) (C:=C) (n:=n) (own:=own) h;exact us h1 h3 hgo hv k
def rf[fu:Fu]{d e s:Nat}{ds:List DV}(h:Db fr cf=some ⟨d,e,s,ds⟩)(hgo:cE tt n fu.n fr own cf (.d (.sl ds)) [(d,none)] [d]=⟨vc,fr',own',cf'⟩)(k:av prog GB C n Q0 fr' own' cf')
  (hv:ah vc:=by first|exact trivial|(simp only[ah];kernel_rfl)|(simp only[ah];omega)|(simp only[ah,aK,aS,aW];omega)):av prog GB C n Q0 fr own cf:=by
 obtain⟨o,h1,h2,h3⟩:=PH (GB:=GB) (C:=C) (n:=n) (own:=own) h;exact us h1 (h3.frzRow h2) hgo hv k
def IZ(fr:aA)(cf:Cf):Option (Nat×Nat×Nat):=match b6 fr cf with
 |some ⟨some d, .buildSlice t 0 ⟨[]⟩,_,_,_,_⟩=>match cH tt t with
  |some ⟨.sl e s _,_,_,_⟩=>some (d,e,s)
  |_=>none
 |_=>none
def qe[fu:Fu]{d e s:Nat}(h:IZ fr cf=some (d,e,s))(hgo:cE tt n fu.n fr own cf (.rw d) [(d,some (.b e s [] true))] [d]=⟨vc,fr',own',cf'⟩)(k:av prog GB C n Q0 fr' own' cf')
  (hv:ah vc:=by first|exact trivial|(simp only[ah];kernel_rfl)|(simp only[ah];omega)|(simp only[ah,aK,aS,aW];omega)):av prog GB C n Q0 fr own cf:=by
 unfold IZ at h;split at h<;>try (cases h;done)
 rename_i hh;split at h<;>cases h;rename_i hT;have:=lc (e7 _ _ hT) J;exact us hh Qt hgo hv k
structure Rg where
 d:Nat
 nm:Option Nat
 e:Nat
 s:Nat
 b:Nat
 ds:List DV
 ds2:List DV
def Ce(fr:aA)(own:aH)(cf:Cf):Option Rg:=match b6 fr cf with
 |some ⟨some d, .call ⟨.builtin .append,⟨[x,y]⟩,⟨[t,t']⟩⟩,_,_,_,_⟩=>match cH tt t with
  |some ⟨.sl e s b,_,_,_⟩=>match cH tt t' with
   |some ⟨.sl _ _ _,_,_,_⟩=>match cH tt e with
    |some i=>match mI i with
     |some z=>bif Nat.beq z.cells.length s&&Nat.blt 0 b then(match pf (bu fr cf) (f7 fr own cf) s y with
      |some ds2=>match aO (bu fr cf) x with
       |some (.rw nm)=>match f7 fr own cf nm with
        |some (.b e' s' ds true)=>bif (Nat.beq e' e&&Nat.beq s' s)&&!Nat.beq nm d then some ⟨d,some nm,e,s,b,ds,ds2⟩ else none
        |_=>none
       |some (.ct ds)=>some ⟨d,none,e,s,b,ds,ds2⟩
       |some .nl=>some ⟨d,none,e,s,b,[],ds2⟩
       |_=>none
      |none=>none) else none
     |none=>none
    |none=>none
   |_=>none
  |_=>none
 |_=>none
def LT(d:Nat)(nm:Option Nat)(B:Bk):List (Nat×Option Bk):=match nm with
 |some nm=>[(nm,none),(d,some B)]
 |none=>[(d,some B)]
def Ow{d:Nat}{nm:Option Nat}{e s b:Nat}{ds ds2:List DV}(h:Ce fr own cf=some ⟨d,nm,e,s,b,ds,ds2⟩)(ds':List DV)(hds:ds++ds2=ds')(ho:nm.isNone=true->cC s ds/\0<ds2.length)(ho2:cC s ds2)(hbd:(ds.length+ds2.length)*b<=140737488355328):
  ∃o,b6 fr cf=some o/\o.dst=some d/\bO prog GB C n (bu fr cf) (f7 fr own cf) o (.rw d) (LT d nm (.b e s ds' true)) [d]:=by
 unfold Ce at h;split at h<;>try (cases h;done)
 rename_i hh;split at h<;>try (cases h;done)
 rename_i hT;split at h<;>try (cases h;done)
 rename_i hT';split at h<;>try (cases h;done)
 rename_i hi;split at h<;>try (cases h;done)
 rename_i hz;rw[cond_eq_ite] at h;split at h<;>try (cases h;done)
 rename_i hc;simp only[aN] at hc;split at h<;>try (cases h;done)
 rename_i hy;have:=lc (e7 _ _ hT) J;have hN:jl prog _:=⟨_,(lc (e7 _ _ hT') J).un⟩;refine⟨_,hh,?_⟩;split at h<;>try (cases h;done)
 ·rename_i hx
  split at h<;>try (cases h;done)
  rename_i hb;rw[cond_eq_ite] at h;split at h<;>cases h;rename_i hq;simp only[aN,iX] at hq
  cases aR hq.1.1
  cases aR hq.1.2
  exact⟨J,Q9 (e7 _ _ hi) hz hc.1 hx hb hy ho2 hc.2 hbd hq.2 hds⟩
 ·rename_i hx
  cases h
  obtain⟨h1,h2⟩:=ho rfl;exact⟨J,Mg (e7 _ _ hi) hz hc.1 (.inl hx) h1 hy ho2 h2 hc.2 hbd hds⟩
 ·rename_i hx
  cases h
  obtain⟨h1,h2⟩:=ho rfl;exact⟨J,Mg (e7 _ _ hi) hz hc.1 (.inr ⟨hx,J⟩) h1 hy ho2 h2 hc.2 hbd hds⟩
def ap[fu:Fu]{d:Nat}{nm:Option Nat}{e s b:Nat}{ds ds2:List DV}(ds':List DV)(h:Ce fr own cf=some ⟨d,nm,e,s,b,ds,ds2⟩)(hds:ds++ds2=ds')(ho2:cC s ds2)(hgo:cE tt n fu.n fr own cf (.rw d) (LT d nm (.b e s ds' true)) [d]=⟨vc,fr',own',cf'⟩)(k:av prog GB C n Q0 fr' own' cf')
  (ho:nm.isNone=true->cC s ds/\0<ds2.length:=by intro h;first|(cases h;done)|exact⟨Fa rfl,by simp⟩)(hbd:(ds.length+ds2.length)*b<=140737488355328:=by simp;omega)
  (hv:ah vc:=by first|exact trivial|(simp only[ah];kernel_rfl)|(simp only[ah];omega)|(simp only[ah,aK,aS,aW];omega)):av prog GB C n Q0 fr own cf:=by
 obtain⟨o,h1,_,h3⟩:=Ow (GB:=GB) (C:=C) (n:=n) h ds' hds ho ho2 hbd;exact us h1 h3 hgo hv k
def O1(fr:aA)(cf:Cf):Option (List DV×Int×Int×Nat×Bool):=match b6 fr cf with
 |some ⟨_, .slice t x lo hi mx,_,_,_,_⟩=>match evD (bu fr cf) x with
  |some (.sl l)=>match cH tt t with
   |some ⟨.sl _ s _,_,_,_⟩=>match lO (bu fr cf) 0 lo,lO (bu fr cf) l.length hi with
    |some i,some j=>match mx with
     |none=>some (l,i,j,s,false)
     |some _=>none
    |_,_=>none
   |_=>none
  |_=>none
 |_=>none
def k9[fu:Fu]{l:List DV}{i j:Int}{s:Nat}(nlo nhi:Nat)(ls:List DV)(h:O1 fr cf=some (l,i,j,s,false))(ei:i=nlo)(ej:j=nhi)(hls:(l.take nhi).drop nlo=ls)(ho:cC s l)(h1:nlo<=nhi)(h2:nhi<=l.length)
  (hgo:cE tt n fu.n fr own cf (.d (.sl ls)) [] []=⟨vc,fr',own',cf'⟩)(k:av prog GB C n Q0 fr' own' cf')
  (hv:ah vc:=by first|exact trivial|(simp only[ah];kernel_rfl)|(simp only[ah];omega)|(simp only[ah,aK,aS,aW];omega)):av prog GB C n Q0 fr own cf:=by
 unfold O1 at h;split at h<;>try (cases h;done)
 rename_i hh;split at h<;>try (cases h;done)
 rename_i hx;split at h<;>try (cases h;done)
 rename_i hT;split at h<;>try (cases h;done)
 rename_i hi hj;split at h<;>cases h;have:=lc (e7 _ _ hT) J;subst ei ej hls;exact us hh (Vm hx ho hi hj h1 h2) hgo hv k
def KB(fr:aA)(cf:Cf):Option (List DV×Int×Int×Nat):=match b6 fr cf with
 |some ⟨_, .slice t x none (some hi) (some mx),_,_,_,_⟩=>match evD (bu fr cf) x with
  |some (.sl l)=>match cH tt t with
   |some ⟨.sl _ s _,_,_,_⟩=>match lO (bu fr cf) 0 (some hi),lO (bu fr cf) 0 (some mx) with
    |some i,some j=>some (l,i,j,s)
    |_,_=>none
   |_=>none
  |_=>none
 |_=>none
def s3[fu:Fu]{l:List DV}{i j:Int}{s:Nat}(nhi:Nat)(ls:List DV)(h:KB fr cf=some (l,i,j,s))(ei:i=nhi)(ej:j=nhi)(hls:l.take nhi=ls)(ho:cC s l)(h2:nhi<=l.length)
  (hgo:cE tt n fu.n fr own cf (.ct ls) [] []=⟨vc,fr',own',cf'⟩)(k:av prog GB C n Q0 fr' own' cf')
  (hv:ah vc:=by first|exact trivial|(simp only[ah];kernel_rfl)|(simp only[ah];omega)|(simp only[ah,aK,aS,aW];omega)):av prog GB C n Q0 fr own cf:=by
 unfold KB at h;split at h<;>try (cases h;done)
 rename_i hh;split at h<;>try (cases h;done)
 rename_i hx;split at h<;>try (cases h;done)
 rename_i hT;split at h<;>cases h;rename_i hi hj;have:=lc (e7 _ _ hT) J;subst ei ej hls;exact us hh (Uz hx ho hi hj h2) hgo hv k
def JO(fr:aA)(cf:Cf):Option (Nat×List DV):=match b6 fr cf with
 |some ⟨some d, .box _ x,_,_,_,_⟩=>match aO (bu fr cf) x with
  |some f=>bif f.okc&&vM f d then(match iI f.cells with
   |some l=>some (d,l)
   |none=>none) else none
  |none=>none
 |_=>none
end
section
variable {GB:Gh} {C:aC} {n:Nat} {Q0:Exit->Act->World->Prop} {fr fr':aA} {own own':aH} {cf cf':Cf} {vc:List Prop} {ops:Array Oper} {o:Oper} {K:List Kt} {r:List Oper}
def rnN(x y m:Nat)(k:Option Nat):Option Nat:=bif Nat.beq m x then some y else bif Nat.beq m y then none else k
def qE(x y:Nat):FX->FX
 | .rw m=>bif Nat.beq m x then .rw y else bif Nat.beq m y then .no else .rw m
 | .ov m o=>bif Nat.beq m x then .ov y o else bif Nat.beq m y then .no else .ov m o
 | .be m s i j=>bif Nat.beq m x then .be y s i j else bif Nat.beq m y then .no else .be m s i j
 | .rs m s i j=>bif Nat.beq m x then .rs y s i j else bif Nat.beq m y then .no else .rs m s i j
 | .bx tp pre m post=>bif Nat.beq m x then .bx tp pre y post else bif Nat.beq m y then .no else .bx tp pre m post
 |f=>f
def p9(x y:Nat):Option Bk->Option Bk
 |some (.o ty cs lo)=>some (.o ty (cs.map (qE x y)) lo)
 |B=>B
def rnK(x y k:Nat):Nat:=bif Nat.beq k x then y else bif Nat.beq k y then x else k
def AM{α:Type}(g:FX->FX):List FX->(List FX->α)->α
 |[],k=>k []
 |f::t,k=>AM g t fun t'=>Ar (g f) fun f'=>k (f'::t')
def I0{α:Type}{g:FX->FX}: ∀{cs:List FX} {k:List FX->α},AM g cs k=k (cs.map g)
 |[],k=>rfl
 |f::t,k=>by simp only[AM,Da];rw[I0];rfl
def AE{α:Type}(g:FX->FX):aA->(aA->α)->α
 |[],k=>k []
 |(j,f)::t,k=>AE g t fun t'=>Ar (g f) fun f'=>k ((j,f')::t')
def ED{α:Type}{g:FX->FX}: ∀{fr:aA} {k:aA->α},AE g fr k=k (fr.map fun e=>(e.1,g e.2))
 |[],k=>rfl
 |(j,f)::t,k=>by simp only[AE,Da];rw[ED];rfl
def AK{α:Type}(x y:Nat):aH->(aH->α)->α
 |[],k=>k []
 |(j,B)::t,k=>AK x y t fun t'=>bif Nat.beq j y then k ((x,none)::t') else match B with
  |some (.o ty cs lo)=>AM (qE x y) cs fun cs'=>bif Nat.beq j x then k ((y,some (.o ty cs' lo))::t') else k ((j,some (.o ty cs' lo))::t')
  |B=>bif Nat.beq j x then k ((y,B)::t') else k ((j,B)::t')
def D9{α:Type}{x y:Nat}: ∀{own:aH} {k:aH->α},AK x y own k=k (own.map fun e=>(bif Nat.beq e.1 y then x else bif Nat.beq e.1 x then y else e.1,bif Nat.beq e.1 y then none else p9 x y e.2))
 |[],k=>rfl
 |(j,B)::t,k=>by
  simp only[AK,D9 (own:=t),bJ]
  cases Nat.beq j y with
  |true=>rfl
  |false=>
   cases B with
   |none=>cases Nat.beq j x<;>rfl
   |some B=>cases B<;>cases Nat.beq j x<;>simp only[cond_false,cond_true,I0,p9]
def DG{x y:Nat}(hxy:x≠y): ∀{own:aH} {k:Nat},bh (own.map fun e=>(bif Nat.beq e.1 y then x else bif Nat.beq e.1 x then y else e.1,bif Nat.beq e.1 y then none else p9 x y e.2)) k=if k=x then none else if k=y then p9 x y (bh own x) else p9 x y (bh own k)
 |[],k=>by simp[bh,p9]
 |(j,B)::t,k=>by
  have bq: ∀a b:Nat,Nat.beq a b=decide (a=b):=fun a b=>by
   by_cases h:a=b
   ·subst h;simp
   ·rw[decide_eq_false h]
    cases hb:Nat.beq a b with
    |false=>rfl
    |true=>exact absurd (aR hb) h
  simp only[bJ];rw[i7,DG hxy (own:=t),i7,i7];by_cases h1:j=y
  ·subst h1
   simp only[bq,decide_true,cond_true];by_cases h2:k=x
   ·simp[h2]
   ·by_cases h3:k=j
    ·subst h3;simp[h2,Ne.symm h2,hxy]
    ·simp[h2,h3]
  ·by_cases h4:j=x
   ·subst h4
    simp only[bq,h1,decide_false,cond_false,decide_true,cond_true];by_cases h2:k=y
    ·subst h2;simp[Ne.symm h1]
    ·by_cases h3:k=j
     ·subst h3;simp[h1]
     ·simp[h2,h3]
   ·simp only[bq,h1,h4,decide_false,cond_false]
    by_cases h2:k=j
    ·subst h2;simp[h1,h4]
    ·by_cases h3:k=x
     ·subst h3;simp[h2]
     ·by_cases h5:k=y
      ·subst h5;simp[h2,h3,Ne.symm h4]
      ·simp[h2,h3,h5]
def EW{x y:Nat}(hxy:x≠y){ρ:NE}{G:Gh}{f:FX}{v:Value}(h:bP ρ G f v):bP (fun k=>if k=y then ρ x else ρ k) G (qE x y f) v:=by
 have key: ∀m:Nat,Nat.beq m y=false->(fun k=>if k=y then ρ x else ρ k) m=ρ m:=fun m hm=>if_neg fun e=>by subst e;simp at hm
 cases f with
 |rw m=>
  simp only[qE]
  cases hb:Nat.beq m x with
  |true=>cases aR hb;simp only[cond_true];show v=_;simp;exact h
  |false=>
   cases hb':Nat.beq m y with
   |true=>trivial
   |false=>simp only[cond_false];show v=_;rw[key m hb'];exact h
 |ov m off=>
  simp only[qE]
  cases hb:Nat.beq m x with
  |true=>cases aR hb;simp only[cond_true];obtain⟨b,h1,h2⟩:=h;exact⟨b,by simp;exact h1,h2⟩
  |false=>
   cases hb':Nat.beq m y with
   |true=>trivial
   |false=>simp only[cond_false];obtain⟨b,h1,h2⟩:=h;exact⟨b,by rw[key m hb'];exact h1,h2⟩
 |be m s i j=>
  simp only[qE]
  cases hb:Nat.beq m x with
  |true=>cases aR hb;simp only[cond_true];obtain⟨b,h1,h2⟩:=h;exact⟨b,by simp;exact h1,h2⟩
  |false=>
   cases hb':Nat.beq m y with
   |true=>trivial
   |false=>simp only[cond_false];obtain⟨b,h1,h2⟩:=h;exact⟨b,by rw[key m hb'];exact h1,h2⟩
 |rs m s i j=>
  simp only[qE]
  cases hb:Nat.beq m x with
  |true=>cases aR hb;simp only[cond_true];obtain⟨b,c,h1,h2⟩:=h;exact⟨b,c,by simp;exact h1,h2⟩
  |false=>
   cases hb':Nat.beq m y with
   |true=>trivial
   |false=>simp only[cond_false];obtain⟨b,c,h1,h2⟩:=h;exact⟨b,c,by rw[key m hb'];exact h1,h2⟩
 |bx tp pre m post=>
  simp only[qE]
  cases hb:Nat.beq m x with
  |true=>cases aR hb;simp only[cond_true];obtain⟨m1,m2,e,h1,h2⟩:=h;exact⟨m1,m2,by simpa using e,h1,h2⟩
  |false=>
   cases hb':Nat.beq m y with
   |true=>trivial
   |false=>simp only[cond_false];obtain⟨m1,m2,e,h1,h2⟩:=h;exact⟨m1,m2,by rw[key m hb'];exact e,h1,h2⟩
 |_=>exact h
def HD{x y:Nat}(hxy:x≠y){ρ:NE}{G:Gh}: ∀{cs:List FX} {m:List Value},cP ρ G cs m->cP (fun k=>if k=y then ρ x else ρ k) G (cs.map (qE x y)) m
 |[],m,h=>h
 |f::t,m,⟨v,q,e,h1,h2⟩=>⟨v,q,e,EW hxy h1,HD hxy h2⟩
def wD(x y:Nat)(fr:aA)(own:aH):Option xZ:=bif Nat.beq x y then none else AE (qE x y) fr fun fr'=>AK x y own fun own'=>some ⟨fr',own'⟩
def Sd{x y:Nat}{Φ:Act->World->Prop}{R:xZ}(hy:Nat.blt y 2000000=true)(h:wD x y fr own=some R)(hk:SX GB C n (ba R.fr) (bh R.own) Φ):SX GB C n (ba fr) (bh own) Φ:=by
 unfold wD at h;rw[cond_eq_ite] at h;split at h<;>try (cases h;done)
 rename_i hb;have hxy:x≠y:=fun e=>hb (by subst e;simp);rw[ED,D9] at h;cases h;refine⟨fun ρ G ov a w r=>hk.run (fun k=>if k=y then ρ x else ρ k) G ov a w ?_⟩;have inv: ∀m B,bh (own.map fun e=>(bif Nat.beq e.1 y then x else bif Nat.beq e.1 x then y else e.1,bif Nat.beq e.1 y then none else p9 x y e.2)) m=some B-> ∃m0 B0,bh own m0=some B0/\p9 x y (some B0)=some B/\(m=y/\m0=x\/m≠y/\m≠x/\m0=m):=fun m B e=>by
  rw[DG hxy] at e;split at e
  ·cases e
  ·rename_i hm
   split at e
   ·cases hl:bh own x with
    |none=>rw[hl] at e;cases e
    |some B0=>rw[hl] at e;exact⟨x,B0,hl,e, .inl ⟨by assumption,J⟩⟩
   ·cases hl:bh own m with
    |none=>rw[hl] at e;cases e
    |some B0=>rw[hl] at e;exact⟨m,B0,hl,e, .inr ⟨by assumption,hm,J⟩⟩
 have rho: ∀m m0,(m=y/\m0=x\/m≠y/\m≠x/\m0=m)->(fun k=>if k=y then ρ x else ρ k) m=ρ m0:=fun m m0 h=>by
  rcases h with⟨h1,h2⟩|⟨h1,_,h2⟩
  ·subst h1 h2;simp
  ·subst h2;exact if_neg h1
 refine⟨r.gb,r.h,r.sz,r.df,fun k f e=>?_,fun m B e=>?_,fun m m' B B' e e' hne=>?_,fun m p h1 h2 e=>by
  have:y<2000000:=by simpa[mK] using hy
  show(if m=y then ρ x else ρ m).a=_;rw[if_neg (by omega)];exact r.fxd m p h1 h2 e⟩
 ·rw[BF] at e
  cases hf:ba fr k with
  |none=>rw[hf] at e;cases e
  |some g=>
   rw[hf] at e;cases e;obtain⟨v,h1,h2⟩:=r.fx k g hf;exact⟨v,h1,EW hxy h2⟩
 ·obtain⟨m0,B0,h1,h2,h3⟩:=inv m B e
  obtain⟨os,h4,h5⟩:=r.bx m0 B0 h1;refine⟨os,?_,h5⟩;have hr:=rho m m0 h3
  cases B0 with
  |b=>cases h2;obtain⟨vs,q1,q2,q3,q4⟩:=h4;exact⟨vs,by rw[hr];exact q1,q2,q3,q4⟩
  |c=>cases h2;obtain⟨vs,q1,q2,q3,q4,q5⟩:=h4;exact⟨vs,by rw[hr];exact q1,q2,q3,q4,by rw[hr];exact q5⟩
  |o ty cs lo=>cases h2;obtain⟨b,q,q1,q2,q3⟩:=h4;exact⟨b,q,by rw[hr];exact q1,q2,HD hxy q3⟩
 ·obtain⟨m0,B0,h1,_,h3⟩:=inv m B e
  obtain⟨m1,B1,h4,_,h6⟩:=inv m' B' e';have q1:=rho m m0 h3;have q2:=rho m' m1 h6;simp only at q1 q2;rw[q1,q2];refine r.dj m0 m1 B0 B1 h1 h4 fun e=>?_;rcases h3 with⟨h7,h8⟩|⟨h7,h8,h9⟩<;>rcases h6 with⟨g7,g8⟩|⟨g7,g8,g9⟩
  ·exact hne (h7.trans g7.symm)
  ·exact g8 (by rw[<-g9,<-e,h8])
  ·exact h8 (by rw[<-h9,e,g8])
  ·exact hne (by rw[<-h9,e,g9])
def fA(x y:Nat){fr1:aA}{own1:aH}{e:Exit}(h:wD x y fr own=some ⟨fr1,own1⟩)(k:av prog GB C n Q0 fr1 own1 (.ex e K))(hy:Nat.blt y 2000000=true:=by rfl):av prog GB C n Q0 fr own (.ex e K):=Sd hy h k
def So{d nm:Nat}(hnm:Nat.blt nm 2000000=true)(hl:ba fr d=some .nl){Φ:Act->World->Prop}{ty s:Nat}(hf:jF [nm] none (ba fr) (bh own))(h:SX GB C n (ba ((d, .rw nm)::fr)) (bh (m9 own nm (some (.b ty s [] true)))) Φ):SX GB C n (ba fr) (bh own) Φ:=by
 refine⟨fun ρ G ov a w r=>?_⟩;obtain⟨f1,f2⟩:=hf nm aQ;have hset:bh (m9 own nm (some (.b ty s [] true)))=upB (bh own) [(nm,some (.b ty s [] true))]:=by funext j;rw[zj];rfl
 rw[hset] at h;refine h.run (fun k=>if k=nm then⟨none,0,0⟩ else ρ k) G ov a w ⟨r.gb,r.h,r.sz,r.df,fun k f e=>?_,fun m B e=>?_,fun m m' B B' e e' hne=>?_,fun m p h1 h2 e=>by
  have:nm<2000000:=by simpa[mK] using hnm
  show(if m=nm then(⟨none,0,0⟩:SV) else ρ m).a=_;rw[if_neg (by omega)];exact r.fxd m p h1 h2 e⟩
 ·rw[js] at e
  split at e
  ·cases e;rename_i hk;subst hk
   obtain⟨v,h1,h2⟩:=r.fx _ _ hl;exact⟨v,h1,by rw[show v=_ from h2];show _=_;simp⟩
  ·obtain⟨v,h1,h2⟩:=r.fx k f e
   exact⟨v,h1,h2.ren fun m hm=>sF _ fun hc=>f1 k f (by simp) e (by rw[hm,hc])⟩
 ·simp only[upB] at e
  by_cases hm:m=nm
  ·subst hm;simp only[if_true] at e;cases e
   exact⟨[],⟨[],by simp only[if_true];exact .inl ⟨J,J,J⟩, .nil,by simp,fun _ o ho=>by cases ho⟩,fun o ho=>by cases ho⟩
  ·simp only[hm,if_false] at e
   obtain⟨os,h1,h2⟩:=r.bx m B e;exact⟨os,h1.ren (if_neg hm) fun q hq=>sF _ fun hc=>f2 m B hm e (by rw[<-hc];exact hq),h2⟩
 ·simp only[upB] at e e'
  intro b hb hb';by_cases hm:m=nm
  ·simp[hm] at hb
  ·by_cases hm':m'=nm
   ·simp[hm'] at hb'
   ·simp only[hm,hm',if_false] at e e' hb hb'
    exact r.dj m m' B B' e e' hne b hb hb'
def nr(d nm ty s:Nat){own1:aH}{c:Code}(hl:ba fr d=some .nl)(hf:sv [nm] none fr own=true)(ho:uN own nm (some (.b ty s [] true)) id=own1)(k:av prog GB C n Q0 ((d, .rw nm)::fr) own1 (.code c K))(hnm:Nat.blt nm 2000000=true:=by rfl):av prog GB C n Q0 fr own (.code c K):=by
 subst ho;exact So hnm hl (y9 hf) k
def iC:List (Option DV)->Nat->List DV
 |[],_=>[]
 |some d::t,b=>d::iC t b
 |none::t,b=> .v (.pointer (some ⟨b,0,none⟩))::iC t b
def Cz(lk:LK):List Operand->Option (Option Nat×List (Option DV))
 |[]=>some (none,[])
 |x::t=>match aO lk x,Cz lk t with
  |some (.ov nm 0),some (none,l)=>some (some nm,none::l)
  |some f,some (q,l)=>match kB f with
   |some d=>some (q,some d::l)
   |none=>none
  |_,_=>none
def D0(lk:LK)(fo:Operand)(args:Array Operand):Option (FuncId×Nat×List (Option DV)):=match aO lk fo with
 |some (.d (.v (.func (.func f) ⟨[]⟩ ⟨[]⟩)))=>match Cz lk args.toList with
  |some (some nm,l)=>some (f,nm,l)
  |_=>none
 |_=>none
def EO{lk:LK}{bk:BM}{ρ:NE}{G:Gh}{ov:List ao}{a:Act}{w:World}(r:bE GB C n lk bk ρ G ov a w){b:Nat}: ∀{x:List Operand} {q:Option Nat} {l:List (Option DV)},Cz lk x=some (q,l)->(∀nm,q=some nm->(ρ nm).a=some ⟨b,0,none⟩)->
  ∃y,fq (cg a) x=some y/\IsLs G (iC l b) y
 |[],q,l,e,_=>by cases e;exact⟨[],J, .nil⟩
 |x::t,q,l,e,hb=>by
  simp only[Cz] at e;split at e
  ·rename_i nm l' h1 h2
   cases e
   obtain⟨y,h3,b',h4,rfl⟩:=r.ev h1;have:=hb nm J;rw[h4] at this;cases this;obtain⟨ys,h5,h6⟩:=EO r (b:=b) h2 (fun nm e=>by cases e);exact⟨_::ys,by simp only[fq,h3,h5], .cons ((bc (G:=G)).2 J) h6⟩
  ·rename_i f q' l' _ h1 h2
   cases hd:kB f with
   |none=>rw[hd] at e;cases e
   |some d=>
   rw[hd] at e;cases e;obtain⟨y,h3,h4⟩:=r.ev h1;obtain⟨ys,h5,h6⟩:=EO r (b:=b) h2 hb;exact⟨y::ys,by simp only[fq,h3,h5], .cons (nk h4 hd) h6⟩
  ·cases e
def bE.lend{lk:LK}{bk:BM}{ρ:NE}{G:Gh}{ov:List ao}{a:Act}{w:World}{nm:Nat}{ty:TypeId}{cs:List FX}{lo:Bool}{csd:List DV}(r:bE GB C n lk bk ρ G ov a w)(hb:bk nm=some (.o ty cs lo))(hc:iI cs=some csd):
  ∃b m rest,(ρ nm).a=some ⟨b,0,none⟩/\IsLs G csd m/\ov.Perm ([⟨b,m,ty,lo⟩]++rest)/\ ∀o∈ov,o.b≠b->o∈rest:=by
 obtain⟨os,⟨b,m,h1,rfl,h2⟩,h3⟩:=r.bx _ _ hb;obtain⟨l1,l2,rfl⟩:=lL (h3 _ aQ);refine⟨b,m,l1++l2,h1,pP h2 hc,nU,fun o ho hne=>?_⟩;rcases cX.1 ho with ho|ho
 ·exact cW _ ho
 ·rcases aT.1 ho with rfl|ho
  ·exact absurd J hne
  ·exact cS _ ho
def Xb{P:Program}{lk:LK}{bk:BM}{fo:Operand}{args:Array Operand}{tys:Array TypeId}{f:FuncId}{nm:Nat}{l:List (Option DV)}{rv:DV}{dst:Option Nat}{ty ty0:TypeId}{pos:String}{af:Array Edge}{gd:Option (Nat×Bool)}{cs:List FX}{csd cs':List DV}{lo:Bool}
  (ha:D0 lk fo args=some (f,nm,l))(hb:bk nm=some (.o ty0 cs lo))(hc:iI cs=some csd)(hF: ∀b,PM GB P f (iC l b) b ty0 csd rv cs'){csx:List FX}(hx:cs'.map .d=csx):bO P GB C n lk bk ⟨dst, .call ⟨.value fo,args,tys⟩,ty,pos,af,gd⟩ (.d rv) [(nm,some (.o ty0 csx lo))] []:=by
 intro hd tl tb K' s1 s2 hf hk;refine⟨fun ρ G ov a w r Q=>?_⟩;subst hx;have r1:=r.mono s1 s2;unfold D0 at ha;split at ha<;>try (cases ha;done)
 rename_i h1;split at ha<;>cases ha;rename_i h2;obtain⟨y,hy,hy'⟩:=r1.ev h1;rw[(bc (G:=G)).1 hy'] at hy;obtain⟨b,m,rest,h3,h4,h5,h6⟩:=r1.lend hb hc;obtain⟨vs,h7,h8⟩:=EO r1 (b:=b) h2 (fun nm e=>by cases e;exact h3);refine awN (M:=[⟨b,m,ty0,lo⟩]) (rest:=rest) hy h7 h5 (hF b G vs m lo r.gb h8 h4) hd (fun v css G' hG hl hK a' w' rl=>?_) a w Q ⟨r.h,r.sz,cB a,r.df⟩;obtain⟨hr,m',rfl,hm'⟩:=hK;have rl':fC C n (Sx.put (cg a) dst v) (⟨b,m',ty0,lo⟩::rest) G' a' w':=rl;have r2:=r.upB (G':=G') (ov':=⟨b,m',ty0,lo⟩::rest) (w':=w') (B':= .o ty0 (cs'.map .d) lo) (os:=[⟨b,m',ty0,lo⟩]) hG.le rl'.h ⟨b,m',h3,J,tc hm'⟩ (fun o ho=>by rw[aV.1 ho];exact aQ)
  (fun o ho hne=>aJ _ (h6 o ho fun e=>hne (by rw[h3,e]))) ⟨_,s2 _ _ hb⟩
 exact hk.run ρ G' _ a' w' (r2.put (f:= .d rv) hr (jt rl'))
structure CmA where
 f:FuncId
 nm:Nat
 l:List (Option DV)
 ty:TypeId
 cs:List DV
 lo:Bool
def KZ(fr:aA)(own:aH)(cf:Cf):Option CmA:=match b6 fr cf with
 |some ⟨_, .call ⟨.value fo,args,_⟩,_,_,_,_⟩=>match D0 (bu fr cf) fo args with
  |some (f,nm,l)=>match f7 fr own cf nm with
   |some (.o ty cs lo)=>match iI cs with
    |some csd=>some ⟨f,nm,l,ty,csd,lo⟩
    |none=>none
   |_=>none
  |none=>none
 |_=>none
def wQ{α:Type}:List DV->(List FX->α)->α
 |[],k=>k []
 |d::t,k=>wQ t fun t'=>k (.d d::t')
def Bp{α:Type}: ∀{l:List DV} {k:List FX->α},wQ l k=k (l.map .d)
 |[],k=>rfl
 |d::t,k=>by simp only[wQ];rw[Bp];rfl
def cm[fu:Fu]{f:FuncId}{nm:Nat}{l:List (Option DV)}{ty:TypeId}{cs cs':List DV}{lo:Bool}{rv:DV}(ha:KZ fr own cf=some ⟨f,nm,l,ty,cs,lo⟩)(hF: ∀b,PM GB prog f (iC l b) b ty cs rv cs')
  (hgo:(wQ cs' fun csx=>cE tt n fu.n fr own cf (.d rv) [(nm,some (.o ty csx lo))] [])=⟨vc,fr',own',cf'⟩)(k:av prog GB C n Q0 fr' own' cf')
  (hv:ah vc:=by first|exact trivial|(simp only[ah];kernel_rfl)|(simp only[ah];omega)|(simp only[ah,aK,aS,aW];omega)):av prog GB C n Q0 fr own cf:=by
 unfold KZ at ha;split at ha<;>try (cases ha;done)
 rename_i hh;split at ha<;>try (cases ha;done)
 rename_i h1;split at ha<;>try (cases ha;done)
 rename_i h2;split at ha<;>cases ha;rename_i h3;rw[Bp] at hgo;exact us hh (Xb h1 h2 h3 hF J) hgo hv k
abbrev NM:Nat:=1000000
def vn:Nat->List (Option DV)->aA
 |_,[]=>[]
 |i,some v::t=>(i, .d v)::vn (i+1) t
 |i,none::t=>(i, .ov NM 0)::vn (i+1) t
def DE(b:Nat): ∀l:List (Option DV),(iC l b).length=l.length
 |[]=>rfl
 |some d::t=>by simp[iC,DE b t]
 |none::t=>by simp[iC,DE b t]
def G9{b:Nat}{ρ:NE}{G:Gh}(hρ:(ρ NM).a=some ⟨b,0,none⟩): ∀{ds:List (Option DV)} {vs:List Value} (i:Nat),IsLs G (iC ds b) vs-> ∀k f,ba (vn i ds) k=some f-> ∃y,(∃j,k=i+j/\vs[j]? =some y)/\bP ρ G f y
 |[],vs,i,h,k,f,e=>by cases e
 |some d::t,vs,i,h,k,f,e=>by
  obtain⟨y,m,rfl,h1,h2⟩:=bt.1 h;simp only[vn] at e;rw[js] at e;split at e
  ·cases e;rename_i hk;exact⟨y,⟨0,hk,rfl⟩,h1⟩
  ·obtain⟨u,⟨j,hj,hu⟩,h3⟩:=G9 hρ (i+1) h2 k f e
   exact⟨u,⟨j+1,by omega,by simpa using hu⟩,h3⟩
 |none::t,vs,i,h,k,f,e=>by
  obtain⟨y,m,rfl,h1,h2⟩:=bt.1 h;simp only[vn] at e;rw[js] at e;split at e
  ·cases e;rename_i hk;exact⟨y,⟨0,hk,rfl⟩,b,hρ,(bc (G:=G)).1 h1⟩
  ·obtain⟨u,⟨j,hj,hu⟩,h3⟩:=G9 hρ (i+1) h2 k f e
   exact⟨u,⟨j+1,by omega,by simpa using hu⟩,h3⟩
def D1(C:aC)(b:Nat)(m:List Value)(ty:TypeId)(lo:Bool)(rv:DV)(cs':List DV):Ending->World->Prop:=vw C [⟨b,m,ty,lo⟩] (fun v css G'=>Is G' rv v/\ ∃m',css=[m']/\IsLs G' cs' m')
def tM[fu:Fu]{b:Nat}{f:FuncId}{fb:Func}{c:Code}{k:Nat}{l:List (Option DV)}{cs cs':List DV}{ty:TypeId}{rv:DV}(hf:prog.funcs[f]? =some fb)(hb:fb.body=some c)(hn:(fb.name== "runtime.NumGoroutine")=false)(hm:fb.ntmps=k)(hlen:Nat.ble l.length k=true)
  (hgo:(wQ cs fun csx=>go tt k fu.n [] (vn 0 l) [(NM,some (.o ty csx false))] (.code c []))=⟨vc,fr,own,cf⟩)(h: ∀C b m lo,C.mb=[b]->av prog GB C k (fk C prog fb (D1 C b m ty lo rv cs')) fr own cf)
  (hv:ah vc:=by first|exact trivial|(simp only[ah];kernel_rfl)|(simp only[ah];omega)|(simp only[ah,aK,aS,aW];omega)):PM GB prog f (iC l b) b ty cs rv cs':=by
 intro G vs m lo hg hvs hm';refine mw.introR hf hb hn hm (by rw[hvs.len,DE];exact hlen) fun C _ hmb hrd hfx=>?_;intro a w rl;refine tZ hrd ?_;rw[Bp] at hgo;have h1:=fi (GB:=GB) (C:=C) (Q0:=fk C prog fb (D1 C b m ty lo rv cs')) hgo hv (h C b m lo (by simpa using hmb));refine h1.run (fun _=>⟨some ⟨b,0,none⟩,0,0⟩) G [⟨b,m,ty,false⟩] a w ⟨hg,rl.h,rl.sz,rl.df,fun k f e=>?_,fun nm B e=>?_,fun nm nm' B B' e e' hne=>?_,fun nm p _ _ e=>by rw[hfx] at e;cases e⟩
 ·obtain⟨y,⟨j,hj,hy⟩,h2⟩:=G9 (ρ:=fun _=>⟨some ⟨b,0,none⟩,0,0⟩) (b:=b) rfl 0 hvs k f e
  refine⟨y,rl.fr k y ?_,h2⟩;rw[hj];exact uB vs 0 j y hy
 ·rw[i7] at e
  split at e
  ·cases e;exact⟨[⟨b,m,ty,false⟩],⟨b,m,J,J,tc hm'⟩,fun o ho=>ho⟩
  ·cases e
 ·rw[i7] at e e'
  split at e<;>split at e'
  ·rename_i h2 h3;exact absurd (h2.trans h3.symm) hne
  ·cases e'
  ·cases e
  ·cases e
def I2(own:aH)(nm:Nat):Option (TypeId×List DV):=match bh own nm with
 |some (.o ty cs false)=>match iI cs with
  |some l=>some (ty,l)
  |none=>none
 |_=>none
def lG{fb:Func}{b:Nat}{m:List Value}{ty:TypeId}{lo:Bool}{ds cs1 cs':List DV}{rv:DV}(hmb:C.mb=[b])(hr:oH tt fr own fb.results.toList=some ds)(ho:I2 own NM=some (ty,cs1))(hd:iq ds=rv)(hc:cs1=cs'):
  av prog GB C n (fk C prog fb (D1 C b m ty lo rv cs')) fr own (.ex .ret []):=by
 refine⟨fun ρ G ov a w r=>?_⟩;obtain⟨vs,h1,h2⟩:=Am r hr;have hk:Is G rv (gn vs):=hd▸yy h2;unfold I2 at ho;split at ho<;>try (cases ho;done)
 rename_i hb;split at ho<;>cases ho;rename_i hl;obtain⟨b',m',rest,h3,h4,h5,h6⟩:=r.lend hb hl;have hbb:b'=b:=by
  have:=(r.h.hown _ (h5.mem_iff.2 (cW _ aQ))).2.2.2 J;rw[hmb] at this;simpa using this
 subst hbb hc;exact DO (C:=C) (n:=n) (fr:=cg a) (own:=ov) (G:=G) (M:=[⟨b',m,ty,lo⟩]) (css:=[m']) (K:=fun v css G'=>Is G' rv v/\ ∃m',css=[m']/\IsLs G' cs1 m') h1 J ([⟨b',m',ty,false⟩]++rest) h5 (pN _ _) ⟨hk,m',J,h4⟩ a w ⟨r.h,r.sz,cB a,r.df⟩
end
section
variable {GB:Gh} {C:aC} {n:Nat} {fr1 fr2:aA} {own1 own2:aH} {cf1 cf2:Cf} {vc1 vc2:List Prop} {Q0:Exit->Act->World->Prop} {fr fr':aA} {own own':aH} {cf cf':Cf} {vc:List Prop} {ops:Array Oper} {o:Oper} {K:List Kt} {r:List Oper}
def csd[fu1:Fu][fu2:Fu](d:Nat){p:Prop}{hp:Decidable p}(hl:ba fr d=some (.d (.v (.bool (@decide p hp)))))(g1:go tt n fu1.n [] ((d, .tt)::fr) own (.ops ops r K)=⟨vc1,fr1,own1,cf1⟩)(g2:go tt n fu2.n [] ((d, .ff)::fr) own (.ops ops r K)=⟨vc2,fr2,own2,cf2⟩)
  (k1:p->av prog GB C n Q0 fr1 own1 cf1)(k2: ¬p->av prog GB C n Q0 fr2 own2 cf2)
  (v1:p->ah vc1:=by intro;first|exact trivial|(simp only[ah];omega)|(simp only[ah,aK,aS,aW];omega))(v2: ¬p->ah vc2:=by intro;first|exact trivial|(simp only[ah];omega)|(simp only[ah,aK,aS,aW];omega)):av prog GB C n Q0 fr own (.ops ops r K):=
 jv (fu1:=fu1) (fu2:=fu2) d hl g1 g2 (fun h=>k1 (of_decide_eq_true h)) (fun h=>k2 (of_decide_eq_false h)) (fun h=>v1 (of_decide_eq_true h)) (fun h=>v2 (of_decide_eq_false h))
def A4(d:Nat)(hl:ba fr d=some .nl){c:Code}(h:av prog GB C n Q0 ((d, .d (.sl []))::fr) own (.code c K)):av prog GB C n Q0 fr own (.code c K):=
 oE (g:= .d (.sl [])) hl (fun ρ G y hy=>(show Is G (.sl []) y from nk (ρ:=ρ) (f:= .nl) hy J)) h
def bO.to{lk:LK}{bk:BM}{o:Oper}{f g:FX}(h:bO prog GB C n lk bk o f [] [])(e: ∀ρ G y,bP ρ G f y->bP ρ G g y):bO prog GB C n lk bk o g [] []:=fun hd tl tb Q h1 h2 hf hk=>
 h hd tl tb Q h1 h2 hf ⟨fun ρ G ov a w r=>hk.run ρ G ov a w ⟨r.gb,r.h,r.sz,r.df,fun k f' e'=>by
  cases ho:o.dst with
  |none=>exact r.fx k f' (by simpa only[ho,dP] using e')
  |some d=>
   have hr:=r.fx;simp only[ho,dP] at e' hr;by_cases q:k=d
   ·rw[if_pos q] at e';cases e'
    obtain⟨y,h3,h4⟩:=hr k f (by rw[if_pos q]);exact⟨y,h3,e _ _ _ h4⟩
   ·rw[if_neg q] at e'
    exact hr k f' (by rw[if_neg q];exact e'),r.bx,r.dj,r.fxd⟩⟩
def vg(fr:aA)(own:aH)(cf:Cf):Option (Oper×FX):=match b6 fr cf with
 |some o=>match wH tt (bu fr cf) (f7 fr own cf) o.dst o.op with
  |some ⟨none,f,[],[]⟩=>some (o,f)
  |_=>none
 |none=>none
def l6[fu1:Fu][fu2:Fu]{f:FX}{p:Prop}{hp:Decidable p}(hs:vg fr own cf=some (o,f))(hb:q0 f=some (@decide p hp))(g1:cE tt n fu1.n fr own cf .tt [] []=⟨vc1,fr1,own1,cf1⟩)(g2:cE tt n fu2.n fr own cf .ff [] []=⟨vc2,fr2,own2,cf2⟩)
  (k1:p->av prog GB C n Q0 fr1 own1 cf1)(k2: ¬p->av prog GB C n Q0 fr2 own2 cf2)
  (v1:p->ah vc1:=by intro;first|exact trivial|(simp only[ah];kernel_rfl)|(simp only[ah];omega)|(simp only[ah,aK,aS,aW];omega))(v2: ¬p->ah vc2:=by intro;first|exact trivial|(simp only[ah];kernel_rfl)|(simp only[ah];omega)|(simp only[ah,aK,aS,aW];omega)):av prog GB C n Q0 fr own cf:=by
 unfold vg at hs;split at hs<;>try (cases hs;done)
 rename_i o' hh;split at hs<;>cases hs;rename_i hc;obtain⟨dst,op,ty,pos,af,gd⟩:=o;have h0:=vu (P:=prog) (GB:=GB) (C:=C) (n:=n) (ty':=ty) (pos:=pos) (af:=af) (gd:=gd) e7 hc (fun p e=>by cases e);by_cases h:p
 ·exact us hh (bO.to h0 fun ρ G y hy=>by rw[uw hy hb,decide_eq_true h];exact J) g1 (v1 h) (k1 h)
 ·exact us hh (bO.to h0 fun ρ G y hy=>by rw[uw hy hb,decide_eq_false h];exact J) g2 (v2 h) (k2 h)
def UR{tl:LK}{tb:BM}{Ψ:Act->World->Prop}{d:Nat}{B:Bk}{f:FX}{v:DV}
  (hz: ∀lk bk ρ G ov a w,bE GB C n lk bk ρ G ov a w->bk d=some B-> ∃G' ov',bz G G'/\bm C ov' G' w/\(∀o∈ov,(ρ d).a≠some ⟨o.b,0,none⟩->o∈ov')/\ ∀y,bP ρ G f y->Is G' v y)(hk:SX GB C n (dP tl (some d) (.d v)) (Sx.upB tb [(d,none)]) Ψ):SX GB C n (dP tl (some d) f) (Sx.upB tb [(d,some B)]) Ψ:=by
 refine⟨fun ρ G ov a w r=>?_⟩;have hbd:Sx.upB tb [(d,some B)] d=some B:=by simp[Sx.upB]
 obtain⟨G',ov',h1,h2,h3,h4⟩:=hz _ _ ρ G ov a w r hbd;refine hk.run ρ G' ov' a w ⟨r.gb.trans h1,h2,r.sz,r.df,fun k g e=>?_,fun m B' e=>?_,fun m m' B1 B2 e e'=>?_,r.fxd⟩
 ·by_cases hk:k=d
  ·subst hk
   simp only[dP,if_true] at e;cases e;obtain⟨y,g1,g2⟩:=r.fx k f (by simp[dP]);exact⟨y,g1,h4 y g2⟩
  ·simp only[dP,hk,if_false] at e
   obtain⟨y,g1,g2⟩:=r.fx k g (by simp[dP,hk,e]);exact⟨y,g1,g2.up h1⟩
 ·simp only[Sx.upB] at e
  split at e
  ·cases e
  ·rename_i hm
   have e':Sx.upB tb [(d,some B)] m=some B':=by simp[Sx.upB,hm,e]
   obtain⟨os,g1,g2⟩:=r.bx m B' e';exact⟨os,g1.up h1,fun o ho=>h3 o (g2 o ho) fun hc=>r.dj m d B' B e' hbd hm _ (g1.blk ho) hc⟩
 ·simp only[Sx.upB] at e e'
  split at e
  ·cases e
  ·rename_i hm
   split at e'
   ·cases e'
   ·rename_i hm'
    exact r.dj m m' B1 B2 (by simp[Sx.upB,hm,e]) (by simp[Sx.upB,hm',e'])
def bO.frz2{lk:LK}{bk:BM}{o:Oper}{d nm:Nat}{B:Bk}{f:FX}{v:DV}(hd:o.dst=some d)(h:bO prog GB C n lk bk o f [(nm,none),(d,some B)] [d])
  (hz: ∀lk bk ρ G ov a w,bE GB C n lk bk ρ G ov a w->bk d=some B-> ∃G' ov',bz G G'/\bm C ov' G' w/\(∀o∈ov,(ρ d).a≠some ⟨o.b,0,none⟩->o∈ov')/\ ∀y,bP ρ G f y->Is G' v y):bO prog GB C n lk bk o (.d v) [(nm,none),(d,none)] [d]:=by
 intro hd' tl tb K s1 s2 hf hk;refine h hd' tl tb K s1 s2 hf ?_;rw[hd] at hk⊢;exact UR (tb:=Sx.upB tb [(nm,none)]) hz hk
def ZN(d:Nat)(nm:Option Nat):List (Nat×Option Bk):=match nm with
 |some nm=>[(nm,none),(d,none)]
 |none=>[(d,none)]
def k8[fu:Fu]{d:Nat}{nm:Option Nat}{e s b:Nat}{ds ds2:List DV}(ds':List DV)(h:Ce fr own cf=some ⟨d,nm,e,s,b,ds,ds2⟩)(hds:ds++ds2=ds')(ho2:cC s ds2)(hgo:cE tt n fu.n fr own cf (.d (.sl ds')) (ZN d nm) [d]=⟨vc,fr',own',cf'⟩)(k:av prog GB C n Q0 fr' own' cf')
  (ho:nm.isNone=true->cC s ds/\0<ds2.length:=by intro h;first|(cases h;done)|exact⟨Fa rfl,by simp⟩)(hbd:(ds.length+ds2.length)*b<=140737488355328:=by simp;omega)
  (hv:ah vc:=by first|exact trivial|(simp only[ah];kernel_rfl)|(simp only[ah];omega)|(simp only[ah,aK,aS,aW];omega)):av prog GB C n Q0 fr own cf:=by
 obtain⟨o,h1,h2,h3⟩:=Ow (GB:=GB) (C:=C) (n:=n) h ds' hds ho ho2 hbd
 cases nm with
 |none=>exact us h1 (h3.frzRow h2) hgo hv k
 |some nm=>exact us h1 (bO.frz2 h2 h3 fun _ _ _ _ _ _ _ r hb=>r.frzRow hb) hgo hv k
def dx[fu:Fu]{f:FX}(hs:vg fr own cf=some (o,f))(hb:q0 f=some true)(hgo:cE tt n fu.n fr own cf .tt [] []=⟨vc,fr',own',cf'⟩)(k:av prog GB C n Q0 fr' own' cf')
  (hv:ah vc:=by first|exact trivial|(simp only[ah];kernel_rfl)|(simp only[ah];omega)|(simp only[ah,aK,aS,aW];omega)):av prog GB C n Q0 fr own cf:=by
 unfold vg at hs;split at hs<;>try (cases hs;done)
 rename_i o' hh;split at hs<;>cases hs;rename_i hc;obtain⟨dst,op,ty,pos,af,gd⟩:=o;have h0:=vu (P:=prog) (GB:=GB) (C:=C) (n:=n) (ty':=ty) (pos:=pos) (af:=af) (gd:=gd) e7 hc (fun p e=>by cases e);exact us hh (bO.to h0 fun ρ G y hy=>by rw[uw hy hb];exact J) hgo hv k
def d7[fu:Fu]{f:FX}(hs:vg fr own cf=some (o,f))(hb:q0 f=some false)(hgo:cE tt n fu.n fr own cf .ff [] []=⟨vc,fr',own',cf'⟩)(k:av prog GB C n Q0 fr' own' cf')
  (hv:ah vc:=by first|exact trivial|(simp only[ah];kernel_rfl)|(simp only[ah];omega)|(simp only[ah,aK,aS,aW];omega)):av prog GB C n Q0 fr own cf:=by
 unfold vg at hs;split at hs<;>try (cases hs;done)
 rename_i o' hh;split at hs<;>cases hs;rename_i hc;obtain⟨dst,op,ty,pos,af,gd⟩:=o;have h0:=vu (P:=prog) (GB:=GB) (C:=C) (n:=n) (ty':=ty) (pos:=pos) (af:=af) (gd:=gd) e7 hc (fun p e=>by cases e);exact us hh (bO.to h0 fun ρ G y hy=>by rw[uw hy hb];exact J) hgo hv k
def Dr(nm:Nat){ty:TypeId}{cs:List FX}{lo:Bool}{ds:List DV}{own1:aH}{e:Exit}(hb:bh own nm=some (.o ty cs lo))(hc:iI cs=some ds)(ho:(nm,some (.o ty (ds.map .d) lo))::own=own1)(k:av prog GB C n Q0 fr own1 (.ex e K)):av prog GB C n Q0 fr own (.ex e K):=by
 subst ho;have old: ∀m B,bh ((nm,some (.o ty (ds.map .d) lo))::own) m=some B-> ∃B0,bh own m=some B0:=fun m B e=>by
  rw[i7] at e;split at e
  ·rename_i h;subst h;exact⟨_,hb⟩
  ·exact⟨_,e⟩
 refine⟨fun ρ G ov a w r=>k.run ρ G ov a w ⟨r.gb,r.h,r.sz,r.df,r.fx,fun m B e=>?_,fun m m' B B' e e'=>?_,r.fxd⟩⟩
 ·rw[i7] at e
  split at e
  ·rename_i h;subst h;cases e
   obtain⟨os,⟨b,m,h1,rfl,h2⟩,h3⟩:=r.bx _ _ hb;exact⟨_,⟨b,m,h1,J,tc (pP h2 hc)⟩,h3⟩
  ·exact r.bx _ _ e
 ·obtain⟨B0,h0⟩:=old _ _ e
  obtain⟨B1,h1⟩:=old _ _ e';exact r.dj m m' B0 B1 h0 h1
end
section
variable {GB:Gh} {C:aC} {n:Nat} {Q0:Exit->Act->World->Prop} {fr fr':aA} {own own':aH} {cf cf':Cf} {vc:List Prop} {ops:Array Oper} {o:Oper} {K:List Kt} {r:List Oper}
def NG(GB:Gh)(C:aC)(n:Nat)(lk:LK)(bk:BM)(o:Oper)(ι:Type)(f:ι->FX)(bl:ι->List (Nat×Option Bk))(nw:List Nat):Prop:=
 b7 n o.dst=true-> ∀(tl:LK) (tb:BM) (K:Act->World->Prop),jm lk tl->jm bk tb->jF nw o.dst tl tb->(∀x,SX GB C n (dP tl o.dst (f x)) (Sx.upB tb (bl x)) K)->SX GB C n tl tb (fun a w=> ∀Q,o.wp prog a w K Q)
def hdO:Cf->Option (Array Oper×Oper×List Oper×List Kt)
 | .ops ops (o::r) K=>some (ops,o,r,K)
 |_=>none
def Eq(n q:Nat)(fr:aA)(own:aH)(cf:Cf)(f:FX)(bl:List (Nat×Option Bk)):wP:=match cf with
 | .ops ops (o::r) K=>pO own bl fun own'=>vl fr o.dst f fun fr'=>go tt n q [] fr' own' (.ops ops r K)
 |_=>mn
def HB(n:Nat)(fr:aA)(own:aH)(cf:Cf)(nw:List Nat):Bool:=match cf with
 | .ops ops (o::_) _=>sv nw o.dst fr own&&b7 n o.dst&&tj ops (ba fr) o.guard
 |_=>false
def VG{q:Nat}{ι:Type}{f:ι->FX}{bl:ι->List (Nat×Option Bk)}{nw:List Nat}{vc:ι->List Prop}{fr':ι->aA}{own':ι->aH}{cf':ι->Cf}(hh:b6 fr cf=some o)(ho:HB n fr own cf nw=true)(h:NG GB C n (bu fr cf) (f7 fr own cf) o ι f bl nw)
  (hgo: ∀x,Eq n q fr own cf (f x) (bl x)=⟨vc x,fr' x,own' x,cf' x⟩)(hv: ∀x,ah (vc x))(k: ∀x,av prog GB C n Q0 (fr' x) (own' x) (cf' x)):av prog GB C n Q0 fr own cf:=by
 obtain⟨ops,h1,h2⟩:=GO hh
 cases cf with
 |ops ops' r K=>
  cases r with
  |nil=>cases h1
  |cons o' r=>
   cases h1
   simp only[HB,aN] at ho;refine⟨fun ρ G ov a w rl=>?_⟩;show wpListIn _ _ _ _ _ (o::r) a w;unfold wpListIn;rw[if_pos (Bo ho.2 ρ G ov a w rl)];refine Hc ((h ho.1.2 _ _ (fun a w=>a.defers=C.mks/\wpListIn (FW C.rd) 0 prog ops (cQ C.rd prog Q0 K) r a w) (jm.refl _) (jm.refl _) (y9 ho.1.1) (fun x=>?_)).run ρ G ov a w rl) fun a' w' k=>⟨k.1.trans rl.df.symm,k.2⟩;refine⟨fun ρ G ov a w r0=>⟨r0.df,SX.run (GB:=GB) (C:=C) (n:=n) ?_ ρ G ov a w r0⟩⟩;have hx:=hgo x;unfold Eq at hx;simp only[uk,yx] at hx;have:=fi (GB:=GB) (C:=C) (Q0:=Q0) hx (hv x) (k x);show SX GB C n (dP (ba fr) o.dst (f x)) (Sx.upB (bh own) (bl x)) _;rw[<-Ge,<-AO];exact this
 |_=>cases ho
def awX{lk:LK}{bk:BM}{fo:Operand}{args:Array Operand}{tys:Array TypeId}{f:FuncId}{d:Nat}{ds:List DV}{ι:Type}{ty ty0:TypeId}{pos:String}{af:Array Edge}{gd:Option (Nat×Bool)}{cs':ι->List DV}
  (ha:rD lk fo args=some (f,ds))(hF:PN GB prog f ds ty0 ι cs'):NG GB C n lk bk ⟨some d, .call ⟨.value fo,args,tys⟩,ty,pos,af,gd⟩ ι (fun _=> .ov d 0) (fun x=>[(d,some (.o ty0 ((cs' x).map .d) true))]) [d]:=by
 intro hd tl tb K' s1 s2 hf hk;refine⟨fun ρ G ov a w r Q=>?_⟩;have r1:=r.mono s1 s2;obtain⟨h1,h2⟩:=CY ha;obtain⟨y,hy,hy'⟩:=r1.ev h1;rw[(bc (G:=G)).1 hy'] at hy;obtain⟨vs,h3,h4⟩:=r1.evDs h2;refine wF (M:=[]) (rest:=ov) hy h3 (List.Perm.refl _) (hF G vs r.gb h4) hd (fun v own1 G' hG hK a' w' rl=>?_) a w Q ⟨r.h,r.sz,cB a,r.df⟩;obtain⟨x,b,m,rfl,rfl,hm⟩:=hK;have rl':fC C n (Sx.put (cg a) (some d) (.pointer (some ⟨b,0,none⟩))) (⟨b,m,ty0,true⟩::ov) G' a' w':=by simpa[relo,io] using rl
 have hnd:=(cZ.1 rl'.h.nd).1;exact(hk x).run _ G' _ a' w' (r.new (x:=⟨some ⟨b,0,none⟩,0,0⟩) (B':= .o ty0 ((cs' x).map .d) true) (os:=[⟨b,m,ty0,true⟩]) hf hG.le rl'.h ⟨b,m,by simp,J,tc hm⟩ (fun o ho=>by rw[aV.1 ho];exact aQ)
  (fun o ho=>aJ _ ho) (fun o ho e=>by cases e;exact hnd o ho J) (f:= .ov d 0) (y:= .pointer (some ⟨b,0,none⟩)) ⟨b,by simp,J⟩ (jt rl'))
def IR(fr:aA)(cf:Cf):Option (FuncId×List DV×Nat):=match b6 fr cf with
 |some ⟨some d, .call ⟨.value fo,args,_⟩,_,_,_,_⟩=>match rD (bu fr cf) fo args with
  |some (f,ds)=>some (f,ds,d)
  |none=>none
 |_=>none
def cn[fu:Fu]{f:FuncId}{d:Nat}{ds:List DV}{ty:TypeId}{ι:Type}{cs':ι->List DV}{vc:ι->List Prop}{fr':ι->aA}{own':ι->aH}{cf':ι->Cf}(ha:IR fr cf=some (f,ds,d))(hF:PN GB prog f ds ty ι cs')
  (hgo: ∀x,(wQ (cs' x) fun csx=>Eq n fu.n fr own cf (.ov d 0) [(d,some (.o ty csx true))])=⟨vc x,fr' x,own' x,cf' x⟩)(k: ∀x,av prog GB C n Q0 (fr' x) (own' x) (cf' x))(ho:HB n fr own cf [d]=true:=by rfl)
  (hv: ∀x,ah (vc x):=by intro;first|exact trivial|(simp only[ah];kernel_rfl)|(simp only[ah];omega)|(simp only[ah,aK,aS,aW];omega)):av prog GB C n Q0 fr own cf:=by
 unfold IR at ha;split at ha<;>try (cases ha;done)
 rename_i hh;split at ha<;>cases ha;rename_i h1;simp only[Bp] at hgo;exact VG hh ho (awX h1 hF) hgo hv k
def aEO(C:aC)(b:Nat)(m:List Value)(ty:TypeId)(lo:Bool)(ι:Type)(rv:ι->DV)(cs':ι->List DV):Ending->World->Prop:=vw C [⟨b,m,ty,lo⟩] (fun v css G'=> ∃x,Is G' (rv x) v/\ ∃m',css=[m']/\IsLs G' (cs' x) m')
end
section
variable {GB:Gh} {C:aC} {n:Nat} {Q0:Exit->Act->World->Prop} {fr fr':aA} {own own':aH} {cf cf':Cf} {vc:List Prop} {ops:Array Oper} {o:Oper} {K:List Kt} {r:List Oper}
def aHO(fr:aA)(cf:Cf):Option Nat:=match b6 fr cf with
 |some o=>o.dst
 |none=>none
def aE5(C:aC)(b:Nat)(ty:TypeId)(s:Nat)(ty2:TypeId)(ι:Type)(rows cs':ι->List DV):Ending->World->Prop:=qp C (fun v own' G'=> ∃x w m' B,v= .slice w.a w.n w.c/\own'=⟨b,m',ty,false⟩::B/\IsLs G' (cs' x) m'/\dk G' ⟨w,s,ty2,rows x,true⟩ B/\ ∀o∈B,b≠o.b)
end
section
variable {GB:Gh} {C:aC} {n:Nat} {Q0:Exit->Act->World->Prop} {fr fr':aA} {own own':aH} {cf cf':Cf} {vc:List Prop} {ops:Array Oper} {o:Oper} {K:List Kt} {r:List Oper}
def F7(C:aC)(ty:TypeId)(ι:Type)(cs:ι->List DV):Ending->World->Prop:=qp C (fun v own' G'=> ∃x b m,v= .pointer (some ⟨b,0,none⟩)/\own'=[⟨b,m,ty,true⟩]/\IsLs G' (cs x) m)
def Qw[fu:Fu]{f:FuncId}{fb:Func}{c:Code}{m:Nat}{ds:List DV}{ty:TypeId}{ι:Type}{cs:ι->List DV}(hf:prog.funcs[f]? =some fb)(hb:fb.body=some c)(hn:(fb.name== "runtime.NumGoroutine")=false)(hm:fb.ntmps=m)(hlen:Nat.ble ds.length m=true)
  (hgo:go tt m fu.n [] (qg 0 ds) [] (.code c [])=⟨vc,fr,own,cf⟩)(k: ∀C:aC,C.mb=[]->av prog GB C m (fk C prog fb (F7 C ty ι cs)) fr own cf)
  (hv:ah vc:=by first|exact trivial|(simp only[ah];kernel_rfl)|(simp only[ah];omega)|(simp only[ah,aK,aS,aW];omega)):PN GB prog f ds ty ι cs:=by
 intro G vs hg hvs;refine gO.introR hf hb hn hm (by rw[hvs.len];exact hlen) fun C _ hmb hrd hfx=>?_;intro a w rl;refine tZ hrd ?_;have h:=fi (GB:=GB) (C:=C) (Q0:=fk C prog fb (F7 C ty ι cs)) hgo hv (k C (by simpa using hmb));exact h.run (fun _=>⟨none,0,0⟩) G [] a w ⟨hg,rl.h,rl.sz,rl.df,(fun k f e=>vq hvs rl.fr k f e),(fun nm B e=>by cases e),(fun nm nm' B B' e=>by cases e),fun nm p _ _ e=>by rw[hfx] at e;cases e⟩
def UM{fb:Func}{t d:Nat}{ty:TypeId}{ι:Type}{cs:ι->List DV}{cs1:List FX}{l:List DV}(x:ι)(hr:fb.results.toList=[.tmp t])(hl:ba fr t=some (.ov d 0))(hw:bh own d=some (.o ty cs1 true))(hc:iI cs1=some l)(hd:l=cs x):
  av prog GB C n (fk C prog fb (F7 C ty ι cs)) fr own (.ex .ret []):=by
 refine⟨fun ρ G ov a w r=>?_⟩;subst hd;obtain⟨b,m,rest,h3,h4,h5,h6⟩:=r.lend hw hc;obtain⟨y,hy,b',hb',hy'⟩:=r.ev (x:= .tmp t) (f:= .ov d 0) hl;rw[h3] at hb';cases hb';subst hy';exact Yz (C:=C) (n:=n) (fr:=cg a) (own:=ov) (G:=G) (vs:=[.pointer (some ⟨b,0,none⟩)]) (by rw[hr];exact .tmp hy .nil) (⟨b,m,ty,true⟩::rest) [⟨b,m,ty,true⟩] (by simpa using h5) (.cons_cons _ (lT _)) (fun _=>⟨x,b,m,J,J,h4⟩) a w ⟨r.h,r.sz,cB a,r.df⟩
def Qf[fu:Fu]{d:Nat}{l:List DV}(h:JO fr cf=some (d,l))(hgo:cE tt n fu.n fr own cf (.d (.pt l)) [(d,none)] [d]=⟨vc,fr',own',cf'⟩)(k:av prog GB C n Q0 fr' own' cf')
  (hv:ah vc:=by first|exact trivial|(simp only[ah];kernel_rfl)|(simp only[ah];omega)|(simp only[ah,aK,aS,aW];omega)):av prog GB C n Q0 fr own cf:=by
 unfold JO at h;split at h<;>try (cases h;done)
 rename_i hh;split at h<;>try (cases h;done)
 rename_i g hx;rw[cond_eq_ite] at h;split at h<;>try (cases h;done)
 rename_i hc;simp only[aN] at hc;split at h<;>cases h;rename_i hl;exact us hh (Sw hx hc.1 hc.2 hl) hgo hv k
end
section
variable {GB:Gh} {C:aC} {n:Nat} {Q0:Exit->Act->World->Prop} {fr fr':aA} {own own':aH} {cf cf':Cf} {vc:List Prop} {ops:Array Oper} {o:Oper} {K:List Kt} {r:List Oper}
def gA:List (Option DV)->SV->List DV
 |[],_=>[]
 |some d::t,w=>d::gA t w
 |none::t,w=> .v (.slice w.a w.n w.c)::gA t w
def BY(lk:LK):List Operand->Option (Option Nat×List (Option DV))
 |[]=>some (none,[])
 |x::t=>match aO lk x,BY lk t with
  |some (.rw nm),some (none,l)=>some (some nm,none::l)
  |some f,some (q,l)=>match kB f with
   |some d=>some (q,some d::l)
   |none=>none
  |_,_=>none
def wn(lk:LK)(fo:Operand)(args:Array Operand):Option (FuncId×Nat×List (Option DV)):=match aO lk fo with
 |some (.d (.v (.func (.func f) ⟨[]⟩ ⟨[]⟩)))=>match BY lk args.toList with
  |some (some nm,l)=>some (f,nm,l)
  |_=>none
 |_=>none
def BK{lk:LK}{bk:BM}{ρ:NE}{G:Gh}{ov:List ao}{a:Act}{w:World}(r:bE GB C n lk bk ρ G ov a w){z:SV}: ∀{x:List Operand} {q:Option Nat} {l:List (Option DV)},BY lk x=some (q,l)->(∀nm,q=some nm->ρ nm=z)->
  ∃y,fq (cg a) x=some y/\IsLs G (gA l z) y
 |[],q,l,e,_=>by cases e;exact⟨[],J, .nil⟩
 |x::t,q,l,e,hb=>by
  simp only[BY] at e;split at e
  ·rename_i nm l' h1 h2
   cases e
   obtain⟨y,h3,h4⟩:=r.ev h1
   cases (show y=_ from h4)
   obtain⟨ys,h5,h6⟩:=BK r (z:=z) h2 (fun nm e=>by cases e);have hz:=hb nm J;subst hz;exact⟨Value.slice (ρ nm).a (ρ nm).n (ρ nm).c::ys,by simp only[fq,h3,h5], .cons ((bc (G:=G)).2 J) h6⟩
  ·rename_i f q' l' _ h1 h2
   cases hd:kB f with
   |none=>rw[hd] at e;cases e
   |some d=>
   rw[hd] at e;cases e;obtain⟨y,h3,h4⟩:=r.ev h1;obtain⟨ys,h5,h6⟩:=BK r (z:=z) h2 hb;exact⟨y::ys,by simp only[fq,h3,h5], .cons (nk h4 hd) h6⟩
  ·cases e
def ZJ{lk:LK}{bk:BM}{fo:Operand}{args:Array Operand}{tys:Array TypeId}{f:FuncId}{nm d:Nat}{l:List (Option DV)}{s:Nat}{ty ty0:TypeId}{pos:String}{af:Array Edge}{gd:Option (Nat×Bool)}{dsi dso pre post:List DV}{lo:Bool}(hne:Nat.beq nm d=false)
  (ha:wn lk fo args=some (f,nm,l))(hb:bk nm=some (.b ty0 s dsi lo))(hF:PB GB prog f (gA l) s ty0 dsi (fun w=> .tp (pre++ .v (.slice w.a w.n w.c)::post)) dso):bO prog GB C n lk bk ⟨some d, .call ⟨.value fo,args,tys⟩,ty,pos,af,gd⟩ (.bx true pre d post) [(nm,none),(d,some (.b ty0 s dso lo))] [d]:=by
 intro hd tl tb K' s1 s2 hf hk;refine⟨fun ρ G ov a w r Q=>?_⟩;have r1:=r.mono s1 s2;unfold wn at ha;split at ha<;>try (cases ha;done)
 rename_i h1;split at ha<;>cases ha;rename_i h2;obtain⟨y,hy,hy'⟩:=r1.ev h1;rw[(bc (G:=G)).1 hy'] at hy;obtain⟨B,g1,g2⟩:=r1.bx _ _ hb;have hB:dk G ⟨ρ nm,s,ty0,dsi,lo⟩ B:=g1;obtain⟨vs,h7,h8⟩:=BK r1 (z:=ρ nm) h2 (fun nm e=>by cases e;rfl);have hp: ∃rest,ov.Perm (B++rest)/\ ∀o∈ov,(∀o'∈B,o.b≠o'.b)->o∈rest:=by
  rcases hB with⟨vs',⟨_,_,e⟩|⟨b0,r0,lo0,_,e,_⟩,_⟩
  ·rw[e];exact⟨ov,List.Perm.refl _,fun o ho _=>ho⟩
  ·rw[e] at g2⊢
   obtain⟨l1,l2,e2⟩:=lL (g2 _ aQ);rw[e2];refine⟨l1++l2,nU,fun o ho hno=>?_⟩;rcases cX.1 ho with ho|ho
   ·exact cW _ ho
   ·rcases aT.1 ho with rfl|ho
    ·exact absurd J (hno _ aQ)
    ·exact cS _ ho
 obtain⟨rest,h5,h6⟩:=hp;refine wF (M:=B) (rest:=rest) hy h7 h5 (hF G (ρ nm) vs B r.gb hB.weak h8) hd (fun v own1 G' hG hK a' w' rl=>?_) a w Q ⟨r.h,r.sz,cB a,r.df⟩;obtain⟨z,hr,vs',k1,k2,k3,k4⟩:=hK;have k1':=k1.relo (io B);have e2:lo=true-> ∀o∈own1.map (relo (io B)),o.lo=true:=fun hl o ho=>by
  obtain⟨o',_,rfl⟩:=bM.1 ho;obtain⟨_,_,_,_,hlo⟩:=hB;exact AU _ (hlo hl)
 generalize own1.map (relo (io B))=B' at rl e2 k1';have rl':fC C n (Sx.put (cg a) (some d) v) (B'++rest) G' a' w':=rl;have hdis:=(iL.1 rl'.h.nd).2.2;have r2:=r.dropB nm;have hnn:nm≠d:=fun e=>by subst e;rw[pJ] at hne;cases hne
 have hf2:jF [d] (some d) tl (Sx.upB tb [(nm,none)]):=fun q hq=>by
  obtain⟨f1,f2⟩:=hf q hq;refine⟨f1,fun k B e1 e=>?_⟩;simp only[Sx.upB] at e;split at e
  ·cases e
  ·exact f2 k B e1 e
 have hsep: ∀q B0,Sx.upB tb [(nm,none)] q=some B0-> ∀o∈ov,(ρ q).a=some ⟨o.b,0,none⟩->o∈rest:=fun q B0 e o ho hbq=>by
  simp only[Sx.upB] at e;split at e
  ·cases e
  ·rename_i hqn
   refine h6 o ho fun o' ho' he=>?_;exact r.dj nm q _ _ (s2 _ _ hb) e (Ne.symm hqn) o'.b (g1.blk ho') (by rw[hbq,he])
 obtain⟨m,rfl,hm⟩:=lz.1 hr;obtain⟨m1,m2',rfl,c1,c2⟩: ∃m1 m2',m=m1++m2'/\IsLs G' pre m1/\IsLs G' (.v (.slice z.a z.n z.c)::post) m2':=IsLs.unapp hm;obtain⟨u,m2,rfl,c3,c4⟩:=bt.1 c2;rw[bc.1 c3] at rl';have r3:=r2.new' (x:=z) (B':= .b ty0 s dso lo) (os:=B') (ov':=B'++rest) (f:= .bx true pre d post) (y:= .tuple ⟨m1++Value.slice z.a z.n z.c::m2⟩) hf2 hG.le rl'.h ⟨vs',by simpa using k1',k2,k3,e2⟩ (fun o ho=>cW _ ho)
  (fun q B0 hq e o ho hbq=>⟨cS _ (hsep q B0 e o ho hbq),fun hc=>by
   have hx: ∃o1∈B',o1.b=o.b:=by
    rcases k1' with⟨_,h,_⟩|⟨b0,rest0,lo0,h,hB,_⟩
    ·rw[show z=_ from h] at hc;cases hc
    ·rw[show z=_ from h] at hc;cases hc;exact⟨⟨_,aF vs'++rest0,_,lo0⟩,by rw[hB];exact aQ,J⟩
   obtain⟨o1,ho1,he1⟩:=hx;exact hdis o1 ho1 o (hsep q B0 e o ho hbq) he1⟩) ⟨m1,m2,by simp,c1,c4⟩ (jt rl')
 exact hk.run _ G' _ a' w' r3
structure Y7 where
 f:FuncId
 nm:Nat
 l:List (Option DV)
 ty:TypeId
 s:Nat
 ds:List DV
 lo:Bool
 d:Nat
def Di(fr:aA)(own:aH)(cf:Cf):Option Y7:=match b6 fr cf with
 |some ⟨some d, .call ⟨.value fo,args,_⟩,_,_,_,_⟩=>match wn (bu fr cf) fo args with
  |some (f,nm,l)=>match f7 fr own cf nm with
   |some (.b ty s ds lo)=>bif Nat.beq nm d then none else some ⟨f,nm,l,ty,s,ds,lo,d⟩
   |_=>none
  |none=>none
 |_=>none
def cb[fu:Fu]{f:FuncId}{nm d:Nat}{l:List (Option DV)}{ty:TypeId}{s:Nat}{dsi dso pre post:List DV}{lo:Bool}(dso':List DV)(ha:Di fr own cf=some ⟨f,nm,l,ty,s,dsi,lo,d⟩)(hF:PB GB prog f (gA l) s ty dsi (fun w=> .tp (pre++ .v (.slice w.a w.n w.c)::post)) dso)(he:dso=dso')
  (hgo:cE tt n fu.n fr own cf (.bx true pre d post) [(nm,none),(d,some (.b ty s dso' lo))] [d]=⟨vc,fr',own',cf'⟩)(k:av prog GB C n Q0 fr' own' cf')
  (hv:ah vc:=by first|exact trivial|(simp only[ah];kernel_rfl)|(simp only[ah];omega)|(simp only[ah,aK,aS,aW];omega)):av prog GB C n Q0 fr own cf:=by
 subst he;unfold Di at ha;split at ha<;>try (cases ha;done)
 rename_i hh;split at ha<;>try (cases ha;done)
 rename_i h1;split at ha<;>try (cases ha;done)
 rename_i h2;rw[cond_eq_ite] at ha;split at ha<;>cases ha;rename_i h3;exact us hh (ZJ (by cases hq:Nat.beq nm d with|false=>rfl|true=>exact absurd hq h3) h1 h2 hF) hgo hv k
def tO:Nat->List (Option DV)->aA
 |_,[]=>[]
 |i,some v::t=>(i, .d v)::tO (i+1) t
 |i,none::t=>(i, .rw NM)::tO (i+1) t
def Bi(w:SV): ∀l:List (Option DV),(gA l w).length=l.length
 |[]=>rfl
 |some d::t=>by simp[gA,Bi w t]
 |none::t=>by simp[gA,Bi w t]
def A8{w:SV}{ρ:NE}{G:Gh}(hρ:ρ NM=w): ∀{ds:List (Option DV)} {vs:List Value} (i:Nat),IsLs G (gA ds w) vs-> ∀k f,ba (tO i ds) k=some f-> ∃y,(∃j,k=i+j/\vs[j]? =some y)/\bP ρ G f y
 |[],vs,i,h,k,f,e=>by cases e
 |some d::t,vs,i,h,k,f,e=>by
  obtain⟨y,m,rfl,h1,h2⟩:=bt.1 h;simp only[tO] at e;rw[js] at e;split at e
  ·cases e;rename_i hk;exact⟨y,⟨0,hk,rfl⟩,h1⟩
  ·obtain⟨u,⟨j,hj,hu⟩,h3⟩:=A8 hρ (i+1) h2 k f e
   exact⟨u,⟨j+1,by omega,by simpa using hu⟩,h3⟩
 |none::t,vs,i,h,k,f,e=>by
  obtain⟨y,m,rfl,h1,h2⟩:=bt.1 h;simp only[tO] at e;rw[js] at e;split at e
  ·cases e;rename_i hk;exact⟨y,⟨0,hk,rfl⟩,by show y=_;rw[hρ];exact bc.1 h1⟩
  ·obtain⟨u,⟨j,hj,hu⟩,h3⟩:=A8 hρ (i+1) h2 k f e
   exact⟨u,⟨j+1,by omega,by simpa using hu⟩,h3⟩
def H0(C:aC)(s:Nat)(ty:TypeId)(pre post dso:List DV):Ending->World->Prop:=qp C (fun v own' G'=> ∃w',Is G' (.tp (pre++ .v (.slice w'.a w'.n w'.c)::post)) v/\dk G' ⟨w',s,ty,dso,false⟩ own')
def Gm[fu:Fu]{f:FuncId}{fb:Func}{c:Code}{k s:Nat}{l:List (Option DV)}{dsi dso pre post:List DV}{ty:TypeId}(hf:prog.funcs[f]? =some fb)(hb:fb.body=some c)(hn:(fb.name== "runtime.NumGoroutine")=false)(hm:fb.ntmps=k)(hlen:Nat.ble l.length k=true)
  (hgo:go tt k fu.n [] (tO 0 l) [(NM,some (.b ty s dsi false))] (.code c [])=⟨vc,fr,own,cf⟩)(h: ∀C,av prog GB C k (fk C prog fb (H0 C s ty pre post dso)) fr own cf)
  (hv:ah vc:=by first|exact trivial|(simp only[ah];kernel_rfl)|(simp only[ah];omega)|(simp only[ah,aK,aS,aW];omega)):PB GB prog f (gA l) s ty dsi (fun w=> .tp (pre++ .v (.slice w.a w.n w.c)::post)) dso:=by
 intro G w vs B hg hB hvs;refine gO.introR hf hb hn hm (by rw[hvs.len,Bi];exact hlen) fun C _ hmb hrd hfx=>?_;intro a wd rl;refine tZ hrd ?_;have h1:=fi (GB:=GB) (C:=C) (Q0:=fk C prog fb (H0 C s ty pre post dso)) hgo hv (h C);refine h1.run (fun _=>w) G (Sx.asB B) a wd ⟨hg,rl.h,rl.sz,rl.df,fun k f e=>?_,fun nm B' e=>?_,fun nm nm' B' B2 e e' hne=>?_,fun nm p _ _ e=>by rw[hfx] at e;cases e⟩
 ·obtain⟨y,⟨j,hj,hy⟩,h2⟩:=A8 (ρ:=fun _=>w) (w:=w) rfl 0 hvs k f e
  refine⟨y,rl.fr k y ?_,h2⟩;rw[hj];exact uB vs 0 j y hy
 ·rw[i7] at e
  split at e
  ·cases e;exact⟨Sx.asB B,hB.asB,fun o ho=>ho⟩
  ·cases e
 ·rw[i7] at e e'
  split at e<;>split at e'
  ·rename_i h2 h3;exact absurd (h2.trans h3.symm) hne
  ·cases e'
  ·cases e
  ·cases e
def K2{B:List ao}{G:Gh}{w:SV}{s:Nat}{ty:TypeId}{ds:List DV}{lo:Bool}{ov:List ao}(h:dk G ⟨w,s,ty,ds,lo⟩ B)(g: ∀o∈B,o∈ov): ∃rest,ov.Perm (B++rest):=by
 rcases h with⟨vs',⟨_,_,e⟩|⟨b0,r0,lo0,_,e,_⟩,_⟩
 ·rw[e];exact⟨ov,List.Perm.refl _⟩
 ·rw[e] at g⊢
  obtain⟨l1,l2,e2⟩:=lL (g _ aQ);rw[e2];exact⟨l1++l2,nU⟩
def DH{fb:Func}{t u d s:Nat}{ty:TypeId}{ds dso:List DV}{f:FX}{v v':DV}(hr:fb.results.toList=[.tmp t, .tmp u])(hl:ba fr t=some (.rw d))(hu:ba fr u=some f)(hd:kB f=some v)(hw:bh own d=some (.b ty s ds false))(ed:ds=dso)(ev:v=v'):
  av prog GB C n (fk C prog fb (H0 C s ty [] [v'] dso)) fr own (.ex .ret []):=by
 subst ed ev;refine⟨fun ρ G ov a w r=>?_⟩;obtain⟨B,g1,g2⟩:=r.bx _ _ hw;have hB:dk G ⟨ρ d,s,ty,ds,false⟩ B:=g1;obtain⟨rest,hp⟩:=K2 hB g2;obtain⟨y,hy,hy'⟩:=r.ev (x:= .tmp t) (f:= .rw d) hl
 cases (show y=_ from hy')
 obtain⟨z,hz,hz'⟩:=r.ev (x:= .tmp u) (f:=f) hu;exact yw (C:=C) (n:=n) (fr:=cg a) (own:=ov) (G:=G) (vs:=[.slice (ρ d).a (ρ d).n (ρ d).c,z]) (by rw[hr];exact .tmp hy (.tmp hz .nil)) (B++rest) B hp (pN _ _)
  ⟨ρ d,lz.2 ⟨_,J, .cons (bc.2 J) (.cons (nk hz' hd) .nil)⟩,hB⟩ a w ⟨r.h,r.sz,cB a,r.df⟩
def Ca(lk:LK):List Operand->Option (List (Option DV))
 |[]=>some []
 |x::t=>match aO lk x,Ca lk t with
  |some .nl,some l=>some (none::l)
  |some f,some l=>match kB f with
   |some d=>some (some d::l)
   |none=>none
  |_,_=>none
def Hb(lk:LK)(fo:Operand)(args:Array Operand):Option (FuncId×List (Option DV)):=match aO lk fo with
 |some (.d (.v (.func (.func f) ⟨[]⟩ ⟨[]⟩)))=>match Ca lk args.toList with
  |some l=>some (f,l)
  |_=>none
 |_=>none
def FG{lk:LK}{bk:BM}{ρ:NE}{G:Gh}{ov:List ao}{a:Act}{w:World}(r:bE GB C n lk bk ρ G ov a w): ∀{x:List Operand} {l:List (Option DV)},Ca lk x=some l-> ∃y,fq (cg a) x=some y/\IsLs G (gA l ⟨none,0,0⟩) y
 |[],l,e=>by cases e;exact⟨[],J, .nil⟩
 |x::t,l,e=>by
  simp only[Ca] at e;split at e
  ·rename_i l' h1 h2
   cases e
   obtain⟨y,h3,h4⟩:=r.ev h1
   cases (show y=_ from h4)
   obtain⟨ys,h5,h6⟩:=FG r h2;exact⟨Value.slice none 0 0::ys,by simp only[fq,h3,h5], .cons ((bc (G:=G)).2 J) h6⟩
  ·rename_i f l' _ h1 h2
   cases hd:kB f with
   |none=>rw[hd] at e;cases e
   |some d=>
   rw[hd] at e;cases e;obtain⟨y,h3,h4⟩:=r.ev h1;obtain⟨ys,h5,h6⟩:=FG r h2;exact⟨y::ys,by simp only[fq,h3,h5], .cons (nk h4 hd) h6⟩
  ·cases e
def ZR{lk:LK}{bk:BM}{fo:Operand}{args:Array Operand}{tys:Array TypeId}{f:FuncId}{d:Nat}{l:List (Option DV)}{s:Nat}{ty ty0:TypeId}{pos:String}{af:Array Edge}{gd:Option (Nat×Bool)}{dso pre post:List DV}
  (ha:Hb lk fo args=some (f,l))(hF:PB GB prog f (gA l) s ty0 [] (fun w=> .tp (pre++ .v (.slice w.a w.n w.c)::post)) dso):bO prog GB C n lk bk ⟨some d, .call ⟨.value fo,args,tys⟩,ty,pos,af,gd⟩ (.bx true pre d post) [(d,some (.b ty0 s dso true))] [d]:=by
 intro hd tl tb K' s1 s2 hf hk;refine⟨fun ρ G ov a w r Q=>?_⟩;have r1:=r.mono s1 s2;unfold Hb at ha;split at ha<;>try (cases ha;done)
 rename_i h1;split at ha<;>cases ha;rename_i h2;obtain⟨y,hy,hy'⟩:=r1.ev h1;rw[(bc (G:=G)).1 hy'] at hy;obtain⟨vs,h7,h8⟩:=FG r1 h2;refine wF (M:=[]) (rest:=ov) hy h7 (List.Perm.refl _) (hF G ⟨none,0,0⟩ vs [] r.gb ⟨[], .nil _ _, .nil,by simp,fun h=>by cases h⟩ h8) hd (fun v own1 G' hG hK a' w' rl=>?_) a w Q ⟨r.h,r.sz,cB a,r.df⟩;obtain⟨z,hr,vs',k1,k2,k3,k4⟩:=hK;have k1':=k1.relo (io []);have e2: ∀o∈own1.map (relo (io [])),o.lo=true:=fun o ho=>by
  obtain⟨o',_,rfl⟩:=bM.1 ho;rfl
 generalize own1.map (relo (io []))=B' at rl e2 k1';have rl':fC C n (Sx.put (cg a) (some d) v) (B'++ov) G' a' w':=rl;have hdis:=(iL.1 rl'.h.nd).2.2;obtain⟨m,rfl,hm⟩:=lz.1 hr;obtain⟨m1,m2',rfl,c1,c2⟩: ∃m1 m2',m=m1++m2'/\IsLs G' pre m1/\IsLs G' (.v (.slice z.a z.n z.c)::post) m2':=IsLs.unapp hm;obtain⟨u,m2,rfl,c3,c4⟩:=bt.1 c2;rw[bc.1 c3] at rl';have r3:=r.new (x:=z) (B':= .b ty0 s dso true) (os:=B') (ov':=B'++ov) (f:= .bx true pre d post) (y:= .tuple ⟨m1++Value.slice z.a z.n z.c::m2⟩) hf hG.le rl'.h ⟨vs',by simpa using k1',k2,k3,fun _=>e2⟩ (fun o ho=>cW _ ho) (fun o ho=>cS _ ho)
  (fun o ho hc=>by
   have hx: ∃o1∈B',o1.b=o.b:=by
    rcases k1' with⟨_,h,_⟩|⟨b0,rest0,lo0,h,hB,_⟩
    ·rw[show z=_ from h] at hc;cases hc
    ·rw[show z=_ from h] at hc;cases hc;exact⟨⟨_,aF vs'++rest0,_,lo0⟩,by rw[hB];exact aQ,J⟩
   obtain⟨o1,ho1,he1⟩:=hx;exact hdis o1 ho1 o ho he1) ⟨m1,m2,by simp,c1,c4⟩ (jt rl')
 exact hk.run _ G' _ a' w' r3
def IL(fr:aA)(cf:Cf):Option (FuncId×List (Option DV)×Nat):=match b6 fr cf with
 |some ⟨some d, .call ⟨.value fo,args,_⟩,_,_,_,_⟩=>match Hb (bu fr cf) fo args with
  |some (f,l)=>some (f,l,d)
  |none=>none
 |_=>none
def Uq[fu:Fu]{f:FuncId}{d:Nat}{l:List (Option DV)}{ty:TypeId}{s:Nat}{dso pre post:List DV}(dso':List DV)(ha:IL fr cf=some (f,l,d))(hF:PB GB prog f (gA l) s ty [] (fun w=> .tp (pre++ .v (.slice w.a w.n w.c)::post)) dso)(he:dso=dso')
  (hgo:cE tt n fu.n fr own cf (.bx true pre d post) [(d,some (.b ty s dso' true))] [d]=⟨vc,fr',own',cf'⟩)(k:av prog GB C n Q0 fr' own' cf')
  (hv:ah vc:=by first|exact trivial|(simp only[ah];kernel_rfl)|(simp only[ah];omega)|(simp only[ah,aK,aS,aW];omega)):av prog GB C n Q0 fr own cf:=by
 subst he;unfold IL at ha;split at ha<;>try (cases ha;done)
 rename_i hh;split at ha<;>cases ha;rename_i h1;exact us hh (ZR h1 hF) hgo hv k
end
end Go.Sx
end
