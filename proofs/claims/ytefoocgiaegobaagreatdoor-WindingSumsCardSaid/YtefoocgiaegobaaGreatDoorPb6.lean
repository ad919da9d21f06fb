import Derived.Test.YtefoocgiaegobaaGreatDoorPb5
set_option linter.all false
set_option maxRecDepth 100000
section
namespace Go.Sx
open Go Go.Proofs Tryz
section
variable {P:Program} {T:TT} {GB:Gh} {C:az} {n:Nat} {lk:LK} {bk:BM} {ρ:NE} {G:Gh} {ov:List av} {a:Act} {w:World}
variable {dst:Option Nat} {t t' ty':TypeId} {pos:String} {af:Array Edge} {gd:Option (Nat×Bool)} {x y:Operand} {e s by_:Nat}
def Au{vs:List Value}{rest cs:List Value}{i sz j:Nat}{v':Value}(hil:i<vs.length)(hvs: ∀v∈vs,(aG v).length=sz)(hv':aG v'=cE (aG vs[i]) j cs)(hj:j+cs.length<=sz):cE (aF vs++rest) (i*sz+j) cs=aF (vs.set i v')++rest:=by
 have hm:(aG vs[i]).length=sz:=hvs _ (jU hil);have hl':(aG v').length=sz:=by rw[hv',wD,hm]
 rw[<-M6 (rest:=rest) (u:=v') vs i hil hvs hl',hv'];have hlv:=fh vs hvs;have hle:i*sz+sz<=vs.length*sz:=by rw[<-gS];exact bX _ hil
 generalize hmm:aG vs[i]=m at*;have hX:aF vs++rest=(aF vs).take (i*sz)++(m++((aF vs).drop (i*sz+sz)++rest)):=by
  have t1:=CF (rest:=rest) hvs hil;rw[hmm] at t1;obtain⟨_,t2⟩:=tH t1;have t3:m=((aF vs).drop (i*sz)).take sz:=by
   have:m=((aF vs++rest).drop (i*sz)).take sz:=t2;rw[this,iK (by omega),fU (by rw[gW];omega)]
  rw[t3]
  conv=>lhs;rw[<-iV (i*sz) (aF vs),<-iV sz ((aF vs).drop (i*sz)),qU]
  simp[fJ]
 have hP:((aF vs).take (i*sz)).length=i*sz:=by rw[bW];omega
 generalize (aF vs).take (i*sz)=A at hX hP;generalize (aF vs).drop (i*sz+sz)++rest=Z at hX;rw[hX,<-hP,Ez A m Z (cE m j cs) (by rw[wD])];rw[qt _ m j (by omega),qt _ _ _ (by simp only[aT];omega)];rw[List.take_append,aU (by omega),Nat.add_sub_cancel_left,fU (by omega)];rw[List.drop_append,gQ (by omega),jW,show A.length+j+cs.length-A.length=j+cs.length by omega,iK (by omega)];simp[fJ]
def xe(ag:Option Nat)(d:DV)(j:Nat)(u:DV):Option DV:=match d with
 | .ag l=>match ag with
  |some k=>bif u.okc&&(Nat.beq u.cells.length k&&Nat.ble (j+k) l.length) then some (.ag (s7 l j u.cells)) else none
  |none=>bif u.flat&&Nat.blt j l.length then some (.ag (l.set j u)) else none
 |d=>match ag with
  |some _=>none
  |none=>bif d.flat&&(u.flat&&Nat.beq j 0) then some u else none
def bj.wroteRow{nm b:Nat}{ty:TypeId}{sz:Nat}{ds ds':List DV}{lo lo':Bool}{m':List Value}{own':List av}(r:bj GB C n lk bk ρ G ov a w)(hb:bk nm=some (.b ty sz ds lo))(ha:(ρ nm).a=some ⟨b,0,none⟩)(hB:cp G ⟨ρ nm,sz,ty,ds',lo⟩ [⟨b,m',ty,lo'⟩])
  (h1:⟨b,m',ty,lo'⟩∈own')(h2: ∀o∈ov,o.b≠b->o∈own'){K:Act->World->Prop}(hk:SX GB C n (cO lk dst .un) (Sx.upB bk [(nm,some (.b ty sz ds' lo))]) K){a':Act}{w':World}(rl:fe C n (Sx.put (b9 a) dst undef) own' G a' w'):K a' w':=by
 have r2:=r.upB (G':=G) (ov':=own') (w':=w') (B':= .b ty sz ds' lo) (bc.refl _) rl.h (hB.toBk J) (fun o ho=>by rw[aL.1 ho];exact h1) (fun o ho hne=>h2 o ho fun e=>hne (by rw[ha,e])) ⟨_,hb⟩;exact hk.run _ _ _ a' w' (r2.put J (jg rl))
def FH(cs:List Value)(o:Nat)(v:Value):cE cs o [v]=cs.set o v:=rfl
def KI{i:TI}{ag:Option Nat}{nm sz k j:Nat}{ty:TypeId}{ds ds':List DV}{lo:Bool}{d d' u:DV}(hi:dC P t=some i)(ha:i.ag=some ag)(hx:aC lk x=some (.be nm sz k j))(hb:bk nm=some (.b ty sz ds lo))(hy:evD lk y=some u)(he:ds[k]? =some d)(hl:xe ag d j u=some d')(hds:ds.set k d'=ds'):
  bm P GB C n lk bk ⟨dst, .store t x y,ty',pos,af,gd⟩ .un [(nm,some (.b ty sz ds' lo))] []:=by
 intro hd tl tb K s1 s2 hf hk;refine⟨fun ρ G ov a w r Q=>?_⟩;subst hds;have r1:=r.mono s1 s2;obtain⟨y',h1,h2⟩:=r1.evD hy;obtain⟨x',h3,b,hwb,rfl⟩:=r1.ev hx;obtain⟨B,hB,hBo⟩:=r1.row (y:= .nilFunc) hb;obtain⟨b',vs,rest,lo',e1,rfl,hv,hvs,hil,hup⟩:=hB.upd he;rw[hwb] at e1;cases e1;obtain⟨v,g1,g2⟩:=hv.get he;obtain⟨g3,g4⟩:=bQ.1 g1;have hlv:=fh vs hvs;have hle:k*sz+sz<=vs.length*sz:=by rw[<-gS];exact bX _ hil
 have hml:(aG v).length=sz:=hvs _ (aS g1)
 cases ag with
 |some q=>
  have:=sD hi ha;unfold xe at hl;split at hl
  ·rename_i l
   simp only at hl
   cases hc:(u.okc&&(Nat.beq u.cells.length q&&Nat.ble (j+q) l.length)) with
   |false=>rw[hc] at hl;cases hl
   |true=>
    rw[hc] at hl;cases hl;simp only[bJ,Nat.ble_eq] at hc;obtain⟨c1,c2,c3⟩:=hc;replace c2:=aY c2;obtain⟨c4,c5⟩:=h2.cells c1;obtain⟨m,rfl,hm⟩:=dP.1 g2;have hcl:(aG y').length=q:=by rw[c4.len,c2]
    have hmd:=hm.len;have hsz:m.length=sz:=hml;have key:=hup (.agg ⟨cE m j (aG y')⟩) (.ag (s7 l j u.cells)) (dP.2 ⟨_,J,hm.ov c4⟩) (by show(cE m j (aG y')).length=sz;rw[wD,hsz]);have hov:=Au (rest:=rest) (v':= .agg ⟨cE m j (aG y')⟩) (cs:=aG y') (j:=j) hil hvs (by rw[g4];rfl) (by omega);obtain⟨own',u1,u2,u3⟩:=f0.of_mem (cs':=cE (aF vs++rest) (k*sz+j) (aG y')) (hBo _ aQ);refine B3 h3 h1 u1 hcl (by rw[aT];omega) (dR.2 c5) hd (fun a' w' rl=>?_) a w Q ⟨r.h,r.sz,ci a,r.df⟩;rw[hov] at u2;exact r.wroteRow (s2 _ _ hb) hwb key u2 u3 hk rl
  ·simp at hl
 |none=>
  have:=py hi ha;unfold xe at hl;split at hl
  ·rename_i l
   simp only at hl
   cases hc:(u.flat&&Nat.blt j l.length) with
   |false=>rw[hc] at hl;cases hl
   |true=>
    rw[hc] at hl;cases hl;simp only[bJ,lY] at hc;obtain⟨c1,c2⟩:=hc;have hfl:=h2.flat c1;have hcl:=sV hfl;obtain⟨m,rfl,hm⟩:=dP.1 g2;have hmd:=hm.len;have hsz:m.length=sz:=hml;have key:=hup (.agg ⟨m.set j y'⟩) (.ag (l.set j u)) (dP.2 ⟨_,J,hm.set j h2⟩) (by show(m.set j y').length=sz;rw[aW,hsz]);have hov:=Au (rest:=rest) (v':= .agg ⟨m.set j y'⟩) (cs:=[y']) (j:=j) hil hvs (by rw[g4];rfl) (by simp;omega);rw[FH] at hov;obtain⟨own',u1,u2,u3⟩:=f0.of_mem (cs':=(aF vs++rest).set (k*sz+j) y') (hBo _ aQ);refine wH h3 h1 u1 (by rw[aT];omega) hfl hd (fun a' w' rl=>?_) a w Q ⟨r.h,r.sz,ci a,r.df⟩;rw[hov] at u2;exact r.wroteRow (s2 _ _ hb) hwb key u2 u3 hk rl
  ·rename_i hna
   simp only at hl
   cases hc:(d.flat&&(u.flat&&Nat.beq j 0)) with
   |false=>rw[hc] at hl;cases hl
   |true=>
    rw[hc] at hl;cases hl;simp only[bJ] at hc;obtain⟨c0,c1,c2⟩:=hc
    cases aY c2
    have hfl:=h2.flat c1;have hcl:=sV hfl;have hvl:=sV (g2.flat c0);have h1z:1=sz:=by rw[<-hml,hvl];rfl
    have key:=hup y' d' h2 (by rw[hcl,<-h1z];rfl);have hov:=Au (rest:=rest) (v':=y') (cs:=[y']) (j:=0) hil hvs (by rw[g4,hvl,hcl];rfl) (by simp;omega);rw[FH] at hov;obtain⟨own',u1,u2,u3⟩:=f0.of_mem (cs':=(aF vs++rest).set (k*sz+0) y') (hBo _ aQ);refine wH h3 h1 u1 (by rw[aT];omega) hfl hd (fun a' w' rl=>?_) a w Q ⟨r.h,r.sz,ci a,r.df⟩;rw[hov] at u2;exact r.wroteRow (s2 _ _ hb) hwb key u2 u3 hk rl
def jk(lk:LK)(dflt:Nat):Option Operand->Option Int
 |none=>some (dflt:Nat)
 |some o=>match aC lk o with
  |some (.d (.v (.int .i64 i)))=>some i
  |_=>none
def Qy{l:List DV}{lo hi:Option Operand}{nlo nhi:Nat}[hT:cA P t e s by_](hx:evD lk x=some (.sl l))(ho:du s l)(hlo:jk lk 0 lo=some (nlo:Int))(hhi:jk lk l.length hi=some (nhi:Int))(h1:nlo<=nhi)(h2:nhi<=l.length):
  bm P GB C n lk bk ⟨dst, .slice t x lo hi none,ty',pos,af,gd⟩ (.d (.sl ((l.take nhi).drop nlo))) [] []:= .yd fun ρ G ov a w r=>by
 obtain⟨u,h3,h4⟩:=r.evD hx;obtain⟨s',z,es,rfl,hsl,hl⟩:=gh.1 h4;have hn:=hsl.len;have hcap:=hsl.cap;have hll:=hl.len;have key: ∀mx',nhi<=mx'->mx'<=z.c->Is G (.sl ((l.take nhi).drop nlo)) (jw z.a z.n z.c nlo nhi mx' s):=by
  intro mx' hm1 hm2;rcases wm hsl hl ho with he|he
  ·subst he
   have:l=[]:=bU (by rw[<-hll];rfl);subst this;have e1:nhi=0:=by simp at h2;exact h2
   have e2:nlo=0:=by omega
   subst e1 e2;refine gh.2 ⟨s,⟨_,0,mx'⟩,[],J,⟨J,bL _, .inl J⟩,by simpa using IsLs.nil⟩
  ·subst he
   refine gh.2 ⟨s',⟨_,_,_⟩,_,J,hsl.sub nlo nhi mx' h1 (by omega) hm1 hm2,(hl.take nhi).drop nlo⟩
 have bnd: ∀{o:Operand} {d:Nat} {i:Int},jk lk d (some o)=some i->aw (b9 a) o=some (.int .i64 i):=fun{o d i} h=>by
  simp only[jk] at h;split at h<;>cases h;rename_i he;obtain⟨q,g1,g2⟩:=r.ev he;rw[cg] at g2;subst g2;exact g1
 match lo,hi,hlo,hhi with
 |none,none,hlo,hhi=>
  simp only[jk,Option.some.injEq] at hlo hhi;have e1:nlo=0:=by omega
  have e2:nhi=l.length:=by omega
  subst e1 e2;refine⟨_,key z.c (by omega) (aR _),?_⟩;intro a w0 hf hh;simp only[execOp,aO hf h3,nN];have h9:=tq (P:=P) (t:=t) (ad:=z.a) (len:=z.n) (cap:=z.c) w0 (lo:=none) (hi:=none) (mx:=none) (l:=0) (h:=l.length) (m:=z.c) (fun w0=>by
   simp[Instr.sliceBounds,Result.andThen,run_pure];omega)
  exact cj h9
 |none,some o2,hlo,hhi=>
  simp only[jk,Option.some.injEq] at hlo;have e1:nlo=0:=by omega
  subst e1;refine⟨_,key z.c (by omega) (aR _),?_⟩;have h9:=tk (P:=P) (C:=C) (own:=ov) (G:=G) (t:=t) (dst:=dst) (ty':=ty') (pos:=pos) (af:=af) (gd:=gd) h3 (bnd hhi) (by omega) (by omega);have e9:jw z.a z.n z.c 0 nhi z.c s= .slice z.a nhi z.c:=by
   unfold jw
   cases z.a with
   |none=>simp
   |some ad=>simp[Addr.add]
  rw[e9];simpa using h9
 |some o1,none,hlo,hhi=>
  simp only[jk,Option.some.injEq] at hhi;have e2:nhi=l.length:=by omega
  subst e2;refine⟨_,key z.c (by omega) (aR _),?_⟩;have h9:=HN (P:=P) (C:=C) (own:=ov) (G:=G) (t:=t) (dst:=dst) (ty':=ty') (pos:=pos) (af:=af) (gd:=gd) h3 (bnd hlo) (by omega) (by omega);have e9:z.n=l.length:=by omega
  rw[bY,e9] at h9;rw[e9];exact h9
 |some o1,some o2,hlo,hhi=>
  refine⟨_,key z.c (by omega) (aR _),?_⟩;have h9:=Sq (P:=P) (C:=C) (own:=ov) (G:=G) (t:=t) (dst:=dst) (ty':=ty') (pos:=pos) (af:=af) (gd:=gd) h3 (bnd hlo) (bnd hhi) (by omega) (by omega) (by omega);simpa using h9
def MR{l:List DV}{hi mx:Operand}{nhi:Nat}[hT:cA P t e s by_](hx:evD lk x=some (.sl l))(ho:du s l)(hhi:jk lk 0 (some hi)=some (nhi:Int))(hmx:jk lk 0 (some mx)=some (nhi:Int))(h2:nhi<=l.length):
  bm P GB C n lk bk ⟨dst, .slice t x none (some hi) (some mx),ty',pos,af,gd⟩ (.ct (l.take nhi)) [] []:= .yd fun ρ G ov a w r=>by
 obtain⟨u,h3,h4⟩:=r.evD hx;obtain⟨s',z,es,rfl,hsl,hl⟩:=gh.1 h4;have hn:=hsl.len;have hcap:=hsl.cap;have hll:=hl.len;have bnd: ∀{o:Operand} {d:Nat} {i:Int},jk lk d (some o)=some i->aw (b9 a) o=some (.int .i64 i):=fun{o d i} h=>by
  simp only[jk] at h;split at h<;>cases h;rename_i he;obtain⟨q,g1,g2⟩:=r.ev he;rw[cg] at g2;subst g2;exact g1
 refine⟨.slice z.a nhi nhi,⟨⟨_,_,J⟩,Se hsl hl ho h2 (aR _) (by omega)⟩,?_⟩;have h9:=Tj (P:=P) (C:=C) (own:=ov) (G:=G) (t:=t) (dst:=dst) (ty':=ty') (pos:=pos) (af:=af) (gd:=gd) h3 (bnd hhi) (bnd hmx) (by omega) (Int.le_refl _) (by omega);simpa using h9
def Ec{d:Nat}{i:TI}{z:DV}{ds ds2:List DV}[hT:cA P t e s by_][hN:mp P t'](hi:dC P e=some i)(hz:jI i=some z)(hs:Nat.beq z.cells.length s=true)(hx:aC lk x=some (.ct ds)\/(aC lk x=some .nl/\ds=[]))(ox:du s ds)(hy:nB lk bk s y=some ds2)(hk2:du s ds2)(hne:0<ds2.length)
  (hby:Nat.blt 0 by_=true)(hbd:(ds.length+ds2.length)*by_<=140737488355328){ds':List DV}(hds:ds++ds2=ds'):
  bm P GB C n lk bk ⟨some d, .call ⟨.builtin .append, #[x,y], #[t,t']⟩,ty',pos,af,gd⟩ (.rw d) [(d,some (.b e s ds' true))] [d]:=by
 intro hd tl tb K s1 s2 hf hk;refine⟨fun ρ G ov a w r Q=>?_⟩;subst hds;have r1:=r.mono s1 s2;obtain⟨v,hz1,hz2,hz3⟩:=tw hi hz;have cz:=((hz2 G).cells hz3).1.len;replace hs:=aY hs;rw[lY] at hby
 obtain⟨w2,us,h1,h2,h3,h4,h5,h6⟩:=Cu (P:=P) r1 hy hk2;have hxs:nB lk bk s x=some ds:=by
  unfold nB;rcases hx with hx|⟨hx,rfl⟩<;>rw[hx]<;>rfl
 obtain⟨w1,vs,g1,g2,g3,g4,g5,g6⟩:=Cu (P:=P) r1 hxs ox;have hc1:w1.c=w1.n:=by
  rcases hx with hx|⟨hx,rfl⟩
  ·obtain⟨y1,k1,⟨a1,n1,rfl⟩,_⟩:=r1.ev hx
   rw[k1] at g1;simp only[Option.some.injEq,Value.slice.injEq] at g1;omega
  ·obtain⟨y1,k1,k2⟩:=r1.ev hx
   cases k2
   rw[k1] at g1;simp only[Option.some.injEq,Value.slice.injEq] at g1;omega
 have hl3:=h3.len;have hl4:=g3.len;have hall: ∀v∈vs++us,(aG v).length=s:=fun v hv=>by
  rcases cL.1 hv with hv|hv
  ·exact g4 v hv
  ·exact h4 v hv
 refine BS (z:=v) (xs:=aF vs) (ys:=aF us) (ad:=w1.a) (len:=w1.n) (cap:=w1.c) g1 h1 g6 h6 (by omega) hby (by rw[g2,h2,hl3,hl4];exact hbd) hd (fun b cap' hc a' w' rl=>?_) a w Q ⟨r.h,r.sz,ci a,r.df⟩;rw[<-mO] at rl;have hnd':=(bR.1 rl.h.nd).1;refine r.newRow (z:=⟨some ⟨b,0,none⟩,w1.n+w2.n,cap'⟩) (B:=[⟨b,aF (vs++us)++di v (cap'-(w1.n+w2.n)),e,true⟩]) hf ⟨vs++us, .inr ⟨b,_,true,by simp[g2,h2],J,fh _ hall,?_,by simpa[g2,h2] using hc⟩,g3.app h3,hall,fun _ o ho=>by rw[aL.1 ho]⟩
  (fun o ho=>by rw[aL.1 ho];exact aQ) (fun m B' hm e o ho _=>⟨aV _ ho,fun e'=>by cases e';exact hnd' o ho J⟩) hk rl
 rw[fh _ hall,aT,qO,cz,hs,<-cK,g2,h2];congr 1;rw[g2,h2] at hc;dsimp only;omega
end
section
variable {GB:Gh} {C:az} {n:Nat} {Q0:Exit->Act->World->Prop} {fr fr':ao} {own own':aB} {cf cf':Cf} {vc:List Prop} {ops:Array Oper} {o:Oper} {K:List Kt} {r:List Oper}
def bu(fr:ao)(cf:Cf):Option Oper:=match vz cf with
 |some (ops,o)=>bif oI ops (aI fr cf) o.guard then some o else none
 |none=>none
def ye(h:bu fr cf=some o): ∃ops,vz cf=some (ops,o)/\oI ops (aI fr cf) o.guard=true:=by
 unfold bu at h;split at h<;>try (cases h;done)
 rename_i ops o' hh
 cases hg:oI ops (aI fr cf) o'.guard with
 |false=>rw[hg] at h;cases h
 |true=>rw[hg] at h;cases h;exact⟨ops,hh,hg⟩
def us{q:Nat}{f:FX}{bl:List (Nat×Option Bk)}{nw:List Nat}(hh:bu fr cf=some o)(h:bm prog GB C n (aI fr cf) (ew fr own cf) o f bl nw)
  (hgo:bF tt n q fr own cf f bl nw=⟨vc,fr',own',cf'⟩)(hv:ab vc)(k:aj prog GB C n Q0 fr' own' cf'):aj prog GB C n Q0 fr own cf:=by
 obtain⟨ops,h1,h2⟩:=ye hh;exact uo h1 h2 h hgo hv k
def rZ(fr:ao)(cf:Cf):Option (FuncId×List DV):=match bu fr cf with
 |some ⟨_, .call ⟨.value fo,args,_⟩,_,_,_,_⟩=>lj (aI fr cf) fo args
 |_=>none
def cl[fu:Fu]{f:FuncId}{ds:List DV}{rv:DV}(ha:rZ fr cf=some (f,ds))(hF:PF GB prog f ds rv)(hgo:bF tt n fu.n fr own cf (.d rv) [] []=⟨vc,fr',own',cf'⟩)(k:aj prog GB C n Q0 fr' own' cf')
  (hv:ab vc:=by first|exact trivial|(simp only[ab];kernel_rfl)|(simp only[ab];omega)|(simp only[ab,aX,aW,aK];omega)):aj prog GB C n Q0 fr own cf:=by
 unfold rZ at ha;split at ha<;>try (cases ha;done)
 rename_i hh;exact us hh (Bm ha hF) hgo hv k
def Ox{P:Program}{lk:LK}{bk:BM}{fo:Operand}{args:Array Operand}{tys:Array TypeId}{f:FuncId}{ds:List DV}{ι:Type}{rv:ι->DV}{dst:Option Nat}{ty:TypeId}{pos:String}{af:Array Edge}(ha:lj lk fo args=some (f,ds))(hF:PX GB P f ds ι rv)(hd:bG n dst=true)
  {Q:Exit->Act->World->Prop}{ops:Array Oper}(hk: ∀x,SX GB C n (cO lk dst (.d (rv x))) bk (wpListIn (FW C.rd) 0 P ops Q r)):SX GB C n lk bk (wpListIn (FW C.rd) 0 P ops Q (⟨dst, .call ⟨.value fo,args,tys⟩,ty,pos,af,none⟩::r)):=by
 refine⟨fun ρ G ov a w rl0=>?_⟩;obtain⟨h1,h2⟩:=uj ha;obtain⟨y,hy,hy'⟩:=rl0.ev h1;rw[(ba (G:=G)).1 hy'] at hy;obtain⟨vs,h3,h4⟩:=rl0.evDs h2;have hch:=zC (n:=n) (dst:=dst) (tys:=tys) (ty':=ty) (pos:=pos) (af:=af) (gd:=none) (Φ:=fun a w=>a.defers=C.mks/\wpListIn (FW C.rd) 0 P ops Q r a w) hy h3 (hF G vs rl0.gb h4) hd (fun v G' hG hK a' w' rl=>by
  obtain⟨x,hx⟩:=hK;exact⟨rl.df,(hk x).run ρ G' ov a' w' ⟨rl0.gb.trans hG.le,rl.h,rl.sz,rl.df,(jg rl).fx (fun k g _ e=>by obtain⟨u,h5,h6⟩:=rl0.fx k g e;exact⟨u,h5,h6.up hG.le⟩) hx,
   fun nm B e=>by obtain⟨os,h5,h6⟩:=rl0.bx nm B e;exact⟨os,h5.up hG.le,h6⟩,rl0.dj,rl0.fxd⟩⟩)
 have:=fun Q=>hch a w Q ⟨rl0.h,rl0.sz,ci a,rl0.df⟩;simp only[wpListIn,Region.wanted,if_true];exact wq this fun a' w' k=>⟨k.1.trans rl0.df.symm,k.2⟩
def cx[fu:Fu]{fo:Operand}{args:Array Operand}{tys:Array TypeId}{dst:Option Nat}{ty:TypeId}{pos:String}{af:Array Edge}{f:FuncId}{ds:List DV}{ι:Type}{rv:ι->DV}{vc:ι->List Prop}{fr':ι->ao}{own':ι->aB}{cf':ι->Cf}(ha:lj (aD fr) fo args=some (f,ds))(hF:PX GB prog f ds ι rv)
  (hgo: ∀x,bF tt n fu.n fr own (.ops ops (⟨dst, .call ⟨.value fo,args,tys⟩,ty,pos,af,none⟩::r) K) (.d (rv x)) [] []=⟨vc x,fr' x,own' x,cf' x⟩)(k: ∀x,aj prog GB C n Q0 (fr' x) (own' x) (cf' x))
  (hd:bG n dst=true:=by rfl)(hv: ∀x,ab (vc x):=by intro;first|exact trivial|(simp only[ab];kernel_rfl)|(simp only[ab];omega)|(simp only[ab,aX,aW,aK];omega)):aj prog GB C n Q0 fr own (.ops ops (⟨dst, .call ⟨.value fo,args,tys⟩,ty,pos,af,none⟩::r) K):=by
 refine Ox ha hF hd fun x=>?_;have h1:=hgo x;unfold bF at h1;simp only[ni,List.all_nil,hd,Bool.and_true,cond_true,lx,rT] at h1;have:=dO (GB:=GB) (C:=C) (Q0:=Q0) h1 (hv x) (k x);show SX GB C n _ _ _;rw[<-vm];exact this
def EC(fr:ao)(cf:Cf):Option (List DV×Int×Nat):=match bu fr cf with
 |some ⟨_, .indexAddr t x y,_,_,_,_⟩=>match evD (aI fr cf) x with
  |some (.sl l)=>match aC (aI fr cf) y with
   |some (.d (.v (.int _ i)))=>match b8 tt t with
    |some ⟨.sl _ s _,_,_,_⟩=>some (l,i,s)
    |_=>none
   |_=>none
  |_=>none
 |_=>none
def EQ(n q:Nat)(fr:ao)(own:aB)(cf:Cf)(d:DV)(s:Nat):rj:=bif d.okc&&Nat.beq d.cells.length s then ik d.cells fun cs=>bF tt n q fr own cf (.ep cs) [] [] else js
def ix[fu:Fu](d:DV){l:List DV}{i:Int}{s:Nat}(h:EC fr cf=some (l,i,s))(he:l[i.toNat]? =some d)(hgo:EQ n fu.n fr own cf d s=⟨vc,fr',own',cf'⟩)(k:aj prog GB C n Q0 fr' own' cf')(h0:0<=i:=by omega)
  (hv:ab vc:=by first|exact trivial|(simp only[ab];kernel_rfl)|(simp only[ab];omega)|(simp only[ab,aX,aW,aK];omega)):aj prog GB C n Q0 fr own cf:=by
 unfold EC at h;split at h<;>try (cases h;done)
 rename_i hh;split at h<;>try (cases h;done)
 rename_i hx;split at h<;>try (cases h;done)
 rename_i hy;split at h<;>cases h;rename_i hT;have:=gE (dt _ _ hT) J;unfold EQ at hgo
 cases hc:(d.okc&&Nat.beq d.cells.length s) with
 |false=>simp only[hc,cond_false,js] at hgo;cases hgo;exact absurd hv (fun x=>x)
 |true=>
  simp only[hc,cond_true,m9] at hgo;exact us hh (Ma hx hy h0 he hc) hgo hv k
structure TB where
 ds:List DV
 k:Nat
 j:Nat
 ag:Option Nat
def Da(fr:ao)(own:aB)(cf:Cf):Option TB:=match bu fr cf with
 |some ⟨_, .load t x,_,_,_,_⟩=>match aC (aI fr cf) x with
  |some (.be nm sz k j)=>match ew fr own cf nm with
   |some (.b _ s ds _)=>bif Nat.beq s sz then(match b8 tt t with
    |some i=>match i.ag with
     |some ag=>some ⟨ds,k,j,ag⟩
     |none=>none
    |none=>none) else none
   |_=>none
  |_=>none
 |_=>none
def IM(n q:Nat)(fr:ao)(own:aB)(cf:Cf)(d:DV)(ag:Option Nat)(j:Nat):rj:=bif d.okc then(match sZ ag d.cells j with
 |some c=>bF tt n q fr own cf (.d c) [] []
 |none=>js) else js
def lb[fu:Fu](d:DV){ds:List DV}{k' j:Nat}{ag:Option Nat}(h:Da fr own cf=some ⟨ds,k',j,ag⟩)(he:ds[k']? =some d)(hgo:IM n fu.n fr own cf d ag j=⟨vc,fr',own',cf'⟩)(k:aj prog GB C n Q0 fr' own' cf')
  (hv:ab vc:=by first|exact trivial|(simp only[ab];kernel_rfl)|(simp only[ab];omega)|(simp only[ab,aX,aW,aK];omega)):aj prog GB C n Q0 fr own cf:=by
 unfold Da at h;split at h<;>try (cases h;done)
 rename_i hh;split at h<;>try (cases h;done)
 rename_i hx;split at h<;>try (cases h;done)
 rename_i ty s ds' lo hb;rw[cond_eq_ite] at h;split at h<;>try (cases h;done)
 rename_i hs
 cases aY hs
 split at h<;>try (cases h;done)
 rename_i hT;split at h<;>cases h;rename_i ha;unfold IM at hgo
 cases hc:d.okc with
 |false=>simp only[hc,cond_false,js] at hgo;cases hgo;exact absurd hv (fun x=>x)
 |true=>
  simp only[hc,cond_true] at hgo
  cases hl:sZ ag d.cells j with
  |none=>simp only[hl,js] at hgo;cases hgo;exact absurd hv (fun x=>x)
  |some c=>simp only[hl] at hgo;exact us hh (OF (dt _ _ hT) ha hx hb he hc hl) hgo hv k
structure Rv where
 nm:Nat
 ty:TypeId
 s:Nat
 ds:List DV
 lo:Bool
 k:Nat
 j:Nat
 ag:Option Nat
 u:DV
def Iw(fr:ao)(own:aB)(cf:Cf):Option Rv:=match bu fr cf with
 |some ⟨_, .store t x y,_,_,_,_⟩=>match aC (aI fr cf) x with
  |some (.be nm sz k j)=>match ew fr own cf nm with
   |some (.b ty s ds lo)=>bif Nat.beq s sz then(match b8 tt t with
    |some i=>match i.ag with
     |some ag=>match evD (aI fr cf) y with
      |some u=>some ⟨nm,ty,s,ds,lo,k,j,ag,u⟩
      |none=>none
     |none=>none
    |none=>none) else none
   |_=>none
  |_=>none
 |_=>none
def sb[fu:Fu](d:DV){nm:Nat}{ty:TypeId}{s:Nat}{ds:List DV}{lo:Bool}{k' j:Nat}{ag:Option Nat}{u d':DV}(ds':List DV)(h:Iw fr own cf=some ⟨nm,ty,s,ds,lo,k',j,ag,u⟩)(he:ds[k']? =some d)(hl:xe ag d j u=some d')(hds:ds.set k' d'=ds')
  (hgo:bF tt n fu.n fr own cf .un [(nm,some (.b ty s ds' lo))] []=⟨vc,fr',own',cf'⟩)(k:aj prog GB C n Q0 fr' own' cf')
  (hv:ab vc:=by first|exact trivial|(simp only[ab];kernel_rfl)|(simp only[ab];omega)|(simp only[ab,aX,aW,aK];omega)):aj prog GB C n Q0 fr own cf:=by
 unfold Iw at h;split at h<;>try (cases h;done)
 rename_i hh;split at h<;>try (cases h;done)
 rename_i hx;split at h<;>try (cases h;done)
 rename_i hb;rw[cond_eq_ite] at h;split at h<;>try (cases h;done)
 rename_i hs
 cases aY hs
 split at h<;>try (cases h;done)
 rename_i hT;split at h<;>try (cases h;done)
 rename_i ha;split at h<;>cases h;rename_i hy;exact us hh (KI (dt _ _ hT) ha hx hb hy he hl hds) hgo hv k
structure Oq where
 d:Nat
 e:Nat
 s:Nat
 b:Nat
 z:DV
 l:Int
def HM(fr:ao)(cf:Cf):Option Oq:=match bu fr cf with
 |some ⟨some d, .makeSlice t x y,_,_,_,_⟩=>match aC (aI fr cf) x with
  |some (.d (.v (.int _ l)))=>match b8 tt t with
   |some ⟨.sl e s b,_,_,_⟩=>match b8 tt e with
    |some i=>match jI i with
     |some z=>bif Nat.beq z.cells.length s then some ⟨d,e,s,b,z,l⟩ else none
     |none=>none
    |none=>none
   |_=>none
  |_=>none
 |_=>none
def mk[fu:Fu]{d e s b:Nat}{z:DV}{l:Int}{k':IntKind}(ds:List DV)(h:HM fr cf=some ⟨d,e,s,b,z,l⟩)(hy:(match bu fr cf with|some ⟨_, .makeSlice _ _ y,_,_,_,_⟩=>aC (aI fr cf) y|_=>none)=some (.d (.v (.int k' l))))(hds:List.replicate l.toNat z=ds)
  (hgo:bF tt n fu.n fr own cf (.rw d) [(d,some (.b e s ds true))] [d]=⟨vc,fr',own',cf'⟩)(k:aj prog GB C n Q0 fr' own' cf')(h0:0<=l:=by omega)(hb:b*l<=140737488355328:=by omega)(hl:l<=1152921504606846976:=by omega)
  (hv:ab vc:=by first|exact trivial|(simp only[ab];kernel_rfl)|(simp only[ab];omega)|(simp only[ab,aX,aW,aK];omega)):aj prog GB C n Q0 fr own cf:=by
 unfold HM at h;split at h<;>try (cases h;done)
 rename_i hh;split at h<;>try (cases h;done)
 rename_i hx;split at h<;>try (cases h;done)
 rename_i hT;split at h<;>try (cases h;done)
 rename_i hi;split at h<;>try (cases h;done)
 rename_i hz;rw[cond_eq_ite] at h;split at h<;>cases h;rename_i hs;rw[hh] at hy;have:=gE (dt _ _ hT) J;exact us hh (RY (dt _ _ hi) hz hs hx hy h0 hb hl hds) hgo hv k
structure J5 where
 d:Nat
 e:Nat
 s:Nat
 ds:List DV
def wI(fr:ao)(cf:Cf):Option J5:=match bu fr cf with
 |some ⟨some d, .buildSlice t len parts,_,_,_,_⟩=>match b8 tt t with
  |some ⟨.sl e s _,_,_,_⟩=>match b8 tt e with
   |some i=>match jI i with
    |some z=>match p8 (aI fr cf) 0 parts.toList with
     |some ds=>bif Nat.beq z.cells.length s&&(xf s ds&&(Nat.beq parts.toList.length len&&(Nat.ble (len*s) 1000&&Nat.blt 0 (len*s)))) then some ⟨d,e,s,ds⟩ else none
     |none=>none
    |none=>none
   |none=>none
  |_=>none
 |_=>none
def G9{d e s:Nat}{ds:List DV}(h:wI fr cf=some ⟨d,e,s,ds⟩): ∃o,bu fr cf=some o/\o.dst=some d/\bm prog GB C n (aI fr cf) (ew fr own cf) o (.rw d) [(d,some (.b e s ds true))] [d]:=by
 unfold wI at h;split at h<;>try (cases h;done)
 rename_i hh;split at h<;>try (cases h;done)
 rename_i hT;split at h<;>try (cases h;done)
 rename_i hi;split at h<;>try (cases h;done)
 rename_i hz;split at h<;>try (cases h;done)
 rename_i hr;rw[cond_eq_ite] at h;split at h<;>cases h;rename_i hc;simp only[bJ] at hc;have:=gE (dt _ _ hT) J;exact⟨_,hh,J,GR (dt _ _ hi) hz hc.1 hr hc.2.1 hc.2.2.1 hc.2.2.2.1 hc.2.2.2.2⟩
def ro[fu:Fu]{d e s:Nat}{ds:List DV}(h:wI fr cf=some ⟨d,e,s,ds⟩)(hgo:bF tt n fu.n fr own cf (.rw d) [(d,some (.b e s ds true))] [d]=⟨vc,fr',own',cf'⟩)(k:aj prog GB C n Q0 fr' own' cf')
  (hv:ab vc:=by first|exact trivial|(simp only[ab];kernel_rfl)|(simp only[ab];omega)|(simp only[ab,aX,aW,aK];omega)):aj prog GB C n Q0 fr own cf:=by
 obtain⟨o,h1,_,h3⟩:=G9 (GB:=GB) (C:=C) (n:=n) (own:=own) h;exact us h1 h3 hgo hv k
def rf[fu:Fu]{d e s:Nat}{ds:List DV}(h:wI fr cf=some ⟨d,e,s,ds⟩)(hgo:bF tt n fu.n fr own cf (.d (.sl ds)) [(d,none)] [d]=⟨vc,fr',own',cf'⟩)(k:aj prog GB C n Q0 fr' own' cf')
  (hv:ab vc:=by first|exact trivial|(simp only[ab];kernel_rfl)|(simp only[ab];omega)|(simp only[ab,aX,aW,aK];omega)):aj prog GB C n Q0 fr own cf:=by
 obtain⟨o,h1,h2,h3⟩:=G9 (GB:=GB) (C:=C) (n:=n) (own:=own) h;exact us h1 (h3.frzRow h2) hgo hv k
def J7(fr:ao)(cf:Cf):Option (Nat×Nat×Nat):=match bu fr cf with
 |some ⟨some d, .buildSlice t 0 ⟨[]⟩,_,_,_,_⟩=>match b8 tt t with
  |some ⟨.sl e s _,_,_,_⟩=>some (d,e,s)
  |_=>none
 |_=>none
def wx[fu:Fu]{d e s:Nat}(h:J7 fr cf=some (d,e,s))(hgo:bF tt n fu.n fr own cf (.rw d) [(d,some (.b e s [] true))] [d]=⟨vc,fr',own',cf'⟩)(k:aj prog GB C n Q0 fr' own' cf')
  (hv:ab vc:=by first|exact trivial|(simp only[ab];kernel_rfl)|(simp only[ab];omega)|(simp only[ab,aX,aW,aK];omega)):aj prog GB C n Q0 fr own cf:=by
 unfold J7 at h;split at h<;>try (cases h;done)
 rename_i hh;split at h<;>cases h;rename_i hT;have:=gE (dt _ _ hT) J;exact us hh NI hgo hv k
structure QO where
 d:Nat
 nm:Option Nat
 e:Nat
 s:Nat
 b:Nat
 ds:List DV
 ds2:List DV
def vt(fr:ao)(own:aB)(cf:Cf):Option QO:=match bu fr cf with
 |some ⟨some d, .call ⟨.builtin .append,⟨[x,y]⟩,⟨[t,t']⟩⟩,_,_,_,_⟩=>match b8 tt t with
  |some ⟨.sl e s b,_,_,_⟩=>match b8 tt t' with
   |some ⟨.sl _ _ _,_,_,_⟩=>match b8 tt e with
    |some i=>match jI i with
     |some z=>bif Nat.beq z.cells.length s&&Nat.blt 0 b then(match nB (aI fr cf) (ew fr own cf) s y with
      |some ds2=>match aC (aI fr cf) x with
       |some (.rw nm)=>match ew fr own cf nm with
        |some (.b e' s' ds true)=>bif (Nat.beq e' e&&Nat.beq s' s)&&!Nat.beq nm d then some ⟨d,some nm,e,s,b,ds,ds2⟩ else none
        |_=>none
       |some (.ct ds)=>some ⟨d,none,e,s,b,ds,ds2⟩
       |some .nl=>some ⟨d,none,e,s,b,[],ds2⟩
       |_=>none
      |none=>none) else none
     |none=>none
    |none=>none
   |_=>none
  |_=>none
 |_=>none
def Gj(d:Nat)(nm:Option Nat)(B:Bk):List (Nat×Option Bk):=match nm with
 |some nm=>[(nm,none),(d,some B)]
 |none=>[(d,some B)]
def Jg{d:Nat}{nm:Option Nat}{e s b:Nat}{ds ds2:List DV}(h:vt fr own cf=some ⟨d,nm,e,s,b,ds,ds2⟩)(ds':List DV)(hds:ds++ds2=ds')(ho:nm.isNone=true->du s ds/\0<ds2.length)(ho2:du s ds2)(hbd:(ds.length+ds2.length)*b<=140737488355328):
  ∃o,bu fr cf=some o/\o.dst=some d/\bm prog GB C n (aI fr cf) (ew fr own cf) o (.rw d) (Gj d nm (.b e s ds' true)) [d]:=by
 unfold vt at h;split at h<;>try (cases h;done)
 rename_i hh;split at h<;>try (cases h;done)
 rename_i hT;split at h<;>try (cases h;done)
 rename_i hT';split at h<;>try (cases h;done)
 rename_i hi;split at h<;>try (cases h;done)
 rename_i hz;rw[cond_eq_ite] at h;split at h<;>try (cases h;done)
 rename_i hc;simp only[bJ] at hc;split at h<;>try (cases h;done)
 rename_i hy;have:=gE (dt _ _ hT) J;have hN:mp prog _:=⟨_,(gE (dt _ _ hT') J).un⟩;refine⟨_,hh,?_⟩;split at h<;>try (cases h;done)
 ·rename_i hx
  split at h<;>try (cases h;done)
  rename_i hb;rw[cond_eq_ite] at h;split at h<;>cases h;rename_i hq;simp only[bJ,gR] at hq
  cases aY hq.1.1
  cases aY hq.1.2
  exact⟨J,Oz (dt _ _ hi) hz hc.1 hx hb hy ho2 hc.2 hbd hq.2 hds⟩
 ·rename_i hx
  cases h
  obtain⟨h1,h2⟩:=ho rfl;exact⟨J,Ec (dt _ _ hi) hz hc.1 (.inl hx) h1 hy ho2 h2 hc.2 hbd hds⟩
 ·rename_i hx
  cases h
  obtain⟨h1,h2⟩:=ho rfl;exact⟨J,Ec (dt _ _ hi) hz hc.1 (.inr ⟨hx,J⟩) h1 hy ho2 h2 hc.2 hbd hds⟩
def ap[fu:Fu]{d:Nat}{nm:Option Nat}{e s b:Nat}{ds ds2:List DV}(ds':List DV)(h:vt fr own cf=some ⟨d,nm,e,s,b,ds,ds2⟩)(hds:ds++ds2=ds')(ho2:du s ds2)(hgo:bF tt n fu.n fr own cf (.rw d) (Gj d nm (.b e s ds' true)) [d]=⟨vc,fr',own',cf'⟩)(k:aj prog GB C n Q0 fr' own' cf')
  (ho:nm.isNone=true->du s ds/\0<ds2.length:=by intro h;first|(cases h;done)|exact⟨zp rfl,by simp⟩)(hbd:(ds.length+ds2.length)*b<=140737488355328:=by simp;omega)
  (hv:ab vc:=by first|exact trivial|(simp only[ab];kernel_rfl)|(simp only[ab];omega)|(simp only[ab,aX,aW,aK];omega)):aj prog GB C n Q0 fr own cf:=by
 obtain⟨o,h1,_,h3⟩:=Jg (GB:=GB) (C:=C) (n:=n) h ds' hds ho ho2 hbd;exact us h1 h3 hgo hv k
def Iz(fr:ao)(cf:Cf):Option (List DV×Int×Int×Nat×Bool):=match bu fr cf with
 |some ⟨_, .slice t x lo hi mx,_,_,_,_⟩=>match evD (aI fr cf) x with
  |some (.sl l)=>match b8 tt t with
   |some ⟨.sl _ s _,_,_,_⟩=>match jk (aI fr cf) 0 lo,jk (aI fr cf) l.length hi with
    |some i,some j=>match mx with
     |none=>some (l,i,j,s,false)
     |some _=>none
    |_,_=>none
   |_=>none
  |_=>none
 |_=>none
def qS[fu:Fu]{l:List DV}{i j:Int}{s:Nat}(nlo nhi:Nat)(ls:List DV)(h:Iz fr cf=some (l,i,j,s,false))(ei:i=nlo)(ej:j=nhi)(hls:(l.take nhi).drop nlo=ls)(ho:du s l)(h1:nlo<=nhi)(h2:nhi<=l.length)
  (hgo:bF tt n fu.n fr own cf (.d (.sl ls)) [] []=⟨vc,fr',own',cf'⟩)(k:aj prog GB C n Q0 fr' own' cf')
  (hv:ab vc:=by first|exact trivial|(simp only[ab];kernel_rfl)|(simp only[ab];omega)|(simp only[ab,aX,aW,aK];omega)):aj prog GB C n Q0 fr own cf:=by
 unfold Iz at h;split at h<;>try (cases h;done)
 rename_i hh;split at h<;>try (cases h;done)
 rename_i hx;split at h<;>try (cases h;done)
 rename_i hT;split at h<;>try (cases h;done)
 rename_i hi hj;split at h<;>cases h;have:=gE (dt _ _ hT) J;subst ei ej hls;exact us hh (Qy hx ho hi hj h1 h2) hgo hv k
def Kb(fr:ao)(cf:Cf):Option (List DV×Int×Int×Nat):=match bu fr cf with
 |some ⟨_, .slice t x none (some hi) (some mx),_,_,_,_⟩=>match evD (aI fr cf) x with
  |some (.sl l)=>match b8 tt t with
   |some ⟨.sl _ s _,_,_,_⟩=>match jk (aI fr cf) 0 (some hi),jk (aI fr cf) 0 (some mx) with
    |some i,some j=>some (l,i,j,s)
    |_,_=>none
   |_=>none
  |_=>none
 |_=>none
def s3[fu:Fu]{l:List DV}{i j:Int}{s:Nat}(nhi:Nat)(ls:List DV)(h:Kb fr cf=some (l,i,j,s))(ei:i=nhi)(ej:j=nhi)(hls:l.take nhi=ls)(ho:du s l)(h2:nhi<=l.length)
  (hgo:bF tt n fu.n fr own cf (.ct ls) [] []=⟨vc,fr',own',cf'⟩)(k:aj prog GB C n Q0 fr' own' cf')
  (hv:ab vc:=by first|exact trivial|(simp only[ab];kernel_rfl)|(simp only[ab];omega)|(simp only[ab,aX,aW,aK];omega)):aj prog GB C n Q0 fr own cf:=by
 unfold Kb at h;split at h<;>try (cases h;done)
 rename_i hh;split at h<;>try (cases h;done)
 rename_i hx;split at h<;>try (cases h;done)
 rename_i hT;split at h<;>cases h;rename_i hi hj;have:=gE (dt _ _ hT) J;subst ei ej hls;exact us hh (MR hx ho hi hj h2) hgo hv k
def DD(fr:ao)(cf:Cf):Option (Nat×List DV):=match bu fr cf with
 |some ⟨some d, .box _ x,_,_,_,_⟩=>match aC (aI fr cf) x with
  |some f=>bif f.okc&&sE f d then(match iH f.cells with
   |some l=>some (d,l)
   |none=>none) else none
  |none=>none
 |_=>none
end
section
variable {GB:Gh} {C:az} {n:Nat} {Q0:Exit->Act->World->Prop} {fr fr':ao} {own own':aB} {cf cf':Cf} {vc:List Prop} {ops:Array Oper} {o:Oper} {K:List Kt} {r:List Oper}
def WC(x y m:Nat)(k:Option Nat):Option Nat:=bif Nat.beq m x then some y else bif Nat.beq m y then none else k
def ml(x y:Nat):FX->FX
 | .rw m=>bif Nat.beq m x then .rw y else bif Nat.beq m y then .no else .rw m
 | .ov m o=>bif Nat.beq m x then .ov y o else bif Nat.beq m y then .no else .ov m o
 | .be m s i j=>bif Nat.beq m x then .be y s i j else bif Nat.beq m y then .no else .be m s i j
 | .rs m s i j=>bif Nat.beq m x then .rs y s i j else bif Nat.beq m y then .no else .rs m s i j
 | .bx tp pre m post=>bif Nat.beq m x then .bx tp pre y post else bif Nat.beq m y then .no else .bx tp pre m post
 |f=>f
def mC(x y:Nat):Option Bk->Option Bk
 |some (.o ty cs lo)=>some (.o ty (cs.map (ml x y)) lo)
 |B=>B
def VG(x y k:Nat):Nat:=bif Nat.beq k x then y else bif Nat.beq k y then x else k
def wk{α:Type}(g:FX->FX):List FX->(List FX->α)->α
 |[],k=>k []
 |f::t,k=>wk g t fun t'=>ux (g f) fun f'=>k (f'::t')
def GO{α:Type}{g:FX->FX}: ∀{cs:List FX} {k:List FX->α},wk g cs k=k (cs.map g)
 |[],k=>rfl
 |f::t,k=>by simp only[wk,vV];rw[GO];rfl
def w4{α:Type}(g:FX->FX):ao->(ao->α)->α
 |[],k=>k []
 |(j,f)::t,k=>w4 g t fun t'=>ux (g f) fun f'=>k ((j,f')::t')
def Cd{α:Type}{g:FX->FX}: ∀{fr:ao} {k:ao->α},w4 g fr k=k (fr.map fun e=>(e.1,g e.2))
 |[],k=>rfl
 |(j,f)::t,k=>by simp only[w4,vV];rw[Cd];rfl
def wK{α:Type}(x y:Nat):aB->(aB->α)->α
 |[],k=>k []
 |(j,B)::t,k=>wK x y t fun t'=>bif Nat.beq j y then k ((x,none)::t') else match B with
  |some (.o ty cs lo)=>wk (ml x y) cs fun cs'=>bif Nat.beq j x then k ((y,some (.o ty cs' lo))::t') else k ((j,some (.o ty cs' lo))::t')
  |B=>bif Nat.beq j x then k ((y,B)::t') else k ((j,B)::t')
def Bz{α:Type}{x y:Nat}: ∀{own:aB} {k:aB->α},wK x y own k=k (own.map fun e=>(bif Nat.beq e.1 y then x else bif Nat.beq e.1 x then y else e.1,bif Nat.beq e.1 y then none else mC x y e.2))
 |[],k=>rfl
 |(j,B)::t,k=>by
  simp only[wK,Bz (own:=t),cZ]
  cases Nat.beq j y with
  |true=>rfl
  |false=>
   cases B with
   |none=>cases Nat.beq j x<;>rfl
   |some B=>cases B<;>cases Nat.beq j x<;>simp only[cond_false,cond_true,GO,mC]
def yw{x y:Nat}(hxy:x≠y): ∀{own:aB} {k:Nat},aH (own.map fun e=>(bif Nat.beq e.1 y then x else bif Nat.beq e.1 x then y else e.1,bif Nat.beq e.1 y then none else mC x y e.2)) k=if k=x then none else if k=y then mC x y (aH own x) else mC x y (aH own k)
 |[],k=>by simp[aH,mC]
 |(j,B)::t,k=>by
  have bq: ∀a b:Nat,Nat.beq a b=decide (a=b):=fun a b=>by
   by_cases h:a=b
   ·subst h;simp
   ·rw[decide_eq_false h]
    cases hb:Nat.beq a b with
    |false=>rfl
    |true=>exact absurd (aY hb) h
  simp only[cZ];rw[iw,yw hxy (own:=t),iw,iw];by_cases h1:j=y
  ·subst h1
   simp only[bq,decide_true,cond_true];by_cases h2:k=x
   ·simp[h2]
   ·by_cases h3:k=j
    ·subst h3;simp[h2,Ne.symm h2,hxy]
    ·simp[h2,h3]
  ·by_cases h4:j=x
   ·subst h4
    simp only[bq,h1,decide_false,cond_false,decide_true,cond_true];by_cases h2:k=y
    ·subst h2;simp[Ne.symm h1]
    ·by_cases h3:k=j
     ·subst h3;simp[h1]
     ·simp[h2,h3]
   ·simp only[bq,h1,h4,decide_false,cond_false]
    by_cases h2:k=j
    ·subst h2;simp[h1,h4]
    ·by_cases h3:k=x
     ·subst h3;simp[h2]
     ·by_cases h5:k=y
      ·subst h5;simp[h2,h3,Ne.symm h4]
      ·simp[h2,h3,h5]
def BH{x y:Nat}(hxy:x≠y){ρ:NE}{G:Gh}{f:FX}{v:Value}(h:bp ρ G f v):bp (fun k=>if k=y then ρ x else ρ k) G (ml x y f) v:=by
 have key: ∀m:Nat,Nat.beq m y=false->(fun k=>if k=y then ρ x else ρ k) m=ρ m:=fun m hm=>if_neg fun e=>by subst e;simp at hm
 cases f with
 |rw m=>
  simp only[ml]
  cases hb:Nat.beq m x with
  |true=>cases aY hb;simp only[cond_true];show v=_;simp;exact h
  |false=>
   cases hb':Nat.beq m y with
   |true=>trivial
   |false=>simp only[cond_false];show v=_;rw[key m hb'];exact h
 |ov m off=>
  simp only[ml]
  cases hb:Nat.beq m x with
  |true=>cases aY hb;simp only[cond_true];obtain⟨b,h1,h2⟩:=h;exact⟨b,by simp;exact h1,h2⟩
  |false=>
   cases hb':Nat.beq m y with
   |true=>trivial
   |false=>simp only[cond_false];obtain⟨b,h1,h2⟩:=h;exact⟨b,by rw[key m hb'];exact h1,h2⟩
 |be m s i j=>
  simp only[ml]
  cases hb:Nat.beq m x with
  |true=>cases aY hb;simp only[cond_true];obtain⟨b,h1,h2⟩:=h;exact⟨b,by simp;exact h1,h2⟩
  |false=>
   cases hb':Nat.beq m y with
   |true=>trivial
   |false=>simp only[cond_false];obtain⟨b,h1,h2⟩:=h;exact⟨b,by rw[key m hb'];exact h1,h2⟩
 |rs m s i j=>
  simp only[ml]
  cases hb:Nat.beq m x with
  |true=>cases aY hb;simp only[cond_true];obtain⟨b,c,h1,h2⟩:=h;exact⟨b,c,by simp;exact h1,h2⟩
  |false=>
   cases hb':Nat.beq m y with
   |true=>trivial
   |false=>simp only[cond_false];obtain⟨b,c,h1,h2⟩:=h;exact⟨b,c,by rw[key m hb'];exact h1,h2⟩
 |bx tp pre m post=>
  simp only[ml]
  cases hb:Nat.beq m x with
  |true=>cases aY hb;simp only[cond_true];obtain⟨m1,m2,e,h1,h2⟩:=h;exact⟨m1,m2,by simpa using e,h1,h2⟩
  |false=>
   cases hb':Nat.beq m y with
   |true=>trivial
   |false=>simp only[cond_false];obtain⟨m1,m2,e,h1,h2⟩:=h;exact⟨m1,m2,by rw[key m hb'];exact e,h1,h2⟩
 |_=>exact h
def CG{x y:Nat}(hxy:x≠y){ρ:NE}{G:Gh}: ∀{cs:List FX} {m:List Value},co ρ G cs m->co (fun k=>if k=y then ρ x else ρ k) G (cs.map (ml x y)) m
 |[],m,h=>h
 |f::t,m,⟨v,q,e,h1,h2⟩=>⟨v,q,e,BH hxy h1,CG hxy h2⟩
def sv(x y:Nat)(fr:ao)(own:aB):Option td:=bif Nat.beq x y then none else w4 (ml x y) fr fun fr'=>wK x y own fun own'=>some ⟨fr',own'⟩
def Rb{x y:Nat}{Φ:Act->World->Prop}{R:td}(hy:Nat.blt y 2000000=true)(h:sv x y fr own=some R)(hk:SX GB C n (aD R.fr) (aH R.own) Φ):SX GB C n (aD fr) (aH own) Φ:=by
 unfold sv at h;rw[cond_eq_ite] at h;split at h<;>try (cases h;done)
 rename_i hb;have hxy:x≠y:=fun e=>hb (by subst e;simp);rw[Cd,Bz] at h;cases h;refine⟨fun ρ G ov a w r=>hk.run (fun k=>if k=y then ρ x else ρ k) G ov a w ?_⟩;have inv: ∀m B,aH (own.map fun e=>(bif Nat.beq e.1 y then x else bif Nat.beq e.1 x then y else e.1,bif Nat.beq e.1 y then none else mC x y e.2)) m=some B-> ∃m0 B0,aH own m0=some B0/\mC x y (some B0)=some B/\(m=y/\m0=x\/m≠y/\m≠x/\m0=m):=fun m B e=>by
  rw[yw hxy] at e;split at e
  ·cases e
  ·rename_i hm
   split at e
   ·cases hl:aH own x with
    |none=>rw[hl] at e;cases e
    |some B0=>rw[hl] at e;exact⟨x,B0,hl,e, .inl ⟨by assumption,J⟩⟩
   ·cases hl:aH own m with
    |none=>rw[hl] at e;cases e
    |some B0=>rw[hl] at e;exact⟨m,B0,hl,e, .inr ⟨by assumption,hm,J⟩⟩
 have rho: ∀m m0,(m=y/\m0=x\/m≠y/\m≠x/\m0=m)->(fun k=>if k=y then ρ x else ρ k) m=ρ m0:=fun m m0 h=>by
  rcases h with⟨h1,h2⟩|⟨h1,_,h2⟩
  ·subst h1 h2;simp
  ·subst h2;exact if_neg h1
 refine⟨r.gb,r.h,r.sz,r.df,fun k f e=>?_,fun m B e=>?_,fun m m' B B' e e' hne=>?_,fun m p h1 h2 e=>by
  have:y<2000000:=by simpa[lY] using hy
  show(if m=y then ρ x else ρ m).a=_;rw[if_neg (by omega)];exact r.fxd m p h1 h2 e⟩
 ·rw[vD] at e
  cases hf:aD fr k with
  |none=>rw[hf] at e;cases e
  |some g=>
   rw[hf] at e;cases e;obtain⟨v,h1,h2⟩:=r.fx k g hf;exact⟨v,h1,BH hxy h2⟩
 ·obtain⟨m0,B0,h1,h2,h3⟩:=inv m B e
  obtain⟨os,h4,h5⟩:=r.bx m0 B0 h1;refine⟨os,?_,h5⟩;have hr:=rho m m0 h3
  cases B0 with
  |b=>cases h2;obtain⟨vs,q1,q2,q3,q4⟩:=h4;exact⟨vs,by rw[hr];exact q1,q2,q3,q4⟩
  |c=>cases h2;obtain⟨vs,q1,q2,q3,q4,q5⟩:=h4;exact⟨vs,by rw[hr];exact q1,q2,q3,q4,by rw[hr];exact q5⟩
  |o ty cs lo=>cases h2;obtain⟨b,q,q1,q2,q3⟩:=h4;exact⟨b,q,by rw[hr];exact q1,q2,CG hxy q3⟩
 ·obtain⟨m0,B0,h1,_,h3⟩:=inv m B e
  obtain⟨m1,B1,h4,_,h6⟩:=inv m' B' e';have q1:=rho m m0 h3;have q2:=rho m' m1 h6;simp only at q1 q2;rw[q1,q2];refine r.dj m0 m1 B0 B1 h1 h4 fun e=>?_;rcases h3 with⟨h7,h8⟩|⟨h7,h8,h9⟩<;>rcases h6 with⟨g7,g8⟩|⟨g7,g8,g9⟩
  ·exact hne (h7.trans g7.symm)
  ·exact g8 (by rw[<-g9,<-e,h8])
  ·exact h8 (by rw[<-h9,e,g8])
  ·exact hne (by rw[<-h9,e,g9])
def iI(x y:Nat){fr1:ao}{own1:aB}{e:Exit}(h:sv x y fr own=some ⟨fr1,own1⟩)(k:aj prog GB C n Q0 fr1 own1 (.ex e K))(hy:Nat.blt y 2000000=true:=by rfl):aj prog GB C n Q0 fr own (.ex e K):=Rb hy h k
def Ss{d nm:Nat}(hnm:Nat.blt nm 2000000=true)(hl:aD fr d=some .nl){Φ:Act->World->Prop}{ty s:Nat}(hf:i9 [nm] none (aD fr) (aH own))(h:SX GB C n (aD ((d, .rw nm)::fr)) (aH (iA own nm (some (.b ty s [] true)))) Φ):SX GB C n (aD fr) (aH own) Φ:=by
 refine⟨fun ρ G ov a w r=>?_⟩;obtain⟨f1,f2⟩:=hf nm aQ;have hset:aH (iA own nm (some (.b ty s [] true)))=upB (aH own) [(nm,some (.b ty s [] true))]:=by funext j;rw[pE];rfl
 rw[hset] at h;refine h.run (fun k=>if k=nm then⟨none,0,0⟩ else ρ k) G ov a w ⟨r.gb,r.h,r.sz,r.df,fun k f e=>?_,fun m B e=>?_,fun m m' B B' e e' hne=>?_,fun m p h1 h2 e=>by
  have:nm<2000000:=by simpa[lY] using hnm
  show(if m=nm then(⟨none,0,0⟩:SV) else ρ m).a=_;rw[if_neg (by omega)];exact r.fxd m p h1 h2 e⟩
 ·rw[fH] at e
  split at e
  ·cases e;rename_i hk;subst hk
   obtain⟨v,h1,h2⟩:=r.fx _ _ hl;exact⟨v,h1,by rw[show v=_ from h2];show _=_;simp⟩
  ·obtain⟨v,h1,h2⟩:=r.fx k f e
   exact⟨v,h1,h2.ren fun m hm=>oh _ fun hc=>f1 k f (by simp) e (by rw[hm,hc])⟩
 ·simp only[upB] at e
  by_cases hm:m=nm
  ·subst hm;simp only[if_true] at e;cases e
   exact⟨[],⟨[],by simp only[if_true];exact .inl ⟨J,J,J⟩, .nil,by simp,fun _ o ho=>by cases ho⟩,fun o ho=>by cases ho⟩
  ·simp only[hm,if_false] at e
   obtain⟨os,h1,h2⟩:=r.bx m B e;exact⟨os,h1.ren (if_neg hm) fun q hq=>oh _ fun hc=>f2 m B hm e (by rw[<-hc];exact hq),h2⟩
 ·simp only[upB] at e e'
  intro b hb hb';by_cases hm:m=nm
  ·simp[hm] at hb
  ·by_cases hm':m'=nm
   ·simp[hm'] at hb'
   ·simp only[hm,hm',if_false] at e e' hb hb'
    exact r.dj m m' B B' e e' hne b hb hb'
def nr(d nm ty s:Nat){own1:aB}{c:Code}(hl:aD fr d=some .nl)(hf:ni [nm] none fr own=true)(ho:o8 own nm (some (.b ty s [] true)) id=own1)(k:aj prog GB C n Q0 ((d, .rw nm)::fr) own1 (.code c K))(hnm:Nat.blt nm 2000000=true:=by rfl):aj prog GB C n Q0 fr own (.code c K):=by
 subst ho;exact Ss hnm hl (uC hf) k
def f9:List (Option DV)->Nat->List DV
 |[],_=>[]
 |some d::t,b=>d::f9 t b
 |none::t,b=> .v (.pointer (some ⟨b,0,none⟩))::f9 t b
def uV(lk:LK):List Operand->Option (Option Nat×List (Option DV))
 |[]=>some (none,[])
 |x::t=>match aC lk x,uV lk t with
  |some (.ov nm 0),some (none,l)=>some (some nm,none::l)
  |some f,some (q,l)=>match im f with
   |some d=>some (q,some d::l)
   |none=>none
  |_,_=>none
def zk(lk:LK)(fo:Operand)(args:Array Operand):Option (FuncId×Nat×List (Option DV)):=match aC lk fo with
 |some (.d (.v (.func (.func f) ⟨[]⟩ ⟨[]⟩)))=>match uV lk args.toList with
  |some (some nm,l)=>some (f,nm,l)
  |_=>none
 |_=>none
def A4{lk:LK}{bk:BM}{ρ:NE}{G:Gh}{ov:List av}{a:Act}{w:World}(r:bj GB C n lk bk ρ G ov a w){b:Nat}: ∀{x:List Operand} {q:Option Nat} {l:List (Option DV)},uV lk x=some (q,l)->(∀nm,q=some nm->(ρ nm).a=some ⟨b,0,none⟩)->
  ∃y,fp (b9 a) x=some y/\IsLs G (f9 l b) y
 |[],q,l,e,_=>by cases e;exact⟨[],J, .nil⟩
 |x::t,q,l,e,hb=>by
  simp only[uV] at e;split at e
  ·rename_i nm l' h1 h2
   cases e
   obtain⟨y,h3,b',h4,rfl⟩:=r.ev h1;have:=hb nm J;rw[h4] at this;cases this;obtain⟨ys,h5,h6⟩:=A4 r (b:=b) h2 (fun nm e=>by cases e);exact⟨_::ys,by simp only[fp,h3,h5], .cons ((ba (G:=G)).2 J) h6⟩
  ·rename_i f q' l' _ h1 h2
   cases hd:im f with
   |none=>rw[hd] at e;cases e
   |some d=>
   rw[hd] at e;cases e;obtain⟨y,h3,h4⟩:=r.ev h1;obtain⟨ys,h5,h6⟩:=A4 r (b:=b) h2 hb;exact⟨y::ys,by simp only[fp,h3,h5], .cons (lz h4 hd) h6⟩
  ·cases e
def bj.lend{lk:LK}{bk:BM}{ρ:NE}{G:Gh}{ov:List av}{a:Act}{w:World}{nm:Nat}{ty:TypeId}{cs:List FX}{lo:Bool}{csd:List DV}(r:bj GB C n lk bk ρ G ov a w)(hb:bk nm=some (.o ty cs lo))(hc:iH cs=some csd):
  ∃b m rest,(ρ nm).a=some ⟨b,0,none⟩/\IsLs G csd m/\ov.Perm ([⟨b,m,ty,lo⟩]++rest)/\ ∀o∈ov,o.b≠b->o∈rest:=by
 obtain⟨os,⟨b,m,h1,rfl,h2⟩,h3⟩:=r.bx _ _ hb;obtain⟨l1,l2,rfl⟩:=oW (h3 _ aQ);refine⟨b,m,l1++l2,h1,qx h2 hc,pT,fun o ho hne=>?_⟩;rcases cL.1 ho with ho|ho
 ·exact cJ _ ho
 ·rcases bZ.1 ho with rfl|ho
  ·exact absurd J hne
  ·exact fQ _ ho
def Qe{P:Program}{lk:LK}{bk:BM}{fo:Operand}{args:Array Operand}{tys:Array TypeId}{f:FuncId}{nm:Nat}{l:List (Option DV)}{rv:DV}{dst:Option Nat}{ty ty0:TypeId}{pos:String}{af:Array Edge}{gd:Option (Nat×Bool)}{cs:List FX}{csd cs':List DV}{lo:Bool}
  (ha:zk lk fo args=some (f,nm,l))(hb:bk nm=some (.o ty0 cs lo))(hc:iH cs=some csd)(hF: ∀b,PM GB P f (f9 l b) b ty0 csd rv cs'){csx:List FX}(hx:cs'.map .d=csx):bm P GB C n lk bk ⟨dst, .call ⟨.value fo,args,tys⟩,ty,pos,af,gd⟩ (.d rv) [(nm,some (.o ty0 csx lo))] []:=by
 intro hd tl tb K' s1 s2 hf hk;refine⟨fun ρ G ov a w r Q=>?_⟩;subst hx;have r1:=r.mono s1 s2;unfold zk at ha;split at ha<;>try (cases ha;done)
 rename_i h1;split at ha<;>cases ha;rename_i h2;obtain⟨y,hy,hy'⟩:=r1.ev h1;rw[(ba (G:=G)).1 hy'] at hy;obtain⟨b,m,rest,h3,h4,h5,h6⟩:=r1.lend hb hc;obtain⟨vs,h7,h8⟩:=A4 r1 (b:=b) h2 (fun nm e=>by cases e;exact h3);refine Me (M:=[⟨b,m,ty0,lo⟩]) (rest:=rest) hy h7 h5 (hF b G vs m lo r.gb h8 h4) hd (fun v css G' hG hl hK a' w' rl=>?_) a w Q ⟨r.h,r.sz,ci a,r.df⟩;obtain⟨hr,m',rfl,hm'⟩:=hK;have rl':fe C n (Sx.put (b9 a) dst v) (⟨b,m',ty0,lo⟩::rest) G' a' w':=rl;have r2:=r.upB (G':=G') (ov':=⟨b,m',ty0,lo⟩::rest) (w':=w') (B':= .o ty0 (cs'.map .d) lo) (os:=[⟨b,m',ty0,lo⟩]) hG.le rl'.h ⟨b,m',h3,J,od hm'⟩ (fun o ho=>by rw[aL.1 ho];exact aQ)
  (fun o ho hne=>aV _ (h6 o ho fun e=>hne (by rw[h3,e]))) ⟨_,s2 _ _ hb⟩
 exact hk.run ρ G' _ a' w' (r2.put (f:= .d rv) hr (jg rl'))
structure SA where
 f:FuncId
 nm:Nat
 l:List (Option DV)
 ty:TypeId
 cs:List DV
 lo:Bool
def Ft(fr:ao)(own:aB)(cf:Cf):Option SA:=match bu fr cf with
 |some ⟨_, .call ⟨.value fo,args,_⟩,_,_,_,_⟩=>match zk (aI fr cf) fo args with
  |some (f,nm,l)=>match ew fr own cf nm with
   |some (.o ty cs lo)=>match iH cs with
    |some csd=>some ⟨f,nm,l,ty,csd,lo⟩
    |none=>none
   |_=>none
  |none=>none
 |_=>none
def rS{α:Type}:List DV->(List FX->α)->α
 |[],k=>k []
 |d::t,k=>rS t fun t'=>k (.d d::t')
def u'{α:Type}: ∀{l:List DV} {k:List FX->α},rS l k=k (l.map .d)
 |[],k=>rfl
 |d::t,k=>by simp only[rS];rw[u'];rfl
def cm[fu:Fu]{f:FuncId}{nm:Nat}{l:List (Option DV)}{ty:TypeId}{cs cs':List DV}{lo:Bool}{rv:DV}(ha:Ft fr own cf=some ⟨f,nm,l,ty,cs,lo⟩)(hF: ∀b,PM GB prog f (f9 l b) b ty cs rv cs')
  (hgo:(rS cs' fun csx=>bF tt n fu.n fr own cf (.d rv) [(nm,some (.o ty csx lo))] [])=⟨vc,fr',own',cf'⟩)(k:aj prog GB C n Q0 fr' own' cf')
  (hv:ab vc:=by first|exact trivial|(simp only[ab];kernel_rfl)|(simp only[ab];omega)|(simp only[ab,aX,aW,aK];omega)):aj prog GB C n Q0 fr own cf:=by
 unfold Ft at ha;split at ha<;>try (cases ha;done)
 rename_i hh;split at ha<;>try (cases ha;done)
 rename_i h1;split at ha<;>try (cases ha;done)
 rename_i h2;split at ha<;>cases ha;rename_i h3;rw[u'] at hgo;exact us hh (Qe h1 h2 h3 hF J) hgo hv k
abbrev NM:Nat:=1000000
def sS:Nat->List (Option DV)->ao
 |_,[]=>[]
 |i,some v::t=>(i, .d v)::sS (i+1) t
 |i,none::t=>(i, .ov NM 0)::sS (i+1) t
def Ca(b:Nat): ∀l:List (Option DV),(f9 l b).length=l.length
 |[]=>rfl
 |some d::t=>by simp[f9,Ca b t]
 |none::t=>by simp[f9,Ca b t]
def Cw{b:Nat}{ρ:NE}{G:Gh}(hρ:(ρ NM).a=some ⟨b,0,none⟩): ∀{ds:List (Option DV)} {vs:List Value} (i:Nat),IsLs G (f9 ds b) vs-> ∀k f,aD (sS i ds) k=some f-> ∃y,(∃j,k=i+j/\vs[j]? =some y)/\bp ρ G f y
 |[],vs,i,h,k,f,e=>by cases e
 |some d::t,vs,i,h,k,f,e=>by
  obtain⟨y,m,rfl,h1,h2⟩:=bE.1 h;simp only[sS] at e;rw[fH] at e;split at e
  ·cases e;rename_i hk;exact⟨y,⟨0,hk,rfl⟩,h1⟩
  ·obtain⟨u,⟨j,hj,hu⟩,h3⟩:=Cw hρ (i+1) h2 k f e
   exact⟨u,⟨j+1,by omega,by simpa using hu⟩,h3⟩
 |none::t,vs,i,h,k,f,e=>by
  obtain⟨y,m,rfl,h1,h2⟩:=bE.1 h;simp only[sS] at e;rw[fH] at e;split at e
  ·cases e;rename_i hk;exact⟨y,⟨0,hk,rfl⟩,b,hρ,(ba (G:=G)).1 h1⟩
  ·obtain⟨u,⟨j,hj,hu⟩,h3⟩:=Cw hρ (i+1) h2 k f e
   exact⟨u,⟨j+1,by omega,by simpa using hu⟩,h3⟩
def CK(C:az)(b:Nat)(m:List Value)(ty:TypeId)(lo:Bool)(rv:DV)(cs':List DV):Ending->World->Prop:=tj C [⟨b,m,ty,lo⟩] (fun v css G'=>Is G' rv v/\ ∃m',css=[m']/\IsLs G' cs' m')
def qc[fu:Fu]{b:Nat}{f:FuncId}{fb:Func}{c:Code}{k:Nat}{l:List (Option DV)}{cs cs':List DV}{ty:TypeId}{rv:DV}(hf:prog.funcs[f]? =some fb)(hb:fb.body=some c)(hn:(fb.name== "runtime.NumGoroutine")=false)(hm:fb.ntmps=k)(hlen:Nat.ble l.length k=true)
  (hgo:(rS cs fun csx=>go tt k fu.n [] (sS 0 l) [(NM,some (.o ty csx false))] (.code c []))=⟨vc,fr,own,cf⟩)(h: ∀C b m lo,C.mb=[b]->aj prog GB C k (d7 C prog fb (CK C b m ty lo rv cs')) fr own cf)
  (hv:ab vc:=by first|exact trivial|(simp only[ab];kernel_rfl)|(simp only[ab];omega)|(simp only[ab,aX,aW,aK];omega)):PM GB prog f (f9 l b) b ty cs rv cs':=by
 intro G vs m lo hg hvs hm';refine pI.introR hf hb hn hm (by rw[hvs.len,Ca];exact hlen) fun C _ hmb hrd hfx=>?_;intro a w rl;refine oP hrd ?_;rw[u'] at hgo;have h1:=dO (GB:=GB) (C:=C) (Q0:=d7 C prog fb (CK C b m ty lo rv cs')) hgo hv (h C b m lo (by simpa using hmb));refine h1.run (fun _=>⟨some ⟨b,0,none⟩,0,0⟩) G [⟨b,m,ty,false⟩] a w ⟨hg,rl.h,rl.sz,rl.df,fun k f e=>?_,fun nm B e=>?_,fun nm nm' B B' e e' hne=>?_,fun nm p _ _ e=>by rw[hfx] at e;cases e⟩
 ·obtain⟨y,⟨j,hj,hy⟩,h2⟩:=Cw (ρ:=fun _=>⟨some ⟨b,0,none⟩,0,0⟩) (b:=b) rfl 0 hvs k f e
  refine⟨y,rl.fr k y ?_,h2⟩;rw[hj];exact rE vs 0 j y hy
 ·rw[iw] at e
  split at e
  ·cases e;exact⟨[⟨b,m,ty,false⟩],⟨b,m,J,J,od hm'⟩,fun o ho=>ho⟩
  ·cases e
 ·rw[iw] at e e'
  split at e<;>split at e'
  ·rename_i h2 h3;exact absurd (h2.trans h3.symm) hne
  ·cases e'
  ·cases e
  ·cases e
def FG(own:aB)(nm:Nat):Option (TypeId×List DV):=match aH own nm with
 |some (.o ty cs false)=>match iH cs with
  |some l=>some (ty,l)
  |none=>none
 |_=>none
def gO{fb:Func}{b:Nat}{m:List Value}{ty:TypeId}{lo:Bool}{ds cs1 cs':List DV}{rv:DV}(hmb:C.mb=[b])(hr:lw tt fr own fb.results.toList=some ds)(ho:FG own NM=some (ty,cs1))(hd:jG ds=rv)(hc:cs1=cs'):
  aj prog GB C n (d7 C prog fb (CK C b m ty lo rv cs')) fr own (.ex .ret []):=by
 refine⟨fun ρ G ov a w r=>?_⟩;obtain⟨vs,h1,h2⟩:=tx r hr;have hk:Is G rv (eu vs):=hd▸tW h2;unfold FG at ho;split at ho<;>try (cases ho;done)
 rename_i hb;split at ho<;>cases ho;rename_i hl;obtain⟨b',m',rest,h3,h4,h5,h6⟩:=r.lend hb hl;have hbb:b'=b:=by
  have:=(r.h.hown _ (h5.mem_iff.2 (cJ _ aQ))).2.2.2 J;rw[hmb] at this;simpa using this
 subst hbb hc;exact KU (C:=C) (n:=n) (fr:=b9 a) (own:=ov) (G:=G) (M:=[⟨b',m,ty,lo⟩]) (css:=[m']) (K:=fun v css G'=>Is G' rv v/\ ∃m',css=[m']/\IsLs G' cs1 m') h1 J ([⟨b',m',ty,false⟩]++rest) h5 (nL _ _) ⟨hk,m',J,h4⟩ a w ⟨r.h,r.sz,ci a,r.df⟩
end
section
variable {GB:Gh} {C:az} {n:Nat} {fr1 fr2:ao} {own1 own2:aB} {cf1 cf2:Cf} {vc1 vc2:List Prop} {Q0:Exit->Act->World->Prop} {fr fr':ao} {own own':aB} {cf cf':Cf} {vc:List Prop} {ops:Array Oper} {o:Oper} {K:List Kt} {r:List Oper}
def KV[fu:Fu]{f:FuncId}{fb:Func}{c:Code}{m:Nat}{ds:List DV}{ι:Type}{rv:ι->DV}(hf:prog.funcs[f]? =some fb)(hb:fb.body=some c)(hn:(fb.name== "runtime.NumGoroutine")=false)(hm:fb.ntmps=m)(hlen:Nat.ble ds.length m=true)
  (hgo:go tt m fu.n [] (lu 0 ds) [] (.code c [])=⟨vc,fr,own,cf⟩)(k: ∀C:az,aj prog GB C m (d7 C prog fb (ge C (fun v G'=> ∃x,Is G' (rv x) v))) fr own cf)
  (hv:ab vc:=by first|exact trivial|(simp only[ab];kernel_rfl)|(simp only[ab];omega)|(simp only[ab,aX,aW,aK];omega)):PX GB prog f ds ι rv:=by
 intro G vs hg hvs;refine Fn.introR hf hb hn hm (by rw[hvs.len];exact hlen) fun C _ _ hrd hfx=>?_;intro a w rl;refine oP hrd ?_;have h:=dO (GB:=GB) (C:=C) (Q0:=d7 C prog fb (ge C (fun v G'=> ∃x,Is G' (rv x) v))) hgo hv (k C);exact h.run (fun _=>⟨none,0,0⟩) G [] a w ⟨hg,rl.h,rl.sz,rl.df,(fun k f e=>qB hvs rl.fr k f e),(fun nm B e=>by cases e),(fun nm nm' B B' e=>by cases e),fun nm p _ _ e=>by rw[hfx] at e;cases e⟩
def Dp{fb:Func}{e:Exit}{ds:List DV}{ι:Type}{rv:ι->DV}(x:ι)(hr:lw tt fr own fb.results.toList=some ds)(hd:jG ds=rv x)(he:tJ e=true:=by rfl):aj prog GB C n (d7 C prog fb (ge C (fun v G'=> ∃x,Is G' (rv x) v))) fr own (.ex e []):=by
 refine⟨fun ρ G ov a w r=>?_⟩;obtain⟨vs,h1,h2⟩:=tx r hr;have hk: ∃x,Is G (rv x) (eu vs):=⟨x,hd▸tW h2⟩
 cases e with
 |ret=>exact zD (C:=C) (n:=n) (fr:=b9 a) (own:=ov) (G:=G) (K:=fun v G'=> ∃x,Is G' (rv x) v) h1 hk a w ⟨r.h,r.sz,ci a,r.df⟩
 |normal=>exact CW (C:=C) (n:=n) (fr:=b9 a) (own:=ov) (G:=G) (K:=fun v G'=> ∃x,Is G' (rv x) v) h1 hk a w ⟨r.h,r.sz,ci a,r.df⟩
 |_=>cases he
def csd[fu1:Fu][fu2:Fu](d:Nat){p:Prop}{hp:Decidable p}(hl:aD fr d=some (.d (.v (.bool (@decide p hp)))))(g1:go tt n fu1.n [] ((d, .tt)::fr) own (.ops ops r K)=⟨vc1,fr1,own1,cf1⟩)(g2:go tt n fu2.n [] ((d, .ff)::fr) own (.ops ops r K)=⟨vc2,fr2,own2,cf2⟩)
  (k1:p->aj prog GB C n Q0 fr1 own1 cf1)(k2: ¬p->aj prog GB C n Q0 fr2 own2 cf2)
  (v1:p->ab vc1:=by intro;first|exact trivial|(simp only[ab];omega)|(simp only[ab,aX,aW,aK];omega))(v2: ¬p->ab vc2:=by intro;first|exact trivial|(simp only[ab];omega)|(simp only[ab,aX,aW,aK];omega)):aj prog GB C n Q0 fr own (.ops ops r K):=
 jP (fu1:=fu1) (fu2:=fu2) d hl g1 g2 (fun h=>k1 (of_decide_eq_true h)) (fun h=>k2 (of_decide_eq_false h)) (fun h=>v1 (of_decide_eq_true h)) (fun h=>v2 (of_decide_eq_false h))
def NY(d:Nat)(hl:aD fr d=some .nl){c:Code}(h:aj prog GB C n Q0 ((d, .d (.sl []))::fr) own (.code c K)):aj prog GB C n Q0 fr own (.code c K):=
 kh (g:= .d (.sl [])) hl (fun ρ G y hy=>(show Is G (.sl []) y from lz (ρ:=ρ) (f:= .nl) hy J)) h
def bm.to{lk:LK}{bk:BM}{o:Oper}{f g:FX}(h:bm prog GB C n lk bk o f [] [])(e: ∀ρ G y,bp ρ G f y->bp ρ G g y):bm prog GB C n lk bk o g [] []:=fun hd tl tb Q h1 h2 hf hk=>
 h hd tl tb Q h1 h2 hf ⟨fun ρ G ov a w r=>hk.run ρ G ov a w ⟨r.gb,r.h,r.sz,r.df,fun k f' e'=>by
  cases ho:o.dst with
  |none=>exact r.fx k f' (by simpa only[ho,cO] using e')
  |some d=>
   have hr:=r.fx;simp only[ho,cO] at e' hr;by_cases q:k=d
   ·rw[if_pos q] at e';cases e'
    obtain⟨y,h3,h4⟩:=hr k f (by rw[if_pos q]);exact⟨y,h3,e _ _ _ h4⟩
   ·rw[if_neg q] at e'
    exact hr k f' (by rw[if_neg q];exact e'),r.bx,r.dj,r.fxd⟩⟩
def rY(fr:ao)(own:aB)(cf:Cf):Option (Oper×FX):=match bu fr cf with
 |some o=>match rW tt (aI fr cf) (ew fr own cf) o.dst o.op with
  |some ⟨none,f,[],[]⟩=>some (o,f)
  |_=>none
 |none=>none
def r8[fu1:Fu][fu2:Fu]{f:FX}{p:Prop}{hp:Decidable p}(hs:rY fr own cf=some (o,f))(hb:m8 f=some (@decide p hp))(g1:bF tt n fu1.n fr own cf .tt [] []=⟨vc1,fr1,own1,cf1⟩)(g2:bF tt n fu2.n fr own cf .ff [] []=⟨vc2,fr2,own2,cf2⟩)
  (k1:p->aj prog GB C n Q0 fr1 own1 cf1)(k2: ¬p->aj prog GB C n Q0 fr2 own2 cf2)
  (v1:p->ab vc1:=by intro;first|exact trivial|(simp only[ab];kernel_rfl)|(simp only[ab];omega)|(simp only[ab,aX,aW,aK];omega))(v2: ¬p->ab vc2:=by intro;first|exact trivial|(simp only[ab];kernel_rfl)|(simp only[ab];omega)|(simp only[ab,aX,aW,aK];omega)):aj prog GB C n Q0 fr own cf:=by
 unfold rY at hs;split at hs<;>try (cases hs;done)
 rename_i o' hh;split at hs<;>cases hs;rename_i hc;obtain⟨dst,op,ty,pos,af,gd⟩:=o;have h0:=r4 (P:=prog) (GB:=GB) (C:=C) (n:=n) (ty':=ty) (pos:=pos) (af:=af) (gd:=gd) dt hc (fun p e=>by cases e);by_cases h:p
 ·exact us hh (bm.to h0 fun ρ G y hy=>by rw[qA hy hb,decide_eq_true h];exact J) g1 (v1 h) (k1 h)
 ·exact us hh (bm.to h0 fun ρ G y hy=>by rw[qA hy hb,decide_eq_false h];exact J) g2 (v2 h) (k2 h)
def O7{tl:LK}{tb:BM}{Ψ:Act->World->Prop}{d:Nat}{B:Bk}{f:FX}{v:DV}
  (hz: ∀lk bk ρ G ov a w,bj GB C n lk bk ρ G ov a w->bk d=some B-> ∃G' ov',bc G G'/\bh C ov' G' w/\(∀o∈ov,(ρ d).a≠some ⟨o.b,0,none⟩->o∈ov')/\ ∀y,bp ρ G f y->Is G' v y)(hk:SX GB C n (cO tl (some d) (.d v)) (Sx.upB tb [(d,none)]) Ψ):SX GB C n (cO tl (some d) f) (Sx.upB tb [(d,some B)]) Ψ:=by
 refine⟨fun ρ G ov a w r=>?_⟩;have hbd:Sx.upB tb [(d,some B)] d=some B:=by simp[Sx.upB]
 obtain⟨G',ov',h1,h2,h3,h4⟩:=hz _ _ ρ G ov a w r hbd;refine hk.run ρ G' ov' a w ⟨r.gb.trans h1,h2,r.sz,r.df,fun k g e=>?_,fun m B' e=>?_,fun m m' B1 B2 e e'=>?_,r.fxd⟩
 ·by_cases hk:k=d
  ·subst hk
   simp only[cO,if_true] at e;cases e;obtain⟨y,g1,g2⟩:=r.fx k f (by simp[cO]);exact⟨y,g1,h4 y g2⟩
  ·simp only[cO,hk,if_false] at e
   obtain⟨y,g1,g2⟩:=r.fx k g (by simp[cO,hk,e]);exact⟨y,g1,g2.up h1⟩
 ·simp only[Sx.upB] at e
  split at e
  ·cases e
  ·rename_i hm
   have e':Sx.upB tb [(d,some B)] m=some B':=by simp[Sx.upB,hm,e]
   obtain⟨os,g1,g2⟩:=r.bx m B' e';exact⟨os,g1.up h1,fun o ho=>h3 o (g2 o ho) fun hc=>r.dj m d B' B e' hbd hm _ (g1.blk ho) hc⟩
 ·simp only[Sx.upB] at e e'
  split at e
  ·cases e
  ·rename_i hm
   split at e'
   ·cases e'
   ·rename_i hm'
    exact r.dj m m' B1 B2 (by simp[Sx.upB,hm,e]) (by simp[Sx.upB,hm',e'])
def bm.frz2{lk:LK}{bk:BM}{o:Oper}{d nm:Nat}{B:Bk}{f:FX}{v:DV}(hd:o.dst=some d)(h:bm prog GB C n lk bk o f [(nm,none),(d,some B)] [d])
  (hz: ∀lk bk ρ G ov a w,bj GB C n lk bk ρ G ov a w->bk d=some B-> ∃G' ov',bc G G'/\bh C ov' G' w/\(∀o∈ov,(ρ d).a≠some ⟨o.b,0,none⟩->o∈ov')/\ ∀y,bp ρ G f y->Is G' v y):bm prog GB C n lk bk o (.d v) [(nm,none),(d,none)] [d]:=by
 intro hd' tl tb K s1 s2 hf hk;refine h hd' tl tb K s1 s2 hf ?_;rw[hd] at hk⊢;exact O7 (tb:=Sx.upB tb [(nm,none)]) hz hk
def SY(d:Nat)(nm:Option Nat):List (Nat×Option Bk):=match nm with
 |some nm=>[(nm,none),(d,none)]
 |none=>[(d,none)]
def Dj[fu:Fu]{d:Nat}{nm:Option Nat}{e s b:Nat}{ds ds2:List DV}(ds':List DV)(h:vt fr own cf=some ⟨d,nm,e,s,b,ds,ds2⟩)(hds:ds++ds2=ds')(ho2:du s ds2)(hgo:bF tt n fu.n fr own cf (.d (.sl ds')) (SY d nm) [d]=⟨vc,fr',own',cf'⟩)(k:aj prog GB C n Q0 fr' own' cf')
  (ho:nm.isNone=true->du s ds/\0<ds2.length:=by intro h;first|(cases h;done)|exact⟨zp rfl,by simp⟩)(hbd:(ds.length+ds2.length)*b<=140737488355328:=by simp;omega)
  (hv:ab vc:=by first|exact trivial|(simp only[ab];kernel_rfl)|(simp only[ab];omega)|(simp only[ab,aX,aW,aK];omega)):aj prog GB C n Q0 fr own cf:=by
 obtain⟨o,h1,h2,h3⟩:=Jg (GB:=GB) (C:=C) (n:=n) h ds' hds ho ho2 hbd
 cases nm with
 |none=>exact us h1 (h3.frzRow h2) hgo hv k
 |some nm=>exact us h1 (bm.frz2 h2 h3 fun _ _ _ _ _ _ _ r hb=>r.frzRow hb) hgo hv k
def mB[fu:Fu]{f:FX}(hs:rY fr own cf=some (o,f))(hb:m8 f=some true)(hgo:bF tt n fu.n fr own cf .tt [] []=⟨vc,fr',own',cf'⟩)(k:aj prog GB C n Q0 fr' own' cf')
  (hv:ab vc:=by first|exact trivial|(simp only[ab];kernel_rfl)|(simp only[ab];omega)|(simp only[ab,aX,aW,aK];omega)):aj prog GB C n Q0 fr own cf:=by
 unfold rY at hs;split at hs<;>try (cases hs;done)
 rename_i o' hh;split at hs<;>cases hs;rename_i hc;obtain⟨dst,op,ty,pos,af,gd⟩:=o;have h0:=r4 (P:=prog) (GB:=GB) (C:=C) (n:=n) (ty':=ty) (pos:=pos) (af:=af) (gd:=gd) dt hc (fun p e=>by cases e);exact us hh (bm.to h0 fun ρ G y hy=>by rw[qA hy hb];exact J) hgo hv k
def ky[fu:Fu]{f:FX}(hs:rY fr own cf=some (o,f))(hb:m8 f=some false)(hgo:bF tt n fu.n fr own cf .ff [] []=⟨vc,fr',own',cf'⟩)(k:aj prog GB C n Q0 fr' own' cf')
  (hv:ab vc:=by first|exact trivial|(simp only[ab];kernel_rfl)|(simp only[ab];omega)|(simp only[ab,aX,aW,aK];omega)):aj prog GB C n Q0 fr own cf:=by
 unfold rY at hs;split at hs<;>try (cases hs;done)
 rename_i o' hh;split at hs<;>cases hs;rename_i hc;obtain⟨dst,op,ty,pos,af,gd⟩:=o;have h0:=r4 (P:=prog) (GB:=GB) (C:=C) (n:=n) (ty':=ty) (pos:=pos) (af:=af) (gd:=gd) dt hc (fun p e=>by cases e);exact us hh (bm.to h0 fun ρ G y hy=>by rw[qA hy hb];exact J) hgo hv k
end
section
variable {GB:Gh} {C:az} {n:Nat} {Q0:Exit->Act->World->Prop} {fr fr':ao} {own own':aB} {cf cf':Cf} {vc:List Prop} {ops:Array Oper} {o:Oper} {K:List Kt} {r:List Oper}
def Jc(GB:Gh)(C:az)(n:Nat)(lk:LK)(bk:BM)(o:Oper)(ι:Type)(f:ι->FX)(bl:ι->List (Nat×Option Bk))(nw:List Nat):Prop:=
 bG n o.dst=true-> ∀(tl:LK) (tb:BM) (K:Act->World->Prop),f8 lk tl->f8 bk tb->i9 nw o.dst tl tb->(∀x,SX GB C n (cO tl o.dst (f x)) (Sx.upB tb (bl x)) K)->SX GB C n tl tb (fun a w=> ∀Q,o.wp prog a w K Q)
def UQ:Cf->Option (Array Oper×Oper×List Oper×List Kt)
 | .ops ops (o::r) K=>some (ops,o,r,K)
 |_=>none
def CJ(n q:Nat)(fr:ao)(own:aB)(cf:Cf)(f:FX)(bl:List (Nat×Option Bk)):rj:=match cf with
 | .ops ops (o::r) K=>lx own bl fun own'=>rA fr o.dst f fun fr'=>go tt n q [] fr' own' (.ops ops r K)
 |_=>js
def Cx(n:Nat)(fr:ao)(own:aB)(cf:Cf)(nw:List Nat):Bool:=match cf with
 | .ops ops (o::_) _=>ni nw o.dst fr own&&bG n o.dst&&oI ops (aD fr) o.guard
 |_=>false
def L7{q:Nat}{ι:Type}{f:ι->FX}{bl:ι->List (Nat×Option Bk)}{nw:List Nat}{vc:ι->List Prop}{fr':ι->ao}{own':ι->aB}{cf':ι->Cf}(hh:bu fr cf=some o)(ho:Cx n fr own cf nw=true)(h:Jc GB C n (aI fr cf) (ew fr own cf) o ι f bl nw)
  (hgo: ∀x,CJ n q fr own cf (f x) (bl x)=⟨vc x,fr' x,own' x,cf' x⟩)(hv: ∀x,ab (vc x))(k: ∀x,aj prog GB C n Q0 (fr' x) (own' x) (cf' x)):aj prog GB C n Q0 fr own cf:=by
 obtain⟨ops,h1,h2⟩:=ye hh
 cases cf with
 |ops ops' r K=>
  cases r with
  |nil=>cases h1
  |cons o' r=>
   cases h1
   simp only[Cx,bJ] at ho;refine⟨fun ρ G ov a w rl=>?_⟩;show wpListIn _ _ _ _ _ (o::r) a w;unfold wpListIn;rw[if_pos (vS ho.2 ρ G ov a w rl)];refine wq ((h ho.1.2 _ _ (fun a w=>a.defers=C.mks/\wpListIn (FW C.rd) 0 prog ops (cQ C.rd prog Q0 K) r a w) (f8.refl _) (f8.refl _) (uC ho.1.1) (fun x=>?_)).run ρ G ov a w rl) fun a' w' k=>⟨k.1.trans rl.df.symm,k.2⟩;refine⟨fun ρ G ov a w r0=>⟨r0.df,SX.run (GB:=GB) (C:=C) (n:=n) ?_ ρ G ov a w r0⟩⟩;have hx:=hgo x;unfold CJ at hx;simp only[qH,rT] at hx;have:=dO (GB:=GB) (C:=C) (Q0:=Q0) hx (hv x) (k x);show SX GB C n (cO (aD fr) o.dst (f x)) (Sx.upB (aH own) (bl x)) _;rw[<-vm,<-vh];exact this
 |_=>cases ho
def Pv{lk:LK}{bk:BM}{fo:Operand}{args:Array Operand}{tys:Array TypeId}{f:FuncId}{d:Nat}{ds:List DV}{ι:Type}{ty ty0:TypeId}{pos:String}{af:Array Edge}{gd:Option (Nat×Bool)}{cs':ι->List DV}
  (ha:lj lk fo args=some (f,ds))(hF:PN GB prog f ds ty0 ι cs'):Jc GB C n lk bk ⟨some d, .call ⟨.value fo,args,tys⟩,ty,pos,af,gd⟩ ι (fun _=> .ov d 0) (fun x=>[(d,some (.o ty0 ((cs' x).map .d) true))]) [d]:=by
 intro hd tl tb K' s1 s2 hf hk;refine⟨fun ρ G ov a w r Q=>?_⟩;have r1:=r.mono s1 s2;obtain⟨h1,h2⟩:=uj ha;obtain⟨y,hy,hy'⟩:=r1.ev h1;rw[(ba (G:=G)).1 hy'] at hy;obtain⟨vs,h3,h4⟩:=r1.evDs h2;refine tQ (M:=[]) (rest:=ov) hy h3 (List.Perm.refl _) (hF G vs r.gb h4) hd (fun v own1 G' hG hK a' w' rl=>?_) a w Q ⟨r.h,r.sz,ci a,r.df⟩;obtain⟨x,b,m,rfl,rfl,hm⟩:=hK;have rl':fe C n (Sx.put (b9 a) (some d) (.pointer (some ⟨b,0,none⟩))) (⟨b,m,ty0,true⟩::ov) G' a' w':=by simpa[relo,gA] using rl
 have hnd:=(bR.1 rl'.h.nd).1;exact(hk x).run _ G' _ a' w' (r.new (x:=⟨some ⟨b,0,none⟩,0,0⟩) (B':= .o ty0 ((cs' x).map .d) true) (os:=[⟨b,m,ty0,true⟩]) hf hG.le rl'.h ⟨b,m,by simp,J,od hm⟩ (fun o ho=>by rw[aL.1 ho];exact aQ)
  (fun o ho=>aV _ ho) (fun o ho e=>by cases e;exact hnd o ho J) (f:= .ov d 0) (y:= .pointer (some ⟨b,0,none⟩)) ⟨b,by simp,J⟩ (jg rl'))
def Gf(fr:ao)(cf:Cf):Option (FuncId×List DV×Nat):=match bu fr cf with
 |some ⟨some d, .call ⟨.value fo,args,_⟩,_,_,_,_⟩=>match lj (aI fr cf) fo args with
  |some (f,ds)=>some (f,ds,d)
  |none=>none
 |_=>none
def cn[fu:Fu]{f:FuncId}{d:Nat}{ds:List DV}{ty:TypeId}{ι:Type}{cs':ι->List DV}{vc:ι->List Prop}{fr':ι->ao}{own':ι->aB}{cf':ι->Cf}(ha:Gf fr cf=some (f,ds,d))(hF:PN GB prog f ds ty ι cs')
  (hgo: ∀x,(rS (cs' x) fun csx=>CJ n fu.n fr own cf (.ov d 0) [(d,some (.o ty csx true))])=⟨vc x,fr' x,own' x,cf' x⟩)(k: ∀x,aj prog GB C n Q0 (fr' x) (own' x) (cf' x))(ho:Cx n fr own cf [d]=true:=by rfl)
  (hv: ∀x,ab (vc x):=by intro;first|exact trivial|(simp only[ab];kernel_rfl)|(simp only[ab];omega)|(simp only[ab,aX,aW,aK];omega)):aj prog GB C n Q0 fr own cf:=by
 unfold Gf at ha;split at ha<;>try (cases ha;done)
 rename_i hh;split at ha<;>cases ha;rename_i h1;simp only[u'] at hgo;exact L7 hh ho (Pv h1 hF) hgo hv k
def UA(C:az)(b:Nat)(m:List Value)(ty:TypeId)(lo:Bool)(ι:Type)(rv:ι->DV)(cs':ι->List DV):Ending->World->Prop:=tj C [⟨b,m,ty,lo⟩] (fun v css G'=> ∃x,Is G' (rv x) v/\ ∃m',css=[m']/\IsLs G' (cs' x) m')
end
section
variable {GB:Gh} {C:az} {n:Nat} {Q0:Exit->Act->World->Prop} {fr fr':ao} {own own':aB} {cf cf':Cf} {vc:List Prop} {ops:Array Oper} {o:Oper} {K:List Kt} {r:List Oper}
def Vp(fr:ao)(cf:Cf):Option Nat:=match bu fr cf with
 |some o=>o.dst
 |none=>none
def Vu(C:az)(b:Nat)(ty:TypeId)(s:Nat)(ty2:TypeId)(ι:Type)(rows cs':ι->List DV):Ending->World->Prop:=ny C (fun v own' G'=> ∃x w m' B,v= .slice w.a w.n w.c/\own'=⟨b,m',ty,false⟩::B/\IsLs G' (cs' x) m'/\cp G' ⟨w,s,ty2,rows x,true⟩ B/\ ∀o∈B,b≠o.b)
end
section
variable {GB:Gh} {C:az} {n:Nat} {Q0:Exit->Act->World->Prop} {fr fr':ao} {own own':aB} {cf cf':Cf} {vc:List Prop} {ops:Array Oper} {o:Oper} {K:List Kt} {r:List Oper}
def Cy(C:az)(ty:TypeId)(ι:Type)(cs:ι->List DV):Ending->World->Prop:=ny C (fun v own' G'=> ∃x b m,v= .pointer (some ⟨b,0,none⟩)/\own'=[⟨b,m,ty,true⟩]/\IsLs G' (cs x) m)
def NC[fu:Fu]{f:FuncId}{fb:Func}{c:Code}{m:Nat}{ds:List DV}{ty:TypeId}{ι:Type}{cs:ι->List DV}(hf:prog.funcs[f]? =some fb)(hb:fb.body=some c)(hn:(fb.name== "runtime.NumGoroutine")=false)(hm:fb.ntmps=m)(hlen:Nat.ble ds.length m=true)
  (hgo:go tt m fu.n [] (lu 0 ds) [] (.code c [])=⟨vc,fr,own,cf⟩)(k: ∀C:az,C.mb=[]->aj prog GB C m (d7 C prog fb (Cy C ty ι cs)) fr own cf)
  (hv:ab vc:=by first|exact trivial|(simp only[ab];kernel_rfl)|(simp only[ab];omega)|(simp only[ab,aX,aW,aK];omega)):PN GB prog f ds ty ι cs:=by
 intro G vs hg hvs;refine jh.introR hf hb hn hm (by rw[hvs.len];exact hlen) fun C _ hmb hrd hfx=>?_;intro a w rl;refine oP hrd ?_;have h:=dO (GB:=GB) (C:=C) (Q0:=d7 C prog fb (Cy C ty ι cs)) hgo hv (k C (by simpa using hmb));exact h.run (fun _=>⟨none,0,0⟩) G [] a w ⟨hg,rl.h,rl.sz,rl.df,(fun k f e=>qB hvs rl.fr k f e),(fun nm B e=>by cases e),(fun nm nm' B B' e=>by cases e),fun nm p _ _ e=>by rw[hfx] at e;cases e⟩
def Nk{fb:Func}{t d:Nat}{ty:TypeId}{ι:Type}{cs:ι->List DV}{cs1:List FX}{l:List DV}(x:ι)(hr:fb.results.toList=[.tmp t])(hl:aD fr t=some (.ov d 0))(hw:aH own d=some (.o ty cs1 true))(hc:iH cs1=some l)(hd:l=cs x):
  aj prog GB C n (d7 C prog fb (Cy C ty ι cs)) fr own (.ex .ret []):=by
 refine⟨fun ρ G ov a w r=>?_⟩;subst hd;obtain⟨b,m,rest,h3,h4,h5,h6⟩:=r.lend hw hc;obtain⟨y,hy,b',hb',hy'⟩:=r.ev (x:= .tmp t) (f:= .ov d 0) hl;rw[h3] at hb';cases hb';subst hy';exact Sl (C:=C) (n:=n) (fr:=b9 a) (own:=ov) (G:=G) (vs:=[.pointer (some ⟨b,0,none⟩)]) (by rw[hr];exact .tmp hy .nil) (⟨b,m,ty,true⟩::rest) [⟨b,m,ty,true⟩] (by simpa using h5) (.cons_cons _ (lL _)) (fun _=>⟨x,b,m,J,J,h4⟩) a w ⟨r.h,r.sz,ci a,r.df⟩
def PP[fu:Fu]{d:Nat}{l:List DV}(h:DD fr cf=some (d,l))(hgo:bF tt n fu.n fr own cf (.d (.pt l)) [(d,none)] [d]=⟨vc,fr',own',cf'⟩)(k:aj prog GB C n Q0 fr' own' cf')
  (hv:ab vc:=by first|exact trivial|(simp only[ab];kernel_rfl)|(simp only[ab];omega)|(simp only[ab,aX,aW,aK];omega)):aj prog GB C n Q0 fr own cf:=by
 unfold DD at h;split at h<;>try (cases h;done)
 rename_i hh;split at h<;>try (cases h;done)
 rename_i g hx;rw[cond_eq_ite] at h;split at h<;>try (cases h;done)
 rename_i hc;simp only[bJ] at hc;split at h<;>cases h;rename_i hl;exact us hh (KS hx hc.1 hc.2 hl) hgo hv k
end
section
variable {GB:Gh} {C:az} {n:Nat} {Q0:Exit->Act->World->Prop} {fr fr':ao} {own own':aB} {cf cf':Cf} {vc:List Prop} {ops:Array Oper} {o:Oper} {K:List Kt} {r:List Oper}
def jo:List (Option DV)->SV->List DV
 |[],_=>[]
 |some d::t,w=>d::jo t w
 |none::t,w=> .v (.slice w.a w.n w.c)::jo t w
def ww(lk:LK):List Operand->Option (Option Nat×List (Option DV))
 |[]=>some (none,[])
 |x::t=>match aC lk x,ww lk t with
  |some (.rw nm),some (none,l)=>some (some nm,none::l)
  |some f,some (q,l)=>match im f with
   |some d=>some (q,some d::l)
   |none=>none
  |_,_=>none
def rK(lk:LK)(fo:Operand)(args:Array Operand):Option (FuncId×Nat×List (Option DV)):=match aC lk fo with
 |some (.d (.v (.func (.func f) ⟨[]⟩ ⟨[]⟩)))=>match ww lk args.toList with
  |some (some nm,l)=>some (f,nm,l)
  |_=>none
 |_=>none
def wA{lk:LK}{bk:BM}{ρ:NE}{G:Gh}{ov:List av}{a:Act}{w:World}(r:bj GB C n lk bk ρ G ov a w){z:SV}: ∀{x:List Operand} {q:Option Nat} {l:List (Option DV)},ww lk x=some (q,l)->(∀nm,q=some nm->ρ nm=z)->
  ∃y,fp (b9 a) x=some y/\IsLs G (jo l z) y
 |[],q,l,e,_=>by cases e;exact⟨[],J, .nil⟩
 |x::t,q,l,e,hb=>by
  simp only[ww] at e;split at e
  ·rename_i nm l' h1 h2
   cases e
   obtain⟨y,h3,h4⟩:=r.ev h1
   cases (show y=_ from h4)
   obtain⟨ys,h5,h6⟩:=wA r (z:=z) h2 (fun nm e=>by cases e);have hz:=hb nm J;subst hz;exact⟨Value.slice (ρ nm).a (ρ nm).n (ρ nm).c::ys,by simp only[fp,h3,h5], .cons ((ba (G:=G)).2 J) h6⟩
  ·rename_i f q' l' _ h1 h2
   cases hd:im f with
   |none=>rw[hd] at e;cases e
   |some d=>
   rw[hd] at e;cases e;obtain⟨y,h3,h4⟩:=r.ev h1;obtain⟨ys,h5,h6⟩:=wA r (z:=z) h2 hb;exact⟨y::ys,by simp only[fp,h3,h5], .cons (lz h4 hd) h6⟩
  ·cases e
structure SC where
 f:FuncId
 nm:Nat
 l:List (Option DV)
 ty:TypeId
 s:Nat
 ds:List DV
 lo:Bool
 d:Nat
def Iv(fr:ao)(own:aB)(cf:Cf):Option SC:=match bu fr cf with
 |some ⟨some d, .call ⟨.value fo,args,_⟩,_,_,_,_⟩=>match rK (aI fr cf) fo args with
  |some (f,nm,l)=>match ew fr own cf nm with
   |some (.b ty s ds lo)=>bif Nat.beq nm d then none else some ⟨f,nm,l,ty,s,ds,lo,d⟩
   |_=>none
  |none=>none
 |_=>none
def rk:Nat->List (Option DV)->ao
 |_,[]=>[]
 |i,some v::t=>(i, .d v)::rk (i+1) t
 |i,none::t=>(i, .rw NM)::rk (i+1) t
def yv(w:SV): ∀l:List (Option DV),(jo l w).length=l.length
 |[]=>rfl
 |some d::t=>by simp[jo,yv w t]
 |none::t=>by simp[jo,yv w t]
def Bw{w:SV}{ρ:NE}{G:Gh}(hρ:ρ NM=w): ∀{ds:List (Option DV)} {vs:List Value} (i:Nat),IsLs G (jo ds w) vs-> ∀k f,aD (rk i ds) k=some f-> ∃y,(∃j,k=i+j/\vs[j]? =some y)/\bp ρ G f y
 |[],vs,i,h,k,f,e=>by cases e
 |some d::t,vs,i,h,k,f,e=>by
  obtain⟨y,m,rfl,h1,h2⟩:=bE.1 h;simp only[rk] at e;rw[fH] at e;split at e
  ·cases e;rename_i hk;exact⟨y,⟨0,hk,rfl⟩,h1⟩
  ·obtain⟨u,⟨j,hj,hu⟩,h3⟩:=Bw hρ (i+1) h2 k f e
   exact⟨u,⟨j+1,by omega,by simpa using hu⟩,h3⟩
 |none::t,vs,i,h,k,f,e=>by
  obtain⟨y,m,rfl,h1,h2⟩:=bE.1 h;simp only[rk] at e;rw[fH] at e;split at e
  ·cases e;rename_i hk;exact⟨y,⟨0,hk,rfl⟩,by show y=_;rw[hρ];exact ba.1 h1⟩
  ·obtain⟨u,⟨j,hj,hu⟩,h3⟩:=Bw hρ (i+1) h2 k f e
   exact⟨u,⟨j+1,by omega,by simpa using hu⟩,h3⟩
def Ul(C:az)(s:Nat)(ty:TypeId)(pre post dso:List DV):Ending->World->Prop:=ny C (fun v own' G'=> ∃w',Is G' (.tp (pre++ .v (.slice w'.a w'.n w'.c)::post)) v/\cp G' ⟨w',s,ty,dso,false⟩ own')
def Iq{B:List av}{G:Gh}{w:SV}{s:Nat}{ty:TypeId}{ds:List DV}{lo:Bool}{ov:List av}(h:cp G ⟨w,s,ty,ds,lo⟩ B)(g: ∀o∈B,o∈ov): ∃rest,ov.Perm (B++rest):=by
 rcases h with⟨vs',⟨_,_,e⟩|⟨b0,r0,lo0,_,e,_⟩,_⟩
 ·rw[e];exact⟨ov,List.Perm.refl _⟩
 ·rw[e] at g⊢
  obtain⟨l1,l2,e2⟩:=oW (g _ aQ);rw[e2];exact⟨l1++l2,pT⟩
def JX(lk:LK):List Operand->Option (List (Option DV))
 |[]=>some []
 |x::t=>match aC lk x,JX lk t with
  |some .nl,some l=>some (none::l)
  |some f,some l=>match im f with
   |some d=>some (some d::l)
   |none=>none
  |_,_=>none
def Pr(lk:LK)(fo:Operand)(args:Array Operand):Option (FuncId×List (Option DV)):=match aC lk fo with
 |some (.d (.v (.func (.func f) ⟨[]⟩ ⟨[]⟩)))=>match JX lk args.toList with
  |some l=>some (f,l)
  |_=>none
 |_=>none
def WY(fr:ao)(cf:Cf):Option (FuncId×List (Option DV)×Nat):=match bu fr cf with
 |some ⟨some d, .call ⟨.value fo,args,_⟩,_,_,_,_⟩=>match Pr (aI fr cf) fo args with
  |some (f,l)=>some (f,l,d)
  |none=>none
 |_=>none
end
section
variable {P:Program} {C:az} {n:Nat} {fr:Fr} {own own':List av} {G:Gh} {Φ:Act->World->Prop}
variable {dst:Option Nat} {t t' ty':TypeId} {pos:String} {af:Array Edge} {gd:Option (Nat×Bool)} {x y:Operand} {e s by_:Nat}
def Wa(G:Gh)(ov:List av):Gh:=fun b=>match G b with
 |some cs=>some cs
 |none=>(ov.find? fun o=>Nat.beq o.b b).map (·.cs)
end
def DV.np:DV->Bool
 | .v _=>true
 | .tp l=>l.all fun d=>match d with
  | .v _=>true
  |_=>false
 |_=>false
section
variable {GB:Gh} {C:az} {n:Nat} {Q0:Exit->Act->World->Prop} {fr fr':ao} {own own':aB} {cf cf':Cf} {vc:List Prop} {lk:LK} {bk:BM} {ρ:NE} {G:Gh} {ov:List av} {a:Act} {w:World}
variable {dst:Option Nat} {t t' ty':TypeId} {pos:String} {af:Array Edge} {gd:Option (Nat×Bool)} {x y:Operand} {e s by_:Nat}
def KA:Option Bk->Option (List DV)
 |some (.b _ _ ds _)=>some ds
 |some (.c _ _ ds _)=>some ds
 |_=>none
def QV(lk:LK)(bk:BM)(x:Operand):Option DV:=match aC lk x with
 |some (.rw nm)=>match KA (bk nm) with
  |some ds=>some (.sl ds)
  |none=>none
 |some f=>im f
 |none=>none
def EK(lk:LK)(bk:BM):List Operand->Option (List DV)
 |[]=>some []
 |x::t=>match QV lk bk x,EK lk bk t with
  |some d,some l=>some (d::l)
  |_,_=>none
def SW(lk:LK)(bk:BM)(fo:Operand)(args:Array Operand):Option (FuncId×List DV):=match aC lk fo with
 |some (.d (.v (.func (.func f) ⟨[]⟩ ⟨[]⟩)))=>match EK lk bk args.toList with
  |some ds=>some (f,ds)
  |none=>none
 |_=>none
def Vw(fr:ao)(own:aB)(cf:Cf):Option (FuncId×List DV):=match bu fr cf with
 |some ⟨_, .call ⟨.value fo,args,_⟩,_,_,_,_⟩=>SW (aI fr cf) (ew fr own cf) fo args
 |_=>none
end
section
variable {GB:Gh} {C:az} {n:Nat} {Q0:Exit->Act->World->Prop} {fr fr':ao} {own own':aB} {cf cf':Cf} {vc:List Prop}
structure QF where
 d:Nat
 nm:Nat
 e:Nat
 s:Nat
 ds:List DV
 ds2:List DV
 cap:Nat
def WE(fr:ao)(own:aB)(cf:Cf):Option QF:=match bu fr cf with
 |some ⟨some d, .call ⟨.builtin .append,⟨[x,y]⟩,⟨[t,t']⟩⟩,_,_,_,_⟩=>match b8 tt t,b8 tt t' with
  |some ⟨.sl e s _,_,_,_⟩,some ⟨.sl _ _ _,_,_,_⟩=>match aC (aI fr cf) x with
   |some (.rw nm)=>match ew fr own cf nm,nB (aI fr cf) (ew fr own cf) s y with
    |some (.c e' s' ds cap),some ds2=>bif (Nat.beq e' e&&Nat.beq s' s)&&!Nat.beq nm d then some ⟨d,nm,e,s,ds,ds2,cap⟩ else none
    |_,_=>none
   |_=>none
  |_,_=>none
 |_=>none
def PI(GB:Gh)(P:Program)(f:FuncId)(i:Int)(s:Nat)(ty ty2:TypeId)(ds:List DV)(x:DV)(cap:Nat)(dso:List DV):Prop:=
 ∀G w w2 B B2,bc GB G->cp G ⟨w,s,ty,ds,false⟩ B->cap<=w.c->cp G ⟨w2,s,ty2,[x],false⟩ B2->jh P f [.slice w.a w.n w.c, .int .i64 i, .slice w2.a w2.n w2.c] (B++B2) G fun v own' G'=> ∃w',v= .slice w'.a w'.n w'.c/\cp G' ⟨w',s,ty,dso,false⟩ own'
structure TL where
 f:FuncId
 nm:Nat
 nm2:Nat
 i:Int
 ty:TypeId
 ty2:TypeId
 s:Nat
 ds:List DV
 x:DV
 cap:Nat
 d:Nat
def Wk(fr:ao)(own:aB)(cf:Cf):Option TL:=match bu fr cf with
 |some ⟨some d, .call ⟨.value fo,⟨[x1,x2,x3]⟩,_⟩,_,_,_,_⟩=>match aC (aI fr cf) fo,aC (aI fr cf) x1 with
  |some (.d (.v (.func (.func f) ⟨[]⟩ ⟨[]⟩))),some (.rw nm)=>match aC (aI fr cf) x2,aC (aI fr cf) x3 with
   |some (.d (.v (.int .i64 i))),some (.rw nm2)=>match ew fr own cf nm,ew fr own cf nm2 with
    |some (.c ty s ds cap),some (.b ty2 s2 [x] true)=>bif (!Nat.beq nm d&&!Nat.beq nm2 d)&&(!Nat.beq nm nm2&&(Nat.beq s2 s&&Nat.blt 0 cap)) then some ⟨f,nm,nm2,i,ty,ty2,s,ds,x,cap,d⟩ else none
    |_,_=>none
   |_,_=>none
  |_,_=>none
 |_=>none
def kE(d:Nat){ops:Array Oper}{r:List Oper}{K:List Kt}(hl:aD fr d=some (.d (.v (.bool true))))(k:aj prog GB C n Q0 ((d, .tt)::fr) own (.ops ops r K)):aj prog GB C n Q0 fr own (.ops ops r K):=kh (g:= .tt) hl (fun _ G _ e=>(ba (G:=G)).1 e) k
def sL(d:Nat){ops:Array Oper}{r:List Oper}{K:List Kt}(hl:aD fr d=some (.d (.v (.bool false))))(k:aj prog GB C n Q0 ((d, .ff)::fr) own (.ops ops r K)):aj prog GB C n Q0 fr own (.ops ops r K):=kh (g:= .ff) hl (fun _ G _ e=>(ba (G:=G)).1 e) k
end
section
variable {GB:Gh} {C:az} {n:Nat} {Q0:Exit->Act->World->Prop} {fr fr':ao} {own own':aB} {cf cf':Cf} {vc:List Prop}
def PR(GB:Gh)(P:Program)(f:FuncId)(ds:List DV)(s:Nat)(ty:TypeId)(rows:List DV):Prop:=
 ∀G vs,bc GB G->IsLs G ds vs->jh P f vs [] G (fun v own' G'=> ∃w:SV,v= .slice w.a w.n w.c/\cp G' ⟨w,s,ty,rows,true⟩ own')
def FK: ∀(l:List av),(∀o∈l,o.lo=true)->l.map (relo (gA []))=l
 |[],_=>rfl
 |a::t,h=>by
  have h1:=h a aQ;rw[cZ,FK t fun o ho=>h o (aV _ ho)];congr 1
  cases a
  simp[relo,gA] at*;exact h1
def Mc{lk:LK}{bk:BM}{fo:Operand}{args:Array Operand}{tys:Array TypeId}{f:FuncId}{d s:Nat}{ds rows:List DV}{ty ty2:TypeId}{pos:String}{af:Array Edge}{gd:Option (Nat×Bool)}
  (ha:lj lk fo args=some (f,ds))(hF:PR GB prog f ds s ty2 rows):bm prog GB C n lk bk ⟨some d, .call ⟨.value fo,args,tys⟩,ty,pos,af,gd⟩ (.rw d) [(d,some (.b ty2 s rows true))] [d]:=by
 intro hd tl tb K' s1 s2 hf hk;refine⟨fun ρ G ov a w r Q=>?_⟩;have r1:=r.mono s1 s2;obtain⟨h1,h2⟩:=uj ha;obtain⟨y,hy,hy'⟩:=r1.ev h1;rw[(ba (G:=G)).1 hy'] at hy;obtain⟨vs,h3,h4⟩:=r1.evDs h2;refine tQ (M:=[]) (rest:=ov) hy h3 (List.Perm.refl _) (hF G vs r.gb h4) hd (fun v own1 G' hG hK a' w' rl=>?_) a w Q ⟨r.h,r.sz,ci a,r.df⟩;obtain⟨z,rfl,vs',k1,k2,k3,k4⟩:=hK;rw[FK _ (k4 J)] at rl;have rl':fe C n (Sx.put (b9 a) (some d) (.slice z.a z.n z.c)) (own1++ov) G' a' w':=rl;have hdis:=(iS.1 rl'.h.nd).2.2;have r3:=r.new' (x:=z) (B':= .b ty2 s rows true) (os:=own1) (ov':=own1++ov) (f:= .rw d) (y:= .slice z.a z.n z.c) hf hG.le rl'.h ⟨vs',by simpa using k1,k2,k3,k4⟩ (fun o ho=>cJ _ ho)
  (fun q B0 hq e o ho hbq=>⟨fQ _ ho,fun hc=>by
   have hx: ∃o1∈own1,o1.b=o.b:=by
    rcases k1 with⟨_,h,_⟩|⟨b0,rest0,lo0,h,hB,_⟩
    ·rw[show z=_ from h] at hc;cases hc
    ·rw[show z=_ from h] at hc;cases hc;exact⟨⟨_,aF vs'++rest0,_,lo0⟩,by rw[hB];exact aQ,J⟩
   obtain⟨o1,ho1,he1⟩:=hx;exact hdis o1 ho1 o ho he1⟩) (by simp[bp]) (jg rl')
 exact hk.run _ G' _ a' w' r3
def DJ(fr:ao)(cf:Cf):Option (FuncId×List DV×Nat):=match bu fr cf with
 |some ⟨some d, .call ⟨.value fo,args,_⟩,_,_,_,_⟩=>match lj (aI fr cf) fo args with
  |some (f,ds)=>some (f,ds,d)
  |none=>none
 |_=>none
def cr[fu:Fu]{f:FuncId}{d s:Nat}{ds rows:List DV}{ty:TypeId}(ha:DJ fr cf=some (f,ds,d))(hF:PR GB prog f ds s ty rows)
  (hgo:bF tt n fu.n fr own cf (.rw d) [(d,some (.b ty s rows true))] [d]=⟨vc,fr',own',cf'⟩)(k:aj prog GB C n Q0 fr' own' cf')
  (hv:ab vc:=by first|exact trivial|(simp only[ab];kernel_rfl)|(simp only[ab];omega)|(simp only[ab,aX,aW,aK];omega)):aj prog GB C n Q0 fr own cf:=by
 unfold DJ at ha;split at ha<;>try (cases ha;done)
 rename_i hh;split at ha<;>cases ha;rename_i h1;exact us hh (Mc h1 hF) hgo hv k
def xW(C:az)(s:Nat)(ty:TypeId)(rows:List DV):Ending->World->Prop:=ny C (fun v own' G'=> ∃w:SV,v= .slice w.a w.n w.c/\cp G' ⟨w,s,ty,rows,true⟩ own')
def S0[fu:Fu]{f:FuncId}{fb:Func}{c:Code}{m s:Nat}{ds rows:List DV}{ty:TypeId}(hf:prog.funcs[f]? =some fb)(hb:fb.body=some c)(hn:(fb.name== "runtime.NumGoroutine")=false)(hm:fb.ntmps=m)(hlen:Nat.ble ds.length m=true)
  (hgo:go tt m fu.n [] (lu 0 ds) [] (.code c [])=⟨vc,fr,own,cf⟩)(k: ∀C:az,C.mb=[]->aj prog GB C m (d7 C prog fb (xW C s ty rows)) fr own cf)
  (hv:ab vc:=by first|exact trivial|(simp only[ab];kernel_rfl)|(simp only[ab];omega)|(simp only[ab,aX,aW,aK];omega)):PR GB prog f ds s ty rows:=by
 intro G vs hg hvs;refine jh.introR hf hb hn hm (by rw[hvs.len];exact hlen) fun C _ hmb hrd hfx=>?_;intro a w rl;refine oP hrd ?_;have h:=dO (GB:=GB) (C:=C) (Q0:=d7 C prog fb (xW C s ty rows)) hgo hv (k C (by simpa using hmb));exact h.run (fun _=>⟨none,0,0⟩) G [] a w ⟨hg,rl.h,rl.sz,rl.df,(fun k f e=>qB hvs rl.fr k f e),(fun nm B e=>by cases e),(fun nm nm' B B' e=>by cases e),fun nm p _ _ e=>by rw[hfx] at e;cases e⟩
def QQ{fb:Func}{t d s:Nat}{ty:TypeId}{rows rws:List DV}(hr:fb.results.toList=[.tmp t])(hl:aD fr t=some (.rw d))(hw:aH own d=some (.b ty s rws true))(er:rws=rows):
  aj prog GB C n (d7 C prog fb (xW C s ty rows)) fr own (.ex .ret []):=by
 subst er;refine⟨fun ρ G ov a w r=>?_⟩;obtain⟨B,g1,g2⟩:=r.bx _ _ hw;have hB:cp G ⟨ρ d,s,ty,rws,true⟩ B:=g1;obtain⟨rest,hp⟩:=Iq hB g2;obtain⟨y,hy,hy'⟩:=r.ev (x:= .tmp t) (f:= .rw d) hl
 cases (show y=_ from hy')
 exact DZ (C:=C) (n:=n) (fr:=b9 a) (own:=ov) (G:=G) (vs:=[.slice (ρ d).a (ρ d).n (ρ d).c]) (by rw[hr];exact .tmp hy .nil) (B++rest) B hp (nL _ _) ⟨ρ d,J,hB⟩ a w ⟨r.h,r.sz,ci a,r.df⟩
end
end Go.Sx
end
