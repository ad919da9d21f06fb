import Derived.Test.YtbllnkhngjedjaaGreatDoorPt5
set_option linter.all false
set_option maxRecDepth 100000
section
namespace Go.Sx
open Go Go.Proofs Tryz
section
variable {P:Program} {T:TT} {GB:Gh} {C:aD} {n:Nat} {lk:LK} {bk:BM} {ρ:NE} {G:Gh} {ov:List aw} {a:Act} {w:World}
variable {dst:Option Nat} {t t' ty':TypeId} {pos:String} {af:Array Edge} {gd:Option (Nat×Bool)} {x y:Operand} {e s by_:Nat}
def JQ{vs:List Value}{rest cs:List Value}{i sz j:Nat}{v':Value}(hil:i<vs.length)(hvs: ∀v∈vs,(aG v).length=sz)(hv':aG v'=cC (aG vs[i]) j cs)(hj:j+cs.length<=sz):cC (aE vs++rest) (i*sz+j) cs=aE (vs.set i v')++rest:=by
 have hm:(aG vs[i]).length=sz:=hvs _ (bL hil);have hl':(aG v').length=sz:=by rw[hv',zi,hm]
 rw[<-W4 (rest:=rest) (u:=v') vs i hil hvs hl',hv'];have hlv:=eO vs hvs;have hle:i*sz+sz<=vs.length*sz:=by rw[<-iM];exact bW _ hil
 generalize hmm:aG vs[i]=m at*;have hX:aE vs++rest=(aE vs).take (i*sz)++(m++((aE vs).drop (i*sz+sz)++rest)):=by
  have t1:=HI (rest:=rest) hvs hil;rw[hmm] at t1;obtain⟨_,t2⟩:=zh t1;have t3:m=((aE vs).drop (i*sz)).take sz:=by
   have:m=((aE vs++rest).drop (i*sz)).take sz:=t2;rw[this,jW (by omega),fQ (by rw[iQ];omega)]
  rw[t3]
  conv=>lhs;rw[<-kZ (i*sz) (aE vs),<-kZ sz ((aE vs).drop (i*sz)),tW]
  simp[gX]
 have hP:((aE vs).take (i*sz)).length=i*sz:=by rw[cJ];omega
 generalize (aE vs).take (i*sz)=A at hX hP;generalize (aE vs).drop (i*sz+sz)++rest=Z at hX;rw[hX,<-hP,PO A m Z (cC m j cs) (by rw[zi])];rw[pD _ m j (by omega),pD _ _ _ (by simp only[aW];omega)];rw[List.take_append,aS (by omega),Nat.add_sub_cancel_left,fQ (by omega)];rw[nV,fW (by omega),kL,show A.length+j+cs.length-A.length=j+cs.length by omega,jW (by omega)];simp[gX]
def Eu(ag:Option Nat)(d:DV)(j:Nat)(u:DV):Option DV:=match d with
 | .ag l=>match ag with
  |some k=>bif u.okc&&(Nat.beq u.cells.length k&&Nat.ble (j+k) l.length) then some (.ag (Bj l j u.cells)) else none
  |none=>bif u.flat&&Nat.blt j l.length then some (.ag (l.set j u)) else none
 |d=>match ag with
  |some _=>none
  |none=>bif d.flat&&(u.flat&&Nat.beq j 0) then some u else none
def bA.wroteRow{nm b:Nat}{ty:TypeId}{sz:Nat}{ds ds':List DV}{lo lo':Bool}{m':List Value}{own':List aw}(r:bA GB C n lk bk ρ G ov a w)(hb:bk nm=some (.b ty sz ds lo))(ha:(ρ nm).a=some ⟨b,0,none⟩)(hB:dl G ⟨ρ nm,sz,ty,ds',lo⟩ [⟨b,m',ty,lo'⟩])
  (h1:⟨b,m',ty,lo'⟩∈own')(h2: ∀o∈ov,o.b≠b->o∈own'){K:Act->World->Prop}(hk:SX GB C n (er lk dst .un) (Sx.upB bk [(nm,some (.b ty sz ds' lo))]) K){a':Act}{w':World}(rl:gD C n (Sx.put (cE a) dst undef) own' G a' w'):K a' w':=by
 have r2:=r.upB (G':=G) (ov':=own') (w':=w') (B':= .b ty sz ds' lo) (bp.refl _) rl.h (hB.toBk J) (fun o ho=>by rw[aU.1 ho];exact h1) (fun o ho hne=>h2 o ho fun e=>hne (by rw[ha,e])) ⟨_,hb⟩;exact hk.run _ _ _ a' w' (r2.put J (kO rl))
def PY(cs:List Value)(o:Nat)(v:Value):cC cs o [v]=cs.set o v:=rfl
def Yx{i:TI}{ag:Option Nat}{nm sz k j:Nat}{ty:TypeId}{ds ds':List DV}{lo:Bool}{d d' u:DV}(hi:fg P t=some i)(ha:i.ag=some ag)(hx:aH lk x=some (.be nm sz k j))(hb:bk nm=some (.b ty sz ds lo))(hy:evD lk y=some u)(he:ds[k]? =some d)(hl:Eu ag d j u=some d')(hds:ds.set k d'=ds'):
  bG P GB C n lk bk ⟨dst, .store t x y,ty',pos,af,gd⟩ .un [(nm,some (.b ty sz ds' lo))] []:=by
 intro hd tl tb K s1 s2 hf hk;refine⟨fun ρ G ov a w r Q=>?_⟩;subst hds;have r1:=r.mono s1 s2;obtain⟨y',h1,h2⟩:=r1.evD hy;obtain⟨x',h3,b,hwb,rfl⟩:=r1.ev hx;obtain⟨B,hB,hBo⟩:=r1.row (y:= .nilFunc) hb;obtain⟨b',vs,rest,lo',e1,rfl,hv,hvs,hil,hup⟩:=hB.upd he;rw[hwb] at e1;cases e1;obtain⟨v,g1,g2⟩:=hv.get he;obtain⟨g3,g4⟩:=aY.1 g1;have hlv:=eO vs hvs;have hle:k*sz+sz<=vs.length*sz:=by rw[<-iM];exact bW _ hil
 have hml:(aG v).length=sz:=hvs _ (aV g1)
 cases ag with
 |some q=>
  have:=yS hi ha;unfold Eu at hl;split at hl
  .rename_i l
   simp only at hl
   cases hc:(u.okc&&(Nat.beq u.cells.length q&&Nat.ble (j+q) l.length)) with
   |false=>rw[hc] at hl;cases hl
   |true=>
    rw[hc] at hl;cases hl;simp only[bT,Nat.ble_eq] at hc;obtain⟨c1,c2,c3⟩:=hc;replace c2:=aL c2;obtain⟨c4,c5⟩:=h2.cells c1;obtain⟨m,rfl,hm⟩:=et.1 g2;have hcl:(aG y').length=q:=by rw[c4.len,c2]
    have hmd:=hm.len;have hsz:m.length=sz:=hml;have key:=hup (.agg ⟨cC m j (aG y')⟩) (.ag (Bj l j u.cells)) (et.2 ⟨_,J,hm.ov c4⟩) (by show(cC m j (aG y')).length=sz;rw[zi,hsz]);have hov:=JQ (rest:=rest) (v':= .agg ⟨cC m j (aG y')⟩) (cs:=aG y') (j:=j) hil hvs (by rw[g4];rfl) (by omega);obtain⟨own',u1,u2,u3⟩:=f9.of_mem (cs':=cC (aE vs++rest) (k*sz+j) (aG y')) (hBo _ aZ);refine DL h3 h1 u1 hcl (by rw[aW];omega) (dK.2 c5) hd (fun a' w' rl=>?_) a w Q ⟨r.h,r.sz,c8 a,r.df⟩;rw[hov] at u2;exact r.wroteRow (s2 _ _ hb) hwb key u2 u3 hk rl
  .simp at hl
 |none=>
  have:=yG hi ha;unfold Eu at hl;split at hl
  .rename_i l
   simp only at hl
   cases hc:(u.flat&&Nat.blt j l.length) with
   |false=>rw[hc] at hl;cases hl
   |true=>
    rw[hc] at hl;cases hl;simp only[bT,mL] at hc;obtain⟨c1,c2⟩:=hc;have hfl:=h2.flat c1;have hcl:=Af hfl;obtain⟨m,rfl,hm⟩:=et.1 g2;have hmd:=hm.len;have hsz:m.length=sz:=hml;have key:=hup (.agg ⟨m.set j y'⟩) (.ag (l.set j u)) (et.2 ⟨_,J,hm.set j h2⟩) (by show(m.set j y').length=sz;rw[bZ,hsz]);have hov:=JQ (rest:=rest) (v':= .agg ⟨m.set j y'⟩) (cs:=[y']) (j:=j) hil hvs (by rw[g4];rfl) (by simp;omega);rw[PY] at hov;obtain⟨own',u1,u2,u3⟩:=f9.of_mem (cs':=(aE vs++rest).set (k*sz+j) y') (hBo _ aZ);refine wH h3 h1 u1 (by rw[aW];omega) hfl hd (fun a' w' rl=>?_) a w Q ⟨r.h,r.sz,c8 a,r.df⟩;rw[hov] at u2;exact r.wroteRow (s2 _ _ hb) hwb key u2 u3 hk rl
  .rename_i hna
   simp only at hl
   cases hc:(d.flat&&(u.flat&&Nat.beq j 0)) with
   |false=>rw[hc] at hl;cases hl
   |true=>
    rw[hc] at hl;cases hl;simp only[bT] at hc;obtain⟨c0,c1,c2⟩:=hc
    cases aL c2
    have hfl:=h2.flat c1;have hcl:=Af hfl;have hvl:=Af (g2.flat c0);have h1z:1=sz:=by rw[<-hml,hvl];rfl
    have key:=hup y' d' h2 (by rw[hcl,<-h1z];rfl);have hov:=JQ (rest:=rest) (v':=y') (cs:=[y']) (j:=0) hil hvs (by rw[g4,hvl,hcl];rfl) (by simp;omega);rw[PY] at hov;obtain⟨own',u1,u2,u3⟩:=f9.of_mem (cs':=(aE vs++rest).set (k*sz+0) y') (hBo _ aZ);refine wH h3 h1 u1 (by rw[aW];omega) hfl hd (fun a' w' rl=>?_) a w Q ⟨r.h,r.sz,c8 a,r.df⟩;rw[hov] at u2;exact r.wroteRow (s2 _ _ hb) hwb key u2 u3 hk rl
def nj(lk:LK)(dflt:Nat):Option Operand->Option Int
 |none=>some (dflt:Nat)
 |some o=>match aH lk o with
  |some (.d (.v (.int .i64 i)))=>some i
  |_=>none
def aGf{l:List DV}{lo hi:Option Operand}{nlo nhi:Nat}[hT:cp P t e s by_](hx:evD lk x=some (.sl l))(ho:cF s l)(hlo:nj lk 0 lo=some (nlo:Int))(hhi:nj lk l.length hi=some (nhi:Int))(h1:nlo<=nhi)(h2:nhi<=l.length):
  bG P GB C n lk bk ⟨dst, .slice t x lo hi none,ty',pos,af,gd⟩ (.d (.sl ((l.take nhi).drop nlo))) [] []:= .yd fun ρ G ov a w r=>by
 obtain⟨u,h3,h4⟩:=r.evD hx;obtain⟨s',z,es,rfl,hsl,hl⟩:=iG.1 h4;have hn:=hsl.len;have hcap:=hsl.cap;have hll:=hl.len;have key: ∀mx',nhi<=mx'->mx'<=z.c->Is G (.sl ((l.take nhi).drop nlo)) (m8 z.a z.n z.c nlo nhi mx' s):=by
  intro mx' hm1 hm2;rcases A7 hsl hl ho with he|he
  .subst he
   have:l=[]:=bS (by rw[<-hll];rfl);subst this;have e1:nhi=0:=by simp at h2;exact h2
   have e2:nlo=0:=by omega
   subst e1 e2;refine iG.2 ⟨s,⟨_,0,mx'⟩,[],J,⟨J,aN _, .inl J⟩,by simpa using IsLs.nil⟩
  .subst he
   refine iG.2 ⟨s',⟨_,_,_⟩,_,J,hsl.sub nlo nhi mx' h1 (by omega) hm1 hm2,(hl.take nhi).drop nlo⟩
 have bnd: ∀{o:Operand} {d:Nat} {i:Int},nj lk d (some o)=some i->aA (cE a) o=some (.int .i64 i):=fun{o d i} h=>by
  simp only[nj] at h;split at h<;>cases h;rename_i he;obtain⟨q,g1,g2⟩:=r.ev he;rw[de] at g2;subst g2;exact g1
 match lo,hi,hlo,hhi with
 |none,none,hlo,hhi=>
  simp only[nj,Option.some.injEq] at hlo hhi;have e1:nlo=0:=by omega
  have e2:nhi=l.length:=by omega
  subst e1 e2;refine⟨_,key z.c (by omega) (aM _),?_⟩;intro a w0 hf hh;simp only[execOp,bh hf h3,qM];have h9:=A2 (P:=P) (t:=t) (ad:=z.a) (len:=z.n) (cap:=z.c) w0 (lo:=none) (hi:=none) (mx:=none) (l:=0) (h:=l.length) (m:=z.c) (fun w0=>by
   simp[Instr.sliceBounds,Result.andThen,run_pure];omega)
  exact c7 h9
 |none,some o2,hlo,hhi=>
  simp only[nj,Option.some.injEq] at hlo;have e1:nlo=0:=by omega
  subst e1;refine⟨_,key z.c (by omega) (aM _),?_⟩;have h9:=yl (P:=P) (C:=C) (own:=ov) (G:=G) (t:=t) (dst:=dst) (ty':=ty') (pos:=pos) (af:=af) (gd:=gd) h3 (bnd hhi);have e9:m8 z.a z.n z.c 0 nhi z.c s= .slice z.a nhi z.c:=by
   unfold m8
   cases z.a with
   |none=>simp
   |some ad=>simp[Addr.add]
  rw[e9];simpa using h9
 |some o1,none,hlo,hhi=>
  simp only[nj,Option.some.injEq] at hhi;have e2:nhi=l.length:=by omega
  subst e2;refine⟨_,key z.c (by omega) (aM _),?_⟩;have h9:=Ca (P:=P) (C:=C) (own:=ov) (G:=G) (t:=t) (dst:=dst) (ty':=ty') (pos:=pos) (af:=af) (gd:=gd) h3 (bnd hlo);have e9:z.n=l.length:=by omega
  rw[bV,e9] at h9;rw[e9];exact h9
 |some o1,some o2,hlo,hhi=>
  refine⟨_,key z.c (by omega) (aM _),?_⟩;have h9:=Y4 (P:=P) (C:=C) (own:=ov) (G:=G) (t:=t) (dst:=dst) (ty':=ty') (pos:=pos) (af:=af) (gd:=gd) h3 (bnd hlo) (bnd hhi) (by omega) (by omega) (by omega);simpa using h9
def aEE{l:List DV}{hi mx:Operand}{nhi:Nat}[hT:cp P t e s by_](hx:evD lk x=some (.sl l))(ho:cF s l)(hhi:nj lk 0 (some hi)=some (nhi:Int))(hmx:nj lk 0 (some mx)=some (nhi:Int))(h2:nhi<=l.length):
  bG P GB C n lk bk ⟨dst, .slice t x none (some hi) (some mx),ty',pos,af,gd⟩ (.ct (l.take nhi)) [] []:= .yd fun ρ G ov a w r=>by
 obtain⟨u,h3,h4⟩:=r.evD hx;obtain⟨s',z,es,rfl,hsl,hl⟩:=iG.1 h4;have hn:=hsl.len;have hcap:=hsl.cap;have hll:=hl.len;have bnd: ∀{o:Operand} {d:Nat} {i:Int},nj lk d (some o)=some i->aA (cE a) o=some (.int .i64 i):=fun{o d i} h=>by
  simp only[nj] at h;split at h<;>cases h;rename_i he;obtain⟨q,g1,g2⟩:=r.ev he;rw[de] at g2;subst g2;exact g1
 refine⟨.slice z.a nhi nhi,⟨⟨_,_,J⟩,awj hsl hl ho h2 (aM _) (by omega)⟩,?_⟩;have h9:=asp (P:=P) (C:=C) (own:=ov) (G:=G) (t:=t) (dst:=dst) (ty':=ty') (pos:=pos) (af:=af) (gd:=gd) h3 (bnd hhi) (bnd hmx) (by omega) (Int.le_refl _) (by omega);simpa using h9
def Su{d:Nat}{i:TI}{z:DV}{ds ds2:List DV}[hT:cp P t e s by_][hN:lO P t'](hi:fg P e=some i)(hz:nE i=some z)(hs:Nat.beq z.cells.length s=true)(hx:aH lk x=some (.ct ds)\/(aH lk x=some .nl/\ds=[]))(ox:cF s ds)(hy:qz lk bk s y=some ds2)(hk2:cF s ds2)(hne:0<ds2.length)
  (hby:Nat.blt 0 by_=true)(hbd:(ds.length+ds2.length)*by_<=140737488355328){ds':List DV}(hds:ds++ds2=ds'):
  bG P GB C n lk bk ⟨some d, .call ⟨.builtin .append, #[x,y], #[t,t']⟩,ty',pos,af,gd⟩ (.rw d) [(d,some (.b e s ds' true))] [d]:=by
 intro hd tl tb K s1 s2 hf hk;refine⟨fun ρ G ov a w r Q=>?_⟩;subst hds;have r1:=r.mono s1 s2;obtain⟨v,hz1,hz2,hz3⟩:=wg hi hz;have cz:=((hz2 G).cells hz3).1.len;replace hs:=aL hs;rw[mL] at hby
 obtain⟨w2,us,h1,h2,h3,h4,h5,h6⟩:=zc (P:=P) r1 hy hk2;have hxs:qz lk bk s x=some ds:=by
  unfold qz;rcases hx with hx|⟨hx,rfl⟩<;>rw[hx]<;>rfl
 obtain⟨w1,vs,g1,g2,g3,g4,g5,g6⟩:=zc (P:=P) r1 hxs ox;have hc1:w1.c=w1.n:=by
  rcases hx with hx|⟨hx,rfl⟩
  .obtain⟨y1,k1,⟨a1,n1,rfl⟩,_⟩:=r1.ev hx
   rw[k1] at g1;simp only[Option.some.injEq,Value.slice.injEq] at g1;omega
  .obtain⟨y1,k1,k2⟩:=r1.ev hx
   cases k2
   rw[k1] at g1;simp only[Option.some.injEq,Value.slice.injEq] at g1;omega
 have hl3:=h3.len;have hl4:=g3.len;have hall: ∀v∈vs++us,(aG v).length=s:=fun v hv=>by
  rcases bK.1 hv with hv|hv
  .exact g4 v hv
  .exact h4 v hv
 refine C9 (z:=v) (xs:=aE vs) (ys:=aE us) (ad:=w1.a) (len:=w1.n) (cap:=w1.c) g1 h1 g6 h6 (by omega) hby (by rw[g2,h2,hl3,hl4];exact hbd) hd (fun b cap' hc a' w' rl=>?_) a w Q ⟨r.h,r.sz,c8 a,r.df⟩;rw[<-qh] at rl;have hnd':=(bR.1 rl.h.nd).1;refine r.newRow (z:=⟨some ⟨b,0,none⟩,w1.n+w2.n,cap'⟩) (B:=[⟨b,aE (vs++us)++dw v (cap'-(w1.n+w2.n)),e,true⟩]) hf ⟨vs++us, .inr ⟨b,_,true,by simp[g2,h2],J,eO _ hall,?_,by simpa[g2,h2] using hc⟩,g3.app h3,hall,fun _ o ho=>by rw[aU.1 ho]⟩
  (fun o ho=>by rw[aU.1 ho];exact aZ) (fun m B' hm e o ho _=>⟨aK _ ho,fun e'=>by cases e';exact hnd' o ho J⟩) hk rl
 rw[eO _ hall,aW,pw,cz,hs,<-cM,g2,h2];congr 1;rw[g2,h2] at hc;dsimp only;omega
end
section
variable {GB:Gh} {C:aD} {n:Nat} {Q0:Exit->Act->World->Prop} {fr fr':aB} {own own':aF} {cf cf':Cf} {vc:List Prop} {ops:Array Oper} {o:Oper} {K:List Kt} {r:List Oper}
def cg(fr:aB)(cf:Cf):Option Oper:=match Fx cf with
 |some (ops,o)=>bif vW ops (bz fr cf) o.guard then some o else none
 |none=>none
def IB(h:cg fr cf=some o): ∃ops,Fx cf=some (ops,o)/\vW ops (bz fr cf) o.guard=true:=by
 unfold cg at h;split at h<;>try (cases h;done)
 rename_i ops o' hh
 cases hg:vW ops (bz fr cf) o'.guard with
 |false=>rw[hg] at h;cases h
 |true=>rw[hg] at h;cases h;exact⟨ops,hh,hg⟩
def us{q:Nat}{f:FX}{bl:List (Nat×Option Bk)}{nw:List Nat}(hh:cg fr cf=some o)(h:bG prog GB C n (bz fr cf) (ir fr own cf) o f bl nw)
  (hgo:dh tt n q fr own cf f bl nw=⟨vc,fr',own',cf'⟩)(hv:ah vc)(k:ao prog GB C n Q0 fr' own' cf'):ao prog GB C n Q0 fr own cf:=by
 obtain⟨ops,h1,h2⟩:=IB hh;exact uo h1 h2 h hgo hv k
def BJ(fr:aB)(cf:Cf):Option (FuncId×List DV):=match cg fr cf with
 |some ⟨_, .call ⟨.value fo,args,_⟩,_,_,_,_⟩=>wZ (bz fr cf) fo args
 |_=>none
def cl[fu:Fu]{f:FuncId}{ds:List DV}{rv:DV}(ha:BJ fr cf=some (f,ds))(hF:PF GB prog f ds rv)(hgo:dh tt n fu.n fr own cf (.d rv) [] []=⟨vc,fr',own',cf'⟩)(k:ao prog GB C n Q0 fr' own' cf')
  (hv:autoParam (ah vc) fn._auto_1):ao prog GB C n Q0 fr own cf:=by
 unfold BJ at ha;split at ha<;>try (cases ha;done)
 rename_i hh;exact us hh (aEh ha hF) hgo hv k
def OO(fr:aB)(cf:Cf):Option (List DV×Int×Nat):=match cg fr cf with
 |some ⟨_, .indexAddr t x y,_,_,_,_⟩=>match evD (bz fr cf) x with
  |some (.sl l)=>match aH (bz fr cf) y with
   |some (.d (.v (.int _ i)))=>match dq tt t with
    |some ⟨.sl _ s _,_,_,_⟩=>some (l,i,s)
    |_=>none
   |_=>none
  |_=>none
 |_=>none
def K8(n q:Nat)(fr:aB)(own:aF)(cf:Cf)(d:DV)(s:Nat):yq:=bif d.okc&&Nat.beq d.cells.length s then lD d.cells fun cs=>dh tt n q fr own cf (.ep cs) [] [] else bad
def ix[fu:Fu](d:DV){l:List DV}{i:Int}{s:Nat}(h:OO fr cf=some (l,i,s))(he:l[i.toNat]? =some d)(hgo:K8 n fu.n fr own cf d s=⟨vc,fr',own',cf'⟩)(k:ao prog GB C n Q0 fr' own' cf')(h0:0<=i:=by omega)
  (hv:autoParam (ah vc) fn._auto_1):ao prog GB C n Q0 fr own cf:=by
 unfold OO at h;split at h<;>try (cases h;done)
 rename_i hh;split at h<;>try (cases h;done)
 rename_i hx;split at h<;>try (cases h;done)
 rename_i hy;split at h<;>cases h;rename_i hT;have:=jl (eh _ _ hT) J;unfold K8 at hgo
 cases hc:(d.okc&&Nat.beq d.cells.length s) with
 |false=>simp only[hc,cond_false,bad] at hgo;cases hgo;exact absurd hv (fun x=>x)
 |true=>
  simp only[hc,cond_true,tv] at hgo;exact us hh (aFj hx hy h0 he hc) hgo hv k
structure LbA where
 ds:List DV
 k:Nat
 j:Nat
 ag:Option Nat
def MD(fr:aB)(own:aF)(cf:Cf):Option LbA:=match cg fr cf with
 |some ⟨_, .load t x,_,_,_,_⟩=>match aH (bz fr cf) x with
  |some (.be nm sz k j)=>match ir fr own cf nm with
   |some (.b _ s ds _)=>bif Nat.beq s sz then(match dq tt t with
    |some i=>match i.ag with
     |some ag=>some ⟨ds,k,j,ag⟩
     |none=>none
    |none=>none) else none
   |_=>none
  |_=>none
 |_=>none
def Og(n q:Nat)(fr:aB)(own:aF)(cf:Cf)(d:DV)(ag:Option Nat)(j:Nat):yq:=bif d.okc then(match A3 ag d.cells j with
 |some c=>dh tt n q fr own cf (.d c) [] []
 |none=>bad) else bad
def lb[fu:Fu](d:DV){ds:List DV}{k' j:Nat}{ag:Option Nat}(h:MD fr own cf=some ⟨ds,k',j,ag⟩)(he:ds[k']? =some d)(hgo:Og n fu.n fr own cf d ag j=⟨vc,fr',own',cf'⟩)(k:ao prog GB C n Q0 fr' own' cf')
  (hv:autoParam (ah vc) fn._auto_1):ao prog GB C n Q0 fr own cf:=by
 unfold MD at h;split at h<;>try (cases h;done)
 rename_i hh;split at h<;>try (cases h;done)
 rename_i hx;split at h<;>try (cases h;done)
 rename_i ty s ds' lo hb;rw[cond_eq_ite] at h;split at h<;>try (cases h;done)
 rename_i hs
 cases aL hs
 split at h<;>try (cases h;done)
 rename_i hT;split at h<;>cases h;rename_i ha;unfold Og at hgo
 cases hc:d.okc with
 |false=>simp only[hc,cond_false,bad] at hgo;cases hgo;exact absurd hv (fun x=>x)
 |true=>
  simp only[hc,cond_true] at hgo
  cases hl:A3 ag d.cells j with
  |none=>simp only[hl,bad] at hgo;cases hgo;exact absurd hv (fun x=>x)
  |some c=>simp only[hl] at hgo;exact us hh (Zo (eh _ _ hT) ha hx hb he hc hl) hgo hv k
structure Zk where
 nm:Nat
 ty:TypeId
 s:Nat
 ds:List DV
 lo:Bool
 k:Nat
 j:Nat
 ag:Option Nat
 u:DV
def Ld(fr:aB)(own:aF)(cf:Cf):Option Zk:=match cg fr cf with
 |some ⟨_, .store t x y,_,_,_,_⟩=>match aH (bz fr cf) x with
  |some (.be nm sz k j)=>match ir fr own cf nm with
   |some (.b ty s ds lo)=>bif Nat.beq s sz then(match dq tt t with
    |some i=>match i.ag with
     |some ag=>match evD (bz fr cf) y with
      |some u=>some ⟨nm,ty,s,ds,lo,k,j,ag,u⟩
      |none=>none
     |none=>none
    |none=>none) else none
   |_=>none
  |_=>none
 |_=>none
def sb[fu:Fu](d:DV){nm:Nat}{ty:TypeId}{s:Nat}{ds:List DV}{lo:Bool}{k' j:Nat}{ag:Option Nat}{u d':DV}(ds':List DV)(h:Ld fr own cf=some ⟨nm,ty,s,ds,lo,k',j,ag,u⟩)(he:ds[k']? =some d)(hl:Eu ag d j u=some d')(hds:ds.set k' d'=ds')
  (hgo:dh tt n fu.n fr own cf .un [(nm,some (.b ty s ds' lo))] []=⟨vc,fr',own',cf'⟩)(k:ao prog GB C n Q0 fr' own' cf')
  (hv:autoParam (ah vc) fn._auto_1):ao prog GB C n Q0 fr own cf:=by
 unfold Ld at h;split at h<;>try (cases h;done)
 rename_i hh;split at h<;>try (cases h;done)
 rename_i hx;split at h<;>try (cases h;done)
 rename_i hb;rw[cond_eq_ite] at h;split at h<;>try (cases h;done)
 rename_i hs
 cases aL hs
 split at h<;>try (cases h;done)
 rename_i hT;split at h<;>try (cases h;done)
 rename_i ha;split at h<;>cases h;rename_i hy;exact us hh (Yx (eh _ _ hT) ha hx hb hy he hl hds) hgo hv k
structure MkA where
 d:Nat
 e:Nat
 s:Nat
 b:Nat
 z:DV
 l:Int
def Cz(fr:aB)(cf:Cf):Option MkA:=match cg fr cf with
 |some ⟨some d, .makeSlice t x y,_,_,_,_⟩=>match aH (bz fr cf) x with
  |some (.d (.v (.int _ l)))=>match dq tt t with
   |some ⟨.sl e s b,_,_,_⟩=>match dq tt e with
    |some i=>match nE i with
     |some z=>bif Nat.beq z.cells.length s then some ⟨d,e,s,b,z,l⟩ else none
     |none=>none
    |none=>none
   |_=>none
  |_=>none
 |_=>none
def mk[fu:Fu]{d e s b:Nat}{z:DV}{l:Int}{k':IntKind}(ds:List DV)(h:Cz fr cf=some ⟨d,e,s,b,z,l⟩)(hy:(match cg fr cf with|some ⟨_, .makeSlice _ _ y,_,_,_,_⟩=>aH (bz fr cf) y|_=>none)=some (.d (.v (.int k' l))))(hds:List.replicate l.toNat z=ds)
  (hgo:dh tt n fu.n fr own cf (.rw d) [(d,some (.b e s ds true))] [d]=⟨vc,fr',own',cf'⟩)(k:ao prog GB C n Q0 fr' own' cf')(h0:0<=l:=by omega)(hb:b*l<=140737488355328:=by omega)(hl:l<=1152921504606846976:=by omega)
  (hv:autoParam (ah vc) fn._auto_1):ao prog GB C n Q0 fr own cf:=by
 unfold Cz at h;split at h<;>try (cases h;done)
 rename_i hh;split at h<;>try (cases h;done)
 rename_i hx;split at h<;>try (cases h;done)
 rename_i hT;split at h<;>try (cases h;done)
 rename_i hi;split at h<;>try (cases h;done)
 rename_i hz;rw[cond_eq_ite] at h;split at h<;>cases h;rename_i hs;rw[hh] at hy;have:=jl (eh _ _ hT) J;exact us hh (aB1 (eh _ _ hi) hz hs hx hy h0 hb hl hds) hgo hv k
structure Nj where
 d:Nat
 e:Nat
 s:Nat
 ds:List DV
def Eb(fr:aB)(cf:Cf):Option Nj:=match cg fr cf with
 |some ⟨some d, .buildSlice t len parts,_,_,_,_⟩=>match dq tt t with
  |some ⟨.sl e s _,_,_,_⟩=>match dq tt e with
   |some i=>match nE i with
    |some z=>match xg (bz fr cf) 0 parts.toList with
     |some ds=>bif Nat.beq z.cells.length s&&(Dw s ds&&(Nat.beq parts.toList.length len&&(Nat.ble (len*s) 1000&&Nat.blt 0 (len*s)))) then some ⟨d,e,s,ds⟩ else none
     |none=>none
    |none=>none
   |none=>none
  |_=>none
 |_=>none
def NN{d e s:Nat}{ds:List DV}(h:Eb fr cf=some ⟨d,e,s,ds⟩): ∃o,cg fr cf=some o/\o.dst=some d/\bG prog GB C n (bz fr cf) (ir fr own cf) o (.rw d) [(d,some (.b e s ds true))] [d]:=by
 unfold Eb at h;split at h<;>try (cases h;done)
 rename_i hh;split at h<;>try (cases h;done)
 rename_i hT;split at h<;>try (cases h;done)
 rename_i hi;split at h<;>try (cases h;done)
 rename_i hz;split at h<;>try (cases h;done)
 rename_i hr;rw[cond_eq_ite] at h;split at h<;>cases h;rename_i hc;simp only[bT] at hc;have:=jl (eh _ _ hT) J;exact⟨_,hh,J,ZB (eh _ _ hi) hz hc.1 hr hc.2.1 hc.2.2.1 hc.2.2.2.1 hc.2.2.2.2⟩
def ro[fu:Fu]{d e s:Nat}{ds:List DV}(h:Eb fr cf=some ⟨d,e,s,ds⟩)(hgo:dh tt n fu.n fr own cf (.rw d) [(d,some (.b e s ds true))] [d]=⟨vc,fr',own',cf'⟩)(k:ao prog GB C n Q0 fr' own' cf')
  (hv:autoParam (ah vc) fn._auto_1):ao prog GB C n Q0 fr own cf:=by
 obtain⟨o,h1,_,h3⟩:=NN (GB:=GB) (C:=C) (n:=n) (own:=own) h;exact us h1 h3 hgo hv k
def rf[fu:Fu]{d e s:Nat}{ds:List DV}(h:Eb fr cf=some ⟨d,e,s,ds⟩)(hgo:dh tt n fu.n fr own cf (.d (.sl ds)) [(d,none)] [d]=⟨vc,fr',own',cf'⟩)(k:ao prog GB C n Q0 fr' own' cf')
  (hv:autoParam (ah vc) fn._auto_1):ao prog GB C n Q0 fr own cf:=by
 obtain⟨o,h1,h2,h3⟩:=NN (GB:=GB) (C:=C) (n:=n) (own:=own) h;exact us h1 (h3.frzRow h2) hgo hv k
def Nd(fr:aB)(cf:Cf):Option (Nat×Nat×Nat):=match cg fr cf with
 |some ⟨some d, .buildSlice t 0 ⟨[]⟩,_,_,_,_⟩=>match dq tt t with
  |some ⟨.sl e s _,_,_,_⟩=>some (d,e,s)
  |_=>none
 |_=>none
def r7[fu:Fu]{d e s:Nat}(h:Nd fr cf=some (d,e,s))(hgo:dh tt n fu.n fr own cf (.rw d) [(d,some (.b e s [] true))] [d]=⟨vc,fr',own',cf'⟩)(k:ao prog GB C n Q0 fr' own' cf')
  (hv:autoParam (ah vc) fn._auto_1):ao prog GB C n Q0 fr own cf:=by
 unfold Nd at h;split at h<;>try (cases h;done)
 rename_i hh;split at h<;>cases h;rename_i hT;have:=jl (eh _ _ hT) J;exact us hh aBP hgo hv k
structure ApA where
 d:Nat
 nm:Option Nat
 e:Nat
 s:Nat
 b:Nat
 ds:List DV
 ds2:List DV
def Ec(fr:aB)(own:aF)(cf:Cf):Option ApA:=match cg fr cf with
 |some ⟨some d, .call ⟨.builtin .append,⟨[x,y]⟩,⟨[t,t']⟩⟩,_,_,_,_⟩=>match dq tt t with
  |some ⟨.sl e s b,_,_,_⟩=>match dq tt t' with
   |some ⟨.sl _ _ _,_,_,_⟩=>match dq tt e with
    |some i=>match nE i with
     |some z=>bif Nat.beq z.cells.length s&&Nat.blt 0 b then(match qz (bz fr cf) (ir fr own cf) s y with
      |some ds2=>match aH (bz fr cf) x with
       |some (.rw nm)=>match ir fr own cf nm with
        |some (.b e' s' ds true)=>bif (Nat.beq e' e&&Nat.beq s' s)&&!Nat.beq nm d then some ⟨d,some nm,e,s,b,ds,ds2⟩ else none
        |_=>none
       |some (.ct ds)=>some ⟨d,none,e,s,b,ds,ds2⟩
       |some .nl=>some ⟨d,none,e,s,b,[],ds2⟩
       |_=>none
      |none=>none) else none
     |none=>none
    |none=>none
   |_=>none
  |_=>none
 |_=>none
def PC(d:Nat)(nm:Option Nat)(B:Bk):List (Nat×Option Bk):=match nm with
 |some nm=>[(nm,none),(d,some B)]
 |none=>[(d,some B)]
def KJ{d:Nat}{nm:Option Nat}{e s b:Nat}{ds ds2:List DV}(h:Ec fr own cf=some ⟨d,nm,e,s,b,ds,ds2⟩)(ds':List DV)(hds:ds++ds2=ds')(ho:nm.isNone=true->cF s ds/\0<ds2.length)(ho2:cF s ds2)(hbd:(ds.length+ds2.length)*b<=140737488355328):
  ∃o,cg fr cf=some o/\o.dst=some d/\bG prog GB C n (bz fr cf) (ir fr own cf) o (.rw d) (PC d nm (.b e s ds' true)) [d]:=by
 unfold Ec at h;split at h<;>try (cases h;done)
 rename_i hh;split at h<;>try (cases h;done)
 rename_i hT;split at h<;>try (cases h;done)
 rename_i hT';split at h<;>try (cases h;done)
 rename_i hi;split at h<;>try (cases h;done)
 rename_i hz;rw[cond_eq_ite] at h;split at h<;>try (cases h;done)
 rename_i hc;simp only[bT] at hc;split at h<;>try (cases h;done)
 rename_i hy;have:=jl (eh _ _ hT) J;have hN:lO prog _:=⟨_,(jl (eh _ _ hT') J).un⟩;refine⟨_,hh,?_⟩;split at h<;>try (cases h;done)
 .rename_i hx
  split at h<;>try (cases h;done)
  rename_i hb;rw[cond_eq_ite] at h;split at h<;>cases h;rename_i hq;simp only[bT,gT] at hq
  cases aL hq.1.1
  cases aL hq.1.2
  exact⟨J,aDq (eh _ _ hi) hz hc.1 hx hb hy ho2 hc.2 hbd hq.2 hds⟩
 .rename_i hx
  cases h
  obtain⟨h1,h2⟩:=ho rfl;exact⟨J,Su (eh _ _ hi) hz hc.1 (.inl hx) h1 hy ho2 h2 hc.2 hbd hds⟩
 .rename_i hx
  cases h
  obtain⟨h1,h2⟩:=ho rfl;exact⟨J,Su (eh _ _ hi) hz hc.1 (.inr ⟨hx,J⟩) h1 hy ho2 h2 hc.2 hbd hds⟩
def ap[fu:Fu]{d:Nat}{nm:Option Nat}{e s b:Nat}{ds ds2:List DV}(ds':List DV)(h:Ec fr own cf=some ⟨d,nm,e,s,b,ds,ds2⟩)(hds:ds++ds2=ds')(ho2:cF s ds2)(hgo:dh tt n fu.n fr own cf (.rw d) (PC d nm (.b e s ds' true)) [d]=⟨vc,fr',own',cf'⟩)(k:ao prog GB C n Q0 fr' own' cf')
  (ho:nm.isNone=true->cF s ds/\0<ds2.length:=by intro h;first|(cases h;done)|exact⟨Fk rfl,by simp⟩)(hbd:(ds.length+ds2.length)*b<=140737488355328:=by simp;omega)
  (hv:autoParam (ah vc) fn._auto_1):ao prog GB C n Q0 fr own cf:=by
 obtain⟨o,h1,_,h3⟩:=KJ (GB:=GB) (C:=C) (n:=n) h ds' hds ho ho2 hbd;exact us h1 h3 hgo hv k
def Nz(fr:aB)(cf:Cf):Option (List DV×Int×Int×Nat×Bool):=match cg fr cf with
 |some ⟨_, .slice t x lo hi mx,_,_,_,_⟩=>match evD (bz fr cf) x with
  |some (.sl l)=>match dq tt t with
   |some ⟨.sl _ s _,_,_,_⟩=>match nj (bz fr cf) 0 lo,nj (bz fr cf) l.length hi with
    |some i,some j=>match mx with
     |none=>some (l,i,j,s,false)
     |some _=>none
    |_,_=>none
   |_=>none
  |_=>none
 |_=>none
def ni[fu:Fu]{l:List DV}{i j:Int}{s:Nat}(nlo nhi:Nat)(ls:List DV)(h:Nz fr cf=some (l,i,j,s,false))(ei:i=nlo)(ej:j=nhi)(hls:(l.take nhi).drop nlo=ls)(ho:cF s l)(h1:nlo<=nhi)(h2:nhi<=l.length)
  (hgo:dh tt n fu.n fr own cf (.d (.sl ls)) [] []=⟨vc,fr',own',cf'⟩)(k:ao prog GB C n Q0 fr' own' cf')
  (hv:autoParam (ah vc) fn._auto_1):ao prog GB C n Q0 fr own cf:=by
 unfold Nz at h;split at h<;>try (cases h;done)
 rename_i hh;split at h<;>try (cases h;done)
 rename_i hx;split at h<;>try (cases h;done)
 rename_i hT;split at h<;>try (cases h;done)
 rename_i hi hj;split at h<;>cases h;have:=jl (eh _ _ hT) J;subst ei ej hls;exact us hh (aGf hx ho hi hj h1 h2) hgo hv k
def NO(fr:aB)(cf:Cf):Option (List DV×Int×Int×Nat):=match cg fr cf with
 |some ⟨_, .slice t x none (some hi) (some mx),_,_,_,_⟩=>match evD (bz fr cf) x with
  |some (.sl l)=>match dq tt t with
   |some ⟨.sl _ s _,_,_,_⟩=>match nj (bz fr cf) 0 (some hi),nj (bz fr cf) 0 (some mx) with
    |some i,some j=>some (l,i,j,s)
    |_,_=>none
   |_=>none
  |_=>none
 |_=>none
def s3[fu:Fu]{l:List DV}{i j:Int}{s:Nat}(nhi:Nat)(ls:List DV)(h:NO fr cf=some (l,i,j,s))(ei:i=nhi)(ej:j=nhi)(hls:l.take nhi=ls)(ho:cF s l)(h2:nhi<=l.length)
  (hgo:dh tt n fu.n fr own cf (.ct ls) [] []=⟨vc,fr',own',cf'⟩)(k:ao prog GB C n Q0 fr' own' cf')
  (hv:autoParam (ah vc) fn._auto_1):ao prog GB C n Q0 fr own cf:=by
 unfold NO at h;split at h<;>try (cases h;done)
 rename_i hh;split at h<;>try (cases h;done)
 rename_i hx;split at h<;>try (cases h;done)
 rename_i hT;split at h<;>cases h;rename_i hi hj;have:=jl (eh _ _ hT) J;subst ei ej hls;exact us hh (aEE hx ho hi hj h2) hgo hv k
def OJ(fr:aB)(cf:Cf):Option (Nat×List DV):=match cg fr cf with
 |some ⟨some d, .box _ x,_,_,_,_⟩=>match aH (bz fr cf) x with
  |some f=>bif f.okc&&yv f d then(match jo f.cells with
   |some l=>some (d,l)
   |none=>none) else none
  |none=>none
 |_=>none
end
section
variable {GB:Gh} {C:aD} {n:Nat} {Q0:Exit->Act->World->Prop} {fr fr':aB} {own own':aF} {cf cf':Cf} {vc:List Prop} {ops:Array Oper} {o:Oper} {K:List Kt} {r:List Oper}
def rnN(x y m:Nat)(k:Option Nat):Option Nat:=bif Nat.beq m x then some y else bif Nat.beq m y then none else k
def r9(x y:Nat):FX->FX
 | .rw m=>bif Nat.beq m x then .rw y else bif Nat.beq m y then .no else .rw m
 | .ov m o=>bif Nat.beq m x then .ov y o else bif Nat.beq m y then .no else .ov m o
 | .be m s i j=>bif Nat.beq m x then .be y s i j else bif Nat.beq m y then .no else .be m s i j
 | .rs m s i j=>bif Nat.beq m x then .rs y s i j else bif Nat.beq m y then .no else .rs m s i j
 | .bx tp pre m post=>bif Nat.beq m x then .bx tp pre y post else bif Nat.beq m y then .no else .bx tp pre m post
 |f=>f
def sk(x y:Nat):Option Bk->Option Bk
 |some (.o ty cs lo)=>some (.o ty (cs.map (r9 x y)) lo)
 |B=>B
def rnK(x y k:Nat):Nat:=bif Nat.beq k x then y else bif Nat.beq k y then x else k
def DE{α:Type}(g:FX->FX):List FX->(List FX->α)->α
 |[],k=>k []
 |f::t,k=>DE g t fun t'=>AW (g f) fun f'=>k (f'::t')
def LF{α:Type}{g:FX->FX}: ∀{cs:List FX} {k:List FX->α},DE g cs k=k (cs.map g)
 |[],k=>rfl
 |f::t,k=>by simp only[DE,EO];rw[LF];rfl
def Et{α:Type}(g:FX->FX):aB->(aB->α)->α
 |[],k=>k []
 |(j,f)::t,k=>Et g t fun t'=>AW (g f) fun f'=>k ((j,f')::t')
def I7{α:Type}{g:FX->FX}: ∀{fr:aB} {k:aB->α},Et g fr k=k (fr.map fun e=>(e.1,g e.2))
 |[],k=>rfl
 |(j,f)::t,k=>by simp only[Et,EO];rw[I7];rfl
def Dz{α:Type}(x y:Nat):aF->(aF->α)->α
 |[],k=>k []
 |(j,B)::t,k=>Dz x y t fun t'=>bif Nat.beq j y then k ((x,none)::t') else match B with
  |some (.o ty cs lo)=>DE (r9 x y) cs fun cs'=>bif Nat.beq j x then k ((y,some (.o ty cs' lo))::t') else k ((j,some (.o ty cs' lo))::t')
  |B=>bif Nat.beq j x then k ((y,B)::t') else k ((j,B)::t')
def Jg{α:Type}{x y:Nat}: ∀{own:aF} {k:aF->α},Dz x y own k=k (own.map fun e=>(bif Nat.beq e.1 y then x else bif Nat.beq e.1 x then y else e.1,bif Nat.beq e.1 y then none else sk x y e.2))
 |[],k=>rfl
 |(j,B)::t,k=>by
  simp only[Dz,Jg (own:=t),cV]
  cases Nat.beq j y with
  |true=>rfl
  |false=>
   cases B with
   |none=>cases Nat.beq j x<;>rfl
   |some B=>cases B<;>cases Nat.beq j x<;>simp only[cond_false,cond_true,LF,sk]
def F4{x y:Nat}(hxy:x≠y): ∀{own:aF} {k:Nat},ba (own.map fun e=>(bif Nat.beq e.1 y then x else bif Nat.beq e.1 x then y else e.1,bif Nat.beq e.1 y then none else sk x y e.2)) k=if k=x then none else if k=y then sk x y (ba own x) else sk x y (ba own k)
 |[],k=>by simp[ba,sk]
 |(j,B)::t,k=>by
  have bq: ∀a b:Nat,Nat.beq a b=decide (a=b):=fun a b=>by
   by_cases h:a=b
   .subst h;simp
   .rw[decide_eq_false h]
    cases hb:Nat.beq a b with
    |false=>rfl
    |true=>exact absurd (aL hb) h
  simp only[cV];rw[jI,F4 hxy (own:=t),jI,jI];by_cases h1:j=y
  .subst h1
   simp only[bq,decide_true,cond_true];by_cases h2:k=x
   .simp[h2]
   .by_cases h3:k=j
    .subst h3;simp[h2,Ne.symm h2,hxy]
    .simp[h2,h3]
  .by_cases h4:j=x
   .subst h4
    simp only[bq,h1,decide_false,cond_false,decide_true,cond_true];by_cases h2:k=y
    .subst h2;simp[Ne.symm h1]
    .by_cases h3:k=j
     .subst h3;simp[h1]
     .simp[h2,h3]
   .simp only[bq,h1,h4,decide_false,cond_false]
    by_cases h2:k=j
    .subst h2;simp[h1,h4]
    .by_cases h3:k=x
     .subst h3;simp[h2]
     .by_cases h5:k=y
      .subst h5;simp[h2,h3,Ne.symm h4]
      .simp[h2,h3,h5]
def JM{x y:Nat}(hxy:x≠y){ρ:NE}{G:Gh}{f:FX}{v:Value}(h:bF ρ G f v):bF (fun k=>if k=y then ρ x else ρ k) G (r9 x y f) v:=by
 have key: ∀m:Nat,Nat.beq m y=false->(fun k=>if k=y then ρ x else ρ k) m=ρ m:=fun m hm=>if_neg fun e=>by subst e;simp at hm
 cases f with
 |rw m=>
  simp only[r9]
  cases hb:Nat.beq m x with
  |true=>cases aL hb;simp only[cond_true];show v=_;simp;exact h
  |false=>
   cases hb':Nat.beq m y with
   |true=>trivial
   |false=>simp only[cond_false];show v=_;rw[key m hb'];exact h
 |ov m off=>
  simp only[r9]
  cases hb:Nat.beq m x with
  |true=>cases aL hb;simp only[cond_true];obtain⟨b,h1,h2⟩:=h;exact⟨b,by simp;exact h1,h2⟩
  |false=>
   cases hb':Nat.beq m y with
   |true=>trivial
   |false=>simp only[cond_false];obtain⟨b,h1,h2⟩:=h;exact⟨b,by rw[key m hb'];exact h1,h2⟩
 |be m s i j=>
  simp only[r9]
  cases hb:Nat.beq m x with
  |true=>cases aL hb;simp only[cond_true];obtain⟨b,h1,h2⟩:=h;exact⟨b,by simp;exact h1,h2⟩
  |false=>
   cases hb':Nat.beq m y with
   |true=>trivial
   |false=>simp only[cond_false];obtain⟨b,h1,h2⟩:=h;exact⟨b,by rw[key m hb'];exact h1,h2⟩
 |rs m s i j=>
  simp only[r9]
  cases hb:Nat.beq m x with
  |true=>cases aL hb;simp only[cond_true];obtain⟨b,c,h1,h2⟩:=h;exact⟨b,c,by simp;exact h1,h2⟩
  |false=>
   cases hb':Nat.beq m y with
   |true=>trivial
   |false=>simp only[cond_false];obtain⟨b,c,h1,h2⟩:=h;exact⟨b,c,by rw[key m hb'];exact h1,h2⟩
 |bx tp pre m post=>
  simp only[r9]
  cases hb:Nat.beq m x with
  |true=>cases aL hb;simp only[cond_true];obtain⟨m1,m2,e,h1,h2⟩:=h;exact⟨m1,m2,by simpa using e,h1,h2⟩
  |false=>
   cases hb':Nat.beq m y with
   |true=>trivial
   |false=>simp only[cond_false];obtain⟨m1,m2,e,h1,h2⟩:=h;exact⟨m1,m2,by rw[key m hb'];exact e,h1,h2⟩
 |_=>exact h
def F8{x y:Nat}(hxy:x≠y){ρ:NE}{G:Gh}: ∀{cs:List FX} {m:List Value},dm ρ G cs m->dm (fun k=>if k=y then ρ x else ρ k) G (cs.map (r9 x y)) m
 |[],m,h=>h
 |f::t,m,⟨v,q,e,h1,h2⟩=>⟨v,q,e,JM hxy h1,F8 hxy h2⟩
def yK(x y:Nat)(fr:aB)(own:aF):Option zt:=bif Nat.beq x y then none else Et (r9 x y) fr fun fr'=>Dz x y own fun own'=>some ⟨fr',own'⟩
def We{x y:Nat}{Φ:Act->World->Prop}{R:zt}(hy:Nat.blt y 2000000=true)(h:yK x y fr own=some R)(hk:SX GB C n (aO R.fr) (ba R.own) Φ):SX GB C n (aO fr) (ba own) Φ:=by
 unfold yK at h;rw[cond_eq_ite] at h;split at h<;>try (cases h;done)
 rename_i hb;have hxy:x≠y:=fun e=>hb (by subst e;simp);rw[I7,Jg] at h;cases h;refine⟨fun ρ G ov a w r=>hk.run (fun k=>if k=y then ρ x else ρ k) G ov a w ?_⟩;have inv: ∀m B,ba (own.map fun e=>(bif Nat.beq e.1 y then x else bif Nat.beq e.1 x then y else e.1,bif Nat.beq e.1 y then none else sk x y e.2)) m=some B-> ∃m0 B0,ba own m0=some B0/\sk x y (some B0)=some B/\(m=y/\m0=x\/m≠y/\m≠x/\m0=m):=fun m B e=>by
  rw[F4 hxy] at e;split at e
  .cases e
  .rename_i hm
   split at e
   .cases hl:ba own x with
    |none=>rw[hl] at e;cases e
    |some B0=>rw[hl] at e;exact⟨x,B0,hl,e, .inl ⟨by assumption,J⟩⟩
   .cases hl:ba own m with
    |none=>rw[hl] at e;cases e
    |some B0=>rw[hl] at e;exact⟨m,B0,hl,e, .inr ⟨by assumption,hm,J⟩⟩
 have rho: ∀m m0,(m=y/\m0=x\/m≠y/\m≠x/\m0=m)->(fun k=>if k=y then ρ x else ρ k) m=ρ m0:=fun m m0 h=>by
  rcases h with⟨h1,h2⟩|⟨h1,_,h2⟩
  .subst h1 h2;simp
  .subst h2;exact if_neg h1
 refine⟨r.gb,r.h,r.sz,r.df,fun k f e=>?_,fun m B e=>?_,fun m m' B B' e e' hne=>?_,fun m p h1 h2 e=>by
  have:y<2000000:=by simpa[mL] using hy
  show(if m=y then ρ x else ρ m).a=_;rw[if_neg (by omega)];exact r.fxd m p h1 h2 e⟩
 .rw[Ej] at e
  cases hf:aO fr k with
  |none=>rw[hf] at e;cases e
  |some g=>
   rw[hf] at e;cases e;obtain⟨v,h1,h2⟩:=r.fx k g hf;exact⟨v,h1,JM hxy h2⟩
 .obtain⟨m0,B0,h1,h2,h3⟩:=inv m B e
  obtain⟨os,h4,h5⟩:=r.bx m0 B0 h1;refine⟨os,?_,h5⟩;have hr:=rho m m0 h3
  cases B0 with
  |b=>cases h2;obtain⟨vs,q1,q2,q3,q4⟩:=h4;exact⟨vs,by rw[hr];exact q1,q2,q3,q4⟩
  |c=>cases h2;obtain⟨vs,q1,q2,q3,q4,q5⟩:=h4;exact⟨vs,by rw[hr];exact q1,q2,q3,q4,by rw[hr];exact q5⟩
  |o ty cs lo=>cases h2;obtain⟨b,q,q1,q2,q3⟩:=h4;exact⟨b,q,by rw[hr];exact q1,q2,F8 hxy q3⟩
 .obtain⟨m0,B0,h1,_,h3⟩:=inv m B e
  obtain⟨m1,B1,h4,_,h6⟩:=inv m' B' e';have q1:=rho m m0 h3;have q2:=rho m' m1 h6;simp only at q1 q2;rw[q1,q2];refine r.dj m0 m1 B0 B1 h1 h4 fun e=>?_;rcases h3 with⟨h7,h8⟩|⟨h7,h8,h9⟩<;>rcases h6 with⟨g7,g8⟩|⟨g7,g8,g9⟩
  .exact hne (h7.trans g7.symm)
  .exact g8 (by rw[<-g9,<-e,h8])
  .exact h8 (by rw[<-h9,e,g8])
  .exact hne (by rw[<-h9,e,g9])
def fE(x y:Nat){fr1:aB}{own1:aF}{e:Exit}(h:yK x y fr own=some ⟨fr1,own1⟩)(k:ao prog GB C n Q0 fr1 own1 (.ex e K))(hy:Nat.blt y 2000000=true:=by rfl):ao prog GB C n Q0 fr own (.ex e K):=We hy h k
def ay4{d nm:Nat}(hnm:Nat.blt nm 2000000=true)(hl:aO fr d=some .nl){Φ:Act->World->Prop}{ty s:Nat}(hf:kt [nm] none (aO fr) (ba own))(h:SX GB C n (aO ((d, .rw nm)::fr)) (ba (mv own nm (some (.b ty s [] true)))) Φ):SX GB C n (aO fr) (ba own) Φ:=by
 refine⟨fun ρ G ov a w r=>?_⟩;obtain⟨f1,f2⟩:=hf nm aZ;have hset:ba (mv own nm (some (.b ty s [] true)))=upB (ba own) [(nm,some (.b ty s [] true))]:=by funext j;rw[xo];rfl
 rw[hset] at h;refine h.run (fun k=>if k=nm then⟨none,0,0⟩ else ρ k) G ov a w ⟨r.gb,r.h,r.sz,r.df,fun k f e=>?_,fun m B e=>?_,fun m m' B B' e e' hne=>?_,fun m p h1 h2 e=>by
  have:nm<2000000:=by simpa[mL] using hnm
  show(if m=nm then(⟨none,0,0⟩:SV) else ρ m).a=_;rw[if_neg (by omega)];exact r.fxd m p h1 h2 e⟩
 .rw[kj] at e
  split at e
  .cases e;rename_i hk;subst hk
   obtain⟨v,h1,h2⟩:=r.fx _ _ hl;exact⟨v,h1,by rw[show v=_ from h2];show _=_;simp⟩
  .obtain⟨v,h1,h2⟩:=r.fx k f e
   exact⟨v,h1,h2.ren fun m hm=>vm _ fun hc=>f1 k f (by simp) e (by rw[hm,hc])⟩
 .simp only[upB] at e
  by_cases hm:m=nm
  .subst hm;simp only[if_true] at e;cases e
   exact⟨[],⟨[],by simp only[if_true];exact .inl ⟨J,J,J⟩, .nil,by simp,fun _ o ho=>by cases ho⟩,fun o ho=>by cases ho⟩
  .simp only[hm,if_false] at e
   obtain⟨os,h1,h2⟩:=r.bx m B e;exact⟨os,h1.ren (if_neg hm) fun q hq=>vm _ fun hc=>f2 m B hm e (by rw[<-hc];exact hq),h2⟩
 .simp only[upB] at e e'
  intro b hb hb';by_cases hm:m=nm
  .simp[hm] at hb
  .by_cases hm':m'=nm
   .simp[hm'] at hb'
   .simp only[hm,hm',if_false] at e e' hb hb'
    exact r.dj m m' B B' e e' hne b hb hb'
def nr(d nm ty s:Nat){own1:aF}{c:Code}(hl:aO fr d=some .nl)(hf:vz [nm] none fr own=true)(ho:vb own nm (some (.b ty s [] true)) id=own1)(k:ao prog GB C n Q0 ((d, .rw nm)::fr) own1 (.code c K))(hnm:Nat.blt nm 2000000=true:=by rfl):ao prog GB C n Q0 fr own (.code c K):=by
 subst ho;exact ay4 hnm hl (Ae hf) k
def iH:List (Option DV)->Nat->List DV
 |[],_=>[]
 |some d::t,b=>d::iH t b
 |none::t,b=> .v (.pointer (some ⟨b,0,none⟩))::iH t b
def C7(lk:LK):List Operand->Option (Option Nat×List (Option DV))
 |[]=>some (none,[])
 |x::t=>match aH lk x,C7 lk t with
  |some (.ov nm 0),some (none,l)=>some (some nm,none::l)
  |some f,some (q,l)=>match jG f with
   |some d=>some (q,some d::l)
   |none=>none
  |_,_=>none
def IH(lk:LK)(fo:Operand)(args:Array Operand):Option (FuncId×Nat×List (Option DV)):=match aH lk fo with
 |some (.d (.v (.func (.func f) ⟨[]⟩ ⟨[]⟩)))=>match C7 lk args.toList with
  |some (some nm,l)=>some (f,nm,l)
  |_=>none
 |_=>none
def Iu{lk:LK}{bk:BM}{ρ:NE}{G:Gh}{ov:List aw}{a:Act}{w:World}(r:bA GB C n lk bk ρ G ov a w){b:Nat}: ∀{x:List Operand} {q:Option Nat} {l:List (Option DV)},C7 lk x=some (q,l)->(∀nm,q=some nm->(ρ nm).a=some ⟨b,0,none⟩)->
  ∃y,f8 (cE a) x=some y/\IsLs G (iH l b) y
 |[],q,l,e,_=>by cases e;exact⟨[],J, .nil⟩
 |x::t,q,l,e,hb=>by
  simp only[C7] at e;split at e
  .rename_i nm l' h1 h2
   cases e
   obtain⟨y,h3,b',h4,rfl⟩:=r.ev h1;have:=hb nm J;rw[h4] at this;cases this;obtain⟨ys,h5,h6⟩:=Iu r (b:=b) h2 (fun nm e=>by cases e);exact⟨_::ys,by simp only[f8,h3,h5], .cons ((bc (G:=G)).2 J) h6⟩
  .rename_i f q' l' _ h1 h2
   cases hd:jG f with
   |none=>rw[hd] at e;cases e
   |some d=>
   rw[hd] at e;cases e;obtain⟨y,h3,h4⟩:=r.ev h1;obtain⟨ys,h5,h6⟩:=Iu r (b:=b) h2 hb;exact⟨y::ys,by simp only[f8,h3,h5], .cons (mI h4 hd) h6⟩
  .cases e
def bA.lend{lk:LK}{bk:BM}{ρ:NE}{G:Gh}{ov:List aw}{a:Act}{w:World}{nm:Nat}{ty:TypeId}{cs:List FX}{lo:Bool}{csd:List DV}(r:bA GB C n lk bk ρ G ov a w)(hb:bk nm=some (.o ty cs lo))(hc:jo cs=some csd):
  ∃b m rest,(ρ nm).a=some ⟨b,0,none⟩/\IsLs G csd m/\ov.Perm ([⟨b,m,ty,lo⟩]++rest)/\ ∀o∈ov,o.b≠b->o∈rest:=by
 obtain⟨os,⟨b,m,h1,rfl,h2⟩,h3⟩:=r.bx _ _ hb;obtain⟨l1,l2,rfl⟩:=lX (h3 _ aZ);refine⟨b,m,l1++l2,h1,ry h2 hc,nW,fun o ho hne=>?_⟩;rcases bK.1 ho with ho|ho
 .exact bM _ ho
 .rcases aT.1 ho with rfl|ho
  .exact absurd J hne
  .exact cW _ ho
def V8{P:Program}{lk:LK}{bk:BM}{fo:Operand}{args:Array Operand}{tys:Array TypeId}{f:FuncId}{nm:Nat}{l:List (Option DV)}{rv:DV}{dst:Option Nat}{ty ty0:TypeId}{pos:String}{af:Array Edge}{gd:Option (Nat×Bool)}{cs:List FX}{csd cs':List DV}{lo:Bool}
  (ha:IH lk fo args=some (f,nm,l))(hb:bk nm=some (.o ty0 cs lo))(hc:jo cs=some csd)(hF: ∀b,PM GB P f (iH l b) b ty0 csd rv cs'){csx:List FX}(hx:cs'.map .d=csx):bG P GB C n lk bk ⟨dst, .call ⟨.value fo,args,tys⟩,ty,pos,af,gd⟩ (.d rv) [(nm,some (.o ty0 csx lo))] []:=by
 intro hd tl tb K' s1 s2 hf hk;refine⟨fun ρ G ov a w r Q=>?_⟩;subst hx;have r1:=r.mono s1 s2;unfold IH at ha;split at ha<;>try (cases ha;done)
 rename_i h1;split at ha<;>cases ha;rename_i h2;obtain⟨y,hy,hy'⟩:=r1.ev h1;rw[(bc (G:=G)).1 hy'] at hy;obtain⟨b,m,rest,h3,h4,h5,h6⟩:=r1.lend hb hc;obtain⟨vs,h7,h8⟩:=Iu r1 (b:=b) h2 (fun nm e=>by cases e;exact h3);refine CJ (M:=[⟨b,m,ty0,lo⟩]) (rest:=rest) hy h7 h5 (hF b G vs m lo r.gb h8 h4) hd (fun v css G' hG hl hK a' w' rl=>?_) a w Q ⟨r.h,r.sz,c8 a,r.df⟩;obtain⟨hr,m',rfl,hm'⟩:=hK;have rl':gD C n (Sx.put (cE a) dst v) (⟨b,m',ty0,lo⟩::rest) G' a' w':=rl;have r2:=r.upB (G':=G') (ov':=⟨b,m',ty0,lo⟩::rest) (w':=w') (B':= .o ty0 (cs'.map .d) lo) (os:=[⟨b,m',ty0,lo⟩]) hG.le rl'.h ⟨b,m',h3,J,tI hm'⟩ (fun o ho=>by rw[aU.1 ho];exact aZ)
  (fun o ho hne=>aK _ (h6 o ho fun e=>hne (by rw[h3,e]))) ⟨_,s2 _ _ hb⟩
 exact hk.run ρ G' _ a' w' (r2.put (f:= .d rv) hr (kO rl'))
structure Yz where
 f:FuncId
 nm:Nat
 l:List (Option DV)
 ty:TypeId
 cs:List DV
 lo:Bool
def Oz(fr:aB)(own:aF)(cf:Cf):Option Yz:=match cg fr cf with
 |some ⟨_, .call ⟨.value fo,args,_⟩,_,_,_,_⟩=>match IH (bz fr cf) fo args with
  |some (f,nm,l)=>match ir fr own cf nm with
   |some (.o ty cs lo)=>match jo cs with
    |some csd=>some ⟨f,nm,l,ty,csd,lo⟩
    |none=>none
   |_=>none
  |none=>none
 |_=>none
def ya{α:Type}:List DV->(List FX->α)->α
 |[],k=>k []
 |d::t,k=>ya t fun t'=>k (.d d::t')
def Ew{α:Type}: ∀{l:List DV} {k:List FX->α},ya l k=k (l.map .d)
 |[],k=>rfl
 |d::t,k=>by simp only[ya];rw[Ew];rfl
def cm[fu:Fu]{f:FuncId}{nm:Nat}{l:List (Option DV)}{ty:TypeId}{cs cs':List DV}{lo:Bool}{rv:DV}(ha:Oz fr own cf=some ⟨f,nm,l,ty,cs,lo⟩)(hF: ∀b,PM GB prog f (iH l b) b ty cs rv cs')
  (hgo:(ya cs' fun csx=>dh tt n fu.n fr own cf (.d rv) [(nm,some (.o ty csx lo))] [])=⟨vc,fr',own',cf'⟩)(k:ao prog GB C n Q0 fr' own' cf')
  (hv:autoParam (ah vc) fn._auto_1):ao prog GB C n Q0 fr own cf:=by
 unfold Oz at ha;split at ha<;>try (cases ha;done)
 rename_i hh;split at ha<;>try (cases ha;done)
 rename_i h1;split at ha<;>try (cases ha;done)
 rename_i h2;split at ha<;>cases ha;rename_i h3;rw[Ew] at hgo;exact us hh (V8 h1 h2 h3 hF J) hgo hv k
abbrev NM:Nat:=1000000
def yj:Nat->List (Option DV)->aB
 |_,[]=>[]
 |i,some v::t=>(i, .d v)::yj (i+1) t
 |i,none::t=>(i, .ov NM 0)::yj (i+1) t
def IW(b:Nat): ∀l:List (Option DV),(iH l b).length=l.length
 |[]=>rfl
 |some d::t=>by simp[iH,IW b t]
 |none::t=>by simp[iH,IW b t]
def Io{b:Nat}{ρ:NE}{G:Gh}(hρ:(ρ NM).a=some ⟨b,0,none⟩): ∀{ds:List (Option DV)} {vs:List Value} (i:Nat),IsLs G (iH ds b) vs-> ∀k f,aO (yj i ds) k=some f-> ∃y,(∃j,k=i+j/\vs[j]? =some y)/\bF ρ G f y
 |[],vs,i,h,k,f,e=>by cases e
 |some d::t,vs,i,h,k,f,e=>by
  obtain⟨y,m,rfl,h1,h2⟩:=bu.1 h;simp only[yj] at e;rw[kj] at e;split at e
  .cases e;rename_i hk;exact⟨y,⟨0,hk,rfl⟩,h1⟩
  .obtain⟨u,⟨j,hj,hu⟩,h3⟩:=Io hρ (i+1) h2 k f e
   exact⟨u,⟨j+1,by omega,by simpa using hu⟩,h3⟩
 |none::t,vs,i,h,k,f,e=>by
  obtain⟨y,m,rfl,h1,h2⟩:=bu.1 h;simp only[yj] at e;rw[kj] at e;split at e
  .cases e;rename_i hk;exact⟨y,⟨0,hk,rfl⟩,b,hρ,(bc (G:=G)).1 h1⟩
  .obtain⟨u,⟨j,hj,hu⟩,h3⟩:=Io hρ (i+1) h2 k f e
   exact⟨u,⟨j+1,by omega,by simpa using hu⟩,h3⟩
def I3(C:aD)(b:Nat)(m:List Value)(ty:TypeId)(lo:Bool)(rv:DV)(cs':List DV):Ending->World->Prop:=xJ C [⟨b,m,ty,lo⟩] (fun v css G'=>Is G' rv v/\ ∃m',css=[m']/\IsLs G' cs' m')
def tC[fu:Fu]{b:Nat}{f:FuncId}{fb:Func}{c:Code}{k:Nat}{l:List (Option DV)}{cs cs':List DV}{ty:TypeId}{rv:DV}(hf:prog.funcs[f]? =some fb)(hb:fb.body=some c)(hn:(fb.name== "runtime.NumGoroutine")=false)(hm:fb.ntmps=k)(hlen:Nat.ble l.length k=true)
  (hgo:(ya cs fun csx=>go tt k fu.n [] (yj 0 l) [(NM,some (.o ty csx false))] (.code c []))=⟨vc,fr,own,cf⟩)(h: ∀C b m lo,C.mb=[b]->ao prog GB C k (gn C prog fb (I3 C b m ty lo rv cs')) fr own cf)
  (hv:autoParam (ah vc) fn._auto_1):PM GB prog f (iH l b) b ty cs rv cs':=by
 intro G vs m lo hg hvs hm';refine j'.introR hf hb hn hm (by rw[hvs.len,IW];exact hlen) fun C _ hmb hrd hfx=>?_;intro a w rl;refine xu hrd ?_;rw[Ew] at hgo;have h1:=gj (GB:=GB) (C:=C) (Q0:=gn C prog fb (I3 C b m ty lo rv cs')) hgo hv (h C b m lo (by simpa using hmb));refine h1.run (fun _=>⟨some ⟨b,0,none⟩,0,0⟩) G [⟨b,m,ty,false⟩] a w ⟨hg,rl.h,rl.sz,rl.df,fun k f e=>?_,fun nm B e=>?_,fun nm nm' B B' e e' hne=>?_,fun nm p _ _ e=>by rw[hfx] at e;cases e⟩
 .obtain⟨y,⟨j,hj,hy⟩,h2⟩:=Io (ρ:=fun _=>⟨some ⟨b,0,none⟩,0,0⟩) (b:=b) rfl 0 hvs k f e
  refine⟨y,rl.fr k y ?_,h2⟩;rw[hj];exact wY vs 0 j y hy
 .rw[jI] at e
  split at e
  .cases e;exact⟨[⟨b,m,ty,false⟩],⟨b,m,J,J,tI hm'⟩,fun o ho=>ho⟩
  .cases e
 .rw[jI] at e e'
  split at e<;>split at e'
  .rename_i h2 h3;exact absurd (h2.trans h3.symm) hne
  .cases e'
  .cases e
  .cases e
def Oy(own:aF)(nm:Nat):Option (TypeId×List DV):=match ba own nm with
 |some (.o ty cs false)=>match jo cs with
  |some l=>some (ty,l)
  |none=>none
 |_=>none
def jE{fb:Func}{b:Nat}{m:List Value}{ty:TypeId}{lo:Bool}{ds cs1 cs':List DV}{rv:DV}(hmb:C.mb=[b])(hr:sA tt fr own fb.results.toList=some ds)(ho:Oy own NM=some (ty,cs1))(hd:jn ds=rv)(hc:cs1=cs'):
  ao prog GB C n (gn C prog fb (I3 C b m ty lo rv cs')) fr own (.ex .ret []):=by
 refine⟨fun ρ G ov a w r=>?_⟩;obtain⟨vs,h1,h2⟩:=EF r hr;have hk:Is G rv (iv vs):=hd▸En h2;unfold Oy at ho;split at ho<;>try (cases ho;done)
 rename_i hb;split at ho<;>cases ho;rename_i hl;obtain⟨b',m',rest,h3,h4,h5,h6⟩:=r.lend hb hl;have hbb:b'=b:=by
  have:=(r.h.hown _ (h5.mem_iff.2 (bM _ aZ))).2.2.2 J;rw[hmb] at this;simpa using this
 subst hbb hc;exact rD (C:=C) (n:=n) (fr:=cE a) (own:=ov) (G:=G) (M:=[⟨b',m,ty,lo⟩]) (css:=[m']) (K:=fun v css G'=>Is G' rv v/\ ∃m',css=[m']/\IsLs G' cs1 m') h1 J ([⟨b',m',ty,false⟩]++rest) h5 (qS _ _) ⟨hk,m',J,h4⟩ a w ⟨r.h,r.sz,c8 a,r.df⟩
end
section
variable {GB:Gh} {C:aD} {n:Nat} {fr1 fr2:aB} {own1 own2:aF} {cf1 cf2:Cf} {vc1 vc2:List Prop} {Q0:Exit->Act->World->Prop} {fr fr':aB} {own own':aF} {cf cf':Cf} {vc:List Prop} {ops:Array Oper} {o:Oper} {K:List Kt} {r:List Oper}
def csd[fu1:Fu][fu2:Fu](d:Nat){p:Prop}{hp:Decidable p}(hl:aO fr d=some (.d (.v (.bool (@decide p hp)))))(g1:go tt n fu1.n [] ((d, .tt)::fr) own (.ops ops r K)=⟨vc1,fr1,own1,cf1⟩)(g2:go tt n fu2.n [] ((d, .ff)::fr) own (.ops ops r K)=⟨vc2,fr2,own2,cf2⟩)
  (k1:p->ao prog GB C n Q0 fr1 own1 cf1)(k2: ¬p->ao prog GB C n Q0 fr2 own2 cf2)
  (v1:p->ah vc1:=by intro;first|exact trivial|(simp only[ah];omega)|(simp only[ah,aJ,bZ,aR];omega))(v2: ¬p->ah vc2:=by intro;first|exact trivial|(simp only[ah];omega)|(simp only[ah,aJ,bZ,aR];omega)):ao prog GB C n Q0 fr own (.ops ops r K):=
 ji (fu1:=fu1) (fu2:=fu2) d hl g1 g2 (fun h=>k1 (of_decide_eq_true h)) (fun h=>k2 (of_decide_eq_false h)) (fun h=>v1 (of_decide_eq_true h)) (fun h=>v2 (of_decide_eq_false h))
def CN(d:Nat)(hl:aO fr d=some .nl){c:Code}(h:ao prog GB C n Q0 ((d, .d (.sl []))::fr) own (.code c K)):ao prog GB C n Q0 fr own (.code c K):=
 qb (g:= .d (.sl [])) hl (fun ρ G y hy=>(show Is G (.sl []) y from mI (ρ:=ρ) (f:= .nl) hy J)) h
def bG.to{lk:LK}{bk:BM}{o:Oper}{f g:FX}(h:bG prog GB C n lk bk o f [] [])(e: ∀ρ G y,bF ρ G f y->bF ρ G g y):bG prog GB C n lk bk o g [] []:=fun hd tl tb Q h1 h2 hf hk=>
 h hd tl tb Q h1 h2 hf ⟨fun ρ G ov a w r=>hk.run ρ G ov a w ⟨r.gb,r.h,r.sz,r.df,fun k f' e'=>by
  cases ho:o.dst with
  |none=>exact r.fx k f' (by simpa only[ho,er] using e')
  |some d=>
   have hr:=r.fx;simp only[ho,er] at e' hr;by_cases q:k=d
   .rw[if_pos q] at e';cases e'
    obtain⟨y,h3,h4⟩:=hr k f (by rw[if_pos q]);exact⟨y,h3,e _ _ _ h4⟩
   .rw[if_neg q] at e'
    exact hr k f' (by rw[if_neg q];exact e'),r.bx,r.dj,r.fxd⟩⟩
def xQ(fr:aB)(own:aF)(cf:Cf):Option (Oper×FX):=match cg fr cf with
 |some o=>match xU tt (bz fr cf) (ir fr own cf) o.dst o.op with
  |some ⟨none,f,[],[]⟩=>some (o,f)
  |_=>none
 |none=>none
def mr[fu1:Fu][fu2:Fu]{f:FX}{p:Prop}{hp:Decidable p}(hs:xQ fr own cf=some (o,f))(hb:uk f=some (@decide p hp))(g1:dh tt n fu1.n fr own cf .tt [] []=⟨vc1,fr1,own1,cf1⟩)(g2:dh tt n fu2.n fr own cf .ff [] []=⟨vc2,fr2,own2,cf2⟩)
  (k1:p->ao prog GB C n Q0 fr1 own1 cf1)(k2: ¬p->ao prog GB C n Q0 fr2 own2 cf2)
  (v1:p->ah vc1:=by intro;first|exact trivial|(simp only[ah];kernel_rfl)|(simp only[ah];omega)|(simp only[ah,aJ,bZ,aR];omega))(v2: ¬p->ah vc2:=by intro;first|exact trivial|(simp only[ah];kernel_rfl)|(simp only[ah];omega)|(simp only[ah,aJ,bZ,aR];omega)):ao prog GB C n Q0 fr own cf:=by
 unfold xQ at hs;split at hs<;>try (cases hs;done)
 rename_i o' hh;split at hs<;>cases hs;rename_i hc;obtain⟨dst,op,ty,pos,af,gd⟩:=o;have h0:=yY (P:=prog) (GB:=GB) (C:=C) (n:=n) (ty':=ty) (pos:=pos) (af:=af) (gd:=gd) eh hc (fun p e=>by cases e);by_cases h:p
 .exact us hh (bG.to h0 fun ρ G y hy=>by rw[vR hy hb,decide_eq_true h];exact J) g1 (v1 h) (k1 h)
 .exact us hh (bG.to h0 fun ρ G y hy=>by rw[vR hy hb,decide_eq_false h];exact J) g2 (v2 h) (k2 h)
def aFv{tl:LK}{tb:BM}{Ψ:Act->World->Prop}{d:Nat}{B:Bk}{f:FX}{v:DV}
  (hz: ∀lk bk ρ G ov a w,bA GB C n lk bk ρ G ov a w->bk d=some B-> ∃G' ov',bp G G'/\bt C ov' G' w/\(∀o∈ov,(ρ d).a≠some ⟨o.b,0,none⟩->o∈ov')/\ ∀y,bF ρ G f y->Is G' v y)(hk:SX GB C n (er tl (some d) (.d v)) (Sx.upB tb [(d,none)]) Ψ):SX GB C n (er tl (some d) f) (Sx.upB tb [(d,some B)]) Ψ:=by
 refine⟨fun ρ G ov a w r=>?_⟩;have hbd:Sx.upB tb [(d,some B)] d=some B:=by simp[Sx.upB]
 obtain⟨G',ov',h1,h2,h3,h4⟩:=hz _ _ ρ G ov a w r hbd;refine hk.run ρ G' ov' a w ⟨r.gb.trans h1,h2,r.sz,r.df,fun k g e=>?_,fun m B' e=>?_,fun m m' B1 B2 e e'=>?_,r.fxd⟩
 .by_cases hk:k=d
  .subst hk
   simp only[er,if_true] at e;cases e;obtain⟨y,g1,g2⟩:=r.fx k f (by simp[er]);exact⟨y,g1,h4 y g2⟩
  .simp only[er,hk,if_false] at e
   obtain⟨y,g1,g2⟩:=r.fx k g (by simp[er,hk,e]);exact⟨y,g1,g2.up h1⟩
 .simp only[Sx.upB] at e
  split at e
  .cases e
  .rename_i hm
   have e':Sx.upB tb [(d,some B)] m=some B':=by simp[Sx.upB,hm,e]
   obtain⟨os,g1,g2⟩:=r.bx m B' e';exact⟨os,g1.up h1,fun o ho=>h3 o (g2 o ho) fun hc=>r.dj m d B' B e' hbd hm _ (g1.blk ho) hc⟩
 .simp only[Sx.upB] at e e'
  split at e
  .cases e
  .rename_i hm
   split at e'
   .cases e'
   .rename_i hm'
    exact r.dj m m' B1 B2 (by simp[Sx.upB,hm,e]) (by simp[Sx.upB,hm',e'])
def bG.frz2{lk:LK}{bk:BM}{o:Oper}{d nm:Nat}{B:Bk}{f:FX}{v:DV}(hd:o.dst=some d)(h:bG prog GB C n lk bk o f [(nm,none),(d,some B)] [d])
  (hz: ∀lk bk ρ G ov a w,bA GB C n lk bk ρ G ov a w->bk d=some B-> ∃G' ov',bp G G'/\bt C ov' G' w/\(∀o∈ov,(ρ d).a≠some ⟨o.b,0,none⟩->o∈ov')/\ ∀y,bF ρ G f y->Is G' v y):bG prog GB C n lk bk o (.d v) [(nm,none),(d,none)] [d]:=by
 intro hd' tl tb K s1 s2 hf hk;refine h hd' tl tb K s1 s2 hf ?_;rw[hd] at hk⊢;exact aFv (tb:=Sx.upB tb [(nm,none)]) hz hk
def Wm(d:Nat)(nm:Option Nat):List (Nat×Option Bk):=match nm with
 |some nm=>[(nm,none),(d,none)]
 |none=>[(d,none)]
def mD[fu:Fu]{d:Nat}{nm:Option Nat}{e s b:Nat}{ds ds2:List DV}(ds':List DV)(h:Ec fr own cf=some ⟨d,nm,e,s,b,ds,ds2⟩)(hds:ds++ds2=ds')(ho2:cF s ds2)(hgo:dh tt n fu.n fr own cf (.d (.sl ds')) (Wm d nm) [d]=⟨vc,fr',own',cf'⟩)(k:ao prog GB C n Q0 fr' own' cf')
  (ho:nm.isNone=true->cF s ds/\0<ds2.length:=by intro h;first|(cases h;done)|exact⟨Fk rfl,by simp⟩)(hbd:(ds.length+ds2.length)*b<=140737488355328:=by simp;omega)
  (hv:autoParam (ah vc) fn._auto_1):ao prog GB C n Q0 fr own cf:=by
 obtain⟨o,h1,h2,h3⟩:=KJ (GB:=GB) (C:=C) (n:=n) h ds' hds ho ho2 hbd
 cases nm with
 |none=>exact us h1 (h3.frzRow h2) hgo hv k
 |some nm=>exact us h1 (bG.frz2 h2 h3 fun _ _ _ _ _ _ _ r hb=>r.frzRow hb) hgo hv k
def cB[fu:Fu]{f:FX}(hs:xQ fr own cf=some (o,f))(hb:uk f=some true)(hgo:dh tt n fu.n fr own cf .tt [] []=⟨vc,fr',own',cf'⟩)(k:ao prog GB C n Q0 fr' own' cf')
  (hv:autoParam (ah vc) fn._auto_1):ao prog GB C n Q0 fr own cf:=by
 unfold xQ at hs;split at hs<;>try (cases hs;done)
 rename_i o' hh;split at hs<;>cases hs;rename_i hc;obtain⟨dst,op,ty,pos,af,gd⟩:=o;have h0:=yY (P:=prog) (GB:=GB) (C:=C) (n:=n) (ty':=ty) (pos:=pos) (af:=af) (gd:=gd) eh hc (fun p e=>by cases e);exact us hh (bG.to h0 fun ρ G y hy=>by rw[vR hy hb];exact J) hgo hv k
def ck[fu:Fu]{f:FX}(hs:xQ fr own cf=some (o,f))(hb:uk f=some false)(hgo:dh tt n fu.n fr own cf .ff [] []=⟨vc,fr',own',cf'⟩)(k:ao prog GB C n Q0 fr' own' cf')
  (hv:autoParam (ah vc) fn._auto_1):ao prog GB C n Q0 fr own cf:=by
 unfold xQ at hs;split at hs<;>try (cases hs;done)
 rename_i o' hh;split at hs<;>cases hs;rename_i hc;obtain⟨dst,op,ty,pos,af,gd⟩:=o;have h0:=yY (P:=prog) (GB:=GB) (C:=C) (n:=n) (ty':=ty) (pos:=pos) (af:=af) (gd:=gd) eh hc (fun p e=>by cases e);exact us hh (bG.to h0 fun ρ G y hy=>by rw[vR hy hb];exact J) hgo hv k
def CK(nm:Nat){ty:TypeId}{cs:List FX}{lo:Bool}{ds:List DV}{own1:aF}{e:Exit}(hb:ba own nm=some (.o ty cs lo))(hc:jo cs=some ds)(ho:(nm,some (.o ty (ds.map .d) lo))::own=own1)(k:ao prog GB C n Q0 fr own1 (.ex e K)):ao prog GB C n Q0 fr own (.ex e K):=by
 subst ho;have old: ∀m B,ba ((nm,some (.o ty (ds.map .d) lo))::own) m=some B-> ∃B0,ba own m=some B0:=fun m B e=>by
  rw[jI] at e;split at e
  .rename_i h;subst h;exact⟨_,hb⟩
  .exact⟨_,e⟩
 refine⟨fun ρ G ov a w r=>k.run ρ G ov a w ⟨r.gb,r.h,r.sz,r.df,r.fx,fun m B e=>?_,fun m m' B B' e e'=>?_,r.fxd⟩⟩
 .rw[jI] at e
  split at e
  .rename_i h;subst h;cases e
   obtain⟨os,⟨b,m,h1,rfl,h2⟩,h3⟩:=r.bx _ _ hb;exact⟨_,⟨b,m,h1,J,tI (ry h2 hc)⟩,h3⟩
  .exact r.bx _ _ e
 .obtain⟨B0,h0⟩:=old _ _ e
  obtain⟨B1,h1⟩:=old _ _ e';exact r.dj m m' B0 B1 h0 h1
end
section
variable {GB:Gh} {C:aD} {n:Nat} {Q0:Exit->Act->World->Prop} {fr fr':aB} {own own':aF} {cf cf':Cf} {vc:List Prop} {ops:Array Oper} {o:Oper} {K:List Kt} {r:List Oper}
def Mp(GB:Gh)(C:aD)(n:Nat)(lk:LK)(bk:BM)(o:Oper)(ι:Type)(f:ι->FX)(bl:ι->List (Nat×Option Bk))(nw:List Nat):Prop:=
 b9 n o.dst=true-> ∀(tl:LK) (tb:BM) (K:Act->World->Prop),kl lk tl->kl bk tb->kt nw o.dst tl tb->(∀x,SX GB C n (er tl o.dst (f x)) (Sx.upB tb (bl x)) K)->SX GB C n tl tb (fun a w=> ∀Q,o.wp prog a w K Q)
def hdO:Cf->Option (Array Oper×Oper×List Oper×List Kt)
 | .ops ops (o::r) K=>some (ops,o,r,K)
 |_=>none
def If(n q:Nat)(fr:aB)(own:aF)(cf:Cf)(f:FX)(bl:List (Nat×Option Bk)):yq:=match cf with
 | .ops ops (o::r) K=>sH own bl fun own'=>yr fr o.dst f fun fr'=>go tt n q [] fr' own' (.ops ops r K)
 |_=>bad
def HF(n:Nat)(fr:aB)(own:aF)(cf:Cf)(nw:List Nat):Bool:=match cf with
 | .ops ops (o::_) _=>vz nw o.dst fr own&&b9 n o.dst&&vW ops (aO fr) o.guard
 |_=>false
def usF{q:Nat}{ι:Type}{f:ι->FX}{bl:ι->List (Nat×Option Bk)}{nw:List Nat}{vc:ι->List Prop}{fr':ι->aB}{own':ι->aF}{cf':ι->Cf}(hh:cg fr cf=some o)(ho:HF n fr own cf nw=true)(h:Mp GB C n (bz fr cf) (ir fr own cf) o ι f bl nw)
  (hgo: ∀x,If n q fr own cf (f x) (bl x)=⟨vc x,fr' x,own' x,cf' x⟩)(hv: ∀x,ah (vc x))(k: ∀x,ao prog GB C n Q0 (fr' x) (own' x) (cf' x)):ao prog GB C n Q0 fr own cf:=by
 obtain⟨ops,h1,h2⟩:=IB hh
 cases cf with
 |ops ops' r K=>
  cases r with
  |nil=>cases h1
  |cons o' r=>
   cases h1
   simp only[HF,bT] at ho;refine⟨fun ρ G ov a w rl=>?_⟩;show wpListIn _ _ _ _ _ (o::r) a w;unfold wpListIn;rw[if_pos (B9 ho.2 ρ G ov a w rl)];refine FN ((h ho.1.2 _ _ (fun a w=>a.defers=C.mks/\wpListIn (FW C.rd) 0 prog ops (cQ C.rd prog Q0 K) r a w) (kl.refl _) (kl.refl _) (Ae ho.1.1) (fun x=>?_)).run ρ G ov a w rl) fun a' w' k=>⟨k.1.trans rl.df.symm,k.2⟩;refine⟨fun ρ G ov a w r0=>⟨r0.df,SX.run (GB:=GB) (C:=C) (n:=n) ?_ ρ G ov a w r0⟩⟩;have hx:=hgo x;unfold If at hx;simp only[xw,Bs] at hx;have:=gj (GB:=GB) (C:=C) (Q0:=Q0) hx (hv x) (k x);show SX GB C n (er (aO fr) o.dst (f x)) (Sx.upB (ba own) (bl x)) _;rw[<-Jz,<-DW];exact this
 |_=>cases ho
def ayT{lk:LK}{bk:BM}{fo:Operand}{args:Array Operand}{tys:Array TypeId}{f:FuncId}{d:Nat}{ds:List DV}{ι:Type}{ty ty0:TypeId}{pos:String}{af:Array Edge}{gd:Option (Nat×Bool)}{cs':ι->List DV}
  (ha:wZ lk fo args=some (f,ds))(hF:PN GB prog f ds ty0 ι cs'):Mp GB C n lk bk ⟨some d, .call ⟨.value fo,args,tys⟩,ty,pos,af,gd⟩ ι (fun _=> .ov d 0) (fun x=>[(d,some (.o ty0 ((cs' x).map .d) true))]) [d]:=by
 intro hd tl tb K' s1 s2 hf hk;refine⟨fun ρ G ov a w r Q=>?_⟩;have r1:=r.mono s1 s2;obtain⟨h1,h2⟩:=Ik ha;obtain⟨y,hy,hy'⟩:=r1.ev h1;rw[(bc (G:=G)).1 hy'] at hy;obtain⟨vs,h3,h4⟩:=r1.evDs h2;refine wj (M:=[]) (rest:=ov) hy h3 (List.Perm.refl _) (hF G vs r.gb h4) hd (fun v own1 G' hG hK a' w' rl=>?_) a w Q ⟨r.h,r.sz,c8 a,r.df⟩;obtain⟨x,b,m,rfl,rfl,hm⟩:=hK;have rl':gD C n (Sx.put (cE a) (some d) (.pointer (some ⟨b,0,none⟩))) (⟨b,m,ty0,true⟩::ov) G' a' w':=by simpa[relo,iA] using rl
 have hnd:=(bR.1 rl'.h.nd).1;exact(hk x).run _ G' _ a' w' (r.new (x:=⟨some ⟨b,0,none⟩,0,0⟩) (B':= .o ty0 ((cs' x).map .d) true) (os:=[⟨b,m,ty0,true⟩]) hf hG.le rl'.h ⟨b,m,by simp,J,tI hm⟩ (fun o ho=>by rw[aU.1 ho];exact aZ)
  (fun o ho=>aK _ ho) (fun o ho e=>by cases e;exact hnd o ho J) (f:= .ov d 0) (y:= .pointer (some ⟨b,0,none⟩)) ⟨b,by simp,J⟩ (kO rl'))
def OL(fr:aB)(cf:Cf):Option (FuncId×List DV×Nat):=match cg fr cf with
 |some ⟨some d, .call ⟨.value fo,args,_⟩,_,_,_,_⟩=>match wZ (bz fr cf) fo args with
  |some (f,ds)=>some (f,ds,d)
  |none=>none
 |_=>none
def cn[fu:Fu]{f:FuncId}{d:Nat}{ds:List DV}{ty:TypeId}{ι:Type}{cs':ι->List DV}{vc:ι->List Prop}{fr':ι->aB}{own':ι->aF}{cf':ι->Cf}(ha:OL fr cf=some (f,ds,d))(hF:PN GB prog f ds ty ι cs')
  (hgo: ∀x,(ya (cs' x) fun csx=>If n fu.n fr own cf (.ov d 0) [(d,some (.o ty csx true))])=⟨vc x,fr' x,own' x,cf' x⟩)(k: ∀x,ao prog GB C n Q0 (fr' x) (own' x) (cf' x))(ho:HF n fr own cf [d]=true:=by rfl)
  (hv: ∀x,ah (vc x):=by intro;first|exact trivial|(simp only[ah];kernel_rfl)|(simp only[ah];omega)|(simp only[ah,aJ,bZ,aR];omega)):ao prog GB C n Q0 fr own cf:=by
 unfold OL at ha;split at ha<;>try (cases ha;done)
 rename_i hh;split at ha<;>cases ha;rename_i h1;simp only[Ew] at hgo;exact usF hh ho (ayT h1 hF) hgo hv k
def aI6(C:aD)(b:Nat)(m:List Value)(ty:TypeId)(lo:Bool)(ι:Type)(rv:ι->DV)(cs':ι->List DV):Ending->World->Prop:=xJ C [⟨b,m,ty,lo⟩] (fun v css G'=> ∃x,Is G' (rv x) v/\ ∃m',css=[m']/\IsLs G' (cs' x) m')
end
section
variable {GB:Gh} {C:aD} {n:Nat} {Q0:Exit->Act->World->Prop} {fr fr':aB} {own own':aF} {cf cf':Cf} {vc:List Prop} {ops:Array Oper} {o:Oper} {K:List Kt} {r:List Oper}
def aLY(fr:aB)(cf:Cf):Option Nat:=match cg fr cf with
 |some o=>o.dst
 |none=>none
def aIn(C:aD)(b:Nat)(ty:TypeId)(s:Nat)(ty2:TypeId)(ι:Type)(rows cs':ι->List DV):Ending->World->Prop:=tF C (fun v own' G'=> ∃x w m' B,v= .slice w.a w.n w.c/\own'=⟨b,m',ty,false⟩::B/\IsLs G' (cs' x) m'/\dl G' ⟨w,s,ty2,rows x,true⟩ B/\ ∀o∈B,b≠o.b)
end
section
variable {GB:Gh} {C:aD} {n:Nat} {Q0:Exit->Act->World->Prop} {fr fr':aB} {own own':aF} {cf cf':Cf} {vc:List Prop} {ops:Array Oper} {o:Oper} {K:List Kt} {r:List Oper}
def F1(C:aD)(ty:TypeId)(ι:Type)(cs:ι->List DV):Ending->World->Prop:=tF C (fun v own' G'=> ∃x b m,v= .pointer (some ⟨b,0,none⟩)/\own'=[⟨b,m,ty,true⟩]/\IsLs G' (cs x) m)
def fnN[fu:Fu]{f:FuncId}{fb:Func}{c:Code}{m:Nat}{ds:List DV}{ty:TypeId}{ι:Type}{cs:ι->List DV}(hf:prog.funcs[f]? =some fb)(hb:fb.body=some c)(hn:(fb.name== "runtime.NumGoroutine")=false)(hm:fb.ntmps=m)(hlen:Nat.ble ds.length m=true)
  (hgo:go tt m fu.n [] (tg 0 ds) [] (.code c [])=⟨vc,fr,own,cf⟩)(k: ∀C:aD,C.mb=[]->ao prog GB C m (gn C prog fb (F1 C ty ι cs)) fr own cf)
  (hv:autoParam (ah vc) fn._auto_1):PN GB prog f ds ty ι cs:=by
 intro G vs hg hvs;refine nv.introR hf hb hn hm (by rw[hvs.len];exact hlen) fun C _ hmb hrd hfx=>?_;intro a w rl;refine xu hrd ?_;have h:=gj (GB:=GB) (C:=C) (Q0:=gn C prog fb (F1 C ty ι cs)) hgo hv (k C (by simpa using hmb));exact h.run (fun _=>⟨none,0,0⟩) G [] a w ⟨hg,rl.h,rl.sz,rl.df,(fun k f e=>AJ hvs rl.fr k f e),(fun nm B e=>by cases e),(fun nm nm' B B' e=>by cases e),fun nm p _ _ e=>by rw[hfx] at e;cases e⟩
def rzN{fb:Func}{t d:Nat}{ty:TypeId}{ι:Type}{cs:ι->List DV}{cs1:List FX}{l:List DV}(x:ι)(hr:fb.results.toList=[.tmp t])(hl:aO fr t=some (.ov d 0))(hw:ba own d=some (.o ty cs1 true))(hc:jo cs1=some l)(hd:l=cs x):
  ao prog GB C n (gn C prog fb (F1 C ty ι cs)) fr own (.ex .ret []):=by
 refine⟨fun ρ G ov a w r=>?_⟩;subst hd;obtain⟨b,m,rest,h3,h4,h5,h6⟩:=r.lend hw hc;obtain⟨y,hy,b',hb',hy'⟩:=r.ev (x:= .tmp t) (f:= .ov d 0) hl;rw[h3] at hb';cases hb';subst hy';exact Zs (C:=C) (n:=n) (fr:=cE a) (own:=ov) (G:=G) (vs:=[.pointer (some ⟨b,0,none⟩)]) (by rw[hr];exact .tmp hy .nil) (⟨b,m,ty,true⟩::rest) [⟨b,m,ty,true⟩] (by simpa using h5) (.cons_cons _ (lJ _)) (fun _=>⟨x,b,m,J,J,h4⟩) a w ⟨r.h,r.sz,c8 a,r.df⟩
def Ff[fu:Fu]{d:Nat}{l:List DV}(h:OJ fr cf=some (d,l))(hgo:dh tt n fu.n fr own cf (.d (.pt l)) [(d,none)] [d]=⟨vc,fr',own',cf'⟩)(k:ao prog GB C n Q0 fr' own' cf')
  (hv:autoParam (ah vc) fn._auto_1):ao prog GB C n Q0 fr own cf:=by
 unfold OJ at h;split at h<;>try (cases h;done)
 rename_i hh;split at h<;>try (cases h;done)
 rename_i g hx;rw[cond_eq_ite] at h;split at h<;>try (cases h;done)
 rename_i hc;simp only[bT] at hc;split at h<;>cases h;rename_i hl;exact us hh (aCE hx hc.1 hc.2 hl) hgo hv k
end
section
variable {GB:Gh} {C:aD} {n:Nat} {Q0:Exit->Act->World->Prop} {fr fr':aB} {own own':aF} {cf cf':Cf} {vc:List Prop} {ops:Array Oper} {o:Oper} {K:List Kt} {r:List Oper}
def dP:List (Option DV)->SV->List DV
 |[],_=>[]
 |some d::t,w=>d::dP t w
 |none::t,w=> .v (.slice w.a w.n w.c)::dP t w
def BP(lk:LK):List Operand->Option (Option Nat×List (Option DV))
 |[]=>some (none,[])
 |x::t=>match aH lk x,BP lk t with
  |some (.rw nm),some (none,l)=>some (some nm,none::l)
  |some f,some (q,l)=>match jG f with
   |some d=>some (q,some d::l)
   |none=>none
  |_,_=>none
def vH(lk:LK)(fo:Operand)(args:Array Operand):Option (FuncId×Nat×List (Option DV)):=match aH lk fo with
 |some (.d (.v (.func (.func f) ⟨[]⟩ ⟨[]⟩)))=>match BP lk args.toList with
  |some (some nm,l)=>some (f,nm,l)
  |_=>none
 |_=>none
def AA{lk:LK}{bk:BM}{ρ:NE}{G:Gh}{ov:List aw}{a:Act}{w:World}(r:bA GB C n lk bk ρ G ov a w){z:SV}: ∀{x:List Operand} {q:Option Nat} {l:List (Option DV)},BP lk x=some (q,l)->(∀nm,q=some nm->ρ nm=z)->
  ∃y,f8 (cE a) x=some y/\IsLs G (dP l z) y
 |[],q,l,e,_=>by cases e;exact⟨[],J, .nil⟩
 |x::t,q,l,e,hb=>by
  simp only[BP] at e;split at e
  .rename_i nm l' h1 h2
   cases e
   obtain⟨y,h3,h4⟩:=r.ev h1
   cases (show y=_ from h4)
   obtain⟨ys,h5,h6⟩:=AA r (z:=z) h2 (fun nm e=>by cases e);have hz:=hb nm J;subst hz;exact⟨Value.slice (ρ nm).a (ρ nm).n (ρ nm).c::ys,by simp only[f8,h3,h5], .cons ((bc (G:=G)).2 J) h6⟩
  .rename_i f q' l' _ h1 h2
   cases hd:jG f with
   |none=>rw[hd] at e;cases e
   |some d=>
   rw[hd] at e;cases e;obtain⟨y,h3,h4⟩:=r.ev h1;obtain⟨ys,h5,h6⟩:=AA r (z:=z) h2 hb;exact⟨y::ys,by simp only[f8,h3,h5], .cons (mI h4 hd) h6⟩
  .cases e
def ayq{lk:LK}{bk:BM}{fo:Operand}{args:Array Operand}{tys:Array TypeId}{f:FuncId}{nm d:Nat}{l:List (Option DV)}{s:Nat}{ty ty0:TypeId}{pos:String}{af:Array Edge}{gd:Option (Nat×Bool)}{dsi dso pre post:List DV}{lo:Bool}(hne:Nat.beq nm d=false)
  (ha:vH lk fo args=some (f,nm,l))(hb:bk nm=some (.b ty0 s dsi lo))(hF:PB GB prog f (dP l) s ty0 dsi (fun w=> .tp (pre++ .v (.slice w.a w.n w.c)::post)) dso):bG prog GB C n lk bk ⟨some d, .call ⟨.value fo,args,tys⟩,ty,pos,af,gd⟩ (.bx true pre d post) [(nm,none),(d,some (.b ty0 s dso lo))] [d]:=by
 intro hd tl tb K' s1 s2 hf hk;refine⟨fun ρ G ov a w r Q=>?_⟩;have r1:=r.mono s1 s2;unfold vH at ha;split at ha<;>try (cases ha;done)
 rename_i h1;split at ha<;>cases ha;rename_i h2;obtain⟨y,hy,hy'⟩:=r1.ev h1;rw[(bc (G:=G)).1 hy'] at hy;obtain⟨B,g1,g2⟩:=r1.bx _ _ hb;have hB:dl G ⟨ρ nm,s,ty0,dsi,lo⟩ B:=g1;obtain⟨vs,h7,h8⟩:=AA r1 (z:=ρ nm) h2 (fun nm e=>by cases e;rfl);have hp: ∃rest,ov.Perm (B++rest)/\ ∀o∈ov,(∀o'∈B,o.b≠o'.b)->o∈rest:=by
  rcases hB with⟨vs',⟨_,_,e⟩|⟨b0,r0,lo0,_,e,_⟩,_⟩
  .rw[e];exact⟨ov,List.Perm.refl _,fun o ho _=>ho⟩
  .rw[e] at g2⊢
   obtain⟨l1,l2,e2⟩:=lX (g2 _ aZ);rw[e2];refine⟨l1++l2,nW,fun o ho hno=>?_⟩;rcases bK.1 ho with ho|ho
   .exact bM _ ho
   .rcases aT.1 ho with rfl|ho
    .exact absurd J (hno _ aZ)
    .exact cW _ ho
 obtain⟨rest,h5,h6⟩:=hp;refine wj (M:=B) (rest:=rest) hy h7 h5 (hF G (ρ nm) vs B r.gb hB.weak h8) hd (fun v own1 G' hG hK a' w' rl=>?_) a w Q ⟨r.h,r.sz,c8 a,r.df⟩;obtain⟨z,hr,vs',k1,k2,k3,k4⟩:=hK;have k1':=k1.relo (iA B);have e2:lo=true-> ∀o∈own1.map (relo (iA B)),o.lo=true:=fun hl o ho=>by
  obtain⟨o',_,rfl⟩:=bQ.1 ho;obtain⟨_,_,_,_,hlo⟩:=hB;exact EY _ (hlo hl)
 generalize own1.map (relo (iA B))=B' at rl e2 k1';have rl':gD C n (Sx.put (cE a) (some d) v) (B'++rest) G' a' w':=rl;have hdis:=(gS.1 rl'.h.nd).2.2;have r2:=r.dropB nm;have hnn:nm≠d:=fun e=>by subst e;rw[oX] at hne;cases hne
 have hf2:kt [d] (some d) tl (Sx.upB tb [(nm,none)]):=fun q hq=>by
  obtain⟨f1,f2⟩:=hf q hq;refine⟨f1,fun k B e1 e=>?_⟩;simp only[Sx.upB] at e;split at e
  .cases e
  .exact f2 k B e1 e
 have hsep: ∀q B0,Sx.upB tb [(nm,none)] q=some B0-> ∀o∈ov,(ρ q).a=some ⟨o.b,0,none⟩->o∈rest:=fun q B0 e o ho hbq=>by
  simp only[Sx.upB] at e;split at e
  .cases e
  .rename_i hqn
   refine h6 o ho fun o' ho' he=>?_;exact r.dj nm q _ _ (s2 _ _ hb) e (Ne.symm hqn) o'.b (g1.blk ho') (by rw[hbq,he])
 obtain⟨m,rfl,hm⟩:=i8.1 hr;obtain⟨m1,m2',rfl,c1,c2⟩: ∃m1 m2',m=m1++m2'/\IsLs G' pre m1/\IsLs G' (.v (.slice z.a z.n z.c)::post) m2':=IsLs.unapp hm;obtain⟨u,m2,rfl,c3,c4⟩:=bu.1 c2;rw[bc.1 c3] at rl';have r3:=r2.new' (x:=z) (B':= .b ty0 s dso lo) (os:=B') (ov':=B'++rest) (f:= .bx true pre d post) (y:= .tuple ⟨m1++Value.slice z.a z.n z.c::m2⟩) hf2 hG.le rl'.h ⟨vs',by simpa using k1',k2,k3,e2⟩ (fun o ho=>bM _ ho)
  (fun q B0 hq e o ho hbq=>⟨cW _ (hsep q B0 e o ho hbq),fun hc=>by
   have hx: ∃o1∈B',o1.b=o.b:=by
    rcases k1' with⟨_,h,_⟩|⟨b0,rest0,lo0,h,hB,_⟩
    .rw[show z=_ from h] at hc;cases hc
    .rw[show z=_ from h] at hc;cases hc;exact⟨⟨_,aE vs'++rest0,_,lo0⟩,by rw[hB];exact aZ,J⟩
   obtain⟨o1,ho1,he1⟩:=hx;exact hdis o1 ho1 o (hsep q B0 e o ho hbq) he1⟩) ⟨m1,m2,by simp,c1,c4⟩ (kO rl')
 exact hk.run _ G' _ a' w' r3
structure WY where
 f:FuncId
 nm:Nat
 l:List (Option DV)
 ty:TypeId
 s:Nat
 ds:List DV
 lo:Bool
 d:Nat
def D6(fr:aB)(own:aF)(cf:Cf):Option WY:=match cg fr cf with
 |some ⟨some d, .call ⟨.value fo,args,_⟩,_,_,_,_⟩=>match vH (bz fr cf) fo args with
  |some (f,nm,l)=>match ir fr own cf nm with
   |some (.b ty s ds lo)=>bif Nat.beq nm d then none else some ⟨f,nm,l,ty,s,ds,lo,d⟩
   |_=>none
  |none=>none
 |_=>none
def cb[fu:Fu]{f:FuncId}{nm d:Nat}{l:List (Option DV)}{ty:TypeId}{s:Nat}{dsi dso pre post:List DV}{lo:Bool}(dso':List DV)(ha:D6 fr own cf=some ⟨f,nm,l,ty,s,dsi,lo,d⟩)(hF:PB GB prog f (dP l) s ty dsi (fun w=> .tp (pre++ .v (.slice w.a w.n w.c)::post)) dso)(he:dso=dso')
  (hgo:dh tt n fu.n fr own cf (.bx true pre d post) [(nm,none),(d,some (.b ty s dso' lo))] [d]=⟨vc,fr',own',cf'⟩)(k:ao prog GB C n Q0 fr' own' cf')
  (hv:autoParam (ah vc) fn._auto_1):ao prog GB C n Q0 fr own cf:=by
 subst he;unfold D6 at ha;split at ha<;>try (cases ha;done)
 rename_i hh;split at ha<;>try (cases ha;done)
 rename_i h1;split at ha<;>try (cases ha;done)
 rename_i h2;rw[cond_eq_ite] at ha;split at ha<;>cases ha;rename_i h3;exact us hh (ayq (by cases hq:Nat.beq nm d with|false=>rfl|true=>exact absurd hq h3) h1 h2 hF) hgo hv k
def xi:Nat->List (Option DV)->aB
 |_,[]=>[]
 |i,some v::t=>(i, .d v)::xi (i+1) t
 |i,none::t=>(i, .rw NM)::xi (i+1) t
def Cj(w:SV): ∀l:List (Option DV),(dP l w).length=l.length
 |[]=>rfl
 |some d::t=>by simp[dP,Cj w t]
 |none::t=>by simp[dP,Cj w t]
def D0{w:SV}{ρ:NE}{G:Gh}(hρ:ρ NM=w): ∀{ds:List (Option DV)} {vs:List Value} (i:Nat),IsLs G (dP ds w) vs-> ∀k f,aO (xi i ds) k=some f-> ∃y,(∃j,k=i+j/\vs[j]? =some y)/\bF ρ G f y
 |[],vs,i,h,k,f,e=>by cases e
 |some d::t,vs,i,h,k,f,e=>by
  obtain⟨y,m,rfl,h1,h2⟩:=bu.1 h;simp only[xi] at e;rw[kj] at e;split at e
  .cases e;rename_i hk;exact⟨y,⟨0,hk,rfl⟩,h1⟩
  .obtain⟨u,⟨j,hj,hu⟩,h3⟩:=D0 hρ (i+1) h2 k f e
   exact⟨u,⟨j+1,by omega,by simpa using hu⟩,h3⟩
 |none::t,vs,i,h,k,f,e=>by
  obtain⟨y,m,rfl,h1,h2⟩:=bu.1 h;simp only[xi] at e;rw[kj] at e;split at e
  .cases e;rename_i hk;exact⟨y,⟨0,hk,rfl⟩,by show y=_;rw[hρ];exact bc.1 h1⟩
  .obtain⟨u,⟨j,hj,hu⟩,h3⟩:=D0 hρ (i+1) h2 k f e
   exact⟨u,⟨j+1,by omega,by simpa using hu⟩,h3⟩
def Fe(C:aD)(s:Nat)(ty:TypeId)(pre post dso:List DV):Ending->World->Prop:=tF C (fun v own' G'=> ∃w',Is G' (.tp (pre++ .v (.slice w'.a w'.n w'.c)::post)) v/\dl G' ⟨w',s,ty,dso,false⟩ own')
def JR[fu:Fu]{f:FuncId}{fb:Func}{c:Code}{k s:Nat}{l:List (Option DV)}{dsi dso pre post:List DV}{ty:TypeId}(hf:prog.funcs[f]? =some fb)(hb:fb.body=some c)(hn:(fb.name== "runtime.NumGoroutine")=false)(hm:fb.ntmps=k)(hlen:Nat.ble l.length k=true)
  (hgo:go tt k fu.n [] (xi 0 l) [(NM,some (.b ty s dsi false))] (.code c [])=⟨vc,fr,own,cf⟩)(h: ∀C,ao prog GB C k (gn C prog fb (Fe C s ty pre post dso)) fr own cf)
  (hv:autoParam (ah vc) fn._auto_1):PB GB prog f (dP l) s ty dsi (fun w=> .tp (pre++ .v (.slice w.a w.n w.c)::post)) dso:=by
 intro G w vs B hg hB hvs;refine nv.introR hf hb hn hm (by rw[hvs.len,Cj];exact hlen) fun C _ hmb hrd hfx=>?_;intro a wd rl;refine xu hrd ?_;have h1:=gj (GB:=GB) (C:=C) (Q0:=gn C prog fb (Fe C s ty pre post dso)) hgo hv (h C);refine h1.run (fun _=>w) G (Sx.asB B) a wd ⟨hg,rl.h,rl.sz,rl.df,fun k f e=>?_,fun nm B' e=>?_,fun nm nm' B' B2 e e' hne=>?_,fun nm p _ _ e=>by rw[hfx] at e;cases e⟩
 .obtain⟨y,⟨j,hj,hy⟩,h2⟩:=D0 (ρ:=fun _=>w) (w:=w) rfl 0 hvs k f e
  refine⟨y,rl.fr k y ?_,h2⟩;rw[hj];exact wY vs 0 j y hy
 .rw[jI] at e
  split at e
  .cases e;exact⟨Sx.asB B,hB.asB,fun o ho=>ho⟩
  .cases e
 .rw[jI] at e e'
  split at e<;>split at e'
  .rename_i h2 h3;exact absurd (h2.trans h3.symm) hne
  .cases e'
  .cases e
  .cases e
def RT{B:List aw}{G:Gh}{w:SV}{s:Nat}{ty:TypeId}{ds:List DV}{lo:Bool}{ov:List aw}(h:dl G ⟨w,s,ty,ds,lo⟩ B)(g: ∀o∈B,o∈ov): ∃rest,ov.Perm (B++rest):=by
 rcases h with⟨vs',⟨_,_,e⟩|⟨b0,r0,lo0,_,e,_⟩,_⟩
 .rw[e];exact⟨ov,List.Perm.refl _⟩
 .rw[e] at g⊢
  obtain⟨l1,l2,e2⟩:=lX (g _ aZ);rw[e2];exact⟨l1++l2,nW⟩
def Gs{fb:Func}{t u d s:Nat}{ty:TypeId}{ds dso:List DV}{f:FX}{v v':DV}(hr:fb.results.toList=[.tmp t, .tmp u])(hl:aO fr t=some (.rw d))(hu:aO fr u=some f)(hd:jG f=some v)(hw:ba own d=some (.b ty s ds false))(ed:ds=dso)(ev:v=v'):
  ao prog GB C n (gn C prog fb (Fe C s ty [] [v'] dso)) fr own (.ex .ret []):=by
 subst ed ev;refine⟨fun ρ G ov a w r=>?_⟩;obtain⟨B,g1,g2⟩:=r.bx _ _ hw;have hB:dl G ⟨ρ d,s,ty,ds,false⟩ B:=g1;obtain⟨rest,hp⟩:=RT hB g2;obtain⟨y,hy,hy'⟩:=r.ev (x:= .tmp t) (f:= .rw d) hl
 cases (show y=_ from hy')
 obtain⟨z,hz,hz'⟩:=r.ev (x:= .tmp u) (f:=f) hu;exact So (C:=C) (n:=n) (fr:=cE a) (own:=ov) (G:=G) (vs:=[.slice (ρ d).a (ρ d).n (ρ d).c,z]) (by rw[hr];exact .tmp hy (.tmp hz .nil)) (B++rest) B hp (qS _ _)
  ⟨ρ d,i8.2 ⟨_,J, .cons (bc.2 J) (.cons (mI hz' hd) .nil)⟩,hB⟩ a w ⟨r.h,r.sz,c8 a,r.df⟩
def Co(lk:LK):List Operand->Option (List (Option DV))
 |[]=>some []
 |x::t=>match aH lk x,Co lk t with
  |some .nl,some l=>some (none::l)
  |some f,some l=>match jG f with
   |some d=>some (some d::l)
   |none=>none
  |_,_=>none
def JV(lk:LK)(fo:Operand)(args:Array Operand):Option (FuncId×List (Option DV)):=match aH lk fo with
 |some (.d (.v (.func (.func f) ⟨[]⟩ ⟨[]⟩)))=>match Co lk args.toList with
  |some l=>some (f,l)
  |_=>none
 |_=>none
def HC{lk:LK}{bk:BM}{ρ:NE}{G:Gh}{ov:List aw}{a:Act}{w:World}(r:bA GB C n lk bk ρ G ov a w): ∀{x:List Operand} {l:List (Option DV)},Co lk x=some l-> ∃y,f8 (cE a) x=some y/\IsLs G (dP l ⟨none,0,0⟩) y
 |[],l,e=>by cases e;exact⟨[],J, .nil⟩
 |x::t,l,e=>by
  simp only[Co] at e;split at e
  .rename_i l' h1 h2
   cases e
   obtain⟨y,h3,h4⟩:=r.ev h1
   cases (show y=_ from h4)
   obtain⟨ys,h5,h6⟩:=HC r h2;exact⟨Value.slice none 0 0::ys,by simp only[f8,h3,h5], .cons ((bc (G:=G)).2 J) h6⟩
  .rename_i f l' _ h1 h2
   cases hd:jG f with
   |none=>rw[hd] at e;cases e
   |some d=>
   rw[hd] at e;cases e;obtain⟨y,h3,h4⟩:=r.ev h1;obtain⟨ys,h5,h6⟩:=HC r h2;exact⟨y::ys,by simp only[f8,h3,h5], .cons (mI h4 hd) h6⟩
  .cases e
def TA{lk:LK}{bk:BM}{fo:Operand}{args:Array Operand}{tys:Array TypeId}{f:FuncId}{d:Nat}{l:List (Option DV)}{s:Nat}{ty ty0:TypeId}{pos:String}{af:Array Edge}{gd:Option (Nat×Bool)}{dso pre post:List DV}
  (ha:JV lk fo args=some (f,l))(hF:PB GB prog f (dP l) s ty0 [] (fun w=> .tp (pre++ .v (.slice w.a w.n w.c)::post)) dso):bG prog GB C n lk bk ⟨some d, .call ⟨.value fo,args,tys⟩,ty,pos,af,gd⟩ (.bx true pre d post) [(d,some (.b ty0 s dso true))] [d]:=by
 intro hd tl tb K' s1 s2 hf hk;refine⟨fun ρ G ov a w r Q=>?_⟩;have r1:=r.mono s1 s2;unfold JV at ha;split at ha<;>try (cases ha;done)
 rename_i h1;split at ha<;>cases ha;rename_i h2;obtain⟨y,hy,hy'⟩:=r1.ev h1;rw[(bc (G:=G)).1 hy'] at hy;obtain⟨vs,h7,h8⟩:=HC r1 h2;refine wj (M:=[]) (rest:=ov) hy h7 (List.Perm.refl _) (hF G ⟨none,0,0⟩ vs [] r.gb ⟨[], .nil _ _, .nil,by simp,fun h=>by cases h⟩ h8) hd (fun v own1 G' hG hK a' w' rl=>?_) a w Q ⟨r.h,r.sz,c8 a,r.df⟩;obtain⟨z,hr,vs',k1,k2,k3,k4⟩:=hK;have k1':=k1.relo (iA []);have e2: ∀o∈own1.map (relo (iA [])),o.lo=true:=fun o ho=>by
  obtain⟨o',_,rfl⟩:=bQ.1 ho;rfl
 generalize own1.map (relo (iA []))=B' at rl e2 k1';have rl':gD C n (Sx.put (cE a) (some d) v) (B'++ov) G' a' w':=rl;have hdis:=(gS.1 rl'.h.nd).2.2;obtain⟨m,rfl,hm⟩:=i8.1 hr;obtain⟨m1,m2',rfl,c1,c2⟩: ∃m1 m2',m=m1++m2'/\IsLs G' pre m1/\IsLs G' (.v (.slice z.a z.n z.c)::post) m2':=IsLs.unapp hm;obtain⟨u,m2,rfl,c3,c4⟩:=bu.1 c2;rw[bc.1 c3] at rl';have r3:=r.new (x:=z) (B':= .b ty0 s dso true) (os:=B') (ov':=B'++ov) (f:= .bx true pre d post) (y:= .tuple ⟨m1++Value.slice z.a z.n z.c::m2⟩) hf hG.le rl'.h ⟨vs',by simpa using k1',k2,k3,fun _=>e2⟩ (fun o ho=>bM _ ho) (fun o ho=>cW _ ho)
  (fun o ho hc=>by
   have hx: ∃o1∈B',o1.b=o.b:=by
    rcases k1' with⟨_,h,_⟩|⟨b0,rest0,lo0,h,hB,_⟩
    .rw[show z=_ from h] at hc;cases hc
    .rw[show z=_ from h] at hc;cases hc;exact⟨⟨_,aE vs'++rest0,_,lo0⟩,by rw[hB];exact aZ,J⟩
   obtain⟨o1,ho1,he1⟩:=hx;exact hdis o1 ho1 o ho he1) ⟨m1,m2,by simp,c1,c4⟩ (kO rl')
 exact hk.run _ G' _ a' w' r3
def Tg(fr:aB)(cf:Cf):Option (FuncId×List (Option DV)×Nat):=match cg fr cf with
 |some ⟨some d, .call ⟨.value fo,args,_⟩,_,_,_,_⟩=>match JV (bz fr cf) fo args with
  |some (f,l)=>some (f,l,d)
  |none=>none
 |_=>none
def cbn[fu:Fu]{f:FuncId}{d:Nat}{l:List (Option DV)}{ty:TypeId}{s:Nat}{dso pre post:List DV}(dso':List DV)(ha:Tg fr cf=some (f,l,d))(hF:PB GB prog f (dP l) s ty [] (fun w=> .tp (pre++ .v (.slice w.a w.n w.c)::post)) dso)(he:dso=dso')
  (hgo:dh tt n fu.n fr own cf (.bx true pre d post) [(d,some (.b ty s dso' true))] [d]=⟨vc,fr',own',cf'⟩)(k:ao prog GB C n Q0 fr' own' cf')
  (hv:autoParam (ah vc) fn._auto_1):ao prog GB C n Q0 fr own cf:=by
 subst he;unfold Tg at ha;split at ha<;>try (cases ha;done)
 rename_i hh;split at ha<;>cases ha;rename_i h1;exact us hh (TA h1 hF) hgo hv k
end
end Go.Sx
end
