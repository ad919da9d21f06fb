import Derived.Test.YtidmgdlbilojcaaGreatDoorTi5
set_option linter.unusedSimpArgs false
set_option maxRecDepth 100000
set_option linter.unusedVariables false
section
namespace Go.Sx
open Go Go.Proofs Tryz
section
variable {P:Program} {T:TT} {GB:Gh} {C:Ctx} {n:Nat} {lk:LK} {bk:BM} {ρ:NE} {G:Gh} {ov:List Own} {a:Act} {w:World}
variable {dst:Option Nat} {t t' ty':TypeId} {pos:String} {af:Array Edge} {gd:Option (Nat×Bool)} {x y:Operand} {e s by_:Nat}
theorem ajG{vs:List Value}{rest cs:List Value}{i sz j:Nat}{v':Value}(hil:i<vs.length)(hvs: ∀v∈vs,(aag v).length=sz)(hv':aag v'=ovw (aag vs[i]) j cs)(hj:j+cs.length≤sz):ovw (aak vs++rest) (i*sz+j) cs=aak (vs.set i v')++rest:=by
 have hm:(aag vs[i]).length=sz:=hvs _ (cZ hil)
 have hl':(aag v').length=sz:=by rw[hv',ajP,hm]
 rw[←auA (rest:=rest) (u:=v') vs i hil hvs hl',hv']
 have hlv:=aar vs hvs
 have hle:i*sz+sz≤vs.length*sz:=by rw[←iW];exact bW _ hil
 generalize hmm:aag vs[i]=m at*
 have hX:aak vs++rest=(aak vs).take (i*sz)++(m++((aak vs).drop (i*sz+sz)++rest)):=by
  have t1:=ahT (rest:=rest) hvs hil
  rw[hmm] at t1
  obtain⟨_,t2⟩:=ahh t1
  have t3:m=((aak vs).drop (i*sz)).take sz:=by
   have:m=((aak vs++rest).drop (i*sz)).take sz:=t2
   rw[this,iS (by omega),dW (by rw[gT];omega)]
  rw[t3]
  conv=>lhs;rw[←jK (i*sz) (aak vs),←jK sz ((aak vs).drop (i*sz)),sS]
  simp[fT]
 have hP:((aak vs).take (i*sz)).length=i*sz:=by rw[cJ];omega
 generalize (aak vs).take (i*sz)=A at hX hP
 generalize (aak vs).drop (i*sz+sz)++rest=Z at hX
 rw[hX,←hP,avA A m Z (ovw m j cs) (by rw[ajP])]
 rw[acA _ m j (by omega),acA _ _ _ (by simp only[aV];omega)]
 rw[List.take_append,aR (by omega),Nat.add_sub_cancel_left,dW (by omega)]
 rw[mW,fX (by omega),lJ,show A.length+j+cs.length-A.length=j+cs.length by omega,iS (by omega)]
 simp[fT]
def stE(ag:Option Nat)(d:DV)(j:Nat)(u:DV):Option DV:=match d with
 | .ag l=>match ag with
  |some k=>bif u.okc&&(Nat.beq u.cells.length k&&Nat.ble (j+k) l.length) then some (.ag (ovD l j u.cells)) else none
  |none=>bif u.flat&&Nat.blt j l.length then some (.ag (l.set j u)) else none
 |d=>match ag with
  |some _=>none
  |none=>bif d.flat&&(u.flat&&Nat.beq j 0) then some u else none
theorem RlX.wroteRow{nm b:Nat}{ty:TypeId}{sz:Nat}{ds ds':List DV}{lo lo':Bool}{m':List Value}{own':List Own}(r:RlX GB C n lk bk ρ G ov a w)(hb:bk nm=some (.b ty sz ds lo))(ha:(ρ nm).a=some ⟨b,0,none⟩)(hB:abf G ⟨ρ nm,sz,ty,ds',lo⟩ [⟨b,m',ty,lo'⟩])
  (h1:⟨b,m',ty,lo'⟩∈own')(h2: ∀o∈ov,o.b≠b→o∈own'){K:Act→World→Prop}(hk:SX GB C n (upL lk dst .un) (Sx.upB bk [(nm,some (.b ty sz ds' lo))]) K){a':Act}{w':World}(rl:Rel C n (Sx.put (frA a) dst undef) own' G a' w'):K a' w':=by
 have r2:=r.upB (G':=G) (ov':=own') (w':=w') (B':= .b ty sz ds' lo) (GLe.refl _) rl.h (hB.toBk rfl) (fun o ho=>by rw[aY.1 ho];exact h1) (fun o ho hne=>h2 o ho fun e=>hne (by rw[ha,e])) ⟨_,hb⟩
 exact hk.run _ _ _ a' w' (r2.put rfl (abk rl))
theorem auM(cs:List Value)(o:Nat)(v:Value):ovw cs o [v]=cs.set o v:=rfl
theorem aEo{i:TI}{ag:Option Nat}{nm sz k j:Nat}{ty:TypeId}{ds ds':List DV}{lo:Bool}{d d' u:DV}(hi:afC P t=some i)(ha:i.ag=some ag)(hx:evX lk x=some (.be nm sz k j))(hb:bk nm=some (.b ty sz ds lo))(hy:evD lk y=some u)(he:ds[k]? =some d)(hl:stE ag d j u=some d')(hds:ds.set k d'=ds'):
  OpR P GB C n lk bk ⟨dst, .store t x y,ty',pos,af,gd⟩ .un [(nm,some (.b ty sz ds' lo))] []:=by
 intro hd tl tb K s1 s2 hf hk
 refine⟨fun ρ G ov a w r Q=>?_⟩
 subst hds
 have r1:=r.mono s1 s2
 obtain⟨y',h1,h2⟩:=r1.evD hy
 obtain⟨x',h3,b,hwb,rfl⟩:=r1.ev hx
 obtain⟨B,hB,hBo⟩:=r1.row (y:= .nilFunc) hb
 obtain⟨b',vs,rest,lo',e1,rfl,hv,hvs,hil,hup⟩:=hB.upd he
 rw[hwb] at e1;cases e1
 obtain⟨v,g1,g2⟩:=hv.get he
 obtain⟨g3,g4⟩:=aL.1 g1
 have hlv:=aar vs hvs
 have hle:k*sz+sz≤vs.length*sz:=by rw[←iW];exact bW _ hil
 have hml:(aag v).length=sz:=hvs _ (aS g1)
 cases ag with
 |some q=>
  have:=akl hi ha
  unfold stE at hl
  split at hl
  ·rename_i l
   simp only at hl
   cases hc:(u.okc&&(Nat.beq u.cells.length q&&Nat.ble (j+q) l.length)) with
   |false=>rw[hc] at hl;cases hl
   |true=>
    rw[hc] at hl;cases hl
    simp only[cX,Nat.ble_eq] at hc
    obtain⟨c1,c2,c3⟩:=hc
    replace c2:=aT c2
    obtain⟨c4,c5⟩:=h2.cells c1
    obtain⟨m,rfl,hm⟩:=abX.1 g2
    have hcl:(aag y').length=q:=by rw[c4.len,c2]
    have hmd:=hm.len
    have hsz:m.length=sz:=hml
    have key:=hup (.agg ⟨ovw m j (aag y')⟩) (.ag (ovD l j u.cells)) (abX.2 ⟨_,rfl,hm.ov c4⟩) (by show(ovw m j (aag y')).length=sz;rw[ajP,hsz])
    have hov:=ajG (rest:=rest) (v':= .agg ⟨ovw m j (aag y')⟩) (cs:=aag y') (j:=j) hil hvs (by rw[g4];rfl) (by omega)
    obtain⟨own',u1,u2,u3⟩:=agq.of_mem (cs':=ovw (aak vs++rest) (k*sz+j) (aag y')) (hBo _ aZ)
    refine alJ h3 h1 u1 hcl (by rw[aV];omega) (fK.2 c5) hd (fun a' w' rl=>?_) a w Q ⟨r.h,r.sz,aaN a,r.df⟩
    rw[hov] at u2
    exact r.wroteRow (s2 _ _ hb) hwb key u2 u3 hk rl
  ·simp at hl
 |none=>
  have:=ajB hi ha
  unfold stE at hl
  split at hl
  ·rename_i l
   simp only at hl
   cases hc:(u.flat&&Nat.blt j l.length) with
   |false=>rw[hc] at hl;cases hl
   |true=>
    rw[hc] at hl;cases hl
    simp only[cX,mL] at hc
    obtain⟨c1,c2⟩:=hc
    have hfl:=h2.flat c1
    have hcl:=adW hfl
    obtain⟨m,rfl,hm⟩:=abX.1 g2
    have hmd:=hm.len
    have hsz:m.length=sz:=hml
    have key:=hup (.agg ⟨m.set j y'⟩) (.ag (l.set j u)) (abX.2 ⟨_,rfl,hm.set j h2⟩) (by show(m.set j y').length=sz;rw[aN,hsz])
    have hov:=ajG (rest:=rest) (v':= .agg ⟨m.set j y'⟩) (cs:=[y']) (j:=j) hil hvs (by rw[g4];rfl) (by simp;omega)
    rw[auM] at hov
    obtain⟨own',u1,u2,u3⟩:=agq.of_mem (cs':=(aak vs++rest).set (k*sz+j) y') (hBo _ aZ)
    refine adM h3 h1 u1 (by rw[aV];omega) hfl hd (fun a' w' rl=>?_) a w Q ⟨r.h,r.sz,aaN a,r.df⟩
    rw[hov] at u2
    exact r.wroteRow (s2 _ _ hb) hwb key u2 u3 hk rl
  ·rename_i hna
   simp only at hl
   cases hc:(d.flat&&(u.flat&&Nat.beq j 0)) with
   |false=>rw[hc] at hl;cases hl
   |true=>
    rw[hc] at hl;cases hl
    simp only[cX] at hc
    obtain⟨c0,c1,c2⟩:=hc
    cases aT c2
    have hfl:=h2.flat c1
    have hcl:=adW hfl
    have hvl:=adW (g2.flat c0)
    have h1z:1=sz:=by rw[←hml,hvl];rfl
    have key:=hup y' d' h2 (by rw[hcl,←h1z];rfl)
    have hov:=ajG (rest:=rest) (v':=y') (cs:=[y']) (j:=0) hil hvs (by rw[g4,hvl,hcl];rfl) (by simp;omega)
    rw[auM] at hov
    obtain⟨own',u1,u2,u3⟩:=agq.of_mem (cs':=(aak vs++rest).set (k*sz+0) y') (hBo _ aZ)
    refine adM h3 h1 u1 (by rw[aV];omega) hfl hd (fun a' w' rl=>?_) a w Q ⟨r.h,r.sz,aaN a,r.df⟩
    rw[hov] at u2
    exact r.wroteRow (s2 _ _ hb) hwb key u2 u3 hk rl
def bdX(lk:LK)(dflt:Nat):Option Operand→Option Int
 |none=>some (dflt:Nat)
 |some o=>match evX lk o with
  |some (.d (.v (.int .i64 i)))=>some i
  |_=>none
theorem aDO{l:List DV}{lo hi:Option Operand}{nlo nhi:Nat}[hT:acJ P t e s by_](hx:evD lk x=some (.sl l))(ho:adn s l)(hlo:bdX lk 0 lo=some (nlo:Int))(hhi:bdX lk l.length hi=some (nhi:Int))(h1:nlo≤nhi)(h2:nhi≤l.length):
  OpR P GB C n lk bk ⟨dst, .slice t x lo hi none,ty',pos,af,gd⟩ (.d (.sl ((l.take nhi).drop nlo))) [] []:= .yd fun ρ G ov a w r=>by
 obtain⟨u,h3,h4⟩:=r.evD hx
 obtain⟨s',z,es,rfl,hsl,hl⟩:=adx.1 h4
 have hn:=hsl.len
 have hcap:=hsl.cap
 have hll:=hl.len
 have key: ∀mx',nhi≤mx'→mx'≤z.c→Is G (.sl ((l.take nhi).drop nlo)) (aoA z.a z.n z.c nlo nhi mx' s):=by
  intro mx' hm1 hm2
  rcases afy hsl hl ho with he|he
  ·subst he
   have:l=[]:=bS (by rw[←hll];rfl)
   subst this
   have e1:nhi=0:=by simp at h2;exact h2
   have e2:nlo=0:=by omega
   subst e1 e2
   refine adx.2 ⟨s,⟨_,0,mx'⟩,[],rfl,⟨rfl,bX _, .inl rfl⟩,by simpa using IsLs.nil⟩
  ·subst he
   refine adx.2 ⟨s',⟨_,_,_⟩,_,rfl,hsl.sub nlo nhi mx' h1 (by omega) hm1 hm2,(hl.take nhi).drop nlo⟩
 have bnd: ∀{o:Operand} {d:Nat} {i:Int},bdX lk d (some o)=some i→opv (frA a) o=some (.int .i64 i):=fun{o d i} h=>by
  simp only[bdX] at h
  split at h<;>cases h
  rename_i he
  obtain⟨q,g1,g2⟩:=r.ev he
  rw[aaw] at g2;subst g2;exact g1
 match lo,hi,hlo,hhi with
 |none,none,hlo,hhi=>
  simp only[bdX,Option.some.injEq] at hlo hhi
  have e1:nlo=0:=by omega
  have e2:nhi=l.length:=by omega
  subst e1 e2
  refine⟨_,key z.c (by omega) (aM _),?_⟩
  intro a w0 hf hh
  simp only[execOp,aad hf h3,qW]
  have h9:=afi (P:=P) (t:=t) (ad:=z.a) (len:=z.n) (cap:=z.c) w0 (lo:=none) (hi:=none) (mx:=none) (l:=0) (h:=l.length) (m:=z.c) (fun w0=>by
   simp[Instr.sliceBounds,Result.andThen,run_pure];omega)
  exact aap h9
 |none,some o2,hlo,hhi=>
  simp only[bdX,Option.some.injEq] at hlo
  have e1:nlo=0:=by omega
  subst e1
  refine⟨_,key z.c (by omega) (aM _),?_⟩
  have h9:=ac6 (P:=P) (C:=C) (own:=ov) (G:=G) (t:=t) (dst:=dst) (ty':=ty') (pos:=pos) (af:=af) (gd:=gd) h3 (bnd hhi) (by omega) (by omega)
  have e9:aoA z.a z.n z.c 0 nhi z.c s= .slice z.a nhi z.c:=by
   unfold aoA
   cases z.a with
   |none=>simp
   |some ad=>simp[Addr.add]
  rw[e9]
  simpa using h9
 |some o1,none,hlo,hhi=>
  simp only[bdX,Option.some.injEq] at hhi
  have e2:nhi=l.length:=by omega
  subst e2
  refine⟨_,key z.c (by omega) (aM _),?_⟩
  have h9:=aeL (P:=P) (C:=C) (own:=ov) (G:=G) (t:=t) (dst:=dst) (ty':=ty') (pos:=pos) (af:=af) (gd:=gd) h3 (bnd hlo) (by omega) (by omega)
  have e9:z.n=l.length:=by omega
  rw[bK,e9] at h9
  rw[e9]
  exact h9
 |some o1,some o2,hlo,hhi=>
  refine⟨_,key z.c (by omega) (aM _),?_⟩
  have h9:=amo (P:=P) (C:=C) (own:=ov) (G:=G) (t:=t) (dst:=dst) (ty':=ty') (pos:=pos) (af:=af) (gd:=gd) h3 (bnd hlo) (bnd hhi) (by omega) (by omega) (by omega)
  simpa using h9
theorem aB9{l:List DV}{hi mx:Operand}{nhi:Nat}[hT:acJ P t e s by_](hx:evD lk x=some (.sl l))(ho:adn s l)(hhi:bdX lk 0 (some hi)=some (nhi:Int))(hmx:bdX lk 0 (some mx)=some (nhi:Int))(h2:nhi≤l.length):
  OpR P GB C n lk bk ⟨dst, .slice t x none (some hi) (some mx),ty',pos,af,gd⟩ (.ct (l.take nhi)) [] []:= .yd fun ρ G ov a w r=>by
 obtain⟨u,h3,h4⟩:=r.evD hx
 obtain⟨s',z,es,rfl,hsl,hl⟩:=adx.1 h4
 have hn:=hsl.len
 have hcap:=hsl.cap
 have hll:=hl.len
 have bnd: ∀{o:Operand} {d:Nat} {i:Int},bdX lk d (some o)=some i→opv (frA a) o=some (.int .i64 i):=fun{o d i} h=>by
  simp only[bdX] at h
  split at h<;>cases h
  rename_i he
  obtain⟨q,g1,g2⟩:=r.ev he
  rw[aaw] at g2;subst g2;exact g1
 refine⟨.slice z.a nhi nhi,⟨⟨_,_,rfl⟩,atm hsl hl ho h2 (aM _) (by omega)⟩,?_⟩
 have h9:=arr (P:=P) (C:=C) (own:=ov) (G:=G) (t:=t) (dst:=dst) (ty':=ty') (pos:=pos) (af:=af) (gd:=gd) h3 (bnd hhi) (bnd hmx) (by omega) (Int.le_refl _) (by omega)
 simpa using h9
theorem asG{d:Nat}{i:TI}{z:DV}{ds ds2:List DV}[hT:acJ P t e s by_][hN:TyN P t'](hi:afC P e=some i)(hz:zeE i=some z)(hs:Nat.beq z.cells.length s=true)(hx:evX lk x=some (.ct ds)∨(evX lk x=some .nl∧ds=[]))(ox:adn s ds)(hy:at6 lk bk s y=some ds2)(hk2:adn s ds2)(hne:0<ds2.length)
  (hby:Nat.blt 0 by_=true)(hbd:(ds.length+ds2.length)*by_≤140737488355328){ds':List DV}(hds:ds++ds2=ds'):
  OpR P GB C n lk bk ⟨some d, .call ⟨.builtin .append, #[x,y], #[t,t']⟩,ty',pos,af,gd⟩ (.rw d) [(d,some (.b e s ds' true))] [d]:=by
 intro hd tl tb K s1 s2 hf hk
 refine⟨fun ρ G ov a w r Q=>?_⟩
 subst hds
 have r1:=r.mono s1 s2
 obtain⟨v,hz1,hz2,hz3⟩:=ajy hi hz
 have cz:=((hz2 G).cells hz3).1.len
 replace hs:=aT hs
 rw[mL] at hby
 obtain⟨w2,us,h1,h2,h3,h4,h5,h6⟩:=amY (P:=P) r1 hy hk2
 have hxs:at6 lk bk s x=some ds:=by
  unfold at6
  rcases hx with hx|⟨hx,rfl⟩<;>rw[hx]<;>rfl
 obtain⟨w1,vs,g1,g2,g3,g4,g5,g6⟩:=amY (P:=P) r1 hxs ox
 have hc1:w1.c=w1.n:=by
  rcases hx with hx|⟨hx,rfl⟩
  ·obtain⟨y1,k1,⟨a1,n1,rfl⟩,_⟩:=r1.ev hx
   rw[k1] at g1
   simp only[Option.some.injEq,Value.slice.injEq] at g1
   omega
  ·obtain⟨y1,k1,k2⟩:=r1.ev hx
   cases k2
   rw[k1] at g1
   simp only[Option.some.injEq,Value.slice.injEq] at g1
   omega
 have hl3:=h3.len
 have hl4:=g3.len
 have hall: ∀v∈vs++us,(aag v).length=s:=fun v hv=>by
  rcases bZ.1 hv with hv|hv
  ·exact g4 v hv
  ·exact h4 v hv
 refine adb (z:=v) (xs:=aak vs) (ys:=aak us) (ad:=w1.a) (len:=w1.n) (cap:=w1.c) g1 h1 g6 h6 (by omega) hby (by rw[g2,h2,hl3,hl4];exact hbd) hd (fun b cap' hc a' w' rl=>?_) a w Q ⟨r.h,r.sz,aaN a,r.df⟩
 rw[←ace] at rl
 have hnd':=(bR.1 rl.h.nd).1
 refine r.newRow (z:=⟨some ⟨b,0,none⟩,w1.n+w2.n,cap'⟩) (B:=[⟨b,aak (vs++us)++abo v (cap'-(w1.n+w2.n)),e,true⟩]) hf ⟨vs++us, .inr ⟨b,_,true,by simp[g2,h2],rfl,aar _ hall,?_,by simpa[g2,h2] using hc⟩,g3.app h3,hall,fun _ o ho=>by rw[aY.1 ho]⟩
  (fun o ho=>by rw[aY.1 ho];exact aZ) (fun m B' hm e o ho _=>⟨aJ _ ho,fun e'=>by cases e';exact hnd' o ho rfl⟩) hk rl
 rw[aar _ hall,aV,abP,cz,hs,←cS,g2,h2]
 congr 1
 rw[g2,h2] at hc
 dsimp only
 omega
end
section
variable {GB:Gh} {C:Ctx} {n:Nat} {Q0:Exit→Act→World→Prop} {fr fr':FrX} {own own':OwX} {cf cf':Cf} {vc:List Prop} {ops:Array Oper} {o:Oper} {K:List Kt} {r:List Oper}
def opC(fr:FrX)(cf:Cf):Option Oper:=match hdC cf with
 |some (ops,o)=>bif grd ops (lkC fr cf) o.guard then some o else none
 |none=>none
theorem ayU(h:opC fr cf=some o): ∃ops,hdC cf=some (ops,o)∧grd ops (lkC fr cf) o.guard=true:=by
 unfold opC at h
 split at h<;>try (cases h;done)
 rename_i ops o' hh
 cases hg:grd ops (lkC fr cf) o'.guard with
 |false=>rw[hg] at h;cases h
 |true=>rw[hg] at h;cases h;exact⟨ops,hh,hg⟩
theorem us{q:Nat}{f:FX}{bl:List (Nat×Option Bk)}{nw:List Nat}(hh:opC fr cf=some o)(h:OpR prog GB C n (lkC fr cf) (bkC fr own cf) o f bl nw)
  (hgo:goA tt n q fr own cf f bl nw=⟨vc,fr',own',cf'⟩)(hv:aaj vc)(k:CfS prog GB C n Q0 fr' own' cf'):CfS prog GB C n Q0 fr own cf:=by
 obtain⟨ops,h1,h2⟩:=ayU hh
 exact uo h1 h2 h hgo hv k
def aHQ(fr:FrX)(cf:Cf):Option (FuncId×List DV):=match opC fr cf with
 |some ⟨_, .call ⟨.value fo,args,_⟩,_,_,_,_⟩=>amd (lkC fr cf) fo args
 |_=>none
theorem cl[fu:Fu]{f:FuncId}{ds:List DV}{rv:DV}(ha:aHQ fr cf=some (f,ds))(hF:PF GB prog f ds rv)(hgo:goA tt n fu.n fr own cf (.d rv) [] []=⟨vc,fr',own',cf'⟩)(k:CfS prog GB C n Q0 fr' own' cf')
  (hv:aaj vc:=by first|exact trivial|(simp only[aaj];kernel_rfl)|(simp only[aaj];omega)|(simp only[aaj,aK,aN,aW];omega)):CfS prog GB C n Q0 fr own cf:=by
 unfold aHQ at ha
 split at ha<;>try (cases ha;done)
 rename_i hh
 exact us hh (atp ha hF) hgo hv k
def ixA(fr:FrX)(cf:Cf):Option (List DV×Int×Nat):=match opC fr cf with
 |some ⟨_, .indexAddr t x y,_,_,_,_⟩=>match evD (lkC fr cf) x with
  |some (.sl l)=>match evX (lkC fr cf) y with
   |some (.d (.v (.int _ i)))=>match abi tt t with
    |some ⟨.sl _ s _,_,_,_⟩=>some (l,i,s)
    |_=>none
   |_=>none
  |_=>none
 |_=>none
def ixG(n q:Nat)(fr:FrX)(own:OwX)(cf:Cf)(d:DV)(s:Nat):Res:=bif d.okc&&Nat.beq d.cells.length s then fcL d.cells fun cs=>goA tt n q fr own cf (.ep cs) [] [] else bad
theorem ix[fu:Fu](d:DV){l:List DV}{i:Int}{s:Nat}(h:ixA fr cf=some (l,i,s))(he:l[i.toNat]? =some d)(hgo:ixG n fu.n fr own cf d s=⟨vc,fr',own',cf'⟩)(k:CfS prog GB C n Q0 fr' own' cf')(h0:0≤i:=by omega)
  (hv:aaj vc:=by first|exact trivial|(simp only[aaj];kernel_rfl)|(simp only[aaj];omega)|(simp only[aaj,aK,aN,aW];omega)):CfS prog GB C n Q0 fr own cf:=by
 unfold ixA at h
 split at h<;>try (cases h;done)
 rename_i hh
 split at h<;>try (cases h;done)
 rename_i hx
 split at h<;>try (cases h;done)
 rename_i hy
 split at h<;>cases h
 rename_i hT
 have:=aeh (abM _ _ hT) rfl
 unfold ixG at hgo
 cases hc:(d.okc&&Nat.beq d.cells.length s) with
 |false=>simp only[hc,cond_false,bad] at hgo;cases hgo;exact absurd hv (fun x=>x)
 |true=>
  simp only[hc,cond_true,ahl] at hgo
  exact us hh (aEw hx hy h0 he hc) hgo hv k
structure LbA where
 ds:List DV
 k:Nat
 j:Nat
 ag:Option Nat
def aHv(fr:FrX)(own:OwX)(cf:Cf):Option LbA:=match opC fr cf with
 |some ⟨_, .load t x,_,_,_,_⟩=>match evX (lkC fr cf) x with
  |some (.be nm sz k j)=>match bkC fr own cf nm with
   |some (.b _ s ds _)=>bif Nat.beq s sz then(match abi tt t with
    |some i=>match i.ag with
     |some ag=>some ⟨ds,k,j,ag⟩
     |none=>none
    |none=>none) else none
   |_=>none
  |_=>none
 |_=>none
def aHc(n q:Nat)(fr:FrX)(own:OwX)(cf:Cf)(d:DV)(ag:Option Nat)(j:Nat):Res:=bif d.okc then(match ldE ag d.cells j with
 |some c=>goA tt n q fr own cf (.d c) [] []
 |none=>bad) else bad
theorem lb[fu:Fu](d:DV){ds:List DV}{k' j:Nat}{ag:Option Nat}(h:aHv fr own cf=some ⟨ds,k',j,ag⟩)(he:ds[k']? =some d)(hgo:aHc n fu.n fr own cf d ag j=⟨vc,fr',own',cf'⟩)(k:CfS prog GB C n Q0 fr' own' cf')
  (hv:aaj vc:=by first|exact trivial|(simp only[aaj];kernel_rfl)|(simp only[aaj];omega)|(simp only[aaj,aK,aN,aW];omega)):CfS prog GB C n Q0 fr own cf:=by
 unfold aHv at h
 split at h<;>try (cases h;done)
 rename_i hh
 split at h<;>try (cases h;done)
 rename_i hx
 split at h<;>try (cases h;done)
 rename_i ty s ds' lo hb
 rw[cond_eq_ite] at h
 split at h<;>try (cases h;done)
 rename_i hs
 cases aT hs
 split at h<;>try (cases h;done)
 rename_i hT
 split at h<;>cases h
 rename_i ha
 unfold aHc at hgo
 cases hc:d.okc with
 |false=>simp only[hc,cond_false,bad] at hgo;cases hgo;exact absurd hv (fun x=>x)
 |true=>
  simp only[hc,cond_true] at hgo
  cases hl:ldE ag d.cells j with
  |none=>simp only[hl,bad] at hgo;cases hgo;exact absurd hv (fun x=>x)
  |some c=>simp only[hl] at hgo;exact us hh (aD3 (abM _ _ hT) ha hx hb he hc hl) hgo hv k
structure SbA where
 nm:Nat
 ty:TypeId
 s:Nat
 ds:List DV
 lo:Bool
 k:Nat
 j:Nat
 ag:Option Nat
 u:DV
def aHg(fr:FrX)(own:OwX)(cf:Cf):Option SbA:=match opC fr cf with
 |some ⟨_, .store t x y,_,_,_,_⟩=>match evX (lkC fr cf) x with
  |some (.be nm sz k j)=>match bkC fr own cf nm with
   |some (.b ty s ds lo)=>bif Nat.beq s sz then(match abi tt t with
    |some i=>match i.ag with
     |some ag=>match evD (lkC fr cf) y with
      |some u=>some ⟨nm,ty,s,ds,lo,k,j,ag,u⟩
      |none=>none
     |none=>none
    |none=>none) else none
   |_=>none
  |_=>none
 |_=>none
theorem sb[fu:Fu](d:DV){nm:Nat}{ty:TypeId}{s:Nat}{ds:List DV}{lo:Bool}{k' j:Nat}{ag:Option Nat}{u d':DV}(ds':List DV)(h:aHg fr own cf=some ⟨nm,ty,s,ds,lo,k',j,ag,u⟩)(he:ds[k']? =some d)(hl:stE ag d j u=some d')(hds:ds.set k' d'=ds')
  (hgo:goA tt n fu.n fr own cf .un [(nm,some (.b ty s ds' lo))] []=⟨vc,fr',own',cf'⟩)(k:CfS prog GB C n Q0 fr' own' cf')
  (hv:aaj vc:=by first|exact trivial|(simp only[aaj];kernel_rfl)|(simp only[aaj];omega)|(simp only[aaj,aK,aN,aW];omega)):CfS prog GB C n Q0 fr own cf:=by
 unfold aHg at h
 split at h<;>try (cases h;done)
 rename_i hh
 split at h<;>try (cases h;done)
 rename_i hx
 split at h<;>try (cases h;done)
 rename_i hb
 rw[cond_eq_ite] at h
 split at h<;>try (cases h;done)
 rename_i hs
 cases aT hs
 split at h<;>try (cases h;done)
 rename_i hT
 split at h<;>try (cases h;done)
 rename_i ha
 split at h<;>cases h
 rename_i hy
 exact us hh (aEo (abM _ _ hT) ha hx hb hy he hl hds) hgo hv k
structure MkA where
 d:Nat
 e:Nat
 s:Nat
 b:Nat
 z:DV
 l:Int
def mkA(fr:FrX)(cf:Cf):Option MkA:=match opC fr cf with
 |some ⟨some d, .makeSlice t x y,_,_,_,_⟩=>match evX (lkC fr cf) x with
  |some (.d (.v (.int _ l)))=>match abi tt t with
   |some ⟨.sl e s b,_,_,_⟩=>match abi tt e with
    |some i=>match zeE i with
     |some z=>bif Nat.beq z.cells.length s then some ⟨d,e,s,b,z,l⟩ else none
     |none=>none
    |none=>none
   |_=>none
  |_=>none
 |_=>none
theorem mk[fu:Fu]{d e s b:Nat}{z:DV}{l:Int}{k':IntKind}(ds:List DV)(h:mkA fr cf=some ⟨d,e,s,b,z,l⟩)(hy:(match opC fr cf with|some ⟨_, .makeSlice _ _ y,_,_,_,_⟩=>evX (lkC fr cf) y|_=>none)=some (.d (.v (.int k' l))))(hds:List.replicate l.toNat z=ds)
  (hgo:goA tt n fu.n fr own cf (.rw d) [(d,some (.b e s ds true))] [d]=⟨vc,fr',own',cf'⟩)(k:CfS prog GB C n Q0 fr' own' cf')(h0:0≤l:=by omega)(hb:b*l≤140737488355328:=by omega)(hl:l≤1152921504606846976:=by omega)
  (hv:aaj vc:=by first|exact trivial|(simp only[aaj];kernel_rfl)|(simp only[aaj];omega)|(simp only[aaj,aK,aN,aW];omega)):CfS prog GB C n Q0 fr own cf:=by
 unfold mkA at h
 split at h<;>try (cases h;done)
 rename_i hh
 split at h<;>try (cases h;done)
 rename_i hx
 split at h<;>try (cases h;done)
 rename_i hT
 split at h<;>try (cases h;done)
 rename_i hi
 split at h<;>try (cases h;done)
 rename_i hz
 rw[cond_eq_ite] at h
 split at h<;>cases h
 rename_i hs
 rw[hh] at hy
 have:=aeh (abM _ _ hT) rfl
 exact us hh (aCj (abM _ _ hi) hz hs hx hy h0 hb hl hds) hgo hv k
structure RwA where
 d:Nat
 e:Nat
 s:Nat
 ds:List DV
def aFl(fr:FrX)(cf:Cf):Option RwA:=match opC fr cf with
 |some ⟨some d, .buildSlice t len parts,_,_,_,_⟩=>match abi tt t with
  |some ⟨.sl e s _,_,_,_⟩=>match abi tt e with
   |some i=>match zeE i with
    |some z=>match aAo (lkC fr cf) 0 parts.toList with
     |some ds=>bif Nat.beq z.cells.length s&&(ax9 s ds&&(Nat.beq parts.toList.length len&&(Nat.ble (len*s) 1000&&Nat.blt 0 (len*s)))) then some ⟨d,e,s,ds⟩ else none
     |none=>none
    |none=>none
   |none=>none
  |_=>none
 |_=>none
theorem asA{d e s:Nat}{ds:List DV}(h:aFl fr cf=some ⟨d,e,s,ds⟩): ∃o,opC fr cf=some o∧o.dst=some d∧OpR prog GB C n (lkC fr cf) (bkC fr own cf) o (.rw d) [(d,some (.b e s ds true))] [d]:=by
 unfold aFl at h
 split at h<;>try (cases h;done)
 rename_i hh
 split at h<;>try (cases h;done)
 rename_i hT
 split at h<;>try (cases h;done)
 rename_i hi
 split at h<;>try (cases h;done)
 rename_i hz
 split at h<;>try (cases h;done)
 rename_i hr
 rw[cond_eq_ite] at h
 split at h<;>cases h
 rename_i hc
 simp only[cX] at hc
 have:=aeh (abM _ _ hT) rfl
 exact⟨_,hh,rfl,aDV (abM _ _ hi) hz hc.1 hr hc.2.1 hc.2.2.1 hc.2.2.2.1 hc.2.2.2.2⟩
theorem ro[fu:Fu]{d e s:Nat}{ds:List DV}(h:aFl fr cf=some ⟨d,e,s,ds⟩)(hgo:goA tt n fu.n fr own cf (.rw d) [(d,some (.b e s ds true))] [d]=⟨vc,fr',own',cf'⟩)(k:CfS prog GB C n Q0 fr' own' cf')
  (hv:aaj vc:=by first|exact trivial|(simp only[aaj];kernel_rfl)|(simp only[aaj];omega)|(simp only[aaj,aK,aN,aW];omega)):CfS prog GB C n Q0 fr own cf:=by
 obtain⟨o,h1,_,h3⟩:=asA (GB:=GB) (C:=C) (n:=n) (own:=own) h
 exact us h1 h3 hgo hv k
theorem rf[fu:Fu]{d e s:Nat}{ds:List DV}(h:aFl fr cf=some ⟨d,e,s,ds⟩)(hgo:goA tt n fu.n fr own cf (.d (.sl ds)) [(d,none)] [d]=⟨vc,fr',own',cf'⟩)(k:CfS prog GB C n Q0 fr' own' cf')
  (hv:aaj vc:=by first|exact trivial|(simp only[aaj];kernel_rfl)|(simp only[aaj];omega)|(simp only[aaj,aK,aN,aW];omega)):CfS prog GB C n Q0 fr own cf:=by
 obtain⟨o,h1,h2,h3⟩:=asA (GB:=GB) (C:=C) (n:=n) (own:=own) h
 exact us h1 (h3.frzRow h2) hgo hv k
def ay8(fr:FrX)(cf:Cf):Option (Nat×Nat×Nat):=match opC fr cf with
 |some ⟨some d, .buildSlice t 0 ⟨[]⟩,_,_,_,_⟩=>match abi tt t with
  |some ⟨.sl e s _,_,_,_⟩=>some (d,e,s)
  |_=>none
 |_=>none
theorem ro0[fu:Fu]{d e s:Nat}(h:ay8 fr cf=some (d,e,s))(hgo:goA tt n fu.n fr own cf (.rw d) [(d,some (.b e s [] true))] [d]=⟨vc,fr',own',cf'⟩)(k:CfS prog GB C n Q0 fr' own' cf')
  (hv:aaj vc:=by first|exact trivial|(simp only[aaj];kernel_rfl)|(simp only[aaj];omega)|(simp only[aaj,aK,aN,aW];omega)):CfS prog GB C n Q0 fr own cf:=by
 unfold ay8 at h
 split at h<;>try (cases h;done)
 rename_i hh
 split at h<;>cases h
 rename_i hT
 have:=aeh (abM _ _ hT) rfl
 exact us hh aAL hgo hv k
structure ApA where
 d:Nat
 nm:Option Nat
 e:Nat
 s:Nat
 b:Nat
 ds:List DV
 ds2:List DV
def aFm(fr:FrX)(own:OwX)(cf:Cf):Option ApA:=match opC fr cf with
 |some ⟨some d, .call ⟨.builtin .append,⟨[x,y]⟩,⟨[t,t']⟩⟩,_,_,_,_⟩=>match abi tt t with
  |some ⟨.sl e s b,_,_,_⟩=>match abi tt t' with
   |some ⟨.sl _ _ _,_,_,_⟩=>match abi tt e with
    |some i=>match zeE i with
     |some z=>bif Nat.beq z.cells.length s&&Nat.blt 0 b then(match at6 (lkC fr cf) (bkC fr own cf) s y with
      |some ds2=>match evX (lkC fr cf) x with
       |some (.rw nm)=>match bkC fr own cf nm with
        |some (.b e' s' ds true)=>bif (Nat.beq e' e&&Nat.beq s' s)&&!Nat.beq nm d then some ⟨d,some nm,e,s,b,ds,ds2⟩ else none
        |_=>none
       |some (.ct ds)=>some ⟨d,none,e,s,b,ds,ds2⟩
       |some .nl=>some ⟨d,none,e,s,b,[],ds2⟩
       |_=>none
      |none=>none) else none
     |none=>none
    |none=>none
   |_=>none
  |_=>none
 |_=>none
def aBl(d:Nat)(nm:Option Nat)(B:Bk):List (Nat×Option Bk):=match nm with
 |some nm=>[(nm,none),(d,some B)]
 |none=>[(d,some B)]
theorem asS{d:Nat}{nm:Option Nat}{e s b:Nat}{ds ds2:List DV}(h:aFm fr own cf=some ⟨d,nm,e,s,b,ds,ds2⟩)(ds':List DV)(hds:ds++ds2=ds')(ho:nm.isNone=true→adn s ds∧0<ds2.length)(ho2:adn s ds2)(hbd:(ds.length+ds2.length)*b≤140737488355328):
  ∃o,opC fr cf=some o∧o.dst=some d∧OpR prog GB C n (lkC fr cf) (bkC fr own cf) o (.rw d) (aBl d nm (.b e s ds' true)) [d]:=by
 unfold aFm at h
 split at h<;>try (cases h;done)
 rename_i hh
 split at h<;>try (cases h;done)
 rename_i hT
 split at h<;>try (cases h;done)
 rename_i hT'
 split at h<;>try (cases h;done)
 rename_i hi
 split at h<;>try (cases h;done)
 rename_i hz
 rw[cond_eq_ite] at h
 split at h<;>try (cases h;done)
 rename_i hc
 simp only[cX] at hc
 split at h<;>try (cases h;done)
 rename_i hy
 have:=aeh (abM _ _ hT) rfl
 have hN:TyN prog _:=⟨_,(aeh (abM _ _ hT') rfl).un⟩
 refine⟨_,hh,?_⟩
 split at h<;>try (cases h;done)
 ·rename_i hx
  split at h<;>try (cases h;done)
  rename_i hb
  rw[cond_eq_ite] at h
  split at h<;>cases h
  rename_i hq
  simp only[cX,gU] at hq
  cases aT hq.1.1
  cases aT hq.1.2
  exact⟨rfl,aCq (abM _ _ hi) hz hc.1 hx hb hy ho2 hc.2 hbd hq.2 hds⟩
 ·rename_i hx
  cases h
  obtain⟨h1,h2⟩:=ho rfl
  exact⟨rfl,asG (abM _ _ hi) hz hc.1 (.inl hx) h1 hy ho2 h2 hc.2 hbd hds⟩
 ·rename_i hx
  cases h
  obtain⟨h1,h2⟩:=ho rfl
  exact⟨rfl,asG (abM _ _ hi) hz hc.1 (.inr ⟨hx,rfl⟩) h1 hy ho2 h2 hc.2 hbd hds⟩
theorem ap[fu:Fu]{d:Nat}{nm:Option Nat}{e s b:Nat}{ds ds2:List DV}(ds':List DV)(h:aFm fr own cf=some ⟨d,nm,e,s,b,ds,ds2⟩)(hds:ds++ds2=ds')(ho2:adn s ds2)(hgo:goA tt n fu.n fr own cf (.rw d) (aBl d nm (.b e s ds' true)) [d]=⟨vc,fr',own',cf'⟩)(k:CfS prog GB C n Q0 fr' own' cf')
  (ho:nm.isNone=true→adn s ds∧0<ds2.length:=by intro h;first|(cases h;done)|exact⟨ahG rfl,by simp⟩)(hbd:(ds.length+ds2.length)*b≤140737488355328:=by simp;omega)
  (hv:aaj vc:=by first|exact trivial|(simp only[aaj];kernel_rfl)|(simp only[aaj];omega)|(simp only[aaj,aK,aN,aW];omega)):CfS prog GB C n Q0 fr own cf:=by
 obtain⟨o,h1,_,h3⟩:=asS (GB:=GB) (C:=C) (n:=n) h ds' hds ho ho2 hbd
 exact us h1 h3 hgo hv k
def aHi(fr:FrX)(cf:Cf):Option (List DV×Int×Int×Nat×Bool):=match opC fr cf with
 |some ⟨_, .slice t x lo hi mx,_,_,_,_⟩=>match evD (lkC fr cf) x with
  |some (.sl l)=>match abi tt t with
   |some ⟨.sl _ s _,_,_,_⟩=>match bdX (lkC fr cf) 0 lo,bdX (lkC fr cf) l.length hi with
    |some i,some j=>match mx with
     |none=>some (l,i,j,s,false)
     |some _=>none
    |_,_=>none
   |_=>none
  |_=>none
 |_=>none
theorem sc'[fu:Fu]{l:List DV}{i j:Int}{s:Nat}(nlo nhi:Nat)(ls:List DV)(h:aHi fr cf=some (l,i,j,s,false))(ei:i=nlo)(ej:j=nhi)(hls:(l.take nhi).drop nlo=ls)(ho:adn s l)(h1:nlo≤nhi)(h2:nhi≤l.length)
  (hgo:goA tt n fu.n fr own cf (.d (.sl ls)) [] []=⟨vc,fr',own',cf'⟩)(k:CfS prog GB C n Q0 fr' own' cf')
  (hv:aaj vc:=by first|exact trivial|(simp only[aaj];kernel_rfl)|(simp only[aaj];omega)|(simp only[aaj,aK,aN,aW];omega)):CfS prog GB C n Q0 fr own cf:=by
 unfold aHi at h
 split at h<;>try (cases h;done)
 rename_i hh
 split at h<;>try (cases h;done)
 rename_i hx
 split at h<;>try (cases h;done)
 rename_i hT
 split at h<;>try (cases h;done)
 rename_i hi hj
 split at h<;>cases h
 have:=aeh (abM _ _ hT) rfl
 subst ei ej hls
 exact us hh (aDO hx ho hi hj h1 h2) hgo hv k
def aHB(fr:FrX)(cf:Cf):Option (List DV×Int×Int×Nat):=match opC fr cf with
 |some ⟨_, .slice t x none (some hi) (some mx),_,_,_,_⟩=>match evD (lkC fr cf) x with
  |some (.sl l)=>match abi tt t with
   |some ⟨.sl _ s _,_,_,_⟩=>match bdX (lkC fr cf) 0 (some hi),bdX (lkC fr cf) 0 (some mx) with
    |some i,some j=>some (l,i,j,s)
    |_,_=>none
   |_=>none
  |_=>none
 |_=>none
theorem s3[fu:Fu]{l:List DV}{i j:Int}{s:Nat}(nhi:Nat)(ls:List DV)(h:aHB fr cf=some (l,i,j,s))(ei:i=nhi)(ej:j=nhi)(hls:l.take nhi=ls)(ho:adn s l)(h2:nhi≤l.length)
  (hgo:goA tt n fu.n fr own cf (.ct ls) [] []=⟨vc,fr',own',cf'⟩)(k:CfS prog GB C n Q0 fr' own' cf')
  (hv:aaj vc:=by first|exact trivial|(simp only[aaj];kernel_rfl)|(simp only[aaj];omega)|(simp only[aaj,aK,aN,aW];omega)):CfS prog GB C n Q0 fr own cf:=by
 unfold aHB at h
 split at h<;>try (cases h;done)
 rename_i hh
 split at h<;>try (cases h;done)
 rename_i hx
 split at h<;>try (cases h;done)
 rename_i hT
 split at h<;>cases h
 rename_i hi hj
 have:=aeh (abM _ _ hT) rfl
 subst ei ej hls
 exact us hh (aB9 hx ho hi hj h2) hgo hv k
def aHy(fr:FrX)(cf:Cf):Option (Nat×List DV):=match opC fr cf with
 |some ⟨some d, .box _ x,_,_,_,_⟩=>match evX (lkC fr cf) x with
  |some f=>bif f.okc&&aCB f d then(match aej f.cells with
   |some l=>some (d,l)
   |none=>none) else none
  |none=>none
 |_=>none
end
section
variable {GB:Gh} {C:Ctx} {n:Nat} {Q0:Exit→Act→World→Prop} {fr fr':FrX} {own own':OwX} {cf cf':Cf} {vc:List Prop} {ops:Array Oper} {o:Oper} {K:List Kt} {r:List Oper}
def rnN(x y m:Nat)(k:Option Nat):Option Nat:=bif Nat.beq m x then some y else bif Nat.beq m y then none else k
def rnX(x y:Nat):FX→FX
 | .rw m=>bif Nat.beq m x then .rw y else bif Nat.beq m y then .no else .rw m
 | .ov m o=>bif Nat.beq m x then .ov y o else bif Nat.beq m y then .no else .ov m o
 | .be m s i j=>bif Nat.beq m x then .be y s i j else bif Nat.beq m y then .no else .be m s i j
 | .rs m s i j=>bif Nat.beq m x then .rs y s i j else bif Nat.beq m y then .no else .rs m s i j
 | .bx tp pre m post=>bif Nat.beq m x then .bx tp pre y post else bif Nat.beq m y then .no else .bx tp pre m post
 |f=>f
def rnB(x y:Nat):Option Bk→Option Bk
 |some (.o ty cs lo)=>some (.o ty (cs.map (rnX x y)) lo)
 |B=>B
def rnK(x y k:Nat):Nat:=bif Nat.beq k x then y else bif Nat.beq k y then x else k
def aFw{α:Type}(g:FX→FX):List FX→(List FX→α)→α
 |[],k=>k []
 |f::t,k=>aFw g t fun t'=>fcX (g f) fun f'=>k (f'::t')
theorem auN{α:Type}{g:FX→FX}: ∀{cs:List FX} {k:List FX→α},aFw g cs k=k (cs.map g)
 |[],k=>rfl
 |f::t,k=>by simp only[aFw,arh];rw[auN];rfl
def aFr{α:Type}(g:FX→FX):FrX→(FrX→α)→α
 |[],k=>k []
 |(j,f)::t,k=>aFr g t fun t'=>fcX (g f) fun f'=>k ((j,f')::t')
theorem avd{α:Type}{g:FX→FX}: ∀{fr:FrX} {k:FrX→α},aFr g fr k=k (fr.map fun e=>(e.1,g e.2))
 |[],k=>rfl
 |(j,f)::t,k=>by simp only[aFr,arh];rw[avd];rfl
def rnO{α:Type}(x y:Nat):OwX→(OwX→α)→α
 |[],k=>k []
 |(j,B)::t,k=>rnO x y t fun t'=>bif Nat.beq j y then k ((x,none)::t') else match B with
  |some (.o ty cs lo)=>aFw (rnX x y) cs fun cs'=>bif Nat.beq j x then k ((y,some (.o ty cs' lo))::t') else k ((j,some (.o ty cs' lo))::t')
  |B=>bif Nat.beq j x then k ((y,B)::t') else k ((j,B)::t')
theorem ayB{α:Type}{x y:Nat}: ∀{own:OwX} {k:OwX→α},rnO x y own k=k (own.map fun e=>(bif Nat.beq e.1 y then x else bif Nat.beq e.1 x then y else e.1,bif Nat.beq e.1 y then none else rnB x y e.2))
 |[],k=>rfl
 |(j,B)::t,k=>by
  simp only[rnO,ayB (own:=t),cK]
  cases Nat.beq j y with
  |true=>rfl
  |false=>
   cases B with
   |none=>cases Nat.beq j x<;>rfl
   |some B=>cases B<;>cases Nat.beq j x<;>simp only[cond_false,cond_true,auN,rnB]
theorem ap3{x y:Nat}(hxy:x≠y): ∀{own:OwX} {k:Nat},aaz (own.map fun e=>(bif Nat.beq e.1 y then x else bif Nat.beq e.1 x then y else e.1,bif Nat.beq e.1 y then none else rnB x y e.2)) k=if k=x then none else if k=y then rnB x y (aaz own x) else rnB x y (aaz own k)
 |[],k=>by simp[aaz,rnB]
 |(j,B)::t,k=>by
  have bq: ∀a b:Nat,Nat.beq a b=decide (a=b):=fun a b=>by
   by_cases h:a=b
   ·subst h;simp
   ·rw[decide_eq_false h]
    cases hb:Nat.beq a b with
    |false=>rfl
    |true=>exact absurd (aT hb) h
  simp only[cK]
  rw[aaF,ap3 hxy (own:=t),aaF,aaF]
  by_cases h1:j=y
  ·subst h1
   simp only[bq,decide_true,cond_true]
   by_cases h2:k=x
   ·simp[h2]
   ·by_cases h3:k=j
    ·subst h3;simp[h2,Ne.symm h2,hxy]
    ·simp[h2,h3]
  ·by_cases h4:j=x
   ·subst h4
    simp only[bq,h1,decide_false,cond_false,decide_true,cond_true]
    by_cases h2:k=y
    ·subst h2;simp[Ne.symm h1]
    ·by_cases h3:k=j
     ·subst h3;simp[h1]
     ·simp[h2,h3]
   ·simp only[bq,h1,h4,decide_false,cond_false]
    by_cases h2:k=j
    ·subst h2;simp[h1,h4]
    ·by_cases h3:k=x
     ·subst h3;simp[h2]
     ·by_cases h5:k=y
      ·subst h5;simp[h2,h3,Ne.symm h4]
      ·simp[h2,h3,h5]
theorem azg{x y:Nat}(hxy:x≠y){ρ:NE}{G:Gh}{f:FX}{v:Value}(h:IsX ρ G f v):IsX (fun k=>if k=y then ρ x else ρ k) G (rnX x y f) v:=by
 have key: ∀m:Nat,Nat.beq m y=false→(fun k=>if k=y then ρ x else ρ k) m=ρ m:=fun m hm=>if_neg fun e=>by subst e;simp at hm
 cases f with
 |rw m=>
  simp only[rnX]
  cases hb:Nat.beq m x with
  |true=>cases aT hb;simp only[cond_true];show v=_;simp;exact h
  |false=>
   cases hb':Nat.beq m y with
   |true=>trivial
   |false=>simp only[cond_false];show v=_;rw[key m hb'];exact h
 |ov m off=>
  simp only[rnX]
  cases hb:Nat.beq m x with
  |true=>cases aT hb;simp only[cond_true];obtain⟨b,h1,h2⟩:=h;exact⟨b,by simp;exact h1,h2⟩
  |false=>
   cases hb':Nat.beq m y with
   |true=>trivial
   |false=>simp only[cond_false];obtain⟨b,h1,h2⟩:=h;exact⟨b,by rw[key m hb'];exact h1,h2⟩
 |be m s i j=>
  simp only[rnX]
  cases hb:Nat.beq m x with
  |true=>cases aT hb;simp only[cond_true];obtain⟨b,h1,h2⟩:=h;exact⟨b,by simp;exact h1,h2⟩
  |false=>
   cases hb':Nat.beq m y with
   |true=>trivial
   |false=>simp only[cond_false];obtain⟨b,h1,h2⟩:=h;exact⟨b,by rw[key m hb'];exact h1,h2⟩
 |rs m s i j=>
  simp only[rnX]
  cases hb:Nat.beq m x with
  |true=>cases aT hb;simp only[cond_true];obtain⟨b,c,h1,h2⟩:=h;exact⟨b,c,by simp;exact h1,h2⟩
  |false=>
   cases hb':Nat.beq m y with
   |true=>trivial
   |false=>simp only[cond_false];obtain⟨b,c,h1,h2⟩:=h;exact⟨b,c,by rw[key m hb'];exact h1,h2⟩
 |bx tp pre m post=>
  simp only[rnX]
  cases hb:Nat.beq m x with
  |true=>cases aT hb;simp only[cond_true];obtain⟨m1,m2,e,h1,h2⟩:=h;exact⟨m1,m2,by simpa using e,h1,h2⟩
  |false=>
   cases hb':Nat.beq m y with
   |true=>trivial
   |false=>simp only[cond_false];obtain⟨m1,m2,e,h1,h2⟩:=h;exact⟨m1,m2,by rw[key m hb'];exact e,h1,h2⟩
 |_=>exact h
theorem auI{x y:Nat}(hxy:x≠y){ρ:NE}{G:Gh}: ∀{cs:List FX} {m:List Value},adR ρ G cs m→adR (fun k=>if k=y then ρ x else ρ k) G (cs.map (rnX x y)) m
 |[],m,h=>h
 |f::t,m,⟨v,q,e,h1,h2⟩=>⟨v,q,e,azg hxy h1,auI hxy h2⟩
def rnA(x y:Nat)(fr:FrX)(own:OwX):Option FzR:=bif Nat.beq x y then none else aFr (rnX x y) fr fun fr'=>rnO x y own fun own'=>some ⟨fr',own'⟩
theorem aD1{x y:Nat}{Φ:Act→World→Prop}{R:FzR}(hy:Nat.blt y 2000000=true)(h:rnA x y fr own=some R)(hk:SX GB C n (aav R.fr) (aaz R.own) Φ):SX GB C n (aav fr) (aaz own) Φ:=by
 unfold rnA at h
 rw[cond_eq_ite] at h
 split at h<;>try (cases h;done)
 rename_i hb
 have hxy:x≠y:=fun e=>hb (by subst e;simp)
 rw[avd,ayB] at h;cases h
 refine⟨fun ρ G ov a w r=>hk.run (fun k=>if k=y then ρ x else ρ k) G ov a w ?_⟩
 have inv: ∀m B,aaz (own.map fun e=>(bif Nat.beq e.1 y then x else bif Nat.beq e.1 x then y else e.1,bif Nat.beq e.1 y then none else rnB x y e.2)) m=some B→ ∃m0 B0,aaz own m0=some B0∧rnB x y (some B0)=some B∧(m=y∧m0=x∨m≠y∧m≠x∧m0=m):=fun m B e=>by
  rw[ap3 hxy] at e
  split at e
  ·cases e
  ·rename_i hm
   split at e
   ·cases hl:aaz own x with
    |none=>rw[hl] at e;cases e
    |some B0=>rw[hl] at e;exact⟨x,B0,hl,e, .inl ⟨by assumption,rfl⟩⟩
   ·cases hl:aaz own m with
    |none=>rw[hl] at e;cases e
    |some B0=>rw[hl] at e;exact⟨m,B0,hl,e, .inr ⟨by assumption,hm,rfl⟩⟩
 have rho: ∀m m0,(m=y∧m0=x∨m≠y∧m≠x∧m0=m)→(fun k=>if k=y then ρ x else ρ k) m=ρ m0:=fun m m0 h=>by
  rcases h with⟨h1,h2⟩|⟨h1,_,h2⟩
  ·subst h1 h2;simp
  ·subst h2;exact if_neg h1
 refine⟨r.gb,r.h,r.sz,r.df,fun k f e=>?_,fun m B e=>?_,fun m m' B B' e e' hne=>?_,fun m p h1 h2 e=>by
  have:y<2000000:=by simpa[mL] using hy
  show(if m=y then ρ x else ρ m).a=_
  rw[if_neg (by omega)];exact r.fxd m p h1 h2 e⟩
 ·rw[alG] at e
  cases hf:aav fr k with
  |none=>rw[hf] at e;cases e
  |some g=>
   rw[hf] at e;cases e
   obtain⟨v,h1,h2⟩:=r.fx k g hf
   exact⟨v,h1,azg hxy h2⟩
 ·obtain⟨m0,B0,h1,h2,h3⟩:=inv m B e
  obtain⟨os,h4,h5⟩:=r.bx m0 B0 h1
  refine⟨os,?_,h5⟩
  have hr:=rho m m0 h3
  cases B0 with
  |b=>cases h2;obtain⟨vs,q1,q2,q3,q4⟩:=h4;exact⟨vs,by rw[hr];exact q1,q2,q3,q4⟩
  |c=>cases h2;obtain⟨vs,q1,q2,q3,q4,q5⟩:=h4;exact⟨vs,by rw[hr];exact q1,q2,q3,q4,by rw[hr];exact q5⟩
  |o ty cs lo=>cases h2;obtain⟨b,q,q1,q2,q3⟩:=h4;exact⟨b,q,by rw[hr];exact q1,q2,auI hxy q3⟩
 ·obtain⟨m0,B0,h1,_,h3⟩:=inv m B e
  obtain⟨m1,B1,h4,_,h6⟩:=inv m' B' e'
  have q1:=rho m m0 h3
  have q2:=rho m' m1 h6
  simp only at q1 q2
  rw[q1,q2]
  refine r.dj m0 m1 B0 B1 h1 h4 fun e=>?_
  rcases h3 with⟨h7,h8⟩|⟨h7,h8,h9⟩<;>rcases h6 with⟨g7,g8⟩|⟨g7,g8,g9⟩
  ·exact hne (h7.trans g7.symm)
  ·exact g8 (by rw[←g9,←e,h8])
  ·exact h8 (by rw[←h9,e,g8])
  ·exact hne (by rw[←h9,e,g9])
theorem rnE(x y:Nat){fr1:FrX}{own1:OwX}{e:Exit}(h:rnA x y fr own=some ⟨fr1,own1⟩)(k:CfS prog GB C n Q0 fr1 own1 (.ex e K))(hy:Nat.blt y 2000000=true:=by rfl):CfS prog GB C n Q0 fr own (.ex e K):=aD1 hy h k
theorem axy{d nm:Nat}(hnm:Nat.blt nm 2000000=true)(hl:aav fr d=some .nl){Φ:Act→World→Prop}{ty s:Nat}(hf:acK [nm] none (aav fr) (aaz own))(h:SX GB C n (aav ((d, .rw nm)::fr)) (aaz (arR own nm (some (.b ty s [] true)))) Φ):SX GB C n (aav fr) (aaz own) Φ:=by
 refine⟨fun ρ G ov a w r=>?_⟩
 obtain⟨f1,f2⟩:=hf nm aZ
 have hset:aaz (arR own nm (some (.b ty s [] true)))=upB (aaz own) [(nm,some (.b ty s [] true))]:=by funext j;rw[afo];rfl
 rw[hset] at h
 refine h.run (fun k=>if k=nm then⟨none,0,0⟩ else ρ k) G ov a w ⟨r.gb,r.h,r.sz,r.df,fun k f e=>?_,fun m B e=>?_,fun m m' B B' e e' hne=>?_,fun m p h1 h2 e=>by
  have:nm<2000000:=by simpa[mL] using hnm
  show(if m=nm then(⟨none,0,0⟩:SV) else ρ m).a=_
  rw[if_neg (by omega)];exact r.fxd m p h1 h2 e⟩
 ·rw[abe] at e
  split at e
  ·cases e;rename_i hk;subst hk
   obtain⟨v,h1,h2⟩:=r.fx _ _ hl
   exact⟨v,h1,by rw[show v=_ from h2];show _=_;simp⟩
  ·obtain⟨v,h1,h2⟩:=r.fx k f e
   exact⟨v,h1,h2.ren fun m hm=>neN _ fun hc=>f1 k f (by simp) e (by rw[hm,hc])⟩
 ·simp only[upB] at e
  by_cases hm:m=nm
  ·subst hm;simp only[if_true] at e;cases e
   exact⟨[],⟨[],by simp only[if_true];exact .inl ⟨rfl,rfl,rfl⟩, .nil,by simp,fun _ o ho=>by cases ho⟩,fun o ho=>by cases ho⟩
  ·simp only[hm,if_false] at e
   obtain⟨os,h1,h2⟩:=r.bx m B e
   exact⟨os,h1.ren (if_neg hm) fun q hq=>neN _ fun hc=>f2 m B hm e (by rw[←hc];exact hq),h2⟩
 ·simp only[upB] at e e'
  intro b hb hb'
  by_cases hm:m=nm
  ·simp[hm] at hb
  ·by_cases hm':m'=nm
   ·simp[hm'] at hb'
   ·simp only[hm,hm',if_false] at e e' hb hb'
    exact r.dj m m' B B' e e' hne b hb hb'
theorem nr(d nm ty s:Nat){own1:OwX}{c:Code}(hl:aav fr d=some .nl)(hf:ah0 [nm] none fr own=true)(ho:aBh own nm (some (.b ty s [] true)) id=own1)(k:CfS prog GB C n Q0 ((d, .rw nm)::fr) own1 (.code c K))(hnm:Nat.blt nm 2000000=true:=by rfl):CfS prog GB C n Q0 fr own (.code c K):=by
 subst ho
 exact axy hnm hl (afl hf) k
def mkP:List (Option DV)→Nat→List DV
 |[],_=>[]
 |some d::t,b=>d::mkP t b
 |none::t,b=> .v (.pointer (some ⟨b,0,none⟩))::mkP t b
def aFp(lk:LK):List Operand→Option (Option Nat×List (Option DV))
 |[]=>some (none,[])
 |x::t=>match evX lk x,aFp lk t with
  |some (.ov nm 0),some (none,l)=>some (some nm,none::l)
  |some f,some (q,l)=>match aks f with
   |some d=>some (q,some d::l)
   |none=>none
  |_,_=>none
def az3(lk:LK)(fo:Operand)(args:Array Operand):Option (FuncId×Nat×List (Option DV)):=match evX lk fo with
 |some (.d (.v (.func (.func f) ⟨[]⟩ ⟨[]⟩)))=>match aFp lk args.toList with
  |some (some nm,l)=>some (f,nm,l)
  |_=>none
 |_=>none
theorem ao0{lk:LK}{bk:BM}{ρ:NE}{G:Gh}{ov:List Own}{a:Act}{w:World}(r:RlX GB C n lk bk ρ G ov a w){b:Nat}: ∀{x:List Operand} {q:Option Nat} {l:List (Option DV)},aFp lk x=some (q,l)→(∀nm,q=some nm→(ρ nm).a=some ⟨b,0,none⟩)→
  ∃y,agr (frA a) x=some y∧IsLs G (mkP l b) y
 |[],q,l,e,_=>by cases e;exact⟨[],rfl, .nil⟩
 |x::t,q,l,e,hb=>by
  simp only[aFp] at e
  split at e
  ·rename_i nm l' h1 h2
   cases e
   obtain⟨y,h3,b',h4,rfl⟩:=r.ev h1
   have:=hb nm rfl
   rw[h4] at this;cases this
   obtain⟨ys,h5,h6⟩:=ao0 r (b:=b) h2 (fun nm e=>by cases e)
   exact⟨_::ys,by simp only[agr,h3,h5], .cons ((aa4 (G:=G)).2 rfl) h6⟩
  ·rename_i f q' l' _ h1 h2
   cases hd:aks f with
   |none=>rw[hd] at e;cases e
   |some d=>
   rw[hd] at e;cases e
   obtain⟨y,h3,h4⟩:=r.ev h1
   obtain⟨ys,h5,h6⟩:=ao0 r (b:=b) h2 hb
   exact⟨y::ys,by simp only[agr,h3,h5], .cons (acE h4 hd) h6⟩
  ·cases e
theorem RlX.lend{lk:LK}{bk:BM}{ρ:NE}{G:Gh}{ov:List Own}{a:Act}{w:World}{nm:Nat}{ty:TypeId}{cs:List FX}{lo:Bool}{csd:List DV}(r:RlX GB C n lk bk ρ G ov a w)(hb:bk nm=some (.o ty cs lo))(hc:aej cs=some csd):
  ∃b m rest,(ρ nm).a=some ⟨b,0,none⟩∧IsLs G csd m∧ov.Perm ([⟨b,m,ty,lo⟩]++rest)∧ ∀o∈ov,o.b≠b→o∈rest:=by
 obtain⟨os,⟨b,m,h1,rfl,h2⟩,h3⟩:=r.bx _ _ hb
 obtain⟨l1,l2,rfl⟩:=kW (h3 _ aZ)
 refine⟨b,m,l1++l2,h1,ac8 h2 hc,mY,fun o ho hne=>?_⟩
 rcases bZ.1 ho with ho|ho
 ·exact bU _ ho
 ·rcases aU.1 ho with rfl|ho
  ·exact absurd rfl hne
  ·exact bM _ ho
theorem axh{P:Program}{lk:LK}{bk:BM}{fo:Operand}{args:Array Operand}{tys:Array TypeId}{f:FuncId}{nm:Nat}{l:List (Option DV)}{rv:DV}{dst:Option Nat}{ty ty0:TypeId}{pos:String}{af:Array Edge}{gd:Option (Nat×Bool)}{cs:List FX}{csd cs':List DV}{lo:Bool}
  (ha:az3 lk fo args=some (f,nm,l))(hb:bk nm=some (.o ty0 cs lo))(hc:aej cs=some csd)(hF: ∀b,PM GB P f (mkP l b) b ty0 csd rv cs'){csx:List FX}(hx:cs'.map .d=csx):OpR P GB C n lk bk ⟨dst, .call ⟨.value fo,args,tys⟩,ty,pos,af,gd⟩ (.d rv) [(nm,some (.o ty0 csx lo))] []:=by
 intro hd tl tb K' s1 s2 hf hk
 refine⟨fun ρ G ov a w r Q=>?_⟩
 subst hx
 have r1:=r.mono s1 s2
 unfold az3 at ha
 split at ha<;>try (cases ha;done)
 rename_i h1
 split at ha<;>cases ha
 rename_i h2
 obtain⟨y,hy,hy'⟩:=r1.ev h1
 rw[(aa4 (G:=G)).1 hy'] at hy
 obtain⟨b,m,rest,h3,h4,h5,h6⟩:=r1.lend hb hc
 obtain⟨vs,h7,h8⟩:=ao0 r1 (b:=b) h2 (fun nm e=>by cases e;exact h3)
 refine aiH (M:=[⟨b,m,ty0,lo⟩]) (rest:=rest) hy h7 h5 (hF b G vs m lo r.gb h8 h4) hd (fun v css G' hG hl hK a' w' rl=>?_) a w Q ⟨r.h,r.sz,aaN a,r.df⟩
 obtain⟨hr,m',rfl,hm'⟩:=hK
 have rl':Rel C n (Sx.put (frA a) dst v) (⟨b,m',ty0,lo⟩::rest) G' a' w':=rl
 have r2:=r.upB (G':=G') (ov':=⟨b,m',ty0,lo⟩::rest) (w':=w') (B':= .o ty0 (cs'.map .d) lo) (os:=[⟨b,m',ty0,lo⟩]) hG.le rl'.h ⟨b,m',h3,rfl,ah7 hm'⟩ (fun o ho=>by rw[aY.1 ho];exact aZ)
  (fun o ho hne=>aJ _ (h6 o ho fun e=>hne (by rw[h3,e]))) ⟨_,s2 _ _ hb⟩
 exact hk.run ρ G' _ a' w' (r2.put (f:= .d rv) hr (abk rl'))
structure CmA where
 f:FuncId
 nm:Nat
 l:List (Option DV)
 ty:TypeId
 cs:List DV
 lo:Bool
def aHz(fr:FrX)(own:OwX)(cf:Cf):Option CmA:=match opC fr cf with
 |some ⟨_, .call ⟨.value fo,args,_⟩,_,_,_,_⟩=>match az3 (lkC fr cf) fo args with
  |some (f,nm,l)=>match bkC fr own cf nm with
   |some (.o ty cs lo)=>match aej cs with
    |some csd=>some ⟨f,nm,l,ty,csd,lo⟩
    |none=>none
   |_=>none
  |none=>none
 |_=>none
def aCy{α:Type}:List DV→(List FX→α)→α
 |[],k=>k []
 |d::t,k=>aCy t fun t'=>k (.d d::t')
theorem alZ{α:Type}: ∀{l:List DV} {k:List FX→α},aCy l k=k (l.map .d)
 |[],k=>rfl
 |d::t,k=>by simp only[aCy];rw[alZ];rfl
theorem cm[fu:Fu]{f:FuncId}{nm:Nat}{l:List (Option DV)}{ty:TypeId}{cs cs':List DV}{lo:Bool}{rv:DV}(ha:aHz fr own cf=some ⟨f,nm,l,ty,cs,lo⟩)(hF: ∀b,PM GB prog f (mkP l b) b ty cs rv cs')
  (hgo:(aCy cs' fun csx=>goA tt n fu.n fr own cf (.d rv) [(nm,some (.o ty csx lo))] [])=⟨vc,fr',own',cf'⟩)(k:CfS prog GB C n Q0 fr' own' cf')
  (hv:aaj vc:=by first|exact trivial|(simp only[aaj];kernel_rfl)|(simp only[aaj];omega)|(simp only[aaj,aK,aN,aW];omega)):CfS prog GB C n Q0 fr own cf:=by
 unfold aHz at ha
 split at ha<;>try (cases ha;done)
 rename_i hh
 split at ha<;>try (cases ha;done)
 rename_i h1
 split at ha<;>try (cases ha;done)
 rename_i h2
 split at ha<;>cases ha
 rename_i h3
 rw[alZ] at hgo
 exact us hh (axh h1 h2 h3 hF rfl) hgo hv k
abbrev NM:Nat:=1000000
def akT:Nat→List (Option DV)→FrX
 |_,[]=>[]
 |i,some v::t=>(i, .d v)::akT (i+1) t
 |i,none::t=>(i, .ov NM 0)::akT (i+1) t
theorem ao5(b:Nat): ∀l:List (Option DV),(mkP l b).length=l.length
 |[]=>rfl
 |some d::t=>by simp[mkP,ao5 b t]
 |none::t=>by simp[mkP,ao5 b t]
theorem age{b:Nat}{ρ:NE}{G:Gh}(hρ:(ρ NM).a=some ⟨b,0,none⟩): ∀{ds:List (Option DV)} {vs:List Value} (i:Nat),IsLs G (mkP ds b) vs→ ∀k f,aav (akT i ds) k=some f→ ∃y,(∃j,k=i+j∧vs[j]? =some y)∧IsX ρ G f y
 |[],vs,i,h,k,f,e=>by cases e
 |some d::t,vs,i,h,k,f,e=>by
  obtain⟨y,m,rfl,h1,h2⟩:=aae.1 h
  simp only[akT] at e
  rw[abe] at e
  split at e
  ·cases e;rename_i hk;exact⟨y,⟨0,hk,rfl⟩,h1⟩
  ·obtain⟨u,⟨j,hj,hu⟩,h3⟩:=age hρ (i+1) h2 k f e
   exact⟨u,⟨j+1,by omega,by simpa using hu⟩,h3⟩
 |none::t,vs,i,h,k,f,e=>by
  obtain⟨y,m,rfl,h1,h2⟩:=aae.1 h
  simp only[akT] at e
  rw[abe] at e
  split at e
  ·cases e;rename_i hk;exact⟨y,⟨0,hk,rfl⟩,b,hρ,(aa4 (G:=G)).1 h1⟩
  ·obtain⟨u,⟨j,hj,hu⟩,h3⟩:=age hρ (i+1) h2 k f e
   exact⟨u,⟨j+1,by omega,by simpa using hu⟩,h3⟩
def at1(C:Ctx)(b:Nat)(m:List Value)(ty:TypeId)(lo:Bool)(rv:DV)(cs':List DV):Ending→World→Prop:=akt C [⟨b,m,ty,lo⟩] (fun v css G'=>Is G' rv v∧ ∃m',css=[m']∧IsLs G' cs' m')
theorem fnM[fu:Fu]{b:Nat}{f:FuncId}{fb:Func}{c:Code}{k:Nat}{l:List (Option DV)}{cs cs':List DV}{ty:TypeId}{rv:DV}(hf:prog.funcs[f]? =some fb)(hb:fb.body=some c)(hn:(fb.name== "runtime.NumGoroutine")=false)(hm:fb.ntmps=k)(hlen:Nat.ble l.length k=true)
  (hgo:(aCy cs fun csx=>go tt k fu.n [] (akT 0 l) [(NM,some (.o ty csx false))] (.code c []))=⟨vc,fr,own,cf⟩)(h: ∀C b m lo,C.mb=[b]→CfS prog GB C k (adi C prog fb (at1 C b m ty lo rv cs')) fr own cf)
  (hv:aaj vc:=by first|exact trivial|(simp only[aaj];kernel_rfl)|(simp only[aaj];omega)|(simp only[aaj,aK,aN,aW];omega)):PM GB prog f (mkP l b) b ty cs rv cs':=by
 intro G vs m lo hg hvs hm'
 refine FnM.introR hf hb hn hm (by rw[hvs.len,ao5];exact hlen) fun C _ hmb hrd hfx=>?_
 intro a w rl
 refine anM hrd ?_
 rw[alZ] at hgo
 have h1:=gx' (GB:=GB) (C:=C) (Q0:=adi C prog fb (at1 C b m ty lo rv cs')) hgo hv (h C b m lo (by simpa using hmb))
 refine h1.run (fun _=>⟨some ⟨b,0,none⟩,0,0⟩) G [⟨b,m,ty,false⟩] a w ⟨hg,rl.h,rl.sz,rl.df,fun k f e=>?_,fun nm B e=>?_,fun nm nm' B B' e e' hne=>?_,fun nm p _ _ e=>by rw[hfx] at e;cases e⟩
 ·obtain⟨y,⟨j,hj,hy⟩,h2⟩:=age (ρ:=fun _=>⟨some ⟨b,0,none⟩,0,0⟩) (b:=b) rfl 0 hvs k f e
  refine⟨y,rl.fr k y ?_,h2⟩
  rw[hj];exact acD vs 0 j y hy
 ·rw[aaF] at e
  split at e
  ·cases e;exact⟨[⟨b,m,ty,false⟩],⟨b,m,rfl,rfl,ah7 hm'⟩,fun o ho=>ho⟩
  ·cases e
 ·rw[aaF] at e e'
  split at e<;>split at e'
  ·rename_i h2 h3;exact absurd (h2.trans h3.symm) hne
  ·cases e'
  ·cases e
  ·cases e
def aHm(own:OwX)(nm:Nat):Option (TypeId×List DV):=match aaz own nm with
 |some (.o ty cs false)=>match aej cs with
  |some l=>some (ty,l)
  |none=>none
 |_=>none
theorem rzM{fb:Func}{b:Nat}{m:List Value}{ty:TypeId}{lo:Bool}{ds cs1 cs':List DV}{rv:DV}(hmb:C.mb=[b])(hr:awn tt fr own fb.results.toList=some ds)(ho:aHm own NM=some (ty,cs1))(hd:aku ds=rv)(hc:cs1=cs'):
  CfS prog GB C n (adi C prog fb (at1 C b m ty lo rv cs')) fr own (.ex .ret []):=by
 refine⟨fun ρ G ov a w r=>?_⟩
 obtain⟨vs,h1,h2⟩:=aot r hr
 have hk:Is G rv (ab0 vs):=hd▸aou h2
 unfold aHm at ho
 split at ho<;>try (cases ho;done)
 rename_i hb
 split at ho<;>cases ho
 rename_i hl
 obtain⟨b',m',rest,h3,h4,h5,h6⟩:=r.lend hb hl
 have hbb:b'=b:=by
  have:=(r.h.hown _ (h5.mem_iff.2 (bU _ aZ))).2.2.2 rfl
  rw[hmb] at this;simpa using this
 subst hbb hc
 exact adf (C:=C) (n:=n) (fr:=frA a) (own:=ov) (G:=G) (M:=[⟨b',m,ty,lo⟩]) (css:=[m']) (K:=fun v css G'=>Is G' rv v∧ ∃m',css=[m']∧IsLs G' cs1 m') h1 rfl ([⟨b',m',ty,false⟩]++rest) h5 (qK _ _) ⟨hk,m',rfl,h4⟩ a w ⟨r.h,r.sz,aaN a,r.df⟩
end
section
variable {GB:Gh} {C:Ctx} {n:Nat} {fr1 fr2:FrX} {own1 own2:OwX} {cf1 cf2:Cf} {vc1 vc2:List Prop} {Q0:Exit→Act→World→Prop} {fr fr':FrX} {own own':OwX} {cf cf':Cf} {vc:List Prop} {ops:Array Oper} {o:Oper} {K:List Kt} {r:List Oper}
theorem csd[fu1:Fu][fu2:Fu](d:Nat){p:Prop}{hp:Decidable p}(hl:aav fr d=some (.d (.v (.bool (@decide p hp)))))(g1:go tt n fu1.n [] ((d, .tt)::fr) own (.ops ops r K)=⟨vc1,fr1,own1,cf1⟩)(g2:go tt n fu2.n [] ((d, .ff)::fr) own (.ops ops r K)=⟨vc2,fr2,own2,cf2⟩)
  (k1:p→CfS prog GB C n Q0 fr1 own1 cf1)(k2: ¬p→CfS prog GB C n Q0 fr2 own2 cf2)
  (v1:p→aaj vc1:=by intro;first|exact trivial|(simp only[aaj];omega)|(simp only[aaj,aK,aN,aW];omega))(v2: ¬p→aaj vc2:=by intro;first|exact trivial|(simp only[aaj];omega)|(simp only[aaj,aK,aN,aW];omega)):CfS prog GB C n Q0 fr own (.ops ops r K):=
 csb (fu1:=fu1) (fu2:=fu2) d hl g1 g2 (fun h=>k1 (of_decide_eq_true h)) (fun h=>k2 (of_decide_eq_false h)) (fun h=>v1 (of_decide_eq_true h)) (fun h=>v2 (of_decide_eq_false h))
theorem nlC(d:Nat)(hl:aav fr d=some .nl){c:Code}(h:CfS prog GB C n Q0 ((d, .d (.sl []))::fr) own (.code c K)):CfS prog GB C n Q0 fr own (.code c K):=
 abJ (g:= .d (.sl [])) hl (fun ρ G y hy=>(show Is G (.sl []) y from acE (ρ:=ρ) (f:= .nl) hy rfl)) h
theorem OpR.to{lk:LK}{bk:BM}{o:Oper}{f g:FX}(h:OpR prog GB C n lk bk o f [] [])(e: ∀ρ G y,IsX ρ G f y→IsX ρ G g y):OpR prog GB C n lk bk o g [] []:=fun hd tl tb Q h1 h2 hf hk=>
 h hd tl tb Q h1 h2 hf ⟨fun ρ G ov a w r=>hk.run ρ G ov a w ⟨r.gb,r.h,r.sz,r.df,fun k f' e'=>by
  cases ho:o.dst with
  |none=>exact r.fx k f' (by simpa only[ho,upL] using e')
  |some d=>
   have hr:=r.fx
   simp only[ho,upL] at e' hr
   by_cases q:k=d
   ·rw[if_pos q] at e';cases e'
    obtain⟨y,h3,h4⟩:=hr k f (by rw[if_pos q])
    exact⟨y,h3,e _ _ _ h4⟩
   ·rw[if_neg q] at e'
    exact hr k f' (by rw[if_neg q];exact e'),r.bx,r.dj,r.fxd⟩⟩
def opS(fr:FrX)(own:OwX)(cf:Cf):Option (Oper×FX):=match opC fr cf with
 |some o=>match aCC tt (lkC fr cf) (bkC fr own cf) o.dst o.op with
  |some ⟨none,f,[],[]⟩=>some (o,f)
  |_=>none
 |none=>none
theorem csS[fu1:Fu][fu2:Fu]{f:FX}{p:Prop}{hp:Decidable p}(hs:opS fr own cf=some (o,f))(hb:toB f=some (@decide p hp))(g1:goA tt n fu1.n fr own cf .tt [] []=⟨vc1,fr1,own1,cf1⟩)(g2:goA tt n fu2.n fr own cf .ff [] []=⟨vc2,fr2,own2,cf2⟩)
  (k1:p→CfS prog GB C n Q0 fr1 own1 cf1)(k2: ¬p→CfS prog GB C n Q0 fr2 own2 cf2)
  (v1:p→aaj vc1:=by intro;first|exact trivial|(simp only[aaj];kernel_rfl)|(simp only[aaj];omega)|(simp only[aaj,aK,aN,aW];omega))(v2: ¬p→aaj vc2:=by intro;first|exact trivial|(simp only[aaj];kernel_rfl)|(simp only[aaj];omega)|(simp only[aaj,aK,aN,aW];omega)):CfS prog GB C n Q0 fr own cf:=by
 unfold opS at hs
 split at hs<;>try (cases hs;done)
 rename_i o' hh
 split at hs<;>cases hs
 rename_i hc
 obtain⟨dst,op,ty,pos,af,gd⟩:=o
 have h0:=ahV (P:=prog) (GB:=GB) (C:=C) (n:=n) (ty':=ty) (pos:=pos) (af:=af) (gd:=gd) abM hc (fun p e=>by cases e)
 by_cases h:p
 ·exact us hh (OpR.to h0 fun ρ G y hy=>by rw[ajT hy hb,decide_eq_true h];exact rfl) g1 (v1 h) (k1 h)
 ·exact us hh (OpR.to h0 fun ρ G y hy=>by rw[ajT hy hb,decide_eq_false h];exact rfl) g2 (v2 h) (k2 h)
theorem aC9{tl:LK}{tb:BM}{Ψ:Act→World→Prop}{d:Nat}{B:Bk}{f:FX}{v:DV}
  (hz: ∀lk bk ρ G ov a w,RlX GB C n lk bk ρ G ov a w→bk d=some B→ ∃G' ov',GLe G G'∧ab5 C ov' G' w∧(∀o∈ov,(ρ d).a≠some ⟨o.b,0,none⟩→o∈ov')∧ ∀y,IsX ρ G f y→Is G' v y)(hk:SX GB C n (upL tl (some d) (.d v)) (Sx.upB tb [(d,none)]) Ψ):SX GB C n (upL tl (some d) f) (Sx.upB tb [(d,some B)]) Ψ:=by
 refine⟨fun ρ G ov a w r=>?_⟩
 have hbd:Sx.upB tb [(d,some B)] d=some B:=by simp[Sx.upB]
 obtain⟨G',ov',h1,h2,h3,h4⟩:=hz _ _ ρ G ov a w r hbd
 refine hk.run ρ G' ov' a w ⟨r.gb.trans h1,h2,r.sz,r.df,fun k g e=>?_,fun m B' e=>?_,fun m m' B1 B2 e e'=>?_,r.fxd⟩
 ·by_cases hk:k=d
  ·subst hk
   simp only[upL,if_true] at e;cases e
   obtain⟨y,g1,g2⟩:=r.fx k f (by simp[upL])
   exact⟨y,g1,h4 y g2⟩
  ·simp only[upL,hk,if_false] at e
   obtain⟨y,g1,g2⟩:=r.fx k g (by simp[upL,hk,e])
   exact⟨y,g1,g2.up h1⟩
 ·simp only[Sx.upB] at e
  split at e
  ·cases e
  ·rename_i hm
   have e':Sx.upB tb [(d,some B)] m=some B':=by simp[Sx.upB,hm,e]
   obtain⟨os,g1,g2⟩:=r.bx m B' e'
   exact⟨os,g1.up h1,fun o ho=>h3 o (g2 o ho) fun hc=>r.dj m d B' B e' hbd hm _ (g1.blk ho) hc⟩
 ·simp only[Sx.upB] at e e'
  split at e
  ·cases e
  ·rename_i hm
   split at e'
   ·cases e'
   ·rename_i hm'
    exact r.dj m m' B1 B2 (by simp[Sx.upB,hm,e]) (by simp[Sx.upB,hm',e'])
theorem OpR.frz2{lk:LK}{bk:BM}{o:Oper}{d nm:Nat}{B:Bk}{f:FX}{v:DV}(hd:o.dst=some d)(h:OpR prog GB C n lk bk o f [(nm,none),(d,some B)] [d])
  (hz: ∀lk bk ρ G ov a w,RlX GB C n lk bk ρ G ov a w→bk d=some B→ ∃G' ov',GLe G G'∧ab5 C ov' G' w∧(∀o∈ov,(ρ d).a≠some ⟨o.b,0,none⟩→o∈ov')∧ ∀y,IsX ρ G f y→Is G' v y):OpR prog GB C n lk bk o (.d v) [(nm,none),(d,none)] [d]:=by
 intro hd' tl tb K s1 s2 hf hk
 refine h hd' tl tb K s1 s2 hf ?_
 rw[hd] at hk⊢
 exact aC9 (tb:=Sx.upB tb [(nm,none)]) hz hk
def aH2(d:Nat)(nm:Option Nat):List (Nat×Option Bk):=match nm with
 |some nm=>[(nm,none),(d,none)]
 |none=>[(d,none)]
theorem apf[fu:Fu]{d:Nat}{nm:Option Nat}{e s b:Nat}{ds ds2:List DV}(ds':List DV)(h:aFm fr own cf=some ⟨d,nm,e,s,b,ds,ds2⟩)(hds:ds++ds2=ds')(ho2:adn s ds2)(hgo:goA tt n fu.n fr own cf (.d (.sl ds')) (aH2 d nm) [d]=⟨vc,fr',own',cf'⟩)(k:CfS prog GB C n Q0 fr' own' cf')
  (ho:nm.isNone=true→adn s ds∧0<ds2.length:=by intro h;first|(cases h;done)|exact⟨ahG rfl,by simp⟩)(hbd:(ds.length+ds2.length)*b≤140737488355328:=by simp;omega)
  (hv:aaj vc:=by first|exact trivial|(simp only[aaj];kernel_rfl)|(simp only[aaj];omega)|(simp only[aaj,aK,aN,aW];omega)):CfS prog GB C n Q0 fr own cf:=by
 obtain⟨o,h1,h2,h3⟩:=asS (GB:=GB) (C:=C) (n:=n) h ds' hds ho ho2 hbd
 cases nm with
 |none=>exact us h1 (h3.frzRow h2) hgo hv k
 |some nm=>exact us h1 (OpR.frz2 h2 h3 fun _ _ _ _ _ _ _ r hb=>r.frzRow hb) hgo hv k
theorem knT[fu:Fu]{f:FX}(hs:opS fr own cf=some (o,f))(hb:toB f=some true)(hgo:goA tt n fu.n fr own cf .tt [] []=⟨vc,fr',own',cf'⟩)(k:CfS prog GB C n Q0 fr' own' cf')
  (hv:aaj vc:=by first|exact trivial|(simp only[aaj];kernel_rfl)|(simp only[aaj];omega)|(simp only[aaj,aK,aN,aW];omega)):CfS prog GB C n Q0 fr own cf:=by
 unfold opS at hs
 split at hs<;>try (cases hs;done)
 rename_i o' hh
 split at hs<;>cases hs
 rename_i hc
 obtain⟨dst,op,ty,pos,af,gd⟩:=o
 have h0:=ahV (P:=prog) (GB:=GB) (C:=C) (n:=n) (ty':=ty) (pos:=pos) (af:=af) (gd:=gd) abM hc (fun p e=>by cases e)
 exact us hh (OpR.to h0 fun ρ G y hy=>by rw[ajT hy hb];exact rfl) hgo hv k
theorem knF[fu:Fu]{f:FX}(hs:opS fr own cf=some (o,f))(hb:toB f=some false)(hgo:goA tt n fu.n fr own cf .ff [] []=⟨vc,fr',own',cf'⟩)(k:CfS prog GB C n Q0 fr' own' cf')
  (hv:aaj vc:=by first|exact trivial|(simp only[aaj];kernel_rfl)|(simp only[aaj];omega)|(simp only[aaj,aK,aN,aW];omega)):CfS prog GB C n Q0 fr own cf:=by
 unfold opS at hs
 split at hs<;>try (cases hs;done)
 rename_i o' hh
 split at hs<;>cases hs
 rename_i hc
 obtain⟨dst,op,ty,pos,af,gd⟩:=o
 have h0:=ahV (P:=prog) (GB:=GB) (C:=C) (n:=n) (ty':=ty) (pos:=pos) (af:=af) (gd:=gd) abM hc (fun p e=>by cases e)
 exact us hh (OpR.to h0 fun ρ G y hy=>by rw[ajT hy hb];exact rfl) hgo hv k
theorem dpE(nm:Nat){ty:TypeId}{cs:List FX}{lo:Bool}{ds:List DV}{own1:OwX}{e:Exit}(hb:aaz own nm=some (.o ty cs lo))(hc:aej cs=some ds)(ho:(nm,some (.o ty (ds.map .d) lo))::own=own1)(k:CfS prog GB C n Q0 fr own1 (.ex e K)):CfS prog GB C n Q0 fr own (.ex e K):=by
 subst ho
 have old: ∀m B,aaz ((nm,some (.o ty (ds.map .d) lo))::own) m=some B→ ∃B0,aaz own m=some B0:=fun m B e=>by
  rw[aaF] at e
  split at e
  ·rename_i h;subst h;exact⟨_,hb⟩
  ·exact⟨_,e⟩
 refine⟨fun ρ G ov a w r=>k.run ρ G ov a w ⟨r.gb,r.h,r.sz,r.df,r.fx,fun m B e=>?_,fun m m' B B' e e'=>?_,r.fxd⟩⟩
 ·rw[aaF] at e
  split at e
  ·rename_i h;subst h;cases e
   obtain⟨os,⟨b,m,h1,rfl,h2⟩,h3⟩:=r.bx _ _ hb
   exact⟨_,⟨b,m,h1,rfl,ah7 (ac8 h2 hc)⟩,h3⟩
  ·exact r.bx _ _ e
 ·obtain⟨B0,h0⟩:=old _ _ e
  obtain⟨B1,h1⟩:=old _ _ e'
  exact r.dj m m' B0 B1 h0 h1
end
section
variable {GB:Gh} {C:Ctx} {n:Nat} {Q0:Exit→Act→World→Prop} {fr fr':FrX} {own own':OwX} {cf cf':Cf} {vc:List Prop} {ops:Array Oper} {o:Oper} {K:List Kt} {r:List Oper}
def OpF(GB:Gh)(C:Ctx)(n:Nat)(lk:LK)(bk:BM)(o:Oper)(ι:Type)(f:ι→FX)(bl:ι→List (Nat×Option Bk))(nw:List Nat):Prop:=
 aaO n o.dst=true→ ∀(tl:LK) (tb:BM) (K:Act→World→Prop),alg lk tl→alg bk tb→acK nw o.dst tl tb→(∀x,SX GB C n (upL tl o.dst (f x)) (Sx.upB tb (bl x)) K)→SX GB C n tl tb (fun a w=> ∀Q,o.wp prog a w K Q)
def hdO:Cf→Option (Array Oper×Oper×List Oper×List Kt)
 | .ops ops (o::r) K=>some (ops,o,r,K)
 |_=>none
def goF(n q:Nat)(fr:FrX)(own:OwX)(cf:Cf)(f:FX)(bl:List (Nat×Option Bk)):Res:=match cf with
 | .ops ops (o::r) K=>ake own bl fun own'=>aCA fr o.dst f fun fr'=>go tt n q [] fr' own' (.ops ops r K)
 |_=>bad
def okF(n:Nat)(fr:FrX)(own:OwX)(cf:Cf)(nw:List Nat):Bool:=match cf with
 | .ops ops (o::_) _=>ah0 nw o.dst fr own&&aaO n o.dst&&grd ops (aav fr) o.guard
 |_=>false
theorem usF{q:Nat}{ι:Type}{f:ι→FX}{bl:ι→List (Nat×Option Bk)}{nw:List Nat}{vc:ι→List Prop}{fr':ι→FrX}{own':ι→OwX}{cf':ι→Cf}(hh:opC fr cf=some o)(ho:okF n fr own cf nw=true)(h:OpF GB C n (lkC fr cf) (bkC fr own cf) o ι f bl nw)
  (hgo: ∀x,goF n q fr own cf (f x) (bl x)=⟨vc x,fr' x,own' x,cf' x⟩)(hv: ∀x,aaj (vc x))(k: ∀x,CfS prog GB C n Q0 (fr' x) (own' x) (cf' x)):CfS prog GB C n Q0 fr own cf:=by
 obtain⟨ops,h1,h2⟩:=ayU hh
 cases cf with
 |ops ops' r K=>
  cases r with
  |nil=>cases h1
  |cons o' r=>
   cases h1
   simp only[okF,cX] at ho
   refine⟨fun ρ G ov a w rl=>?_⟩
   show wpListIn _ _ _ _ _ (o::r) a w
   unfold wpListIn
   rw[if_pos (atV ho.2 ρ G ov a w rl)]
   refine aEz ((h ho.1.2 _ _ (fun a w=>a.defers=C.mks∧wpListIn (FW C.rd) 0 prog ops (cQ C.rd prog Q0 K) r a w) (alg.refl _) (alg.refl _) (afl ho.1.1) (fun x=>?_)).run ρ G ov a w rl) fun a' w' k=>⟨k.1.trans rl.df.symm,k.2⟩
   refine⟨fun ρ G ov a w r0=>⟨r0.df,SX.run (GB:=GB) (C:=C) (n:=n) ?_ ρ G ov a w r0⟩⟩
   have hx:=hgo x
   unfold goF at hx
   simp only[aeM,aj3] at hx
   have:=gx' (GB:=GB) (C:=C) (Q0:=Q0) hx (hv x) (k x)
   show SX GB C n (upL (aav fr) o.dst (f x)) (Sx.upB (aaz own) (bl x)) _
   rw[←aj1,←afH]
   exact this
 |_=>cases ho
theorem ax0{lk:LK}{bk:BM}{fo:Operand}{args:Array Operand}{tys:Array TypeId}{f:FuncId}{d:Nat}{ds:List DV}{ι:Type}{ty ty0:TypeId}{pos:String}{af:Array Edge}{gd:Option (Nat×Bool)}{cs':ι→List DV}
  (ha:amd lk fo args=some (f,ds))(hF:PN GB prog f ds ty0 ι cs'):OpF GB C n lk bk ⟨some d, .call ⟨.value fo,args,tys⟩,ty,pos,af,gd⟩ ι (fun _=> .ov d 0) (fun x=>[(d,some (.o ty0 ((cs' x).map .d) true))]) [d]:=by
 intro hd tl tb K' s1 s2 hf hk
 refine⟨fun ρ G ov a w r Q=>?_⟩
 have r1:=r.mono s1 s2
 obtain⟨h1,h2⟩:=alj ha
 obtain⟨y,hy,hy'⟩:=r1.ev h1
 rw[(aa4 (G:=G)).1 hy'] at hy
 obtain⟨vs,h3,h4⟩:=r1.evDs h2
 refine ad9 (M:=[]) (rest:=ov) hy h3 (List.Perm.refl _) (hF G vs r.gb h4) hd (fun v own1 G' hG hK a' w' rl=>?_) a w Q ⟨r.h,r.sz,aaN a,r.df⟩
 obtain⟨x,b,m,rfl,rfl,hm⟩:=hK
 have rl':Rel C n (Sx.put (frA a) (some d) (.pointer (some ⟨b,0,none⟩))) (⟨b,m,ty0,true⟩::ov) G' a' w':=by simpa[relo,flM] using rl
 have hnd:=(bR.1 rl'.h.nd).1
 exact(hk x).run _ G' _ a' w' (r.new (x:=⟨some ⟨b,0,none⟩,0,0⟩) (B':= .o ty0 ((cs' x).map .d) true) (os:=[⟨b,m,ty0,true⟩]) hf hG.le rl'.h ⟨b,m,by simp,rfl,ah7 hm⟩ (fun o ho=>by rw[aY.1 ho];exact aZ)
  (fun o ho=>aJ _ ho) (fun o ho e=>by cases e;exact hnd o ho rfl) (f:= .ov d 0) (y:= .pointer (some ⟨b,0,none⟩)) ⟨b,by simp,rfl⟩ (abk rl'))
def aHD(fr:FrX)(cf:Cf):Option (FuncId×List DV×Nat):=match opC fr cf with
 |some ⟨some d, .call ⟨.value fo,args,_⟩,_,_,_,_⟩=>match amd (lkC fr cf) fo args with
  |some (f,ds)=>some (f,ds,d)
  |none=>none
 |_=>none
theorem cn[fu:Fu]{f:FuncId}{d:Nat}{ds:List DV}{ty:TypeId}{ι:Type}{cs':ι→List DV}{vc:ι→List Prop}{fr':ι→FrX}{own':ι→OwX}{cf':ι→Cf}(ha:aHD fr cf=some (f,ds,d))(hF:PN GB prog f ds ty ι cs')
  (hgo: ∀x,(aCy (cs' x) fun csx=>goF n fu.n fr own cf (.ov d 0) [(d,some (.o ty csx true))])=⟨vc x,fr' x,own' x,cf' x⟩)(k: ∀x,CfS prog GB C n Q0 (fr' x) (own' x) (cf' x))(ho:okF n fr own cf [d]=true:=by rfl)
  (hv: ∀x,aaj (vc x):=by intro;first|exact trivial|(simp only[aaj];kernel_rfl)|(simp only[aaj];omega)|(simp only[aaj,aK,aN,aW];omega)):CfS prog GB C n Q0 fr own cf:=by
 unfold aHD at ha
 split at ha<;>try (cases ha;done)
 rename_i hh
 split at ha<;>cases ha
 rename_i h1
 simp only[alZ] at hgo
 exact usF hh ho (ax0 h1 hF) hgo hv k
def aFS(C:Ctx)(b:Nat)(m:List Value)(ty:TypeId)(lo:Bool)(ι:Type)(rv:ι→DV)(cs':ι→List DV):Ending→World→Prop:=akt C [⟨b,m,ty,lo⟩] (fun v css G'=> ∃x,Is G' (rv x) v∧ ∃m',css=[m']∧IsLs G' (cs' x) m')
end
section
variable {GB:Gh} {C:Ctx} {n:Nat} {Q0:Exit→Act→World→Prop} {fr fr':FrX} {own own':OwX} {cf cf':Cf} {vc:List Prop} {ops:Array Oper} {o:Oper} {K:List Kt} {r:List Oper}
def aI9(fr:FrX)(cf:Cf):Option Nat:=match opC fr cf with
 |some o=>o.dst
 |none=>none
def aGn(C:Ctx)(b:Nat)(ty:TypeId)(s:Nat)(ty2:TypeId)(ι:Type)(rows cs':ι→List DV):Ending→World→Prop:=ahg C (fun v own' G'=> ∃x w m' B,v= .slice w.a w.n w.c∧own'=⟨b,m',ty,false⟩::B∧IsLs G' (cs' x) m'∧abf G' ⟨w,s,ty2,rows x,true⟩ B∧ ∀o∈B,b≠o.b)
end
section
variable {GB:Gh} {C:Ctx} {n:Nat} {Q0:Exit→Act→World→Prop} {fr fr':FrX} {own own':OwX} {cf cf':Cf} {vc:List Prop} {ops:Array Oper} {o:Oper} {K:List Kt} {r:List Oper}
def aul(C:Ctx)(ty:TypeId)(ι:Type)(cs:ι→List DV):Ending→World→Prop:=ahg C (fun v own' G'=> ∃x b m,v= .pointer (some ⟨b,0,none⟩)∧own'=[⟨b,m,ty,true⟩]∧IsLs G' (cs x) m)
theorem fnN[fu:Fu]{f:FuncId}{fb:Func}{c:Code}{m:Nat}{ds:List DV}{ty:TypeId}{ι:Type}{cs:ι→List DV}(hf:prog.funcs[f]? =some fb)(hb:fb.body=some c)(hn:(fb.name== "runtime.NumGoroutine")=false)(hm:fb.ntmps=m)(hlen:Nat.ble ds.length m=true)
  (hgo:go tt m fu.n [] (akv 0 ds) [] (.code c [])=⟨vc,fr,own,cf⟩)(k: ∀C:Ctx,C.mb=[]→CfS prog GB C m (adi C prog fb (aul C ty ι cs)) fr own cf)
  (hv:aaj vc:=by first|exact trivial|(simp only[aaj];kernel_rfl)|(simp only[aaj];omega)|(simp only[aaj,aK,aN,aW];omega)):PN GB prog f ds ty ι cs:=by
 intro G vs hg hvs
 refine FnO.introR hf hb hn hm (by rw[hvs.len];exact hlen) fun C _ hmb hrd hfx=>?_
 intro a w rl
 refine anM hrd ?_
 have h:=gx' (GB:=GB) (C:=C) (Q0:=adi C prog fb (aul C ty ι cs)) hgo hv (k C (by simpa using hmb))
 exact h.run (fun _=>⟨none,0,0⟩) G [] a w ⟨hg,rl.h,rl.sz,rl.df,(fun k f e=>ave hvs rl.fr k f e),(fun nm B e=>by cases e),(fun nm nm' B B' e=>by cases e),fun nm p _ _ e=>by rw[hfx] at e;cases e⟩
theorem rzN{fb:Func}{t d:Nat}{ty:TypeId}{ι:Type}{cs:ι→List DV}{cs1:List FX}{l:List DV}(x:ι)(hr:fb.results.toList=[.tmp t])(hl:aav fr t=some (.ov d 0))(hw:aaz own d=some (.o ty cs1 true))(hc:aej cs1=some l)(hd:l=cs x):
  CfS prog GB C n (adi C prog fb (aul C ty ι cs)) fr own (.ex .ret []):=by
 refine⟨fun ρ G ov a w r=>?_⟩
 subst hd
 obtain⟨b,m,rest,h3,h4,h5,h6⟩:=r.lend hw hc
 obtain⟨y,hy,b',hb',hy'⟩:=r.ev (x:= .tmp t) (f:= .ov d 0) hl
 rw[h3] at hb';cases hb';subst hy'
 exact auj (C:=C) (n:=n) (fr:=frA a) (own:=ov) (G:=G) (vs:=[.pointer (some ⟨b,0,none⟩)]) (by rw[hr];exact .tmp hy .nil) (⟨b,m,ty,true⟩::rest) [⟨b,m,ty,true⟩] (by simpa using h5) (.cons_cons _ (mV _)) (fun _=>⟨x,b,m,rfl,rfl,h4⟩) a w ⟨r.h,r.sz,aaN a,r.df⟩
theorem bxf[fu:Fu]{d:Nat}{l:List DV}(h:aHy fr cf=some (d,l))(hgo:goA tt n fu.n fr own cf (.d (.pt l)) [(d,none)] [d]=⟨vc,fr',own',cf'⟩)(k:CfS prog GB C n Q0 fr' own' cf')
  (hv:aaj vc:=by first|exact trivial|(simp only[aaj];kernel_rfl)|(simp only[aaj];omega)|(simp only[aaj,aK,aN,aW];omega)):CfS prog GB C n Q0 fr own cf:=by
 unfold aHy at h
 split at h<;>try (cases h;done)
 rename_i hh
 split at h<;>try (cases h;done)
 rename_i g hx
 rw[cond_eq_ite] at h
 split at h<;>try (cases h;done)
 rename_i hc
 simp only[cX] at hc
 split at h<;>cases h
 rename_i hl
 exact us hh (aAK hx hc.1 hc.2 hl) hgo hv k
end
section
variable {GB:Gh} {C:Ctx} {n:Nat} {Q0:Exit→Act→World→Prop} {fr fr':FrX} {own own':OwX} {cf cf':Cf} {vc:List Prop} {ops:Array Oper} {o:Oper} {K:List Kt} {r:List Oper}
def mkB:List (Option DV)→SV→List DV
 |[],_=>[]
 |some d::t,w=>d::mkB t w
 |none::t,w=> .v (.slice w.a w.n w.c)::mkB t w
def aFz(lk:LK):List Operand→Option (Option Nat×List (Option DV))
 |[]=>some (none,[])
 |x::t=>match evX lk x,aFz lk t with
  |some (.rw nm),some (none,l)=>some (some nm,none::l)
  |some f,some (q,l)=>match aks f with
   |some d=>some (q,some d::l)
   |none=>none
  |_,_=>none
def aoi(lk:LK)(fo:Operand)(args:Array Operand):Option (FuncId×Nat×List (Option DV)):=match evX lk fo with
 |some (.d (.v (.func (.func f) ⟨[]⟩ ⟨[]⟩)))=>match aFz lk args.toList with
  |some (some nm,l)=>some (f,nm,l)
  |_=>none
 |_=>none
theorem aiP{lk:LK}{bk:BM}{ρ:NE}{G:Gh}{ov:List Own}{a:Act}{w:World}(r:RlX GB C n lk bk ρ G ov a w){z:SV}: ∀{x:List Operand} {q:Option Nat} {l:List (Option DV)},aFz lk x=some (q,l)→(∀nm,q=some nm→ρ nm=z)→
  ∃y,agr (frA a) x=some y∧IsLs G (mkB l z) y
 |[],q,l,e,_=>by cases e;exact⟨[],rfl, .nil⟩
 |x::t,q,l,e,hb=>by
  simp only[aFz] at e
  split at e
  ·rename_i nm l' h1 h2
   cases e
   obtain⟨y,h3,h4⟩:=r.ev h1
   cases (show y=_ from h4)
   obtain⟨ys,h5,h6⟩:=aiP r (z:=z) h2 (fun nm e=>by cases e)
   have hz:=hb nm rfl
   subst hz
   exact⟨Value.slice (ρ nm).a (ρ nm).n (ρ nm).c::ys,by simp only[agr,h3,h5], .cons ((aa4 (G:=G)).2 rfl) h6⟩
  ·rename_i f q' l' _ h1 h2
   cases hd:aks f with
   |none=>rw[hd] at e;cases e
   |some d=>
   rw[hd] at e;cases e
   obtain⟨y,h3,h4⟩:=r.ev h1
   obtain⟨ys,h5,h6⟩:=aiP r (z:=z) h2 hb
   exact⟨y::ys,by simp only[agr,h3,h5], .cons (acE h4 hd) h6⟩
  ·cases e
theorem axr{lk:LK}{bk:BM}{fo:Operand}{args:Array Operand}{tys:Array TypeId}{f:FuncId}{nm d:Nat}{l:List (Option DV)}{s:Nat}{ty ty0:TypeId}{pos:String}{af:Array Edge}{gd:Option (Nat×Bool)}{dsi dso pre post:List DV}{lo:Bool}(hne:Nat.beq nm d=false)
  (ha:aoi lk fo args=some (f,nm,l))(hb:bk nm=some (.b ty0 s dsi lo))(hF:PB GB prog f (mkB l) s ty0 dsi (fun w=> .tp (pre++ .v (.slice w.a w.n w.c)::post)) dso):OpR prog GB C n lk bk ⟨some d, .call ⟨.value fo,args,tys⟩,ty,pos,af,gd⟩ (.bx true pre d post) [(nm,none),(d,some (.b ty0 s dso lo))] [d]:=by
 intro hd tl tb K' s1 s2 hf hk
 refine⟨fun ρ G ov a w r Q=>?_⟩
 have r1:=r.mono s1 s2
 unfold aoi at ha
 split at ha<;>try (cases ha;done)
 rename_i h1
 split at ha<;>cases ha
 rename_i h2
 obtain⟨y,hy,hy'⟩:=r1.ev h1
 rw[(aa4 (G:=G)).1 hy'] at hy
 obtain⟨B,g1,g2⟩:=r1.bx _ _ hb
 have hB:abf G ⟨ρ nm,s,ty0,dsi,lo⟩ B:=g1
 obtain⟨vs,h7,h8⟩:=aiP r1 (z:=ρ nm) h2 (fun nm e=>by cases e;rfl)
 have hp: ∃rest,ov.Perm (B++rest)∧ ∀o∈ov,(∀o'∈B,o.b≠o'.b)→o∈rest:=by
  rcases hB with⟨vs',⟨_,_,e⟩|⟨b0,r0,lo0,_,e,_⟩,_⟩
  ·rw[e];exact⟨ov,List.Perm.refl _,fun o ho _=>ho⟩
  ·rw[e] at g2⊢
   obtain⟨l1,l2,e2⟩:=kW (g2 _ aZ)
   rw[e2]
   refine⟨l1++l2,mY,fun o ho hno=>?_⟩
   rcases bZ.1 ho with ho|ho
   ·exact bU _ ho
   ·rcases aU.1 ho with rfl|ho
    ·exact absurd rfl (hno _ aZ)
    ·exact bM _ ho
 obtain⟨rest,h5,h6⟩:=hp
 refine ad9 (M:=B) (rest:=rest) hy h7 h5 (hF G (ρ nm) vs B r.gb hB.weak h8) hd (fun v own1 G' hG hK a' w' rl=>?_) a w Q ⟨r.h,r.sz,aaN a,r.df⟩
 obtain⟨z,hr,vs',k1,k2,k3,k4⟩:=hK
 have k1':=k1.relo (flM B)
 have e2:lo=true→ ∀o∈own1.map (relo (flM B)),o.lo=true:=fun hl o ho=>by
  obtain⟨o',_,rfl⟩:=bJ.1 ho
  obtain⟨_,_,_,_,hlo⟩:=hB
  exact aiq _ (hlo hl)
 generalize own1.map (relo (flM B))=B' at rl e2 k1'
 have rl':Rel C n (Sx.put (frA a) (some d) v) (B'++rest) G' a' w':=rl
 have hdis:=(fL.1 rl'.h.nd).2.2
 have r2:=r.dropB nm
 have hnn:nm≠d:=fun e=>by subst e;rw[nY] at hne;cases hne
 have hf2:acK [d] (some d) tl (Sx.upB tb [(nm,none)]):=fun q hq=>by
  obtain⟨f1,f2⟩:=hf q hq
  refine⟨f1,fun k B e1 e=>?_⟩
  simp only[Sx.upB] at e
  split at e
  ·cases e
  ·exact f2 k B e1 e
 have hsep: ∀q B0,Sx.upB tb [(nm,none)] q=some B0→ ∀o∈ov,(ρ q).a=some ⟨o.b,0,none⟩→o∈rest:=fun q B0 e o ho hbq=>by
  simp only[Sx.upB] at e
  split at e
  ·cases e
  ·rename_i hqn
   refine h6 o ho fun o' ho' he=>?_
   exact r.dj nm q _ _ (s2 _ _ hb) e (Ne.symm hqn) o'.b (g1.blk ho') (by rw[hbq,he])
 obtain⟨m,rfl,hm⟩:=adS.1 hr
 obtain⟨m1,m2',rfl,c1,c2⟩: ∃m1 m2',m=m1++m2'∧IsLs G' pre m1∧IsLs G' (.v (.slice z.a z.n z.c)::post) m2':=hm.unapp
 obtain⟨u,m2,rfl,c3,c4⟩:=aae.1 c2
 rw[aa4.1 c3] at rl'
 have r3:=r2.new' (x:=z) (B':= .b ty0 s dso lo) (os:=B') (ov':=B'++rest) (f:= .bx true pre d post) (y:= .tuple ⟨m1++Value.slice z.a z.n z.c::m2⟩) hf2 hG.le rl'.h ⟨vs',by simpa using k1',k2,k3,e2⟩ (fun o ho=>bU _ ho)
  (fun q B0 hq e o ho hbq=>⟨bM _ (hsep q B0 e o ho hbq),fun hc=>by
   have hx: ∃o1∈B',o1.b=o.b:=by
    rcases k1' with⟨_,h,_⟩|⟨b0,rest0,lo0,h,hB,_⟩
    ·rw[show z=_ from h] at hc;cases hc
    ·rw[show z=_ from h] at hc;cases hc;exact⟨⟨_,aak vs'++rest0,_,lo0⟩,by rw[hB];exact aZ,rfl⟩
   obtain⟨o1,ho1,he1⟩:=hx
   exact hdis o1 ho1 o (hsep q B0 e o ho hbq) he1⟩) ⟨m1,m2,by simp,c1,c4⟩ (abk rl')
 exact hk.run _ G' _ a' w' r3
structure CbA where
 f:FuncId
 nm:Nat
 l:List (Option DV)
 ty:TypeId
 s:Nat
 ds:List DV
 lo:Bool
 d:Nat
def aFv(fr:FrX)(own:OwX)(cf:Cf):Option CbA:=match opC fr cf with
 |some ⟨some d, .call ⟨.value fo,args,_⟩,_,_,_,_⟩=>match aoi (lkC fr cf) fo args with
  |some (f,nm,l)=>match bkC fr own cf nm with
   |some (.b ty s ds lo)=>bif Nat.beq nm d then none else some ⟨f,nm,l,ty,s,ds,lo,d⟩
   |_=>none
  |none=>none
 |_=>none
theorem cb[fu:Fu]{f:FuncId}{nm d:Nat}{l:List (Option DV)}{ty:TypeId}{s:Nat}{dsi dso pre post:List DV}{lo:Bool}(dso':List DV)(ha:aFv fr own cf=some ⟨f,nm,l,ty,s,dsi,lo,d⟩)(hF:PB GB prog f (mkB l) s ty dsi (fun w=> .tp (pre++ .v (.slice w.a w.n w.c)::post)) dso)(he:dso=dso')
  (hgo:goA tt n fu.n fr own cf (.bx true pre d post) [(nm,none),(d,some (.b ty s dso' lo))] [d]=⟨vc,fr',own',cf'⟩)(k:CfS prog GB C n Q0 fr' own' cf')
  (hv:aaj vc:=by first|exact trivial|(simp only[aaj];kernel_rfl)|(simp only[aaj];omega)|(simp only[aaj,aK,aN,aW];omega)):CfS prog GB C n Q0 fr own cf:=by
 subst he
 unfold aFv at ha
 split at ha<;>try (cases ha;done)
 rename_i hh
 split at ha<;>try (cases ha;done)
 rename_i h1
 split at ha<;>try (cases ha;done)
 rename_i h2
 rw[cond_eq_ite] at ha
 split at ha<;>cases ha
 rename_i h3
 exact us hh (axr (by cases hq:Nat.beq nm d with|false=>rfl|true=>exact absurd hq h3) h1 h2 hF) hgo hv k
def ajf:Nat→List (Option DV)→FrX
 |_,[]=>[]
 |i,some v::t=>(i, .d v)::ajf (i+1) t
 |i,none::t=>(i, .rw NM)::ajf (i+1) t
theorem alt(w:SV): ∀l:List (Option DV),(mkB l w).length=l.length
 |[]=>rfl
 |some d::t=>by simp[mkB,alt w t]
 |none::t=>by simp[mkB,alt w t]
theorem aeV{w:SV}{ρ:NE}{G:Gh}(hρ:ρ NM=w): ∀{ds:List (Option DV)} {vs:List Value} (i:Nat),IsLs G (mkB ds w) vs→ ∀k f,aav (ajf i ds) k=some f→ ∃y,(∃j,k=i+j∧vs[j]? =some y)∧IsX ρ G f y
 |[],vs,i,h,k,f,e=>by cases e
 |some d::t,vs,i,h,k,f,e=>by
  obtain⟨y,m,rfl,h1,h2⟩:=aae.1 h
  simp only[ajf] at e
  rw[abe] at e
  split at e
  ·cases e;rename_i hk;exact⟨y,⟨0,hk,rfl⟩,h1⟩
  ·obtain⟨u,⟨j,hj,hu⟩,h3⟩:=aeV hρ (i+1) h2 k f e
   exact⟨u,⟨j+1,by omega,by simpa using hu⟩,h3⟩
 |none::t,vs,i,h,k,f,e=>by
  obtain⟨y,m,rfl,h1,h2⟩:=aae.1 h
  simp only[ajf] at e
  rw[abe] at e
  split at e
  ·cases e;rename_i hk;exact⟨y,⟨0,hk,rfl⟩,by show y=_;rw[hρ];exact aa4.1 h1⟩
  ·obtain⟨u,⟨j,hj,hu⟩,h3⟩:=aeV hρ (i+1) h2 k f e
   exact⟨u,⟨j+1,by omega,by simpa using hu⟩,h3⟩
def asQ(C:Ctx)(s:Nat)(ty:TypeId)(pre post dso:List DV):Ending→World→Prop:=ahg C (fun v own' G'=> ∃w',Is G' (.tp (pre++ .v (.slice w'.a w'.n w'.c)::post)) v∧abf G' ⟨w',s,ty,dso,false⟩ own')
theorem fnB[fu:Fu]{f:FuncId}{fb:Func}{c:Code}{k s:Nat}{l:List (Option DV)}{dsi dso pre post:List DV}{ty:TypeId}(hf:prog.funcs[f]? =some fb)(hb:fb.body=some c)(hn:(fb.name== "runtime.NumGoroutine")=false)(hm:fb.ntmps=k)(hlen:Nat.ble l.length k=true)
  (hgo:go tt k fu.n [] (ajf 0 l) [(NM,some (.b ty s dsi false))] (.code c [])=⟨vc,fr,own,cf⟩)(h: ∀C,CfS prog GB C k (adi C prog fb (asQ C s ty pre post dso)) fr own cf)
  (hv:aaj vc:=by first|exact trivial|(simp only[aaj];kernel_rfl)|(simp only[aaj];omega)|(simp only[aaj,aK,aN,aW];omega)):PB GB prog f (mkB l) s ty dsi (fun w=> .tp (pre++ .v (.slice w.a w.n w.c)::post)) dso:=by
 intro G w vs B hg hB hvs
 refine FnO.introR hf hb hn hm (by rw[hvs.len,alt];exact hlen) fun C _ hmb hrd hfx=>?_
 intro a wd rl
 refine anM hrd ?_
 have h1:=gx' (GB:=GB) (C:=C) (Q0:=adi C prog fb (asQ C s ty pre post dso)) hgo hv (h C)
 refine h1.run (fun _=>w) G (Sx.asB B) a wd ⟨hg,rl.h,rl.sz,rl.df,fun k f e=>?_,fun nm B' e=>?_,fun nm nm' B' B2 e e' hne=>?_,fun nm p _ _ e=>by rw[hfx] at e;cases e⟩
 ·obtain⟨y,⟨j,hj,hy⟩,h2⟩:=aeV (ρ:=fun _=>w) (w:=w) rfl 0 hvs k f e
  refine⟨y,rl.fr k y ?_,h2⟩
  rw[hj];exact acD vs 0 j y hy
 ·rw[aaF] at e
  split at e
  ·cases e;exact⟨Sx.asB B,hB.asB,fun o ho=>ho⟩
  ·cases e
 ·rw[aaF] at e e'
  split at e<;>split at e'
  ·rename_i h2 h3;exact absurd (h2.trans h3.symm) hne
  ·cases e'
  ·cases e
  ·cases e
theorem apK{B:List Own}{G:Gh}{w:SV}{s:Nat}{ty:TypeId}{ds:List DV}{lo:Bool}{ov:List Own}(h:abf G ⟨w,s,ty,ds,lo⟩ B)(g: ∀o∈B,o∈ov): ∃rest,ov.Perm (B++rest):=by
 rcases h with⟨vs',⟨_,_,e⟩|⟨b0,r0,lo0,_,e,_⟩,_⟩
 ·rw[e];exact⟨ov,List.Perm.refl _⟩
 ·rw[e] at g⊢
  obtain⟨l1,l2,e2⟩:=kW (g _ aZ)
  rw[e2]
  exact⟨l1++l2,mY⟩
theorem rzB{fb:Func}{t u d s:Nat}{ty:TypeId}{ds dso:List DV}{f:FX}{v v':DV}(hr:fb.results.toList=[.tmp t, .tmp u])(hl:aav fr t=some (.rw d))(hu:aav fr u=some f)(hd:aks f=some v)(hw:aaz own d=some (.b ty s ds false))(ed:ds=dso)(ev:v=v'):
  CfS prog GB C n (adi C prog fb (asQ C s ty [] [v'] dso)) fr own (.ex .ret []):=by
 subst ed ev
 refine⟨fun ρ G ov a w r=>?_⟩
 obtain⟨B,g1,g2⟩:=r.bx _ _ hw
 have hB:abf G ⟨ρ d,s,ty,ds,false⟩ B:=g1
 obtain⟨rest,hp⟩:=apK hB g2
 obtain⟨y,hy,hy'⟩:=r.ev (x:= .tmp t) (f:= .rw d) hl
 cases (show y=_ from hy')
 obtain⟨z,hz,hz'⟩:=r.ev (x:= .tmp u) (f:=f) hu
 exact ark (C:=C) (n:=n) (fr:=frA a) (own:=ov) (G:=G) (vs:=[.slice (ρ d).a (ρ d).n (ρ d).c,z]) (by rw[hr];exact .tmp hy (.tmp hz .nil)) (B++rest) B hp (qK _ _)
  ⟨ρ d,adS.2 ⟨_,rfl, .cons (aa4.2 rfl) (.cons (acE hz' hd) .nil)⟩,hB⟩ a w ⟨r.h,r.sz,aaN a,r.df⟩
def aFu(lk:LK):List Operand→Option (List (Option DV))
 |[]=>some []
 |x::t=>match evX lk x,aFu lk t with
  |some .nl,some l=>some (none::l)
  |some f,some l=>match aks f with
   |some d=>some (some d::l)
   |none=>none
  |_,_=>none
def aBy(lk:LK)(fo:Operand)(args:Array Operand):Option (FuncId×List (Option DV)):=match evX lk fo with
 |some (.d (.v (.func (.func f) ⟨[]⟩ ⟨[]⟩)))=>match aFu lk args.toList with
  |some l=>some (f,l)
  |_=>none
 |_=>none
theorem aoP{lk:LK}{bk:BM}{ρ:NE}{G:Gh}{ov:List Own}{a:Act}{w:World}(r:RlX GB C n lk bk ρ G ov a w): ∀{x:List Operand} {l:List (Option DV)},aFu lk x=some l→ ∃y,agr (frA a) x=some y∧IsLs G (mkB l ⟨none,0,0⟩) y
 |[],l,e=>by cases e;exact⟨[],rfl, .nil⟩
 |x::t,l,e=>by
  simp only[aFu] at e
  split at e
  ·rename_i l' h1 h2
   cases e
   obtain⟨y,h3,h4⟩:=r.ev h1
   cases (show y=_ from h4)
   obtain⟨ys,h5,h6⟩:=aoP r h2
   exact⟨Value.slice none 0 0::ys,by simp only[agr,h3,h5], .cons ((aa4 (G:=G)).2 rfl) h6⟩
  ·rename_i f l' _ h1 h2
   cases hd:aks f with
   |none=>rw[hd] at e;cases e
   |some d=>
   rw[hd] at e;cases e
   obtain⟨y,h3,h4⟩:=r.ev h1
   obtain⟨ys,h5,h6⟩:=aoP r h2
   exact⟨y::ys,by simp only[agr,h3,h5], .cons (acE h4 hd) h6⟩
  ·cases e
theorem asM{lk:LK}{bk:BM}{fo:Operand}{args:Array Operand}{tys:Array TypeId}{f:FuncId}{d:Nat}{l:List (Option DV)}{s:Nat}{ty ty0:TypeId}{pos:String}{af:Array Edge}{gd:Option (Nat×Bool)}{dso pre post:List DV}
  (ha:aBy lk fo args=some (f,l))(hF:PB GB prog f (mkB l) s ty0 [] (fun w=> .tp (pre++ .v (.slice w.a w.n w.c)::post)) dso):OpR prog GB C n lk bk ⟨some d, .call ⟨.value fo,args,tys⟩,ty,pos,af,gd⟩ (.bx true pre d post) [(d,some (.b ty0 s dso true))] [d]:=by
 intro hd tl tb K' s1 s2 hf hk
 refine⟨fun ρ G ov a w r Q=>?_⟩
 have r1:=r.mono s1 s2
 unfold aBy at ha
 split at ha<;>try (cases ha;done)
 rename_i h1
 split at ha<;>cases ha
 rename_i h2
 obtain⟨y,hy,hy'⟩:=r1.ev h1
 rw[(aa4 (G:=G)).1 hy'] at hy
 obtain⟨vs,h7,h8⟩:=aoP r1 h2
 refine ad9 (M:=[]) (rest:=ov) hy h7 (List.Perm.refl _) (hF G ⟨none,0,0⟩ vs [] r.gb ⟨[], .nil _ _, .nil,by simp,fun h=>by cases h⟩ h8) hd (fun v own1 G' hG hK a' w' rl=>?_) a w Q ⟨r.h,r.sz,aaN a,r.df⟩
 obtain⟨z,hr,vs',k1,k2,k3,k4⟩:=hK
 have k1':=k1.relo (flM [])
 have e2: ∀o∈own1.map (relo (flM [])),o.lo=true:=fun o ho=>by
  obtain⟨o',_,rfl⟩:=bJ.1 ho
  rfl
 generalize own1.map (relo (flM []))=B' at rl e2 k1'
 have rl':Rel C n (Sx.put (frA a) (some d) v) (B'++ov) G' a' w':=rl
 have hdis:=(fL.1 rl'.h.nd).2.2
 obtain⟨m,rfl,hm⟩:=adS.1 hr
 obtain⟨m1,m2',rfl,c1,c2⟩: ∃m1 m2',m=m1++m2'∧IsLs G' pre m1∧IsLs G' (.v (.slice z.a z.n z.c)::post) m2':=hm.unapp
 obtain⟨u,m2,rfl,c3,c4⟩:=aae.1 c2
 rw[aa4.1 c3] at rl'
 have r3:=r.new (x:=z) (B':= .b ty0 s dso true) (os:=B') (ov':=B'++ov) (f:= .bx true pre d post) (y:= .tuple ⟨m1++Value.slice z.a z.n z.c::m2⟩) hf hG.le rl'.h ⟨vs',by simpa using k1',k2,k3,fun _=>e2⟩ (fun o ho=>bU _ ho) (fun o ho=>bM _ ho)
  (fun o ho hc=>by
   have hx: ∃o1∈B',o1.b=o.b:=by
    rcases k1' with⟨_,h,_⟩|⟨b0,rest0,lo0,h,hB,_⟩
    ·rw[show z=_ from h] at hc;cases hc
    ·rw[show z=_ from h] at hc;cases hc;exact⟨⟨_,aak vs'++rest0,_,lo0⟩,by rw[hB];exact aZ,rfl⟩
   obtain⟨o1,ho1,he1⟩:=hx
   exact hdis o1 ho1 o ho he1) ⟨m1,m2,by simp,c1,c4⟩ (abk rl')
 exact hk.run _ G' _ a' w' r3
def aDu(fr:FrX)(cf:Cf):Option (FuncId×List (Option DV)×Nat):=match opC fr cf with
 |some ⟨some d, .call ⟨.value fo,args,_⟩,_,_,_,_⟩=>match aBy (lkC fr cf) fo args with
  |some (f,l)=>some (f,l,d)
  |none=>none
 |_=>none
theorem cbn[fu:Fu]{f:FuncId}{d:Nat}{l:List (Option DV)}{ty:TypeId}{s:Nat}{dso pre post:List DV}(dso':List DV)(ha:aDu fr cf=some (f,l,d))(hF:PB GB prog f (mkB l) s ty [] (fun w=> .tp (pre++ .v (.slice w.a w.n w.c)::post)) dso)(he:dso=dso')
  (hgo:goA tt n fu.n fr own cf (.bx true pre d post) [(d,some (.b ty s dso' true))] [d]=⟨vc,fr',own',cf'⟩)(k:CfS prog GB C n Q0 fr' own' cf')
  (hv:aaj vc:=by first|exact trivial|(simp only[aaj];kernel_rfl)|(simp only[aaj];omega)|(simp only[aaj,aK,aN,aW];omega)):CfS prog GB C n Q0 fr own cf:=by
 subst he
 unfold aDu at ha
 split at ha<;>try (cases ha;done)
 rename_i hh
 split at ha<;>cases ha
 rename_i h1
 exact us hh (asM h1 hF) hgo hv k
end
end Go.Sx
end
