import Derived.Test.YtmhfhhiaecjhiaaGreatDoorBr18
set_option linter.all false
set_option maxHeartbeats 4000000
set_option maxRecDepth 100000
section
namespace Go.Sx
open Go Go.Proofs Tryz
variable {GB:Gh}
def Ak{E:List aH}(hE: ∀f∈E,FG f)(hn:E.length<=100000){fill:Int}{q:aa}{i:Nat}[hq:aO q i](hi:i<=80000:=by decide):PF GB prog 32 [eZ q, .pt [vI fill], .pt [.sl (E.map bj)]] (vB (mm fill (f9 E q))):=by
 refine fn (fu:=⟨3⟩) func32 J J ntmps32 J J (fun C=>?_);refine D2 1 J<|D2 2 J<|gx J<|cl J (Up hE (by omega) (p:=q) (i:=i) (by omega)) J<|cl J (Yq (fill:=fill) (n:=f9 E q)) J<|rz J J
def L0{rs:List (List ZP)}(hr: ∀r∈rs,dz r)(fill:Int):(fun q=>mm fill (f9 (cP rs) q))=jp rs fill:=by
 funext q;rw[Pe hr];rfl
def Tr.like_depth: ∀{t u:Tr},t.like u->t.depth=u.depth
 | .leaf _, .leaf _,_=>rfl
 | .node _ _ _, .node _ _ _,h=>by rw[Tr.depth,Tr.depth,Tr.like_depth h.2.1,Tr.like_depth h.2.2]
def Tt{rs:List (List ZP)}{fill:Int}(h: ∀r∈rs,dz r)(hn:rs.length<=3):(jh rs fill).all LB/\(jh rs fill).all ab.ok/\(jh rs fill).depth<=18/\(jh rs fill).size<=171:=by
 obtain⟨h1,h2,h3⟩:=JE (fill:=fill) h;obtain⟨k1,k2⟩:=qI h;have hd:(oo rs fill).depth<=(cP rs).length:=zg;have ha: ∀{P:ab->Prop},(∀f∈cP rs,P f.l)->(jh rs fill).all P:=fun hP=>by
  rw[qy,Tr.like_lns h1,<-qy];exact qa hP
 have hA:kg ((cP rs).map (·.l)) (jh rs fill):=ha fun f hf=>⟨f.l,fZ hf, .inl J⟩;have hs:=J7 (K:=(cP rs).map (·.l)) (fun m hm=>by obtain⟨f,hf,rfl⟩:=bX.1 hm;exact(k2 f hf).ok) h2 h3 cx.nil hA;rw[aX] at hs;refine⟨ha fun f hf=>(k2 f hf).lb,h3,by rw[Tr.like_depth h1];omega,?_⟩;have:(cP rs).length*((cP rs).length+1)<=18*19:=kW (by omega) (by omega);omega
def YX{rs:List (List ZP)}(h: ∀r∈rs,jt r)(hn:rs.length<=3){fill:Int}(hfill:fill=1\/fill=2):PF GB prog 11 [.sl (rs.map kB),vI fill] (.tp [eA (iB rs fill), .v .nilIface]):=by
 have hr: ∀r∈rs,dz r:=fun r hr=>(h r hr).ok;have hel0:=(qI hr).1;have hfe:=Rn hr;obtain⟨b1,b2,b3,b4⟩:=Tt (fill:=fill) hr hn;have hbx:=(avY (fill:=fill) hr hn).x (We _ _) (by decide);have hbs:=hbx.s;have hbE:(d9 (jp rs fill) (cP rs).length (cP rs) []).restrict []=iB rs fill:=W9 hr;have hbl:=hbx.lb;have hml:(rs.map rh).length=rs.length:=aX ..;refine fn func11 J J ntmps11 J J (fun C=>?_);refine cl (fu:=⟨13⟩) J (auM h (by omega)) J<|b9 J J J<|cs (fu2:=⟨20⟩) 25 J J J (fun hg25=>?_) (fun hg25=>?_)
 .
  refine br (fu2:=⟨13⟩) J J J (fun hc22=>?_) (fun hc22=>?_)
  .
   exact absurd hfill (by omega)
  .
   refine ah 32 (.d (vI (rs.length:Nat))) J (by rw[hml]<;>rfl)<|gx J<|wA 8 0 80 139 17 J J J J J<|lp (X:=Nat) (fun k=>[(33, .d (vI (k:Nat))),(8, .ov 8 0)]) (fun k=>[(8,some (.o 91 [.rw 80] true)),(80,some (.b 139 17 ((cP (rs.take k)).map bj) true))]) (fun k=>k<=rs.length) (fun k=>rs.length-k) 0 J (aN _) (fun _=>J) (fun k hk=>?_);have hm5:=A3 hr k;have hm3:((cP (rs.take k)).map bj).length<=6*k:=by rw[aX];exact A3 hr k
   refine br (fu2:=⟨0⟩) J J J (fun hc34=>?_) (fun hc34=>?_)
   .
    obtain⟨r,hx⟩: ∃u,rs[k]? =some u:=⟨_,aZ (by omega)⟩;have hrr:=h r (aV hx);have hel:=(ud hrr.ok).1;have hn6:=hrr.ok.n6;have hm4:((ij r).map bj).length=(ij r).length:=aX ..;refine ix _ J (cO hx) J<|cl J (P1 hrr.ok) J<|ap (hv:=by simp only[aj];exact⟨by kernel_rfl,by omega⟩) ((cP (rs.take (k+1))).map bj) J (J' hx) (sF (ij r)) J<|fD 40 80 J<|at_ (k+1) ⟨(by omega),(by omega)⟩
   .
    obtain rfl:k=rs.length:=by omega
    rw[cJ];refine mr 80 J<|gx (fu:=⟨7⟩) J<|gx J<|fz 3 J J<|fz 8 J J<|q9 3 J (fun GB1 pv1 hg1 hp1=>?_);refine q9 8 J (fun GB2 pv2 hg2 hp2=>?_);refine CS (fu:=⟨0⟩) J J<|cl J (AE (E:=cP rs) (yM hr) (HH rs) (by omega) (by omega) (f:=32) (c2:=[pv1,pv2]) (ds2:=[.pt [vI fill], .pt [.sl ((cP rs).map bj)]]) (.cons (hp1.up hg2) (.cons hp2 (ck.2 J))) (acc:=jp rs fill) (fun q hq=>by rw[<-L0 hr];exact Ak (fun f h=>(hfe f h).g) (by omega) (q:=q) (i:=20000)) (show(jh rs fill).size<=65536 by omega) (show(jh rs fill).depth<=1000 by omega) b2 b1) J<|cl J (yC (t:=(d9 (jp rs fill) (cP rs).length (cP rs) []).restrict []) (by rw[hbE];exact hbl) (by rw[hbE];omega)) J<|rz J (by rw[hbE]<;>rfl)
 .
  refine ah 32 (.d (vI (rs.length:Nat))) J (by rw[hml]<;>rfl)<|gx J<|wA 8 0 80 139 17 J J J J J<|lp (X:=Nat) (fun k=>[(33, .d (vI (k:Nat))),(8, .ov 8 0)]) (fun k=>[(8,some (.o 91 [.rw 80] true)),(80,some (.b 139 17 ((cP (rs.take k)).map bj) true))]) (fun k=>k<=rs.length) (fun k=>rs.length-k) 0 J (aN _) (fun _=>J) (fun k hk=>?_);have hm5:=A3 hr k;have hm3:((cP (rs.take k)).map bj).length<=6*k:=by rw[aX];exact A3 hr k
  refine br (fu2:=⟨0⟩) J J J (fun hc34=>?_) (fun hc34=>?_)
  .
   obtain⟨r,hx⟩: ∃u,rs[k]? =some u:=⟨_,aZ (by omega)⟩;have hrr:=h r (aV hx);have hel:=(ud hrr.ok).1;have hn6:=hrr.ok.n6;have hm4:((ij r).map bj).length=(ij r).length:=aX ..;refine ix _ J (cO hx) J<|cl J (P1 hrr.ok) J<|ap (hv:=by simp only[aj];exact⟨by kernel_rfl,by omega⟩) ((cP (rs.take (k+1))).map bj) J (J' hx) (sF (ij r)) J<|fD 40 80 J<|at_ (k+1) ⟨(by omega),(by omega)⟩
  .
   obtain rfl:k=rs.length:=by omega
   rw[cJ];refine mr 80 J<|gx (fu:=⟨7⟩) J<|gx J<|fz 3 J J<|fz 8 J J<|q9 3 J (fun GB1 pv1 hg1 hp1=>?_);refine q9 8 J (fun GB2 pv2 hg2 hp2=>?_);refine CS (fu:=⟨0⟩) J J<|cl J (AE (E:=cP rs) (yM hr) (HH rs) (by omega) (by omega) (f:=32) (c2:=[pv1,pv2]) (ds2:=[.pt [vI fill], .pt [.sl ((cP rs).map bj)]]) (.cons (hp1.up hg2) (.cons hp2 (ck.2 J))) (acc:=jp rs fill) (fun q hq=>by rw[<-L0 hr];exact Ak (fun f h=>(hfe f h).g) (by omega) (q:=q) (i:=20000)) (show(jh rs fill).size<=65536 by omega) (show(jh rs fill).depth<=1000 by omega) b2 b1) J<|cl J (yC (t:=(d9 (jp rs fill) (cP rs).length (cP rs) []).restrict []) (by rw[hbE];exact hbl) (by rw[hbE];omega)) J<|rz J (by rw[hbE]<;>rfl)
def anR(rs:List (List ZP))(fill:Int)(L:List ab)(p:aa)(vs:List aa):Bool:=vs.any fun v=>jp rs fill (xz L p v)
def alR(rs:List (List ZP))(fill:Int)(L:List ab)(p:aa)(vs:List aa):Bool:=vs.all fun v=>jp rs fill (xz L p v)
section
variable {GB:Gh} {C:aC} {n:Nat} {Q0:Exit->Act->World->Prop} {fr fr' fr1 fr2:av} {own own' own1 own2:aF} {cf cf' cf1 cf2:Cf} {vc vc1 vc2:List Prop}
def aLi(fr:av)(cf:Cf):Option Int:=match b8 fr cf with
 |some ⟨_, .binOp .and _ x (.const (.int .i64 1)) _,_,_,_,_⟩=>match aI (bw fr cf) x with
  |some (.d (.v (.int .i64 p)))=>some p
  |_=>none
 |_=>none
end
structure EGX (GB:Gh) (ai:Addr):Prop where
 ErrInvalid:GB 0=some [.iface 364 (.pointer (some ai))]
def aKI(rs:List (List ZP))(p:aa):Int:=rs.foldl (fun n r=>n+oh r p) 0

def XH:iB [] 1= .leaf false:=by kernel_rfl
def T0:(iB [ve] 2).size=3:=by kernel_rfl
def aBi: ∀r∈[ve],jt r:=fun r hr=>by
 rw[aY.1 hr];exact⟨XV,by decide+kernel⟩
theorem azQ: ∀p∈[iP 0 0,iP 1 0,iP 0 1],aO p 1200:=fun p hp=>by
 simp only[aU,jS,or_false] at hp;rcases hp with rfl|rfl|rfl<;>exact⟨BQ.int1200,BQ.int1200⟩
def OX{rs:List (List ZP)}(h: ∀r∈rs,jt r)(hn:rs.length<=3){fill:Int}(hfill:fill=1\/fill=2){t:Tr}(ht:iB rs fill=t):PF GB prog 11 [.sl (rs.map kB),vI fill] (.tp [eA t, .v .nilIface]):=by
 subst ht;exact YX h hn hfill
def ig:PF GB prog 7 [] (.v (.bool true)):=by
 obtain⟨u,hu⟩: ∃u,iB [ve] 2=u:=⟨_,rfl⟩;have hus:u.size=3:=by rw[<-hu];exact T0
 have hwl:((u.wr 0).map eN).length=3:=by rw[aX,Tr.wr_len,hus]
 refine fn func7 J J ntmps7 J J (fun C=>?_);refine cl J (OX (rs:=[]) (by simp) (by decide) (fill:=1) (.inl J) XH) J<|cl J (lx (m:=0) (n:=0)) J<|cl J (lx (m:=1) (n:=0)) J<|cl J (lx (m:=0) (n:=1)) J<|rf (fu:=⟨0⟩) J J<|ah 13 (.d (.sl ([iP 0 0,iP 1 0,iP 0 1].map eP))) J J<|gx J<|cl J (OH (ps:=[iP 0 0,iP 1 0,iP 0 1]) azQ (by decide)) J<|rf (fu:=⟨0⟩) J J<|ah 15 (.d (.sl ([ve].map kB))) J J<|gx J<|cl (fu:=⟨11⟩) J (OX (rs:=[ve]) aBi (by decide) (fill:=2) (.inr J) hu) J<|dh (fu:=⟨2⟩) J J J<|dh (fu:=⟨4⟩) J J J<|dh (fu:=⟨5⟩) J J J<|ah 33 (.d (vI 3)) J (by rw[hwl]<;>rfl)<|gx (fu:=⟨0⟩) J<|dh J J J<|rz J J


def zLn:DV:= .ag [vI 0,vI 0, .v (.pointer none),vI 0,vI 0, .v (.pointer none),vI 0,vI 0, .v (.pointer none)]
def Ob{p q:aa}{i j:Nat}[hp:aO p i][hq:aO q j](hi:i<=20000:=by decide)(hj:j<=20000:=by decide):PF GB prog 39 [eP p,eP q] (.v (.bool (decide (p.x=q.x/\p.y=q.y)))):=by
 refine fn func39 J J ntmps39 J J (fun C=>?_);refine cl J (wK (a:=p.x) (b:=q.x) (i:=i) (j:=j) (by omega) (by omega)) J<|cs 11 J J J (fun hg11=>?_) (fun hg11=>?_)
 .
  refine cl J (wK (a:=p.y) (b:=q.y) (i:=i) (j:=j) (by omega) (by omega)) J<|rz J (by rw[oz] at hg11;exact congrArg (fun z=>DV.v (.bool z)) (decide_eq_decide.2 (by rw[oz];simp[hg11])))
 .
  exact rz J (by rw[oz] at hg11;show DV.v (.bool false)=DV.v (.bool _);rw[decide_eq_false (fun h=>hg11 h.1)])
def RL.lnC(r:RL):(r.ln=none/\r.nm)\/(r.ln=none/\ ¬r.nm)\/ ∃l,r.ln=some l:=by
 cases h:r.ln with
 |some l=>exact .inr (.inr ⟨l,J⟩)
 |none=>by_cases hn:r.nm;exact .inl ⟨J,hn⟩;exact .inr (.inl ⟨J,hn⟩)
def RL.ln_iff{r:RL}:r.ln=none↔ ¬(r.nm/\r.l.ok):=by
 unfold RL.ln;split
 .rename_i h;simp[h]
 .rename_i h;simp[h]
def YM{r:RL}{l:ab}(s:r.sm)(h:r.ln=some l):PF GB prog 45 [r.d] (.tp [eL l,vB true]):=by
 have:=DG (GB:=GB) s;have hh:r.nm/\r.l.ok:=Decidable.not_not.1 fun e=>by rw[RL.ln_iff.2 e] at h;cases h
 rw[mH,if_pos hh.1,decide_eq_true hh] at this;have e:r.l=l:=by unfold RL.ln at h;rw[if_pos hh] at h;cases h;rfl
 rwa [e] at this
def aEi{r:RL}(s:r.sm)(h:r.ln=none)(hn:r.nm):PF GB prog 45 [r.d] (.tp [eL r.l,vB false]):=by
 have:=DG (GB:=GB) s;rw[mH,if_pos hn,decide_eq_false (RL.ln_iff.1 h)] at this;exact this
def Uj{r:RL}(s:r.sm)(h:r.ln=none)(hn: ¬r.nm):PF GB prog 45 [r.d] (.tp [.ag [.v (.bool false), .sl [], .v (.bool false), .sl [], .v (.bool false), .sl []],vB false]):=by
 have:=DG (GB:=GB) s;rw[mH,if_neg hn,decide_eq_false (RL.ln_iff.1 h)] at this;exact this
def Xq:Option (List ab)->DV
 |some ls=> .tp [.sl (ls.map eL),vB true]
 |none=> .tp [.sl [],vB false]
def QB{cs:List RL}(hs: ∀r∈cs,r.sm)(hn:cs.length<=1000):PF GB prog 16 [.ag [.sl (cs.map RL.d)]] (Xq (iG cs)):=by
 have hm:=kb RL.d cs;refine fn (fu:=⟨18⟩) func16 J J ntmps16 J J (fun C=>?_);refine ah 11 (.d (vI (cs.length:Nat))) J (by rw[hm]<;>rfl)<|gx J<|nr 4 4 123 6 J J J<|lp (X:=Nat) (fun k=>[(12, .d (vI (k:Nat))),(4, .rw 4)]) (fun k=>[(4,some (.b 123 6 (((cs.take k).filterMap RL.ln).map eL) true))]) (fun k=>k<=cs.length/\(cs.take k).all (fun r=>r.ln.isSome)=true) (fun k=>cs.length-k) 0 J ⟨aN _,J⟩ (fun _=>J) (fun k hk=>?_);obtain⟨h1,h2⟩:=hk;have hfl:=qJ RL.ln (cs.take k);have hml:=kb eL ((cs.take k).filterMap RL.ln);rw[bK] at hfl;refine br (fu2:=⟨11⟩) J J J (fun hc13=>?_) (fun hc13=>?_)
 .
  obtain⟨r,hx0⟩: ∃s,cs[k]? =some s:=⟨_,aZ (by omega)⟩;have hx:=hs r (aV hx0);refine ix _ J (cO hx0) J<|?_;rcases RL.lnC r with⟨hr,hrn⟩|⟨hr,hrn⟩|⟨l,hr⟩
  .
   refine cl (fu:=⟨3⟩) J (aEi hx hr hrn) J<|jH 20 J<|gx J<|rz J (by rw[GP hx0 hr];rfl)
  .
   refine cl (fu:=⟨3⟩) J (Uj hx hr hrn) J<|jH 20 J<|gx J<|rz J (by rw[GP hx0 hr];rfl)
  .
   refine cl (fu:=⟨3⟩) J (YM hx hr) J<|fi 20 J<|gx J<|rf J J<|ap (((cs.take (k+1)).filterMap RL.ln).map eL) J (by rw[QO hx0 hr,cY];rfl) (Zp [l]) J<|fD 26 4 J<|at_ (k+1) ⟨⟨by omega,QY hx0 h2 (by rw[hr];rfl)⟩,(by omega)⟩
 .
  obtain rfl:k=cs.length:=by omega
  refine kT 31 J (by omega)<|gx J<|ke 4 J<|rz J (by rw[LG h2];rfl)
def zw{cs:List RL}{ls:List ab}(hs: ∀r∈cs,r.sm)(hn:cs.length<=1000)(h:iG cs=some ls):PF GB prog 16 [.ag [.sl (cs.map RL.d)]] (.tp [.sl (ls.map eL),vB true]):=by
 have:=QB (GB:=GB) hs hn;rw[h] at this;exact this
def yx{cs:List RL}(hs: ∀r∈cs,r.sm)(hn:cs.length<=1000)(h:iG cs=none):PF GB prog 16 [.ag [.sl (cs.map RL.d)]] (.tp [.sl [],vB false]):=by
 have:=QB (GB:=GB) hs hn;rw[h] at this;exact this
section
variable {GB:Gh} {ai al ae:Addr} (hE:EG GB ai al ae)
include hE
section
variable {t:Tr} (h:t.gd) (hs:t.size<=65536) (hd:t.depth<=1000)
include h hs hd
end
end
def tkn:Tr:= .node Jz (.leaf true) (.leaf true)
def Md{c:List ab}(hok: ∀l∈c,l.ok):uJ c=true↔ ∃p,d8 c p:=by
 rw[<-Jy hok];unfold uJ r6
 cases c with
 |nil=>simp
 |cons a b=>
  rw[if_neg (by simp;omega)];simp only[decide_eq_true_eq,aX,List.isEmpty_cons,Bool.false_or,mQ];constructor
  .intro h
   obtain⟨m,hm⟩:=List.exists_mem_of_length_pos (l:=iE (a::b)) (by omega);exact⟨m,zW.1 hm⟩
  .rintro ⟨m,hm⟩
   have:=List.length_pos_of_mem (zW.2 hm);omega
def K4{ls:List ab}(hok: ∀l∈ls,l.ok):(∃c,fj ls []=some c)↔ ∃p,d8 ls p:=by
 constructor
 .rintro ⟨c,hc⟩
  obtain⟨g,h⟩:=yZ cx.nil hok hc;obtain⟨p,hp⟩:=g.ne;exact⟨p,fun m hm=>((h p).1 hp).2 m hm⟩
 .rintro ⟨p,hp⟩
  exact HY cx.nil hok ⟨p,fun s hs=>(by cases hs),fun l hl=>hp l hl⟩
def X'{ls:List ab}(hok: ∀l∈ls,l.ok)(h:fj ls []=none):uJ ls=false:=by
 rw[<-lJ,Md hok,<-K4 hok];rintro ⟨c,hc⟩;rw[h] at hc;cases hc
def ZU{ls:List ab}(hok: ∀l∈ls,l.ok){c:aA}(h:fj ls []=some c):uJ ls=true:=(Md hok).2 ((K4 hok).1 ⟨c,h⟩)
structure RL.wd (r:RL):Prop where
 a:bt r.da
 b:bt r.db
 c:bt r.dc
def RL.sm_of{r:RL}(h:r.wd)(k:r.smB 3=true):r.sm:=by
 unfold RL.smB Sx.smB at k;simp at k;exact⟨⟨h.a,by omega⟩,⟨h.b,by omega⟩,⟨h.c,by omega⟩⟩
def Hx{cs:List RL}(h: ∀r∈cs,r.wd)(k:uR 3 cs=true): ∀r∈cs,r.sm:=fun r hr=>by
 unfold uR at k;exact RL.sm_of (h r hr) (dT.1 k r hr)
def A6(L:List ab):DV:= .ag [.sl (L.map eL)]
def Xo{L:List ab}{k:Nat}{l:ab}(h:L[k]? =some l):((L.take k).map cG)++[cG l]=(L.take (k+1)).map cG:=by
 rw[fJ,h,cY];rfl
def KT{L:List ab}(hb: ∀l∈L,LB l)(ho: ∀l∈L,l.ok)(hn:L.length<=1000:=by omega):PF GB prog 42 [A6 L] (.tp [.sl (L.map cG),vB true]):=by
 have hm:=kb eL L;refine fn (fu:=⟨13⟩) func42 J J ntmps42 J J (fun C=>?_);refine ah 11 (.d (vI (L.length:Nat))) J (by rw[hm]<;>rfl)<|gx J<|br (fu2:=⟨13⟩) J J J (fun hc12=>?_) (fun hc12=>?_)
 .
  exact rz J (absurd hc12 (by omega))
 .
  refine ah 15 (.d (vI (L.length:Nat))) J (by rw[hm]<;>rfl)<|gx J<|nr 4 4 135 9 J J J<|lp (X:=Nat) (fun k=>[(16, .d (vI (k:Nat))),(4, .rw 4)]) (fun k=>[(4,some (.b 135 9 ((L.take k).map cG) true))]) (fun k=>k<=L.length) (fun k=>L.length-k) 0 J (aN _) (fun _=>J) (fun k hk=>?_);have hml:=kb cG (L.take k);rw[bK] at hml;refine br J J J (fun hc17=>?_) (fun hc17=>?_)
  .
   obtain⟨l,hx⟩: ∃s,L[k]? =some s:=⟨_,aZ (by omega)⟩;haveI:=hb l (aV hx);refine ix _ J (cO hx) J<|cl (fu:=⟨3⟩) J (IX (l:=l) (ho l (aV hx))) J<|fi 24 J<|gx J<|rf J J<|ap ((L.take (k+1)).map cG) J (Xo hx) (Od [l]) J<|fD 30 4 J<|at_ (k+1) ⟨(by omega),(by omega)⟩
  .
   obtain rfl:k=L.length:=by omega
   rw[cJ];refine ke 4 J<|rz J J
def aJL(v:List aa):Rat:=mw (fun x=>x.1.cross x.2) (r9 v)
def pE(c:List ab):Tr:=if uJ c then jn (iE c) else .leaf false
def WD{c:List ab}(hok: ∀l∈c,l.ok){e:aA}(h:fj c []=some e):pE c=jn (e.map (·.l)):=by
 unfold pE;obtain⟨g1,g2⟩:=yZ cx.nil hok h;have g3:=EO cx.nil .nil hok h;rw[if_pos (ZU hok h),LT hok g1 g3 fun p=>by
  rw[g2];exact⟨fun k=>k.2,fun k=>⟨fun s hs=>absurd hs (by simp),k⟩⟩]
def Wz{c:List ab}(hok: ∀l∈c,l.ok)(h:fj c []=none):pE c= .leaf false:=by
 unfold pE;rw[X' hok h];rfl
def aLg(c:List ab)(p:aa):Int:=if r6 c then aJj c p else 0
def aC0{c:List ab}(hb: ∀l∈c,LB l)(hok: ∀l∈c,l.ok)(hn:c.length<=18):uG 18 (pE c):=by
 unfold pE;split
 .have hm: ∀m∈iE c,m∈c:=fun m hm=>(zW.1 hm).1
  have hlen:=Mj c;refine⟨⟨⟨H7 fun l hl=>hb l (hm l hl),H7 fun l hl=>hok l (hm l hl)⟩,by rw[NW];omega,iE c,by omega,fun l hl=>hok l (hm l hl),H7 fun l hl=>⟨l,hl, .inl J⟩⟩,by rw[Ni];omega⟩
 .exact⟨⟨⟨trivial,trivial⟩,aN _,[],aN _,fun m hm=>(by cases hm),trivial⟩,aN _⟩
def Sl{L:List ab}{j:Nat}{l:ab}(h:L[j]? =some l):jn (L.drop j)= .node l (jn (L.drop (j+1))) (.leaf false):=by
 obtain⟨h1,h2⟩:=aT.1 h;rw[cW h1,h2];rfl
def avP{c:aA}{j:Nat}{s:aH}(h:c[j]? =some s):(c.map (·.l))[j]? =some s.l:=by rw[fY,h];rfl
def Tc{c:aA}(hn:c.length<=100000):PF GB prog 44 [.sl (c.map bj)] (eU (jn (c.map (·.l)))):=by
 have hml:(c.map bj).length=c.length:=aX ..;refine fn func44 J J ntmps44 J J (fun C=>?_);refine cl (fu:=⟨8⟩) J (Et (b:=true)) J<|ah 7 (.d (vI (c.length:Nat))) J (by rw[hml]<;>rfl)<|gx J<|ah 3 (.d (eU (jn ((c.map (·.l)).drop c.length)))) J (by rw[kJ (by simp)]<;>rfl)<|lp (X:=Nat) (fun k=>[(4, .d (vI ((k:Int)-1))),(3, .d (eU (jn ((c.map (·.l)).drop k))))]) (fun k=>[]) (fun k=>k<=c.length) (fun k=>k) c.length J (bQ _) (fun _=>J) (fun k hk=>?_);refine br (fu1:=⟨7⟩) J J J (fun hc10=>?_) (fun hc10=>?_)
 .
  obtain⟨j,rfl⟩: ∃j,k=j+1:=⟨k-1,by omega⟩;obtain⟨s,hx⟩: ∃u,c[j]? =some u:=⟨_,aZ (by omega)⟩;refine ah 14 (.d (vI (j:Nat))) J (by congr 3;omega)<|gx J<|ix _ J (cO hx) J<|cl J (Et (b:=false)) J<|cl (hv:=by simp only[aj];exact⟨by kernel_rfl,by omega⟩) J (xE (l:=s.l)) J<|ah 4 (.d (vI ((j:Int)-1))) J (by congr 3;omega)<|ah 3 (.d (eU (jn ((c.map (·.l)).drop j)))) J (by rw[Sl (avP hx)]<;>rfl)<|at_ j ⟨(by omega),(by omega)⟩
 .
  obtain rfl:k=0:=by omega
  exact rz J J
def Tu{c:List ab}(hb: ∀l∈c,LB l)(hok: ∀l∈c,l.ok)(hn:c.length<=18){e:aA}(h:fj c []=some e):PF GB prog 15 [A6 c] (.tp [eA (pE c), .v .nilIface]):=by
 have hx:=aC0 hb hok hn;have hce:=WD hok h;have hel:e.length<=18:=by have h1:=Mj c;obtain⟨g1,g2⟩:=yZ cx.nil hok h;have h2:=LT hok g1 (EO cx.nil .nil hok h) (fun p=>by rw[g2];exact⟨fun k=>k.2,fun k=>⟨fun s hs=>absurd hs (by simp),k⟩⟩);have h3:(e.map (·.l)).length=e.length:=aX ..;rw[<-h2] at h3;omega
 refine fn func15 J J ntmps15 J J (fun C=>?_);refine cl (fu:=⟨12⟩) J (KT hb hok) J<|ah 13 (.d (.v (.bool false))) J J<|jH 13 J<|gx J<|cl (fu:=⟨12⟩) J (SF hb hok (by omega) h) J<|ah 22 (.d (.v (.bool false))) J J<|jH 22 J<|gx J<|cl J (Tc (c:=e) (by omega)) J<|cl J (yC (t:=jn (e.map (·.l))) (by rw[<-hce];exact hx.lb) (by rw[<-hce];have:=hx.s;omega)) J<|rz J (by rw[hce]<;>rfl)
def avT{c:List ab}(hb: ∀l∈c,LB l)(hok: ∀l∈c,l.ok)(hn:c.length<=18)(h:fj c []=none):PF GB prog 15 [A6 c] (.tp [eA (pE c), .v .nilIface]):=by
 have hce:=Wz hok h;refine fn func15 J J ntmps15 J J (fun C=>?_);refine cl (fu:=⟨12⟩) J (KT hb hok) J<|ah 13 (.d (.v (.bool false))) J J<|jH 13 J<|gx J<|cl (fu:=⟨12⟩) J (awP hb hok (by omega) h) J<|ah 22 (.d (.v (.bool true))) J J<|fi 22 J<|gx J<|rz J (by rw[hce]<;>rfl)
def Zu{c:List ab}(hb: ∀l∈c,LB l)(hok: ∀l∈c,l.ok)(hn:c.length<=18):PF GB prog 15 [A6 c] (.tp [eA (pE c), .v .nilIface]):=by
 cases h:fj c [] with
 |none=>exact avT hb hok hn h
 |some e=>exact Tu hb hok hn h
def aKa(c:List ab)(p:aa)(k:Nat):Int:=if(c.take k).any (fun l=>decide (l.value p=0)) then 1 else 2
def Sh{r:List aa}(h:BH r): ∀f∈ir r,FS f/\FG f:=fun f hf=>by
 have h0:=(Vk h).2 f hf;obtain⟨k,hk,rfl⟩:=Hz hf;exact⟨⟨h0,⟨h0.ok,J,J,(aEa (h.ne k hk)).2.2⟩⟩,⟨h0,J,J⟩⟩
def QC{L:List (List WP)}(h: ∀r∈L,io r): ∀f∈fg L,FS f/\FG f:=fun f hf=>by
 obtain⟨r,hr,hf⟩:=gQ.1 hf;exact Sh (h r hr).rg f hf
def aHa{acc:aa->Bool}{E:List aH}(h: ∀f∈E,FS f):(d9 acc E.length E []).all LB/\(d9 acc E.length E []).all ab.ok/\(d9 acc E.length E []).depth<=E.length/\2*(d9 acc E.length E []).size<=E.length*(E.length+1):=by
 have hsg: ∀f∈E,fC f:=fun f hf=>(h f hf).sg;have h1:(d9 acc E.length E []).like (iu acc E.length E []):=Cb hsg;have h2:(d9 acc E.length E []).Prp []:=Bp hsg cx.nil (fun f hf t ht s hs=>by cases hs);have hd:(iu acc E.length E []).depth<=E.length:=zg;have ha: ∀{P:ab->Prop},(∀f∈E,P f.l)->(d9 acc E.length E []).all P:=fun hP=>by
  rw[qy,Tr.like_lns h1,<-qy];exact qa hP
 have h3:(d9 acc E.length E []).all ab.ok:=ha fun f hf=>(h f hf).fo.ok;have hA:kg (E.map (·.l)) (d9 acc E.length E []):=ha fun f hf=>⟨f.l,fZ hf, .inl J⟩;have hs:=J7 (K:=E.map (·.l)) (fun m hm=>by obtain⟨f,hf,rfl⟩:=bX.1 hm;exact(h f hf).fo.ok) h2 h3 cx.nil hA;rw[aX] at hs;exact⟨ha fun f hf=>(h f hf).fo.lb,h3,by rw[Tr.like_depth h1];exact hd,hs⟩
def OZ(E:List aH):lh E.length E:=⟨E.map (·.l),by rw[aX];exact bQ _,fun f hf=>⟨f.l,fZ hf, .inl J⟩⟩
def zL(E:List aH)(fill:Int):Tr:=(d9 (fun q=>mm fill (f9 E q)) E.length E []).restrict []
def avu{xs:List (List WP)}(h: ∀r∈xs,io r)(hn:xs.length<=5){fill:Int}(hfill:fill=1\/fill=2):PF GB prog 11 [.sl (xs.map d5),vI fill] (.tp [eA (zL (fg xs) fill), .v .nilIface]):=by
 have hel:=GG fun r hr=>(h r hr).n9;have hfs: ∀f∈fg xs,FS f:=fun f hf=>(QC h f hf).1;have hfg: ∀f∈fg xs,FG f:=fun f hf=>(QC h f hf).2;obtain⟨b1,b2,b3,b4⟩:=aHa (acc:=fun q=>mm fill (f9 (fg xs) q)) hfs;have hmu:(fg xs).length*((fg xs).length+1)<=45*46:=kW (by omega) (by omega);have hsz:(zL (fg xs) fill).size<=1000000:=by have:=Tr.restrict_size (d9 (fun q=>mm fill (f9 (fg xs) q)) (fg xs).length (fg xs) []) [];unfold zL;omega
 have hml:(xs.map fun r=>kr (cd r)).length=xs.length:=aX ..;refine fn func11 J J ntmps11 J J (fun C=>?_);refine cl (fu:=⟨13⟩) J (Qu h) J<|b9 J J J<|cs (fu2:=⟨20⟩) 25 J J J (fun hg25=>?_) (fun hg25=>?_)
 .
  refine br (fu2:=⟨13⟩) J J J (fun hc22=>?_) (fun hc22=>?_)
  .
   exact absurd hfill (by omega)
  .
   refine ah 32 (.d (vI (xs.length:Nat))) J (by rw[hml]<;>rfl)<|gx J<|wA 8 0 80 139 17 J J J J J<|lp (X:=Nat) (fun k=>[(33, .d (vI (k:Nat))),(8, .ov 8 0)]) (fun k=>[(8,some (.o 91 [.rw 80] true)),(80,some (.b 139 17 ((fg (xs.take k)).map bj) true))]) (fun k=>k<=xs.length) (fun k=>xs.length-k) 0 J (aN _) (fun _=>J) (fun k hk=>?_);have hm5:=Q1 (fun r hr=>(h r hr).n9) k;have hm3:((fg (xs.take k)).map bj).length<=9*k:=by rw[aX];exact hm5
   refine br (fu2:=⟨0⟩) J J J (fun hc34=>?_) (fun hc34=>?_)
   .
    obtain⟨r,hx⟩: ∃u,xs[k]? =some u:=⟨_,aZ (by omega)⟩;have hr:=h r (aV hx);have hn6:=hr.rg.n9;have hel2:(ir (cd r)).length=(cd r).length:=rA _ _;have hm4:((ir (cd r)).map bj).length=(ir (cd r)).length:=aX ..;refine ix _ J (cO (f:=fun r=>kr (cd r)) hx) J<|cl J (MI hr.rg) J<|ap (hv:=by simp only[aj];exact⟨by kernel_rfl,by omega⟩) ((fg (xs.take (k+1))).map bj) J (Jr hx) (sF (ir (cd r))) J<|fD 40 80 J<|at_ (k+1) ⟨(by omega),(by omega)⟩
   .
    obtain rfl:k=xs.length:=by omega
    rw[cJ];refine mr 80 J<|gx (fu:=⟨7⟩) J<|gx J<|fz 3 J J<|fz 8 J J<|q9 3 J (fun GB1 pv1 hg1 hp1=>?_);refine q9 8 J (fun GB2 pv2 hg2 hp2=>?_);refine CS (fu:=⟨0⟩) J J<|cl J (AE (E:=fg xs) hfs (OZ _) (by omega) (by omega) (f:=32) (c2:=[pv1,pv2]) (ds2:=[.pt [vI fill], .pt [.sl ((fg xs).map bj)]]) (.cons (hp1.up hg2) (.cons hp2 (ck.2 J))) (acc:=fun q=>mm fill (f9 (fg xs) q)) (fun q hq=>Ak hfg (by omega) (q:=q) (i:=20000)) (by omega) (by omega) b2 b1) J<|cl J (yC (t:=zL (fg xs) fill) (Dz ⟨b1,b2⟩ []).lb hsz) J<|rz J J
 .
  refine ah 32 (.d (vI (xs.length:Nat))) J (by rw[hml]<;>rfl)<|gx J<|wA 8 0 80 139 17 J J J J J<|lp (X:=Nat) (fun k=>[(33, .d (vI (k:Nat))),(8, .ov 8 0)]) (fun k=>[(8,some (.o 91 [.rw 80] true)),(80,some (.b 139 17 ((fg (xs.take k)).map bj) true))]) (fun k=>k<=xs.length) (fun k=>xs.length-k) 0 J (aN _) (fun _=>J) (fun k hk=>?_);have hm5:=Q1 (fun r hr=>(h r hr).n9) k;have hm3:((fg (xs.take k)).map bj).length<=9*k:=by rw[aX];exact hm5
  refine br (fu2:=⟨0⟩) J J J (fun hc34=>?_) (fun hc34=>?_)
  .
   obtain⟨r,hx⟩: ∃u,xs[k]? =some u:=⟨_,aZ (by omega)⟩;have hr:=h r (aV hx);have hn6:=hr.rg.n9;have hel2:(ir (cd r)).length=(cd r).length:=rA _ _;have hm4:((ir (cd r)).map bj).length=(ir (cd r)).length:=aX ..;refine ix _ J (cO (f:=fun r=>kr (cd r)) hx) J<|cl J (MI hr.rg) J<|ap (hv:=by simp only[aj];exact⟨by kernel_rfl,by omega⟩) ((fg (xs.take (k+1))).map bj) J (Jr hx) (sF (ir (cd r))) J<|fD 40 80 J<|at_ (k+1) ⟨(by omega),(by omega)⟩
  .
   obtain rfl:k=xs.length:=by omega
   rw[cJ];refine mr 80 J<|gx (fu:=⟨7⟩) J<|gx J<|fz 3 J J<|fz 8 J J<|q9 3 J (fun GB1 pv1 hg1 hp1=>?_);refine q9 8 J (fun GB2 pv2 hg2 hp2=>?_);refine CS (fu:=⟨0⟩) J J<|cl J (AE (E:=fg xs) hfs (OZ _) (by omega) (by omega) (f:=32) (c2:=[pv1,pv2]) (ds2:=[.pt [vI fill], .pt [.sl ((fg xs).map bj)]]) (.cons (hp1.up hg2) (.cons hp2 (ck.2 J))) (acc:=fun q=>mm fill (f9 (fg xs) q)) (fun q hq=>Ak hfg (by omega) (q:=q) (i:=20000)) (by omega) (by omega) b2 b1) J<|cl J (yC (t:=zL (fg xs) fill) (Dz ⟨b1,b2⟩ []).lb hsz) J<|rz J J
def YA{ai al ar:Addr}(hE:im GB ai al ar){xs:List (List WP)}(h: ∀r∈xs,io r)(hn:xs.length<=5){fill:Int}(hfill: ¬(fill=1\/fill=2)):PF GB prog 11 [.sl (xs.map d5),vI fill] (.tp [vm,lC ai]):=by
 have hml:(xs.map fun r=>kr (cd r)).length=xs.length:=aX ..;refine fn func11 J J ntmps11 J J (fun C=>?_);refine cl (fu:=⟨13⟩) J (Qu h) J<|b9 J J J<|cs 25 J J J (fun hg25=>?_) (fun hg25=>?_)
 .
  refine br J J J (fun hc22=>?_) (fun hc22=>?_)
  .
   refine gl J hE.ErrInvalid J<|rz J J
  .
   exact absurd (show fill=1\/fill=2 by omega) hfill
 .
  exact absurd (show fill=1\/fill=2 by omega) hfill
def Z8{ai al ar:Addr}(hE:im GB ai al ar){xs:List (List WP)}(hn:xs.length<=100){j:Nat}{r:List WP}(hj:xs[j]? =some r)(hg: ∀k q,k<j->xs[k]? =some q->io q)(hs: ∀q∈r,q.sm)(h9:r.length<=9){a:Addr}(hb:uv ai ar r a){fill:Int}: ∃s,PE GB prog 11 [.sl (xs.map d5),vI fill] (qj a s) (fun u=> .tp [vm,q7 u]):=by
 obtain⟨s,hF⟩:=ZO hE hn hj hg hs h9 hb;refine⟨s,?_⟩;refine vQ (fu:=⟨10⟩) func11 J J ntmps11 J J (fun C=>?_);refine cE J hF (fun _=>J) (fun GB1 u hg1 hu=>?_);exact wQ u hu J J
def qe{ai al ar:Addr}(hE:im GB ai al ar){ds:List DV}(hn:256<ds.length)(hm:ds.length<=1000000){fill:Int}: ∃s,PE GB prog 11 [.sl ds,vI fill] (qj al s) (fun u=> .tp [vm,q7 u]):=by
 obtain⟨s,hF⟩:=aq9 hE hn hm;refine⟨s,?_⟩;refine vQ (fu:=⟨10⟩) func11 J J ntmps11 J J (fun C=>?_);refine cE J hF (fun _=>J) (fun GB1 u hg1 hu=>?_);exact wQ u hu J J
def xk{ai al ar:Addr}(hE:im GB ai al ar){cs:List RL}(hs: ∀r∈cs,r.sm)(hn:cs.length<=1000)(h:iG cs=none):PF GB prog 15 [.ag [.sl (cs.map RL.d)]] (.tp [vm,lC ai]):=by
 refine fn func15 J J ntmps15 J J (fun C=>?_);refine cl (fu:=⟨12⟩) J (Tp hs hn h) J<|ah 13 (.d (.v (.bool true))) J J<|fi 13 J<|gx J<|gl J hE.ErrInvalid J<|rz J J
def Np: ∀{cs:List RL},(∀r∈cs,r.sm)->cs.all (fun r=>r.ln.isSome)=true->cs.map RL.d=(cs.filterMap RL.ln).map eL
 |[],_,_=>rfl
 |r::t,hs,h=>by
  rw[rM,aM] at h;have ih:=Np (fun q hq=>hs q (aJ _ hq)) h.2;have h1:=h.1;obtain⟨l,hl⟩:=nJ.1 h1;rw[List.filterMap_cons,hl,bJ,bJ,ih];have h2:r.nm/\r.l=l:=by
   unfold RL.ln at hl;split at hl
   .rename_i hh;cases hl;exact⟨hh.1,rfl⟩
   .cases hl
  rw[RL.eL (hs r aQ) h2.1,h2.2]
def aBp{cs:List RL}{ls:List ab}(hs: ∀r∈cs,r.sm)(h:iG cs=some ls):cs.map RL.d=ls.map eL:=by
 unfold iG at h;split at h
 .rename_i k;cases h;exact Np hs k
 .cases h
def zk{cs:List RL}{ls:List ab}(hs: ∀r∈cs,r.sm)(hn:cs.length<=18)(h:iG cs=some ls):PF GB prog 15 [.ag [.sl (cs.map RL.d)]] (.tp [eA (pE ls), .v .nilIface]):=by
 obtain⟨k1,k2,k3⟩:=Uo hs h;rw[aBp hs h];exact Zu k1 k2 (by omega)

def N3{a b:Rat}:ce a b<0↔a<b:=by
 unfold ce;repeat' split
 all_goals grind
def If{a b:Rat}:ce a b=0↔a=b:=by
 unfold ce;repeat' split
 all_goals grind
def O9{p q:aa}:cD p q<0↔p.x<q.x\/(p.x=q.x/\p.y<q.y):=by
 unfold cD;have h1:=N3 (a:=p.x) (b:=q.x);have h2:=If (a:=p.x) (b:=q.x);have h3:=N3 (a:=p.y) (b:=q.y);split<;>grind
def Fj{p q:aa}:cD p q=0↔p=q:=by
 unfold cD;have h2:=If (a:=p.x) (b:=q.x);have h4:=If (a:=p.y) (b:=q.y)
 cases p;cases q
 simp only[aa.mk.injEq] at*;split<;>grind
def Ed{α:Type}{c:α->α->Int}(h0: ∀a b,c a b=0->a=b){x y:α}: ∀{xs:List α},(y=x\/y∈xs)->y∈fh c x xs
 |[],h=>by
  rcases h with rfl|h
  .unfold fh;exact aY.2 J
  .cases h
 |u::t,h=>by
  have ih:=fun k=>Ed h0 (x:=x) (y:=y) (xs:=t) k;unfold fh;split
  .rcases h with h|h
   .exact aJ _ (ih (.inl h))
   .rcases aU.1 h with h|h
    .exact h▸aQ
    .exact aJ _ (ih (.inr h))
  .split
   .rename_i k
    rcases h with h|h
    .rw[h,<-h0 _ _ k];exact aQ
    .exact h
   .rcases h with h|h
    .rw[h];exact aQ
    .exact aJ _ h
def OV{α:Type}{c:α->α->Int}(h0: ∀a b,c a b=0->a=b){y:α}: ∀{l o:List α},(y∈l\/y∈o)->y∈l.foldl (fun out x=>fh c x out) o
 |[],o,h=>h.resolve_left (fun h=>by cases h)
 |x::t,o,h=>by
  rw[dY];refine OV h0 ?_;rcases h with h|h
  .rcases aU.1 h with h|h
   .exact .inr (Ed h0 (.inl h))
   .exact .inl h
  .exact .inr (Ed h0 (.inr h))
def ZT{α:Type}{F:List α}{a b c:α}(ha:a∈F)(hb:b∈F)(hc:c∈F)(h1:a≠b)(h2:a≠c)(h3:b≠c):3<=F.length:=by
 obtain⟨i,hi,ei⟩:=lV.1 ha;obtain⟨j,hj,ej⟩:=lV.1 hb;obtain⟨k,hk,ek⟩:=lV.1 hc;have n1:i≠j:=fun e=>h1 (by subst e;rw[<-ei,<-ej]);have n2:i≠k:=fun e=>h2 (by subst e;rw[<-ei,<-ek]);have n3:j≠k:=fun e=>h3 (by subst e;rw[<-ej,<-ek]);omega
def Kq(v:List aa):3<=(fH cD v).length↔3<=dk v v.length:=by
 constructor
 .intro h
  have hs:(fH cD v).Pairwise (fun a b=>cD a b<0):=I0 (o:=[])
   (fun u v w h1 h2=>by rw[O9] at*;grind)
   (fun u v h1 h2=>by
    rw[O9] at*;have h2:=mt Fj.2 h2
    cases u;cases v
    simp only[aa.mk.injEq] at h2;grind) List.Pairwise.nil
  have hm: ∀y∈fH cD v,y∈v:=fun y hy=>(Iy cD hy).resolve_right (fun h=>by cases h)
  match hl:fH cD v,h with
  |a::b::c::t,_=>
   rw[hl] at hs hm;have ne: ∀{p q:aa},cD p q<0->p≠q:=fun{p q} k e=>by have:=Fj.2 e;omega
   have p1:=(bZ.1 hs).1;have p2:=(bZ.1 (bZ.1 hs).2).1;exact Le (hm a (by simp)) (hm b (by simp)) (hm c (by simp)) (ne (p1 b (by simp))) (ne (p1 c (by simp))) (ne (p2 c (by simp)))
 .intro h
  rw[En] at h;generalize hF:(List.range v.length).filter (fun k=>decide (jI v (v.getD k ⟨0,0⟩)=((k:Nat):Int)))=F at h;have hn:F.Nodup:=hF▸List.Pairwise.filter _ List.nodup_range;have hm: ∀k∈F,k<v.length/\jI v (v.getD k ⟨0,0⟩)=((k:Nat):Int):=fun k hk=>by
   rw[<-hF] at hk;obtain⟨h1,h2⟩:=qW.1 hk;exact⟨rZ.1 h1,of_decide_eq_true h2⟩
  match F,h,hn,hm with
  |i::j::k::t,_,hn,hm=>
   have n1:=(List.nodup_cons.1 hn).1;have n2:=(List.nodup_cons.1 (List.nodup_cons.1 hn).2).1;obtain⟨i1,i2⟩:=hm i (by simp);obtain⟨j1,j2⟩:=hm j (by simp);obtain⟨k1,k2⟩:=hm k (by simp);have mem: ∀{m:Nat},m<v.length->v.getD m ⟨0,0⟩∈fH cD v:=fun{m} hm=>OV (fun a b=>Fj.1) (.inl (by
    rw[aK,aZ hm];exact iZ hm))
   refine ZT (mem i1) (mem j1) (mem k1) (fun e=>?_) (fun e=>?_) (fun e=>?_)
   .rw[e,j2] at i2;exact n1 (by rw[show j=i by exact_mod_cast i2];simp)
   .rw[e,k2] at i2;exact n1 (by rw[show k=i by exact_mod_cast i2];simp)
   .rw[e,k2] at j2;exact n2 (by rw[show k=j by exact_mod_cast j2];simp)
def Ud{a b:List Nat}(hl:a.length=b.length)(h: ∀j,j<a.length->a.getD j 0=b.getD j 0):a=b:=by
 apply List.ext_getElem hl;intro i h1 h2;have:=h i h1;rw[aK,aK,aZ h1,aZ h2] at this;exact this
def Q5{a b:List Nat}(ha:a.length<=1000000):PF GB prog 193 [bE a,bE b] (vB (decide (a=b))):=by
 have hla:=bP a;have hlb:=bP b;refine fn func193 J J ntmps193 J J (fun C=>?_);refine br (fu2:=⟨7⟩) J J J (fun hc10=>?_) (fun hc10=>?_)
 .
  exact rz J (by rw[decide_eq_false (fun e:a=b=>hc10 (by rw[e]))];rfl)
 .
  refine ah 12 (.d (vI (a.length:Nat))) J (by rw[hla];rfl)<|gx J<|lp (X:=Nat) (fun i=>[(13, .d (vI (i:Nat))),(12, .d (vI (a.length:Nat))),(0, .d (bE a)),(1, .d (bE b))]) (fun i=>[]) (fun i=>i<=a.length/\ ∀j,j<i->a.getD j 0=b.getD j 0) (fun i=>a.length-i) 0 J ⟨aN _,fun j hj=>absurd hj (by omega)⟩ (fun _=>J) (fun i hk=>?_);obtain⟨h1,h2⟩:=hk;refine br J J J (fun hc14=>?_) (fun hc14=>?_)
  .
   refine ix _ J (d6) J<|ix _ J (d6) J<|br J J J (fun hc24=>?_) (fun hc24=>?_)
   .
    exact rz J (by rw[decide_eq_false (fun e:a=b=>hc24 (by rw[e]))];rfl)
   .
    exact at_ (i+1) ⟨⟨by omega,fun j hj=>by by_cases q:j=i;(subst q;omega);exact h2 j (by omega)⟩,(by omega)⟩
  .
   exact rz J (by rw[decide_eq_true (Ud (by omega) (fun j hj=>h2 j (by omega)))];rfl)
def ZG{n m:Bool}{a b:List Nat}(ha:a.length<=1000000):PF GB prog 192 [.ag [.v (.bool n),bE a], .ag [.v (.bool m),bE b]] (vB (decide (n=m/\a=b))):=by
 refine fn (fu:=⟨14⟩) func192 J J ntmps192 J J (fun C=>?_);refine ah 9 (.d (.v (.bool (decide (n=m))))) J (by congr 2<;>cases n<;>cases m<;>rfl)<|gx J<|csd 10 J J J (fun hg10=>?_) (fun hg10=>?_)
 .
  refine cl J (Q5 (a:=a) (b:=b) ha) J<|rz J (by show DV.v (.bool _)= .v (.bool _);simp_all)
 .
  exact rz J (by show DV.v (.bool _)= .v (.bool _);simp_all)
def Nt{r:WQ}{m:Bool}{a b:List Nat}(s:r.sm):PF GB prog 128 [.ag [.v (.bool r.n),bE r.d,bE r.e], .ag [.v (.bool m),bE a,bE b]] (vB (decide ((r.n=m/\r.d=a)/\r.e=b))):=by
 refine fn func128 J J ntmps128 J J (fun C=>?_);refine cl J (ZG (n:=r.n) (m:=m) (a:=r.d) (b:=a) (by have:=s.d.2;omega)) J<|csd 10 J J J (fun hg10=>?_) (fun hg10=>?_)
 .
  refine cl J (Q5 (a:=r.e) (b:=b) (by have:=s.e.2;omega)) J<|rz J (by show DV.v (.bool _)= .v (.bool _);simp_all)
 .
  exact rz J (by show DV.v (.bool _)= .v (.bool _);simp_all)
theorem WQ.bq0{r:WQ}(s:r.sm):BQ r.q 22:=by
 unfold WQ.q;by_cases h:dv r.e=0
 .rw[h,Rat.mkRat_zero];exact⟨by decide,by decide⟩
 .exact wU (by omega) (by rw[kI];exact pp s.d) (pp s.e)
def aD3(a:Nat):((dg a).map dU).length=0↔a=0:=by rw[aX];exact oI
def WQ.nm_iff{r:WQ}(s:r.sm):(((r.n=decide (r.q.num<0)/\r.d=dg r.q.num.natAbs)/\r.e=dg r.q.den)/\0<r.e.length)↔r.nm:=by
 constructor
 .rintro ⟨⟨⟨h1,h2⟩,h3⟩,h4⟩
  have e1:dv r.d=r.q.num.natAbs:=by rw[h2,cH]
  have e2:dv r.e=r.q.den:=by rw[h3,cH]
  refine⟨⟨by rw[h2];exact(ey _).2.2,fun k=>?_⟩,by rw[h3];exact(ey _).2.2,h4,by rw[e1,e2];exact r.q.reduced⟩;rw[k] at h1;have h5:=of_decide_eq_true h1.symm;rw[h2];refine eK fun e=>?_;have:=oI.1 e;omega
 .intro h
  obtain⟨h1,h2⟩:=WQ.nd s h;have hz:decide (zv r.n (dv r.d)<0)=r.n:=QN fun k=>BE s.d.1 h.1.1 (h.1.2 k);rw[h1,h2,kI,hz,od s.d.1 h.1.1,od s.e.1 h.2.1];exact⟨⟨⟨J,J⟩,J⟩,h.2.2.1⟩
def aF8{r:WQ}(s:r.sm)(h:dv r.e=0):PF GB prog 129 [.ag [.v (.bool r.n),bE r.d,bE r.e]] (eQ r.q):=by
 refine fn func129 J J ntmps129 J J (fun C=>?_);refine cl (fu:=⟨8⟩) J (Af s.e.1 (by have:=s.e.2;omega)) J<|dh J (by show some (decide _)=some true;rw[decide_eq_true (by rw[(aD3 _).2 h];rfl)]) J<|rz J (by unfold WQ.q;rw[h,Rat.mkRat_zero,aBt];rfl)
def XU{r:WQ}(s:r.sm)(h:0<dv r.e):PF GB prog 129 [.ag [.v (.bool r.n),bE r.d,bE r.e]] (eQ r.q):=by
 haveI:BI (my r.n r.d) 22:=⟨by rw[H2];exact pp s.d⟩;haveI:BN (dv r.e) 22:=⟨pp s.e⟩;refine fn func129 J J ntmps129 J J (fun C=>?_);refine cl (fu:=⟨8⟩) J (Af s.e.1 (by have:=s.e.2;omega)) J<|b9 J (by show some (decide _)=some false;rw[decide_eq_false (Na h)]) J<|cl J (yF (neg:=r.n) s.d.1 (by have:=s.d.2;omega)) J<|cl J (vK (x:=my r.n r.d) (d:=dv r.e) (i:=22) (j:=22) h) J<|rz J J
def Lu{r:WQ}(s:r.sm):PF GB prog 129 [.ag [.v (.bool r.n),bE r.d,bE r.e]] (eQ r.q):=by
 by_cases h:dv r.e=0
 .exact aF8 s h
 .exact XU s (by omega)
def aHh{r:WQ}(s:r.sm)(h:((r.n=decide (r.q.num<0)/\r.d=dg r.q.num.natAbs)/\r.e=dg r.q.den)):PF GB prog 76 [.ag [.v (.bool r.n),bE r.d,bE r.e]] (vB (decide (0<r.e.length))):=by
 haveI:=WQ.bq0 s;have hml:(r.e.map dU).length=r.e.length:=aX ..;refine fn func76 J J ntmps76 J J (fun C=>?_);refine cl J (Lu s) J<|cl J (CW (q:=r.q) (i:=22)) J<|cl (fu:=⟨0⟩) J (Nt (r:=r) (m:=decide (r.q.num<0)) (a:=dg r.q.num.natAbs) (b:=dg r.q.den) s) J<|dh J (by show some (decide _)=some true;rw[decide_eq_true h]) J<|rz J (by show DV.v (.bool (decide _))= .v (.bool (decide _));congr 2;rw[decide_eq_decide];omega)
def aHk{r:WQ}(s:r.sm)(h: ¬((r.n=decide (r.q.num<0)/\r.d=dg r.q.num.natAbs)/\r.e=dg r.q.den)):PF GB prog 76 [.ag [.v (.bool r.n),bE r.d,bE r.e]] (.v (.bool false)):=by
 haveI:=WQ.bq0 s;have hml:(r.e.map dU).length=r.e.length:=aX ..;refine fn func76 J J ntmps76 J J (fun C=>?_);refine cl J (Lu s) J<|cl J (CW (q:=r.q) (i:=22)) J<|cl (fu:=⟨0⟩) J (Nt (r:=r) (m:=decide (r.q.num<0)) (a:=dg r.q.num.natAbs) (b:=dg r.q.den) s) J<|b9 J (by show some (decide _)=some false;rw[decide_eq_false h]) J<|rz J J
def Qd{r:WQ}(s:r.sm):PF GB prog 76 [.ag [.v (.bool r.n),bE r.d,bE r.e]] (vB (decide r.nm)):=by
 have hi:=WQ.nm_iff s;by_cases h:((r.n=decide (r.q.num<0)/\r.d=dg r.q.num.natAbs)/\r.e=dg r.q.den)
 .rw[show decide r.nm=decide (0<r.e.length) from decide_eq_decide.2 ⟨fun k=>(hi.2 k).2,fun k=>hi.1 ⟨h,k⟩⟩];exact aHh s h
 .rw[show decide r.nm=false from decide_eq_false fun k=>h (hi.2 k).1];exact aHk s h
def ET{r:List WP}(s: ∀q∈r,q.sm)(h9:r.length<=100){v:List aa}(hv:v=cd r)(hn: ∀q∈r,q.nm):PF GB prog 37 [d5 r] (.sl (v.map eP)):=by
 have h1:=tC r;rw[vJ s hn,hv];exact XO (fun p hp=>(tG s hn p hp).mono' (by decide)) (by omega)
def C7{r:WP}(s:r.sm):PF GB prog 36 [r.D] (vB (decide r.nm)):=by
 refine fn func36 J J ntmps36 J J (fun C=>?_);refine cl J (Qd (r:=r.x) s.x) J<|csd 6 J J J (fun hg6=>?_) (fun hg6=>?_)
 .
  refine cl J (Qd (r:=r.y) s.y) J<|rz J (by show DV.v (.bool _)= .v (.bool _);unfold WP.nm;simp_all)
 .
  exact rz J (by show DV.v (.bool _)= .v (.bool _);unfold WP.nm;simp_all)
def T8{r:List WP}(s: ∀q∈r,q.sm)(h9:r.length<=100){j:Nat}{b:WP}(hj:r[j]? =some b)(hb: ¬b.nm):PF GB prog 12 [d5 r] (vI 2):=by
 have hml:(r.map WP.D).length=r.length:=aX ..;have hjl:=(aT.1 hj).1;refine fn (fu:=⟨10⟩) func12 J J ntmps12 J J (fun C=>?_);refine ah 8 (.d (vI (r.length:Nat))) J (by rw[hml]<;>rfl)<|gx (fu:=⟨0⟩) J<|b9 (fu:=⟨10⟩) J (by show some (decide _)=some false;rw[decide_eq_false (by omega)]) J<|ah 11 (.d (vI (r.length:Nat))) J (by rw[hml]<;>rfl)<|gx J<|lp (X:=Nat) (fun k=>[(12, .d (vI (k:Nat)))]) (fun k=>[]) (fun k=>k<=j) (fun k=>r.length-k) 0 J (aN _) (fun _=>J) (fun k hk=>?_);refine br J J J (fun hc13=>?_) (fun hc13=>?_)
 .
  obtain⟨q,hx⟩: ∃u,r[k]? =some u:=⟨_,aZ (by omega)⟩;have hqs:=s q (aV hx);refine ix _ J (cO hx) J<|cl J (C7 (r:=q) hqs) J<|bb J J J (fun hc18=>?_) (fun hc18=>?_)
  .
   exact rz J J
  .
   exact at_ (k+1) ⟨(by rcases fW k j with h|h;omega;exact absurd (by simpa using hc18) (by obtain rfl:k=j:=(by omega);rw[hj] at hx;cases hx;exact hb)),(by omega)⟩
 .
  exact absurd hc13 (by omega)
def Vf{r:List WP}(s: ∀q∈r,q.sm)(h9:r.length<=100){v:List aa}(hv:v=cd r)(hn: ∀q∈r,q.nm)(h3:(fH cD v).length<3):PF GB prog 12 [d5 r] (vI 3):=by
 have hml:(r.map WP.D).length=r.length:=aX ..;have hb22: ∀p∈cd r,aO p 22:=tG s hn;have hvl:v.length=r.length:=by rw[hv];exact tC r
 have hvb: ∀p∈v,aO p 1200:=fun p hp=>by rw[hv] at hp;exact(hb22 p hp).mono' (by decide)
 have hse:((fH cD v).map eP).length=(fH cD v).length:=aX ..;have he:d5 r= .sl (v.map gh):=by rw[hv];exact vJ s hn
 refine fn (fu:=⟨10⟩) func12 J J ntmps12 J J (fun C=>?_);refine ah 8 (.d (vI (r.length:Nat))) J (by rw[hml]<;>rfl)<|gx (fu:=⟨0⟩) J<|b9 (fu:=⟨10⟩) J (by show some (decide _)=some false;rw[decide_eq_false (by omega)]) J<|ah 11 (.d (vI (r.length:Nat))) J (by rw[hml]<;>rfl)<|gx J<|lp (X:=Nat) (fun k=>[(12, .d (vI (k:Nat)))]) (fun k=>[]) (fun k=>k<=r.length) (fun k=>r.length-k) 0 J (aN _) (fun _=>J) (fun k hk=>?_);refine br J J J (fun hc13=>?_) (fun hc13=>?_)
 .
  obtain⟨q,hx⟩: ∃u,r[k]? =some u:=⟨_,aZ (by omega)⟩;have hqs:=s q (aV hx);refine ix _ J (cO hx) J<|cl J (C7 (r:=q) hqs) J<|bb J J J (fun hc18=>?_) (fun hc18=>?_)
  .
   exact absurd (hn q (aV hx)) (by simpa using hc18)
  .
   exact at_ (k+1) ⟨(by omega),(by omega)⟩
 .
  refine cl J (ET s h9 hv hn) J<|cl (fu:=⟨1⟩) J (Bh (ps:=v) hvb) J<|ah 24 (.d (vI ((fH cD v).length:Nat))) J (by rw[hse]<;>rfl)<|gx (fu:=⟨0⟩) J<|dh J (by show some (decide _)=some true;rw[decide_eq_true (by omega)]) J<|rz J J
def XW{r:List WP}(s: ∀q∈r,q.sm)(h9:r.length<=100){v:List aa}(hv:v=cd r)(hn: ∀q∈r,q.nm)(h3:3<=(fH cD v).length){j:Nat}(hj:j<v.length)(hb: ¬ly (v.getD j PZ) (iF v j)):PF GB prog 12 [d5 r] (vI 3):=by
 have hml:(r.map WP.D).length=r.length:=aX ..;have hb22: ∀p∈cd r,aO p 22:=tG s hn;have hvl:v.length=r.length:=by rw[hv];exact tC r
 have hvb: ∀p∈v,aO p 1200:=fun p hp=>by rw[hv] at hp;exact(hb22 p hp).mono' (by decide)
 have hse:((fH cD v).map eP).length=(fH cD v).length:=aX ..;have he:d5 r= .sl (v.map gh):=by rw[hv];exact vJ s hn
 have hmv:(v.map eP).length=v.length:=aX ..;refine fn (fu:=⟨10⟩) func12 J J ntmps12 J J (fun C=>?_);refine ah 8 (.d (vI (r.length:Nat))) J (by rw[hml]<;>rfl)<|gx (fu:=⟨0⟩) J<|b9 (fu:=⟨10⟩) J (by show some (decide _)=some false;rw[decide_eq_false (by omega)]) J<|ah 11 (.d (vI (r.length:Nat))) J (by rw[hml]<;>rfl)<|gx J<|lp (X:=Nat) (fun k=>[(12, .d (vI (k:Nat)))]) (fun k=>[]) (fun k=>k<=r.length) (fun k=>r.length-k) 0 J (aN _) (fun _=>J) (fun k hk=>?_);refine br J J J (fun hc13=>?_) (fun hc13=>?_)
 .
  obtain⟨q,hx⟩: ∃u,r[k]? =some u:=⟨_,aZ (by omega)⟩;have hqs:=s q (aV hx);refine ix _ J (cO hx) J<|cl J (C7 (r:=q) hqs) J<|bb J J J (fun hc18=>?_) (fun hc18=>?_)
  .
   exact absurd (hn q (aV hx)) (by simpa using hc18)
  .
   exact at_ (k+1) ⟨(by omega),(by omega)⟩
 .
  refine cl J (ET s h9 hv hn) J<|cl (fu:=⟨1⟩) J (Bh (ps:=v) hvb) J<|ah 24 (.d (vI ((fH cD v).length:Nat))) J (by rw[hse]<;>rfl)<|gx (fu:=⟨0⟩) J<|b9 (fu:=⟨10⟩) J (by show some (decide _)=some false;rw[decide_eq_false (by omega)]) J<|ah 27 (.d (vI (v.length:Nat))) J (by rw[hmv]<;>rfl)<|gx J<|lp (X:=Nat) (fun k=>[(28, .d (vI (k:Nat)))]) (fun k=>[]) (fun k=>k<=j) (fun k=>v.length-k) 0 J (aN _) (fun _=>J) (fun k hk=>?_);refine br J J J (fun hc29=>?_) (fun hc29=>?_)
  .
   obtain⟨p,hpx⟩: ∃u,v[k]? =some u:=⟨_,aZ (by omega)⟩;obtain⟨q,hqx⟩: ∃u,v[(k+1)%v.length]? =some u:=⟨_,aZ (dQ _ (by omega))⟩;haveI:=hvb p (aV hpx);haveI:=hvb q (aV hqx);obtain⟨f1,f2⟩:=zf hpx hqx;refine ix (fu:=⟨7⟩) _ J (cO hpx) J<|ah 40 (.d (vI (((k+1)%v.length:Nat):Int))) J (by rw[hmv]<;>rfl)<|gx J<|ix _ J (cO hqx) J<|cl J (Ob (p:=p) (q:=q) (i:=1200) (j:=1200)) J<|bd J J J (fun hc43=>?_) (fun hc43=>?_)
   .
    exact rz J J
   .
    exact at_ (k+1) ⟨(by rcases fW k j with h|h;omega;exact absurd hc43 (by obtain rfl:k=j:=(by omega);rw[f1,f2];exact fun e=>hb e)),(by omega)⟩
  .
   exact absurd hc29 (by omega)
def Yp{r:List WP}(s: ∀q∈r,q.sm)(h9:r.length<=100){v:List aa}(hv:v=cd r)(hn: ∀q∈r,q.nm)(h3:3<=(fH cD v).length)(hg: ∀j<v.length,ly (v.getD j PZ) (iF v j)):PF GB prog 12 [d5 r] (vI 0):=by
 have hml:(r.map WP.D).length=r.length:=aX ..;have hb22: ∀p∈cd r,aO p 22:=tG s hn;have hvl:v.length=r.length:=by rw[hv];exact tC r
 have hvb: ∀p∈v,aO p 1200:=fun p hp=>by rw[hv] at hp;exact(hb22 p hp).mono' (by decide)
 have hse:((fH cD v).map eP).length=(fH cD v).length:=aX ..;have he:d5 r= .sl (v.map gh):=by rw[hv];exact vJ s hn
 have hmv:(v.map eP).length=v.length:=aX ..;refine fn (fu:=⟨10⟩) func12 J J ntmps12 J J (fun C=>?_);refine ah 8 (.d (vI (r.length:Nat))) J (by rw[hml]<;>rfl)<|gx (fu:=⟨0⟩) J<|b9 (fu:=⟨10⟩) J (by show some (decide _)=some false;rw[decide_eq_false (by omega)]) J<|ah 11 (.d (vI (r.length:Nat))) J (by rw[hml]<;>rfl)<|gx J<|lp (X:=Nat) (fun k=>[(12, .d (vI (k:Nat)))]) (fun k=>[]) (fun k=>k<=r.length) (fun k=>r.length-k) 0 J (aN _) (fun _=>J) (fun k hk=>?_);refine br J J J (fun hc13=>?_) (fun hc13=>?_)
 .
  obtain⟨q,hx⟩: ∃u,r[k]? =some u:=⟨_,aZ (by omega)⟩;have hqs:=s q (aV hx);refine ix _ J (cO hx) J<|cl J (C7 (r:=q) hqs) J<|bb J J J (fun hc18=>?_) (fun hc18=>?_)
  .
   exact absurd (hn q (aV hx)) (by simpa using hc18)
  .
   exact at_ (k+1) ⟨(by omega),(by omega)⟩
 .
  refine cl J (ET s h9 hv hn) J<|cl (fu:=⟨1⟩) J (Bh (ps:=v) hvb) J<|ah 24 (.d (vI ((fH cD v).length:Nat))) J (by rw[hse]<;>rfl)<|gx (fu:=⟨0⟩) J<|b9 (fu:=⟨10⟩) J (by show some (decide _)=some false;rw[decide_eq_false (by omega)]) J<|ah 27 (.d (vI (v.length:Nat))) J (by rw[hmv]<;>rfl)<|gx J<|lp (X:=Nat) (fun k=>[(28, .d (vI (k:Nat)))]) (fun k=>[]) (fun k=>k<=v.length) (fun k=>v.length-k) 0 J (aN _) (fun _=>J) (fun k hk=>?_);refine br J J J (fun hc29=>?_) (fun hc29=>?_)
  .
   obtain⟨p,hpx⟩: ∃u,v[k]? =some u:=⟨_,aZ (by omega)⟩;obtain⟨q,hqx⟩: ∃u,v[(k+1)%v.length]? =some u:=⟨_,aZ (dQ _ (by omega))⟩;haveI:=hvb p (aV hpx);haveI:=hvb q (aV hqx);obtain⟨f1,f2⟩:=zf hpx hqx;refine ix (fu:=⟨7⟩) _ J (cO hpx) J<|ah 40 (.d (vI (((k+1)%v.length:Nat):Int))) J (by rw[hmv]<;>rfl)<|gx J<|ix _ J (cO hqx) J<|cl J (Ob (p:=p) (q:=q) (i:=1200) (j:=1200)) J<|bd J J J (fun hc43=>?_) (fun hc43=>?_)
   .
    exact absurd (by rw[f1,f2] at hc43;exact hc43) (hg k (by omega))
   .
    exact at_ (k+1) ⟨(by omega),(by omega)⟩
  .
   exact rz J J
def U0{ai al ar:Addr}(hE:im GB ai al ar):PF GB prog 14 [vI 2] (lC ai):=by
 refine fn func14 J J ntmps14 J J (fun C=>?_);refine br J J J (fun hc4=>?_) (fun hc4=>?_)
 .
  exact absurd hc4 (by decide)
 .
  refine br J J J (fun hc7=>?_) (fun hc7=>?_)
  .
   refine gl J hE.ErrInvalid J<|rz J J
  .
   exact absurd J hc7
def S5{ai al ar:Addr}(hE:im GB ai al ar):PF GB prog 14 [vI 3] (lC ar):=by
 refine fn func14 J J ntmps14 J J (fun C=>?_);refine br J J J (fun hc4=>?_) (fun hc4=>?_)
 .
  exact absurd hc4 (by decide)
 .
  refine br J J J (fun hc7=>?_) (fun hc7=>?_)
  .
   exact absurd hc7 (by decide)
  .
   refine gl J hE.ErrRing J<|rz J J
section
variable {GB:Gh} {C:aC} {n:Nat} {Q0:Exit->Act->World->Prop} {fr fr':av} {own own':aF} {cf cf':Cf} {vc:List Prop}
def Nw(fr:av)(cf:Cf):Option ((IntKind×Int)×(IntKind×Int)):=match b8 fr cf with
 |some ⟨_, .binOp .rem _ x y _,_,_,_,_⟩=>match aI (bw fr cf) x,aI (bw fr cf) y with
  |some (.d (.v (.int k p))),some (.d (.v (.int k' q)))=>some ((k,p),(k',q))
  |_,_=>none
 |_=>none
def pn[fu:Fu]{kd:IntKind}{p q:Int}(h:Nw fr cf=some ((kd,p),(kd,q)))(hq:q≠0)(hgo:cv tt n fu.n fr own cf (.d (.v (.int kd (p.tmod q)))) [] []=⟨vc,fr',own',cf'⟩)(k:ak prog GB C n Q0 fr' own' cf')
  (hv:autoParam (aj vc) cL._auto_1):ak prog GB C n Q0 fr own cf:=by
 unfold Nw at h;split at h<;>try (cases h;done)
 rename_i hh;split at h<;>cases h;rename_i h1 h2;exact us hh (.yd fun ρ G ov a w r=>by
  obtain⟨y1,h3,h4⟩:=r.ev h1;obtain⟨y2,h5,h6⟩:=r.ev h2;obtain rfl:=(aP (G:=G)).1 h4;obtain rfl:=(aP (G:=G)).1 h6;exact⟨_,(aP (G:=G)).2 J,Eb h3 h5 hq⟩) hgo hv k
def PC(fr:av)(cf:Cf):Option (TypeId×TypeId×IntKind×Int):=match b8 fr cf with
 |some ⟨_, .convert t t' x,_,_,_,_⟩=>match aI (bw fr cf) x with
  |some (.d (.v (.int k p)))=>some (t,t',k,p)
  |_=>none
 |_=>none
def pz[fu:Fu]{t t':TypeId}{kd:IntKind}{p:Int}(h:PC fr cf=some (t,t',kd,p))(h1:pg prog t kd)(h2:pg prog t' .i64)(h0:0<=p/\p<65536)(hgo:cv tt n fu.n fr own cf (.d (.v (.int .i64 p))) [] []=⟨vc,fr',own',cf'⟩)(k:ak prog GB C n Q0 fr' own' cf')
  (hv:autoParam (aj vc) cL._auto_1):ak prog GB C n Q0 fr own cf:=by
 unfold PC at h;split at h<;>try (cases h;done)
 rename_i hh;split at h<;>cases h;rename_i hx;exact us hh (.yd fun ρ G ov a w r=>by
  obtain⟨y1,h3,h4⟩:=r.ev hx;obtain rfl:=(aP (G:=G)).1 h4;exact⟨_,(aP (G:=G)).2 J,Ny h3 (by simp only[IntKind.min,IntKind.max,IntKind.bits,IntKind.signed];simp;omega)⟩) hgo hv k
end
def Fd{α:Type}{f:α->Bool}{l:List α}{k:Nat}{x:α}(hx:l[k]? =some x)(h:f x=false):l.all f=false:=by
 rw[List.all_eq_false];exact⟨x,aV hx,by simp[h]⟩
def NP{α:Type}{f:α->Bool}{l:List α}{k:Nat}{x:α}(hx:l[k]? =some x)(h:(l.take k).all f=true)(hq:f x=true):(l.take (k+1)).all f=true:=by
 rw[fJ,hx,List.all_append,h];simp[hq]
def WQ.smB(n:Int)(r:WQ):Bool:=decide ((r.d.length:Int)<=n)&&decide ((r.e.length:Int)<=n)
def WP.smB(n:Int)(r:WP):Bool:=r.x.smB n&&r.y.smB n
def L9(n:Int)(r:WP):r.smB n=[r.x,r.y].all (WQ.smB n):=by simp[WP.smB]
def VN{b:Bool}(h:(!b)=true):b=false:=by cases b;rfl;cases h
def tP{b:Bool}(h:(!b)=false):b=true:=by cases b;cases h;rfl
def WQ.A(r:WQ):DV:= .ag [.v (.bool r.n),bE r.d,bE r.e]
structure WQ.wd (r:WQ):Prop where
 d:bt r.d
 e:bt r.e
structure WP.wd (r:WP):Prop where
 x:r.x.wd
 y:r.y.wd
def WQ.sm_of{r:WQ}(h:r.wd)(k:r.smB 4=true):r.sm:=by
 unfold WQ.smB at k;simp only[aM,decide_eq_true_eq] at k;exact⟨⟨h.d,by omega⟩,⟨h.e,by omega⟩⟩
def WP.sm_of{r:WP}(h:r.wd)(k:r.smB 4=true):r.sm:=by
 unfold WP.smB at k;simp only[aM] at k;exact⟨WQ.sm_of h.x k.1,WQ.sm_of h.y k.2⟩
def VB{n:Int}{ls:List WQ}(hn:ls.length<=1000000):PF GB prog 23 [vI n, .sl (ls.map WQ.A)] (vB (ls.all (WQ.smB n))):=by
 have hm:(ls.map WQ.A).length=ls.length:=aX ..;refine fn (fu:=⟨10⟩) func23 J J ntmps23 J J (fun C=>?_);refine ah 8 (.d (vI (ls.length:Nat))) J (by rw[hm]<;>rfl)<|gx J<|lp (X:=Nat) (fun k=>[(9, .d (vI (k:Nat)))]) (fun k=>[]) (fun k=>k<=ls.length/\(ls.take k).all (WQ.smB n)=true) (fun k=>ls.length-k) 0 J ⟨aN _,J⟩ (fun _=>J) (fun k hk=>?_);obtain⟨h1,h2⟩:=hk;refine br J J J (fun hc10=>?_) (fun hc10=>?_)
 .
  obtain⟨r,hx⟩: ∃s,ls[k]? =some s:=⟨_,aZ (by omega)⟩;have hmd:=bP r.d;have hme:=bP r.e;refine ix (fu:=⟨11⟩) _ J (cO hx) J<|ah 16 (.d (vI (r.d.length:Nat))) J (by rw[hmd]<;>rfl)<|gx J<|cs (fu2:=⟨3⟩) 19 J J J (fun hg19=>?_) (fun hg19=>?_)
  .
   exact rz J (by rw[Fd hx (by unfold WQ.smB;rw[decide_eq_false (by omega)];rfl)];rfl)
  .
   refine ah 22 (.d (vI (r.e.length:Nat))) J (by rw[hme]<;>rfl)<|gx J<|br J J J (fun hc25=>?_) (fun hc25=>?_)
   .
    exact rz J (by rw[Fd hx (by unfold WQ.smB;rw[decide_eq_false (p:=(r.e.length:Int)<=n) (by omega),Bool.and_false])];rfl)
   .
    exact at_ (k+1) ⟨⟨by omega,NP hx h2 (by unfold WQ.smB;rw[decide_eq_true (by omega),decide_eq_true (by omega)];rfl)⟩,(by omega)⟩
 .
  obtain rfl:k=ls.length:=by omega
  rw[cJ] at h2;exact rz J (by rw[h2];rfl)
def Ga{n:Int}{ls:List WP}(hn:ls.length<=1000000:=by omega):PF GB prog 5 [vI n, .sl (ls.map WP.D)] (vB (ls.all (WP.smB n))):=by
 have hm:(ls.map WP.D).length=ls.length:=aX ..;refine fn (fu:=⟨10⟩) func5 J J ntmps5 J J (fun C=>?_);refine ah 8 (.d (vI (ls.length:Nat))) J (by rw[hm]<;>rfl)<|gx J<|lp (X:=Nat) (fun k=>[(9, .d (vI (k:Nat)))]) (fun k=>[]) (fun k=>k<=ls.length/\(ls.take k).all (WP.smB n)=true) (fun k=>ls.length-k) 0 J ⟨aN _,J⟩ (fun _=>J) (fun k hk=>?_);obtain⟨h1,h2⟩:=hk;refine br J J J (fun hc10=>?_) (fun hc10=>?_)
 .
  obtain⟨r,hx⟩: ∃s,ls[k]? =some s:=⟨_,aZ (by omega)⟩;refine ix _ J (cO hx) J<|rf J J<|cl J (VB (n:=n) (ls:=[r.x,r.y]) (show 2<=1000000 by decide)) J<|bb J J J (fun hc20=>?_) (fun hc20=>?_)
  .
   exact rz J (by rw[Fd hx (by rw[L9];exact VN hc20)];rfl)
  .
   exact at_ (k+1) ⟨⟨by omega,NP hx h2 (by rw[L9];exact tP hc20)⟩,(by omega)⟩
 .
  obtain rfl:k=ls.length:=by omega
  rw[cJ] at h2;exact rz J (by rw[h2];rfl)
def WQ.of(q:Rat):WQ:=⟨decide (q.num<0),dg q.num.natAbs,dg q.den⟩
def WP.of(p:aa):WP:=⟨WQ.of p.x,WQ.of p.y⟩
def WQ.of_q(q:Rat):(WQ.of q).q=q:=by
 unfold WQ.q WQ.of;dsimp only;rw[cH,cH,jB,pZ]
def WQ.of_nm(q:Rat):(WQ.of q).nm:=by
 have hd:=q.den_pos;refine⟨⟨(ey _).2.2,fun h=>?_⟩,(ey _).2.2,?_,?_⟩
 .have:=of_decide_eq_true h
  exact eK fun e=>by have:=oI.1 e;omega
 .exact eK fun e=>by have:=oI.1 e;omega
 .unfold WQ.of;dsimp only;rw[cH,cH];exact q.reduced
def WQ.of_sm{q:Rat}(h1:q.num.natAbs<2^62)(h2:q.den<2^62):(WQ.of q).sm:=by
 have k1:=i6 h1;have k2:=i6 h2;exact⟨⟨(ey _).2.1,by show(dg _).length<=4;omega⟩,⟨(ey _).2.1,by show(dg _).length<=4;omega⟩⟩
def Nk{z:Int}(h:z.natAbs<=1000):(WQ.of (z:Rat)).sm:=WQ.of_sm (by rw[oV];exact gW h (by decide)) (by rw[oW];decide)
def pB(r:List ZP):List WP:=r.map fun z=>WP.of z.q
def az8(r:List ZP):d5 (pB r)=kB r:=by
 unfold d5 pB kB;rw[oJ,oJ];rfl
def K7(r:List ZP):cd (pB r)=r.map ZP.q:=by
 unfold cd pB;rw[oJ];exact sM fun z _=>by
  show WP.p (WP.of z.q)=z.q;unfold WP.p WP.of;rw[WQ.of_q,WQ.of_q]
def Hl{r:List ZP}(h:jt r):io (pB r):=by
 have hn:=h.ok.n6;have hl:(pB r).length=r.length:=aX ..;refine⟨fun q hq=>?_,fun q hq=>?_,by omega,by rw[K7];exact h.c3,fun i hi=>?_⟩
 .obtain⟨z,hz,rfl⟩:=bX.1 hq
  have:=h.ok.le z hz;exact⟨Nk (by have:=this.1;omega),Nk (by have:=this.2;omega)⟩
 .obtain⟨z,hz,rfl⟩:=bX.1 hq
  exact⟨WQ.of_nm _,WQ.of_nm _⟩
 .rw[K7] at hi⊢
  rw[aX] at hi;have e1:(r.map ZP.q).getD i PZ=(r.getD i (0,0)).q:=by
   rw[aK,aK,fY,aZ hi];rfl
  have e2:iF (r.map ZP.q) i=(et r i).q:=by
   unfold iF et;have hm:(i+1)%r.length<r.length:=dQ _ (by omega);rw[aX,aK,aK,fY,aZ hm];rfl
  rw[e1,e2];have:=Nc h.ok hi;exact fun e=>by rw[decide_eq_true e] at this;cases this
def Eh(rs:List (List ZP)):rs.map kB=(rs.map pB).map d5:=by
 rw[oJ];exact sM fun r _=>(az8 r).symm
def vY(l:List (List WP)):du 1 (l.map d5):=fun d hd=>by
 obtain⟨x,_,rfl⟩:=bX.1 hd;exact⟨J,J⟩
def NC{r:List WP}(h: ∀q∈r,q.wd)(k:r.all (WP.smB 4)=true): ∀q∈r,q.sm:=fun q hq=>WP.sm_of (h q hq) (dT.1 k q hq)
def aJ8(xs:List (List WP))(k:Nat)(r:List WP):List (List WP):=(xs.take k++[r])++xs.drop k
def aBq{ai ar:Addr}{r:List WP}(s: ∀q∈r,q.sm)(h9:r.length<=9):io r\/ ∃a,uv ai ar r a:=by
 by_cases h: ∀q∈r,q.nm
 .by_cases h3:3<=dk (cd r) (cd r).length
  .by_cases he: ∀i<(cd r).length,ly ((cd r).getD i PZ) (iF (cd r) i)
   .exact .inl ⟨s,h,h9,h3,he⟩
   .refine .inr ⟨ar, .inr ⟨J,h, .inr ?_⟩⟩
    exact Classical.byContradiction fun k=>he fun i hi=>Classical.byContradiction fun d=>k ⟨i,hi,d⟩
  .exact .inr ⟨ar, .inr ⟨J,h, .inl (by omega)⟩⟩
 .refine .inr ⟨ai, .inl ⟨J,?_⟩⟩
  exact Classical.byContradiction fun k=>h fun q hq=>Classical.byContradiction fun d=>k ⟨q,hq,d⟩
def aAo{ai al ar:Addr}{r:List WP}(s: ∀q∈r,q.sm)(h9:r.length<=9){a:Addr}(h:uv ai ar r a): ∃n:Int,n≠0/\(∀GB,PF GB prog 12 [d5 r] (vI n))/\ ∀GB,im GB ai al ar->PF GB prog 14 [vI n] (lC a):=by
 rcases h with⟨rfl,q,hq,hb⟩|⟨rfl,hn,h⟩
 .obtain⟨j,hj⟩:=List.getElem?_of_mem hq
  exact⟨2,by decide,fun GB=>T8 s (by omega) hj hb,fun GB hE=>U0 hE⟩
 .refine⟨3,by decide,fun GB=>?_,fun GB hE=>S5 hE⟩
  by_cases h3:(fH cD (cd r)).length<3
  .exact Vf s (by omega) J hn h3
  .have h3':3<=dk (cd r) (cd r).length:=(Kq _).1 (by omega)
   obtain⟨j,hj,hd⟩:=h.resolve_left (by omega);exact XW s (by omega) J hn (by omega) hj hd
def JZ{r:List WP}(h:io r){GB:Gh}:PF GB prog 12 [d5 r] (vI 0):=Yp h.sm (by have:=h.n9;omega) J h.nm ((Kq _).2 h.c3) h.ne
def aIQ(m:Int):Int:=257+m.tmod 3
def Ea{m:Int}(h:0<=m/\m<65536):0<=m.tmod 3/\m.tmod 3<3:=by
 rw[Int.tmod_eq_emod_of_nonneg h.1];omega
def HG{b:Nat}{es:List Int}(hes:es.length<=400){md:Nat}(hmd:md<=100){rs:List (List ZP)}{a':Nat}(hr:rs=(ku es md 0).1)(ha:a'=(ku es md 0).2):PM GB prog 10 (iw [none,some (vI md)] b) b 85 [.sl (es.map vI), .v (.int .i64 (0:Nat))] (.sl (rs.map n0)) [.sl (es.map vI), .v (.int .i64 (a':Nat))]:=by
 subst hr ha;exact YQ hes (aN _) (md:=md) hmd
def Yk{ai al ar:Addr}(hE:im GB ai al ar){es0:List Int}(hb:es0.length<=1125899906842624){r:List WP}(hw: ∀q∈r,q.wd){cz:List RL}(hc: ∀q∈cz,q.wd){fill:Int}(hfr: -9223372036854775808<=fill/\fill<=9223372036854775807){many:Int}(hm:0<=many/\many<256){a:Addr}(hB:r.length<=8->r.all (WP.smB 4)=true->uv ai ar r a):PF GB prog 3 [.sl (es0.map vI),d5 r, .ag [.sl (cz.map RL.d)],vI fill, .v (.int .u8 many)] (.v (.bool true)):=by
 obtain⟨es,hee⟩: ∃es,es=es0.take 400:=⟨_,rfl⟩;have hes:es.length<=400:=by rw[hee];simp;omega
 have hlr:(r.map WP.D).length=r.length:=aX ..;have hlc:(cz.map RL.d).length=cz.length:=aX ..;obtain⟨rs,hre⟩: ∃rs,rs=(ku es 2 0).1:=⟨_,rfl⟩;obtain⟨a1,ha1⟩: ∃a,a=(ku es 2 0).2:=⟨_,rfl⟩;obtain⟨hrg,hrn,hal⟩:(∀r∈rs,jt r)/\rs.length<=2/\a1<=es.length:=by rw[hre,ha1];exact HZ (aN _)
 have hr1: ∀r∈rs,dz r:=fun r hr=>(hrg r hr).ok;obtain⟨W,hW⟩: ∃W,W=rs.map pB:=⟨_,rfl⟩;have hWg: ∀q∈W,io q:=fun q hq=>by rw[hW] at hq;obtain⟨z,hz,rfl⟩:=bX.1 hq;exact Hl (hrg z hz)
 have hWl:W.length<=3:=by rw[hW,aX];omega
 obtain⟨X,hX⟩: ∃X,X=W++[r]:=⟨_,rfl⟩;have hXl:X.length<=5:=by rw[hX,aL,jX];omega
 obtain⟨hm1,hm2⟩:=Ea (show 0<=many/\many<65536 by omega);obtain⟨ds,hds⟩: ∃ds:List DV,ds=List.replicate (257+many.tmod 3).toNat (.sl []):=⟨_,rfl⟩;have hdl:256<ds.length/\ds.length<=1000000:=by rw[hds,aW];omega
 refine fn (fu:=⟨11⟩) func3 J J ntmps3 J J (fun C=>?_);refine ah 23 (.d (vI (r.length:Nat))) J (by rw[hlr]<;>rfl)<|gx J<|cs 25 J J J (fun hg25=>?_) (fun hg25=>?_)
 .
  refine cl J ig J<|rz J J
 .
  refine cl J (Ga (n:=4) (ls:=r)) J<|mh (fu2:=⟨3⟩) 30 J J J (fun hg30=>?_) (fun hg30=>?_)
  .
   refine cl J ig J<|rz J J
  .
   refine ah 33 (.d (vI (cz.length:Nat))) J (by rw[hlc]<;>rfl)<|gx J<|cs 36 J J J (fun hg36=>?_) (fun hg36=>?_)
   .
    refine cl J ig J<|rz J J
   .
    refine cl J (D3 (n:=3) (ls:=cz)) J<|bb J J J (fun hc41=>?_) (fun hc41=>?_)
    .
     refine cl J ig J<|rz J J
    .
     have hsm:r.all (WP.smB 4)=true:=tP hg30;have hcs: ∀q∈cz,q.sm:=Hx hc (tP hc41);have h8:r.length<=8:=by omega
     have hB:=hB h8 hsm;have hsr:=NC hw hsm;obtain⟨n,hn0,hCh,hKd⟩:=aAo (al:=al) hsr (by omega) hB;have hXk:X[W.length]? =some r:=by rw[hX,gK (bQ _),nN];rfl
     have hXp: ∀k q,k<W.length->X[k]? =some q->io q:=fun k q hk hq=>by rw[hX,eX hk] at hq;exact hWg q (aV hq)
     refine cn J ((Er hb hee)) (fun _=>J) (fun _=>?_);refine cm J (fun b=>(HG hes (md:=2) (by decide) hre ha1)) J<|cl (fu:=⟨0⟩) J (In (rs:=rs) hr1) J<|ah 46 (.d (.sl (W.map d5))) J (by rw[hW,<-Eh])<|gx J<|uh J J<|ap (W.map d5) J J (vY W) J<|rf J J<|ap (X.map d5) J (by rw[hX,cY]<;>rfl) (vY [r]) J<|?_;obtain⟨s1,hF1⟩:=Z8 (fill:=fill) hE (show X.length<=100 by omega) hXk hXp hsr (by omega) hB;refine fz 53 J J<|cE (fu:=⟨0⟩) J hF1 (fun _=>J)<|?_;intro GB1 u1 hg1 hu1;have hE:=hE.up hg1;refine gx J<|cl (fu:=⟨6⟩) J (hCh _) J<|?_;rcases Classical.em (fill=1) with hf1|hf1
     .
      refine gx (fu:=⟨0⟩) J<|dh (fu:=⟨11⟩) J (by show some (decide _)=some true;rw[decide_eq_true (by omega)]) J<|dh (fu:=⟨3⟩) J (by show some (decide _)=some true;rw[decide_eq_true (by omega)]) J<|cl (fu:=⟨0⟩) J (hKd _ hE) J<|fq (fu:=⟨4⟩) J (nD hu1) J<|b9 (fu:=⟨9⟩) J (by show some (decide _)=some false;rw[decide_eq_false (by omega)]) J<|b9 J (by show some (decide _)=some false;rw[decide_eq_false (by omega)]) J<|?_;rcases hcl:iG cz with _|ls
      .
       refine cl (fu:=⟨11⟩) J (xk hE hcs (by omega) hcl) J<|pn (fu:=⟨0⟩) J (by decide) J<|pz J inferInstance inferInstance (by omega) J<|?_;obtain⟨s9,hFm⟩:=qe (fill:=fill) hE hdl.1 hdl.2;refine mk ds J J hds.symm J<|fz 109 J J<|cE (fu:=⟨0⟩) J hFm (fun _=>J)<|?_;intro GB9 u9 hg9 hu9;have hE:=hE.up hg9;refine gx J<|cl (fu:=⟨3⟩) J (yx hcs (by omega) hcl) J<|jH 118 J<|gx (fu:=⟨6⟩) J<|fq (fu:=⟨4⟩) J ig J<|dh J J J<|gl (fu:=⟨0⟩) J hE.ErrInvalid J<|fq J wh J<|gl (fu:=⟨0⟩) J hE.ErrLimit J<|fq J (nD hu9) J<|rz J J
      .
       refine cl (fu:=⟨11⟩) J (zk hcs (by omega) hcl) J<|pn (fu:=⟨0⟩) J (by decide) J<|pz J inferInstance inferInstance (by omega) J<|?_;obtain⟨s9,hFm⟩:=qe (fill:=fill) hE hdl.1 hdl.2;refine mk ds J J hds.symm J<|fz 109 J J<|cE (fu:=⟨0⟩) J hFm (fun _=>J)<|?_;intro GB9 u9 hg9 hu9;have hE:=hE.up hg9;refine gx J<|cl (fu:=⟨3⟩) J (zw hcs (by omega) hcl) J<|fi 118 J<|gx (fu:=⟨6⟩) J<|fq (fu:=⟨4⟩) J ig J<|dh J J J<|gl (fu:=⟨0⟩) J hE.ErrLimit J<|fq J (nD hu9) J<|rz J J
     .
      refine gx (fu:=⟨0⟩) J<|b9 (fu:=⟨11⟩) J (by show some (decide _)=some false;rw[decide_eq_false (by omega)]) J<|dh (fu:=⟨3⟩) J (by show some (decide _)=some true;rw[decide_eq_true (by omega)]) J<|cl (fu:=⟨0⟩) J (hKd _ hE) J<|fq (fu:=⟨4⟩) J (nD hu1) J<|b9 (fu:=⟨9⟩) J (by show some (decide _)=some false;rw[decide_eq_false (by omega)]) J<|b9 J (by show some (decide _)=some false;rw[decide_eq_false (by omega)]) J<|?_;rcases hcl:iG cz with _|ls
      .
       refine cl (fu:=⟨11⟩) J (xk hE hcs (by omega) hcl) J<|pn (fu:=⟨0⟩) J (by decide) J<|pz J inferInstance inferInstance (by omega) J<|?_;obtain⟨s9,hFm⟩:=qe (fill:=fill) hE hdl.1 hdl.2;refine mk ds J J hds.symm J<|fz 109 J J<|cE (fu:=⟨0⟩) J hFm (fun _=>J)<|?_;intro GB9 u9 hg9 hu9;have hE:=hE.up hg9;refine gx J<|cl (fu:=⟨3⟩) J (yx hcs (by omega) hcl) J<|jH 118 J<|gx (fu:=⟨6⟩) J<|fq (fu:=⟨4⟩) J ig J<|dh J J J<|gl (fu:=⟨0⟩) J hE.ErrInvalid J<|fq J wh J<|gl (fu:=⟨0⟩) J hE.ErrLimit J<|fq J (nD hu9) J<|rz J J
      .
       refine cl (fu:=⟨11⟩) J (zk hcs (by omega) hcl) J<|pn (fu:=⟨0⟩) J (by decide) J<|pz J inferInstance inferInstance (by omega) J<|?_;obtain⟨s9,hFm⟩:=qe (fill:=fill) hE hdl.1 hdl.2;refine mk ds J J hds.symm J<|fz 109 J J<|cE (fu:=⟨0⟩) J hFm (fun _=>J)<|?_;intro GB9 u9 hg9 hu9;have hE:=hE.up hg9;refine gx J<|cl (fu:=⟨3⟩) J (zw hcs (by omega) hcl) J<|fi 118 J<|gx (fu:=⟨6⟩) J<|fq (fu:=⟨4⟩) J ig J<|dh J J J<|gl (fu:=⟨0⟩) J hE.ErrLimit J<|fq J (nD hu9) J<|rz J J
def Rf{ai al ar:Addr}(hE:im GB ai al ar){es0:List Int}(hb:es0.length<=1125899906842624){r:List WP}(hw: ∀q∈r,q.wd){cz:List RL}(hc: ∀q∈cz,q.wd){fill:Int}(hfr: -9223372036854775808<=fill/\fill<=9223372036854775807){many:Int}(hm:0<=many/\many<256)(hfill:fill=1\/fill=2)(hg:r.length<=8->r.all (WP.smB 4)=true->io r):PF GB prog 3 [.sl (es0.map vI),d5 r, .ag [.sl (cz.map RL.d)],vI fill, .v (.int .u8 many)] (.v (.bool true)):=by
 obtain⟨es,hee⟩: ∃es,es=es0.take 400:=⟨_,rfl⟩;have hes:es.length<=400:=by rw[hee];simp;omega
 have hlr:(r.map WP.D).length=r.length:=aX ..;have hlc:(cz.map RL.d).length=cz.length:=aX ..;obtain⟨rs,hre⟩: ∃rs,rs=(ku es 2 0).1:=⟨_,rfl⟩;obtain⟨a1,ha1⟩: ∃a,a=(ku es 2 0).2:=⟨_,rfl⟩;obtain⟨hrg,hrn,hal⟩:(∀r∈rs,jt r)/\rs.length<=2/\a1<=es.length:=by rw[hre,ha1];exact HZ (aN _)
 have hr1: ∀r∈rs,dz r:=fun r hr=>(hrg r hr).ok;obtain⟨W,hW⟩: ∃W,W=rs.map pB:=⟨_,rfl⟩;have hWg: ∀q∈W,io q:=fun q hq=>by rw[hW] at hq;obtain⟨z,hz,rfl⟩:=bX.1 hq;exact Hl (hrg z hz)
 have hWl:W.length<=3:=by rw[hW,aX];omega
 obtain⟨X,hX⟩: ∃X,X=W++[r]:=⟨_,rfl⟩;have hXl:X.length<=5:=by rw[hX,aL,jX];omega
 obtain⟨hm1,hm2⟩:=Ea (show 0<=many/\many<65536 by omega);obtain⟨ds,hds⟩: ∃ds:List DV,ds=List.replicate (257+many.tmod 3).toNat (.sl []):=⟨_,rfl⟩;have hdl:256<ds.length/\ds.length<=1000000:=by rw[hds,aW];omega
 refine fn (fu:=⟨11⟩) func3 J J ntmps3 J J (fun C=>?_);refine ah 23 (.d (vI (r.length:Nat))) J (by rw[hlr]<;>rfl)<|gx J<|cs 25 J J J (fun hg25=>?_) (fun hg25=>?_)
 .
  refine cl J ig J<|rz J J
 .
  refine cl J (Ga (n:=4) (ls:=r)) J<|mh (fu2:=⟨3⟩) 30 J J J (fun hg30=>?_) (fun hg30=>?_)
  .
   refine cl J ig J<|rz J J
  .
   refine ah 33 (.d (vI (cz.length:Nat))) J (by rw[hlc]<;>rfl)<|gx J<|cs 36 J J J (fun hg36=>?_) (fun hg36=>?_)
   .
    refine cl J ig J<|rz J J
   .
    refine cl J (D3 (n:=3) (ls:=cz)) J<|bb J J J (fun hc41=>?_) (fun hc41=>?_)
    .
     refine cl J ig J<|rz J J
    .
     have hsm:r.all (WP.smB 4)=true:=tP hg30;have hcs: ∀q∈cz,q.sm:=Hx hc (tP hc41);have h8:r.length<=8:=by omega
     have hg:=hg h8 hsm;have hXg: ∀q∈X,io q:=fun q hq=>by rw[hX] at hq;rcases bS.1 hq with h|h;exact hWg q h;rw[aY.1 h];exact hg
     refine cn J ((Er hb hee)) (fun _=>J) (fun _=>?_);refine cm J (fun b=>(HG hes (md:=2) (by decide) hre ha1)) J<|cl (fu:=⟨0⟩) J (In (rs:=rs) hr1) J<|ah 46 (.d (.sl (W.map d5))) J (by rw[hW,<-Eh])<|gx J<|uh J J<|ap (W.map d5) J J (vY W) J<|rf J J<|ap (X.map d5) J (by rw[hX,cY]<;>rfl) (vY [r]) J<|fz 53 J J<|cl J (avu hXg hXl hfill) J<|cl (fu:=⟨6⟩) J (JZ hg) J<|?_;rcases hfill with hf1|hf1
     .
      refine gx (fu:=⟨0⟩) J<|dh (fu:=⟨11⟩) J (by show some (decide _)=some true;rw[decide_eq_true (by omega)]) J<|b9 (fu:=⟨9⟩) J (by show some (decide _)=some false;rw[decide_eq_false (by omega)]) J<|dh (fu:=⟨4⟩) J (by show some (decide _)=some true;rw[decide_eq_true (by omega)]) J<|b9 (fu:=⟨4⟩) J J J<|dh J (by show some (decide _)=some true;rw[decide_eq_true (by omega)]) J<|?_;rcases hcl:iG cz with _|ls
      .
       refine cl (fu:=⟨11⟩) J (xk hE hcs (by omega) hcl) J<|pn (fu:=⟨0⟩) J (by decide) J<|pz J inferInstance inferInstance (by omega) J<|?_;obtain⟨s9,hFm⟩:=qe (fill:=fill) hE hdl.1 hdl.2;refine mk ds J J hds.symm J<|fz 109 J J<|cE (fu:=⟨0⟩) J hFm (fun _=>J)<|?_;intro GB9 u9 hg9 hu9;have hE:=hE.up hg9;refine gx J<|cl (fu:=⟨3⟩) J (yx hcs (by omega) hcl) J<|jH 118 J<|gx (fu:=⟨6⟩) J<|fq (fu:=⟨4⟩) J ig J<|dh J J J<|gl (fu:=⟨0⟩) J hE.ErrInvalid J<|fq J wh J<|gl (fu:=⟨0⟩) J hE.ErrLimit J<|fq J (nD hu9) J<|rz J J
      .
       refine cl (fu:=⟨11⟩) J (zk hcs (by omega) hcl) J<|pn (fu:=⟨0⟩) J (by decide) J<|pz J inferInstance inferInstance (by omega) J<|?_;obtain⟨s9,hFm⟩:=qe (fill:=fill) hE hdl.1 hdl.2;refine mk ds J J hds.symm J<|fz 109 J J<|cE (fu:=⟨0⟩) J hFm (fun _=>J)<|?_;intro GB9 u9 hg9 hu9;have hE:=hE.up hg9;refine gx J<|cl (fu:=⟨3⟩) J (zw hcs (by omega) hcl) J<|fi 118 J<|gx (fu:=⟨6⟩) J<|fq (fu:=⟨4⟩) J ig J<|dh J J J<|gl (fu:=⟨0⟩) J hE.ErrLimit J<|fq J (nD hu9) J<|rz J J
     .
      refine gx (fu:=⟨0⟩) J<|b9 (fu:=⟨2⟩) J (by show some (decide _)=some false;rw[decide_eq_false (by omega)]) J<|dh (fu:=⟨8⟩) J (by show some (decide _)=some true;rw[decide_eq_true (by omega)]) J<|b9 (fu:=⟨9⟩) J (by show some (decide _)=some false;rw[decide_eq_false (by omega)]) J<|dh (fu:=⟨4⟩) J (by show some (decide _)=some true;rw[decide_eq_true (by omega)]) J<|b9 (fu:=⟨4⟩) J J J<|dh J (by show some (decide _)=some true;rw[decide_eq_true (by omega)]) J<|?_;rcases hcl:iG cz with _|ls
      .
       refine cl (fu:=⟨11⟩) J (xk hE hcs (by omega) hcl) J<|pn (fu:=⟨0⟩) J (by decide) J<|pz J inferInstance inferInstance (by omega) J<|?_;obtain⟨s9,hFm⟩:=qe (fill:=fill) hE hdl.1 hdl.2;refine mk ds J J hds.symm J<|fz 109 J J<|cE (fu:=⟨0⟩) J hFm (fun _=>J)<|?_;intro GB9 u9 hg9 hu9;have hE:=hE.up hg9;refine gx J<|cl (fu:=⟨3⟩) J (yx hcs (by omega) hcl) J<|jH 118 J<|gx (fu:=⟨6⟩) J<|fq (fu:=⟨4⟩) J ig J<|dh J J J<|gl (fu:=⟨0⟩) J hE.ErrInvalid J<|fq J wh J<|gl (fu:=⟨0⟩) J hE.ErrLimit J<|fq J (nD hu9) J<|rz J J
      .
       refine cl (fu:=⟨11⟩) J (zk hcs (by omega) hcl) J<|pn (fu:=⟨0⟩) J (by decide) J<|pz J inferInstance inferInstance (by omega) J<|?_;obtain⟨s9,hFm⟩:=qe (fill:=fill) hE hdl.1 hdl.2;refine mk ds J J hds.symm J<|fz 109 J J<|cE (fu:=⟨0⟩) J hFm (fun _=>J)<|?_;intro GB9 u9 hg9 hu9;have hE:=hE.up hg9;refine gx J<|cl (fu:=⟨3⟩) J (zw hcs (by omega) hcl) J<|fi 118 J<|gx (fu:=⟨6⟩) J<|fq (fu:=⟨4⟩) J ig J<|dh J J J<|gl (fu:=⟨0⟩) J hE.ErrLimit J<|fq J (nD hu9) J<|rz J J
def Z'{ai al ar:Addr}(hE:im GB ai al ar){es0:List Int}(hb:es0.length<=1125899906842624){r:List WP}(hw: ∀q∈r,q.wd){cz:List RL}(hc: ∀q∈cz,q.wd){fill:Int}(hfr: -9223372036854775808<=fill/\fill<=9223372036854775807){many:Int}(hm:0<=many/\many<256)(hfill: ¬(fill=1\/fill=2))(hg:r.length<=8->r.all (WP.smB 4)=true->io r):PF GB prog 3 [.sl (es0.map vI),d5 r, .ag [.sl (cz.map RL.d)],vI fill, .v (.int .u8 many)] (.v (.bool true)):=by
 obtain⟨es,hee⟩: ∃es,es=es0.take 400:=⟨_,rfl⟩;have hes:es.length<=400:=by rw[hee];simp;omega
 have hlr:(r.map WP.D).length=r.length:=aX ..;have hlc:(cz.map RL.d).length=cz.length:=aX ..;obtain⟨rs,hre⟩: ∃rs,rs=(ku es 2 0).1:=⟨_,rfl⟩;obtain⟨a1,ha1⟩: ∃a,a=(ku es 2 0).2:=⟨_,rfl⟩;obtain⟨hrg,hrn,hal⟩:(∀r∈rs,jt r)/\rs.length<=2/\a1<=es.length:=by rw[hre,ha1];exact HZ (aN _)
 have hr1: ∀r∈rs,dz r:=fun r hr=>(hrg r hr).ok;obtain⟨W,hW⟩: ∃W,W=rs.map pB:=⟨_,rfl⟩;have hWg: ∀q∈W,io q:=fun q hq=>by rw[hW] at hq;obtain⟨z,hz,rfl⟩:=bX.1 hq;exact Hl (hrg z hz)
 have hWl:W.length<=3:=by rw[hW,aX];omega
 obtain⟨X,hX⟩: ∃X,X=W++[r]:=⟨_,rfl⟩;have hXl:X.length<=5:=by rw[hX,aL,jX];omega
 obtain⟨hm1,hm2⟩:=Ea (show 0<=many/\many<65536 by omega);obtain⟨ds,hds⟩: ∃ds:List DV,ds=List.replicate (257+many.tmod 3).toNat (.sl []):=⟨_,rfl⟩;have hdl:256<ds.length/\ds.length<=1000000:=by rw[hds,aW];omega
 refine fn (fu:=⟨11⟩) func3 J J ntmps3 J J (fun C=>?_);refine ah 23 (.d (vI (r.length:Nat))) J (by rw[hlr]<;>rfl)<|gx J<|cs 25 J J J (fun hg25=>?_) (fun hg25=>?_)
 .
  refine cl J ig J<|rz J J
 .
  refine cl J (Ga (n:=4) (ls:=r)) J<|mh (fu2:=⟨3⟩) 30 J J J (fun hg30=>?_) (fun hg30=>?_)
  .
   refine cl J ig J<|rz J J
  .
   refine ah 33 (.d (vI (cz.length:Nat))) J (by rw[hlc]<;>rfl)<|gx J<|cs 36 J J J (fun hg36=>?_) (fun hg36=>?_)
   .
    refine cl J ig J<|rz J J
   .
    refine cl J (D3 (n:=3) (ls:=cz)) J<|bb J J J (fun hc41=>?_) (fun hc41=>?_)
    .
     refine cl J ig J<|rz J J
    .
     have hsm:r.all (WP.smB 4)=true:=tP hg30;have hcs: ∀q∈cz,q.sm:=Hx hc (tP hc41);have h8:r.length<=8:=by omega
     have hg:=hg h8 hsm;have hXg: ∀q∈X,io q:=fun q hq=>by rw[hX] at hq;rcases bS.1 hq with h|h;exact hWg q h;rw[aY.1 h];exact hg
     refine cn J ((Er hb hee)) (fun _=>J) (fun _=>?_);refine cm J (fun b=>(HG hes (md:=2) (by decide) hre ha1)) J<|cl (fu:=⟨0⟩) J (In (rs:=rs) hr1) J<|ah 46 (.d (.sl (W.map d5))) J (by rw[hW,<-Eh])<|gx J<|uh J J<|ap (W.map d5) J J (vY W) J<|rf J J<|ap (X.map d5) J (by rw[hX,cY]<;>rfl) (vY [r]) J<|fz 53 J J<|cl J (YA hE hXg hXl hfill) J<|cl (fu:=⟨6⟩) J (JZ hg) J<|b9 (fu:=⟨2⟩) J (by show some (decide _)=some false;rw[decide_eq_false (by omega)]) J<|b9 (fu:=⟨8⟩) J (by show some (decide _)=some false;rw[decide_eq_false (by omega)]) J<|b9 (fu:=⟨9⟩) J (by show some (decide _)=some false;rw[decide_eq_false (by omega)]) J<|dh (fu:=⟨4⟩) J (by show some (decide _)=some true;rw[decide_eq_true (by omega)]) J<|b9 (fu:=⟨4⟩) J J J<|dh J (by show some (decide _)=some true;rw[decide_eq_true (by omega)]) J<|gl (fu:=⟨0⟩) J hE.ErrInvalid J<|fq J wh J<|?_;rcases hcl:iG cz with _|ls
     .
      refine cl (fu:=⟨11⟩) J (xk hE hcs (by omega) hcl) J<|pn (fu:=⟨0⟩) J (by decide) J<|pz J inferInstance inferInstance (by omega) J<|?_;obtain⟨s9,hFm⟩:=qe (fill:=fill) hE hdl.1 hdl.2;refine mk ds J J hds.symm J<|fz 109 J J<|cE (fu:=⟨0⟩) J hFm (fun _=>J)<|?_;intro GB9 u9 hg9 hu9;have hE:=hE.up hg9;refine gx J<|cl (fu:=⟨3⟩) J (yx hcs (by omega) hcl) J<|jH 118 J<|gx (fu:=⟨6⟩) J<|fq (fu:=⟨4⟩) J ig J<|dh J J J<|gl (fu:=⟨0⟩) J hE.ErrInvalid J<|fq J wh J<|gl (fu:=⟨0⟩) J hE.ErrLimit J<|fq J (nD hu9) J<|rz J J
     .
      refine cl (fu:=⟨11⟩) J (zk hcs (by omega) hcl) J<|pn (fu:=⟨0⟩) J (by decide) J<|pz J inferInstance inferInstance (by omega) J<|?_;obtain⟨s9,hFm⟩:=qe (fill:=fill) hE hdl.1 hdl.2;refine mk ds J J hds.symm J<|fz 109 J J<|cE (fu:=⟨0⟩) J hFm (fun _=>J)<|?_;intro GB9 u9 hg9 hu9;have hE:=hE.up hg9;refine gx J<|cl (fu:=⟨3⟩) J (zw hcs (by omega) hcl) J<|fi 118 J<|gx (fu:=⟨6⟩) J<|fq (fu:=⟨4⟩) J ig J<|dh J J J<|gl (fu:=⟨0⟩) J hE.ErrLimit J<|fq J (nD hu9) J<|rz J J
def V1{ai al ar:Addr}(hE:im GB ai al ar){es0:List Int}(hb:es0.length<=1125899906842624){r:List WP}(hw: ∀q∈r,q.wd){cz:List RL}(hc: ∀q∈cz,q.wd){fill:Int}(hfr: -9223372036854775808<=fill/\fill<=9223372036854775807){many:Int}(hm:0<=many/\many<256):PF GB prog 3 [.sl (es0.map vI),d5 r, .ag [.sl (cz.map RL.d)],vI fill, .v (.int .u8 many)] (.v (.bool true)):=by
 have key:(r.length<=8->r.all (WP.smB 4)=true->io r)\/ ∃a,r.length<=8->r.all (WP.smB 4)=true->uv ai ar r a:=by
  by_cases h:r.length<=8/\r.all (WP.smB 4)=true
  .rcases aBq (ai:=ai) (ar:=ar) (NC hw h.2) (by omega) with hg|⟨a,hB⟩
   .exact .inl fun _ _=>hg
   .exact .inr ⟨a,fun _ _=>hB⟩
  .exact .inl fun h1 h2=>absurd ⟨h1,h2⟩ h
 rcases key with hg|⟨a,hB⟩
 .by_cases hfill:fill=1\/fill=2
  .exact Rf hE hb hw hc hfr hm hfill hg
  .exact Z' hE hb hw hc hfr hm hfill hg
 .exact Yk hE hb hw hc hfr hm hB
end Go.Sx
end
