import Derived.Test.YtmdgdhokaffbkaaGreatDoorMu6
set_option linter.all false
set_option maxRecDepth 100000
section
namespace Go.Sx
open Go Go.Proofs Tryz
variable {GB G G' A:Gh}{C:aE}{n q by_ cap:Nat}{Q0:Exit->Act->World->Prop}{fr fr' fr1 fr2:aC}{own' own1 own2:aG}{cf cf' cf1 cf2:Cf}{vc vc1 vc2:List Prop}{ops:Array Oper}{o:Oper}{K:List Kt}{r:List Oper}{nw:List Nat}{rv d' v v':DV}{i:Int}{k':IntKind}{x y fo:Operand}{ρ:NE}{Φ Ψ:Act->World->Prop}{c:Code}{lk tl:LK}{bk tb:BM}{ov:List av}{a:Act}{w w':World}{P:Program}{args:Array Operand}{tys:Array TypeId}{dst:Option Nat}{ty0 t t' ty':TypeId}{pos:String}{af:Array Edge}{cs' dsi dso pre post:List DV}{csx cs1:List FX}{fb:Func}{m vs:List Value}{p:Prop}{B:Bk}{ι:Type}
section
variable {own:aG}
def cE(fr:aC)(cf:Cf):Option Oper:=match Fe cf with
 |some (ops,o)=>bif uP ops (b7 fr cf) o.guard then some o else none
 |none=>none
def Gb(h:cE fr cf=some o): ∃ops,Fe cf=some (ops,o)/\uP ops (b7 fr cf) o.guard=true:=by
 unfold cE at h;split at h<;>try (cases h;done)
 rename_i ops o' hh
 cases hg:uP ops (b7 fr cf) o'.guard with
 |false=>rw[hg] at h;cases h
 |true=>rw[hg] at h;cases h;exact⟨ops,hh,hg⟩
def us{f:FX}{bl:List (Nat×Option Bk)}(hh:cE fr cf=some o)(h:bP prog GB C n (b7 fr cf) (iH fr own cf) o f bl nw)
  (hgo:cx tt n q fr own cf f bl nw=⟨vc,fr',own',cf'⟩)(hv:ak vc)(k:aA prog GB C n Q0 fr' own' cf'):aA prog GB C n Q0 fr own cf:=by
 obtain⟨ops,h1,h2⟩:=Gb hh;exact uo h1 h2 h hgo hv k
def w7(fr:aC)(cf:Cf):Option (FuncId×List DV):=match cE fr cf with
 |some ⟨_, .call ⟨.value fo,args,_⟩,_,_,_,_⟩=>ua (b7 fr cf) fo args
 |_=>none
def cl[fu:Fu]{f:FuncId}{ds:List DV}(ha:w7 fr cf=some (f,ds))(hF:PF GB prog f ds rv)(hgo:cx tt n fu.n fr own cf (.d rv) [] []=⟨vc,fr',own',cf'⟩)(k:aA prog GB C n Q0 fr' own' cf')
  (hv:autoParam (ak vc) fn._auto_1):aA prog GB C n Q0 fr own cf:=by
 unfold w7 at ha;split at ha<;>try (cases ha;done)
 rename_i hh;exact us hh (Re ha hF) hgo hv k
def PH(fr:aC)(cf:Cf):Option (List DV×Int×Nat):=match cE fr cf with
 |some ⟨_, .indexAddr t x y,_,_,_,_⟩=>match evD (b7 fr cf) x with
  |some (.sl l)=>match bh (b7 fr cf) y with
   |some (.d (.v (.int _ i)))=>match dE tt t with
    |some ⟨.sl _ s _,_,_,_⟩=>some (l,i,s)
    |_=>none
   |_=>none
  |_=>none
 |_=>none
def Mf(n q:Nat)(fr:aC)(own:aG)(cf:Cf)(d:DV)(s:Nat):wx:=bif d.okc&&Nat.beq d.cells.length s then kE d.cells fun cs=>cx tt n q fr own cf (.ep cs) [] [] else oE
def ix[fu:Fu](d:DV){l:List DV}{s:Nat}(h:PH fr cf=some (l,i,s))(he:l[i.toNat]? =some d)(hgo:Mf n fu.n fr own cf d s=⟨vc,fr',own',cf'⟩)(k:aA prog GB C n Q0 fr' own' cf')(h0:0<=i:=by omega)
  (hv:autoParam (ak vc) fn._auto_1):aA prog GB C n Q0 fr own cf:=by
 unfold PH at h;split at h<;>try (cases h;done)
 rename_i hh;split at h<;>try (cases h;done)
 rename_i hx;split at h<;>try (cases h;done)
 rename_i hy;split at h<;>cases h;rename_i hT;have:=ke (eh _ _ hT) J;unfold Mf at hgo
 cases hc:(d.okc&&Nat.beq d.cells.length s) with
 |false=>simp only[hc,cond_false,oE] at hgo;cases hgo;exact absurd hv (fun x=>x)
 |true=>
  simp only[hc,cond_true,sO] at hgo;exact us hh (aD6 hx hy h0 he hc) hgo hv k
structure LbA where
 ds:List DV
 k:Nat
 j:Nat
 ag:Option Nat
def PW(fr:aC)(own:aG)(cf:Cf):Option LbA:=match cE fr cf with
 |some ⟨_, .load t x,_,_,_,_⟩=>match bh (b7 fr cf) x with
  |some (.be nm sz k j)=>match iH fr own cf nm with
   |some (.b _ s ds _)=>bif Nat.beq s sz then(match dE tt t with
    |some i=>match i.ag with
     |some ag=>some ⟨ds,k,j,ag⟩
     |none=>none
    |none=>none) else none
   |_=>none
  |_=>none
 |_=>none
def Oi(n q:Nat)(fr:aC)(own:aG)(cf:Cf)(d:DV)(ag:Option Nat)(j:Nat):wx:=bif d.okc then(match Bl ag d.cells j with
 |some c=>cx tt n q fr own cf (.d c) [] []
 |none=>oE) else oE
def lb[fu:Fu](d:DV){ds:List DV}{k' j:Nat}{ag:Option Nat}(h:PW fr own cf=some ⟨ds,k',j,ag⟩)(he:ds[k']? =some d)(hgo:Oi n fu.n fr own cf d ag j=⟨vc,fr',own',cf'⟩)(k:aA prog GB C n Q0 fr' own' cf')
  (hv:autoParam (ak vc) fn._auto_1):aA prog GB C n Q0 fr own cf:=by
 unfold PW at h;split at h<;>try (cases h;done)
 rename_i hh;split at h<;>try (cases h;done)
 rename_i hx;split at h<;>try (cases h;done)
 rename_i ty s ds' lo hb;rw[cond_eq_ite] at h;split at h<;>try (cases h;done)
 rename_i hs
 cases aL hs
 split at h<;>try (cases h;done)
 rename_i hT;split at h<;>cases h;rename_i ha;unfold Oi at hgo
 cases hc:d.okc with
 |false=>simp only[hc,cond_false,oE] at hgo;cases hgo;exact absurd hv (fun x=>x)
 |true=>
  simp only[hc,cond_true] at hgo
  cases hl:Bl ag d.cells j with
  |none=>simp only[hl,oE] at hgo;cases hgo;exact absurd hv (fun x=>x)
  |some c=>simp only[hl] at hgo;exact us hh (aE5 (eh _ _ hT) ha hx hb he hc hl) hgo hv k
structure Wv where
 nm:Nat
 ty:TypeId
 s:Nat
 ds:List DV
 lo:Bool
 k:Nat
 j:Nat
 ag:Option Nat
 u:DV
def R7(fr:aC)(own:aG)(cf:Cf):Option Wv:=match cE fr cf with
 |some ⟨_, .store t x y,_,_,_,_⟩=>match bh (b7 fr cf) x with
  |some (.be nm sz k j)=>match iH fr own cf nm with
   |some (.b ty s ds lo)=>bif Nat.beq s sz then(match dE tt t with
    |some i=>match i.ag with
     |some ag=>match evD (b7 fr cf) y with
      |some u=>some ⟨nm,ty,s,ds,lo,k,j,ag,u⟩
      |none=>none
     |none=>none
    |none=>none) else none
   |_=>none
  |_=>none
 |_=>none
def sb[fu:Fu](d:DV){nm:Nat}{ty:TypeId}{s:Nat}{ds:List DV}{lo:Bool}{k' j:Nat}{ag:Option Nat}{u:DV}(ds':List DV)(h:R7 fr own cf=some ⟨nm,ty,s,ds,lo,k',j,ag,u⟩)(he:ds[k']? =some d)(hl:Ee ag d j u=some d')(hds:ds.set k' d'=ds')
  (hgo:cx tt n fu.n fr own cf .un [(nm,some (.b ty s ds' lo))] []=⟨vc,fr',own',cf'⟩)(k:aA prog GB C n Q0 fr' own' cf')
  (hv:autoParam (ak vc) fn._auto_1):aA prog GB C n Q0 fr own cf:=by
 unfold R7 at h;split at h<;>try (cases h;done)
 rename_i hh;split at h<;>try (cases h;done)
 rename_i hx;split at h<;>try (cases h;done)
 rename_i hb;rw[cond_eq_ite] at h;split at h<;>try (cases h;done)
 rename_i hs
 cases aL hs
 split at h<;>try (cases h;done)
 rename_i hT;split at h<;>try (cases h;done)
 rename_i ha;split at h<;>cases h;rename_i hy;exact us hh (WF (eh _ _ hT) ha hx hb hy he hl hds) hgo hv k
structure Xi where
 d:Nat
 e:Nat
 s:Nat
 b:Nat
 z:DV
 l:Int
def Dt(fr:aC)(cf:Cf):Option Xi:=match cE fr cf with
 |some ⟨some d, .makeSlice t x y,_,_,_,_⟩=>match bh (b7 fr cf) x with
  |some (.d (.v (.int _ l)))=>match dE tt t with
   |some ⟨.sl e s b,_,_,_⟩=>match dE tt e with
    |some i=>match nA i with
     |some z=>bif Nat.beq z.cells.length s then some ⟨d,e,s,b,z,l⟩ else none
     |none=>none
    |none=>none
   |_=>none
  |_=>none
 |_=>none
def mk[fu:Fu]{d e s b:Nat}{z:DV}{l:Int}(ds:List DV)(h:Dt fr cf=some ⟨d,e,s,b,z,l⟩)(hy:(match cE fr cf with|some ⟨_, .makeSlice _ _ y,_,_,_,_⟩=>bh (b7 fr cf) y|_=>none)=some (.d (.v (.int k' l))))(hds:List.replicate l.toNat z=ds)
  (hgo:cx tt n fu.n fr own cf (.rw d) [(d,some (.b e s ds true))] [d]=⟨vc,fr',own',cf'⟩)(k:aA prog GB C n Q0 fr' own' cf')(h0:0<=l:=by omega)(hb:b*l<=140737488355328:=by omega)(hl:l<=1152921504606846976:=by omega)
  (hv:autoParam (ak vc) fn._auto_1):aA prog GB C n Q0 fr own cf:=by
 unfold Dt at h;split at h<;>try (cases h;done)
 rename_i hh;split at h<;>try (cases h;done)
 rename_i hx;split at h<;>try (cases h;done)
 rename_i hT;split at h<;>try (cases h;done)
 rename_i hi;split at h<;>try (cases h;done)
 rename_i hz;rw[cond_eq_ite] at h;split at h<;>cases h;rename_i hs;rw[hh] at hy;have:=ke (eh _ _ hT) J;exact us hh (aAp (eh _ _ hi) hz hs hx hy h0 hb hl hds) hgo hv k
structure KU where
 d:Nat
 e:Nat
 s:Nat
 ds:List DV
def Cy(fr:aC)(cf:Cf):Option KU:=match cE fr cf with
 |some ⟨some d, .buildSlice t len parts,_,_,_,_⟩=>match dE tt t with
  |some ⟨.sl e s _,_,_,_⟩=>match dE tt e with
   |some i=>match nA i with
    |some z=>match vL (b7 fr cf) 0 parts.toList with
     |some ds=>bif Nat.beq z.cells.length s&&(DJ s ds&&(Nat.beq parts.toList.length len&&(Nat.ble (len*s) 1000&&Nat.blt 0 (len*s)))) then some ⟨d,e,s,ds⟩ else none
     |none=>none
    |none=>none
   |none=>none
  |_=>none
 |_=>none
def Ob{d e s:Nat}{ds:List DV}(h:Cy fr cf=some ⟨d,e,s,ds⟩): ∃o,cE fr cf=some o/\o.dst=some d/\bP prog GB C n (b7 fr cf) (iH fr own cf) o (.rw d) [(d,some (.b e s ds true))] [d]:=by
 unfold Cy at h;split at h<;>try (cases h;done)
 rename_i hh;split at h<;>try (cases h;done)
 rename_i hT;split at h<;>try (cases h;done)
 rename_i hi;split at h<;>try (cases h;done)
 rename_i hz;split at h<;>try (cases h;done)
 rename_i hr;rw[cond_eq_ite] at h;split at h<;>cases h;rename_i hc;simp only[bU] at hc;have:=ke (eh _ _ hT) J;exact⟨_,hh,J,Kk (eh _ _ hi) hz hc.1 hr hc.2.1 hc.2.2.1 hc.2.2.2.1 hc.2.2.2.2⟩
def ro[fu:Fu]{d e s:Nat}{ds:List DV}(h:Cy fr cf=some ⟨d,e,s,ds⟩)(hgo:cx tt n fu.n fr own cf (.rw d) [(d,some (.b e s ds true))] [d]=⟨vc,fr',own',cf'⟩)(k:aA prog GB C n Q0 fr' own' cf')
  (hv:autoParam (ak vc) fn._auto_1):aA prog GB C n Q0 fr own cf:=by
 obtain⟨o,h1,_,h3⟩:=Ob (GB:=GB) (C:=C) (n:=n) (own:=own) h;exact us h1 h3 hgo hv k
def rf[fu:Fu]{d e s:Nat}{ds:List DV}(h:Cy fr cf=some ⟨d,e,s,ds⟩)(hgo:cx tt n fu.n fr own cf (.d (.sl ds)) [(d,none)] [d]=⟨vc,fr',own',cf'⟩)(k:aA prog GB C n Q0 fr' own' cf')
  (hv:autoParam (ak vc) fn._auto_1):aA prog GB C n Q0 fr own cf:=by
 obtain⟨o,h1,h2,h3⟩:=Ob (GB:=GB) (C:=C) (n:=n) (own:=own) h;exact us h1 (h3.frzRow h2) hgo hv k
def Nf(fr:aC)(cf:Cf):Option (Nat×Nat×Nat):=match cE fr cf with
 |some ⟨some d, .buildSlice t 0 ⟨[]⟩,_,_,_,_⟩=>match dE tt t with
  |some ⟨.sl e s _,_,_,_⟩=>some (d,e,s)
  |_=>none
 |_=>none
def qz[fu:Fu]{d e s:Nat}(h:Nf fr cf=some (d,e,s))(hgo:cx tt n fu.n fr own cf (.rw d) [(d,some (.b e s [] true))] [d]=⟨vc,fr',own',cf'⟩)(k:aA prog GB C n Q0 fr' own' cf')
  (hv:autoParam (ak vc) fn._auto_1):aA prog GB C n Q0 fr own cf:=by
 unfold Nf at h;split at h<;>try (cases h;done)
 rename_i hh;split at h<;>cases h;rename_i hT;have:=ke (eh _ _ hT) J;exact us hh aAU hgo hv k
structure Wl where
 d:Nat
 nm:Option Nat
 e:Nat
 s:Nat
 b:Nat
 ds:List DV
 ds2:List DV
def E2(fr:aC)(own:aG)(cf:Cf):Option Wl:=match cE fr cf with
 |some ⟨some d, .call ⟨.builtin .append,⟨[x,y]⟩,⟨[t,t']⟩⟩,_,_,_,_⟩=>match dE tt t with
  |some ⟨.sl e s b,_,_,_⟩=>match dE tt t' with
   |some ⟨.sl _ _ _,_,_,_⟩=>match dE tt e with
    |some i=>match nA i with
     |some z=>bif Nat.beq z.cells.length s&&Nat.blt 0 b then(match pg (b7 fr cf) (iH fr own cf) s y with
      |some ds2=>match bh (b7 fr cf) x with
       |some (.rw nm)=>match iH fr own cf nm with
        |some (.b e' s' ds true)=>bif (Nat.beq e' e&&Nat.beq s' s)&&!Nat.beq nm d then some ⟨d,some nm,e,s,b,ds,ds2⟩ else none
        |_=>none
       |some (.ct ds)=>some ⟨d,none,e,s,b,ds,ds2⟩
       |some .nl=>some ⟨d,none,e,s,b,[],ds2⟩
       |_=>none
      |none=>none) else none
     |none=>none
    |none=>none
   |_=>none
  |_=>none
 |_=>none
def NK(d:Nat)(nm:Option Nat)(B:Bk):List (Nat×Option Bk):=match nm with
 |some nm=>[(nm,none),(d,some B)]
 |none=>[(d,some B)]
def R4{d:Nat}{nm:Option Nat}{e s b:Nat}{ds ds2:List DV}(h:E2 fr own cf=some ⟨d,nm,e,s,b,ds,ds2⟩)(ds':List DV)(hds:ds++ds2=ds')(ho:nm.isNone=true->cA s ds/\0<ds2.length)(ho2:cA s ds2)(hbd:(ds.length+ds2.length)*b<=140737488355328):
  ∃o,cE fr cf=some o/\o.dst=some d/\bP prog GB C n (b7 fr cf) (iH fr own cf) o (.rw d) (NK d nm (.b e s ds' true)) [d]:=by
 unfold E2 at h;split at h<;>try (cases h;done)
 rename_i hh;split at h<;>try (cases h;done)
 rename_i hT;split at h<;>try (cases h;done)
 rename_i hT';split at h<;>try (cases h;done)
 rename_i hi;split at h<;>try (cases h;done)
 rename_i hz;rw[cond_eq_ite] at h;split at h<;>try (cases h;done)
 rename_i hc;simp only[bU] at hc;split at h<;>try (cases h;done)
 rename_i hy;have:=ke (eh _ _ hT) J;have hN:ji prog _:=⟨_,(ke (eh _ _ hT') J).un⟩;refine⟨_,hh,?_⟩;split at h<;>try (cases h;done)
 .rename_i hx
  split at h<;>try (cases h;done)
  rename_i hb;rw[cond_eq_ite] at h;split at h<;>cases h;rename_i hq;simp only[bU,iZ] at hq
  cases aL hq.1.1
  cases aL hq.1.2
  exact⟨J,aCD (eh _ _ hi) hz hc.1 hx hb hy ho2 hc.2 hbd hq.2 hds⟩
 .rename_i hx
  cases h
  obtain⟨h1,h2⟩:=ho rfl;exact⟨J,KY (eh _ _ hi) hz hc.1 (.inl hx) h1 hy ho2 h2 hc.2 hbd hds⟩
 .rename_i hx
  cases h
  obtain⟨h1,h2⟩:=ho rfl;exact⟨J,KY (eh _ _ hi) hz hc.1 (.inr ⟨hx,J⟩) h1 hy ho2 h2 hc.2 hbd hds⟩
def ap[fu:Fu]{d:Nat}{nm:Option Nat}{e s b:Nat}{ds ds2:List DV}(ds':List DV)(h:E2 fr own cf=some ⟨d,nm,e,s,b,ds,ds2⟩)(hds:ds++ds2=ds')(ho2:cA s ds2)(hgo:cx tt n fu.n fr own cf (.rw d) (NK d nm (.b e s ds' true)) [d]=⟨vc,fr',own',cf'⟩)(k:aA prog GB C n Q0 fr' own' cf')
  (ho:nm.isNone=true->cA s ds/\0<ds2.length:=by intro h;first|(cases h;done)|exact⟨Cp rfl,by simp⟩)(hbd:(ds.length+ds2.length)*b<=140737488355328:=by simp;omega)
  (hv:autoParam (ak vc) fn._auto_1):aA prog GB C n Q0 fr own cf:=by
 obtain⟨o,h1,_,h3⟩:=R4 (GB:=GB) (C:=C) (n:=n) h ds' hds ho ho2 hbd;exact us h1 h3 hgo hv k
def Nl(fr:aC)(cf:Cf):Option (List DV×Int×Int×Nat×Bool):=match cE fr cf with
 |some ⟨_, .slice t x lo hi mx,_,_,_,_⟩=>match evD (b7 fr cf) x with
  |some (.sl l)=>match dE tt t with
   |some ⟨.sl _ s _,_,_,_⟩=>match l7 (b7 fr cf) 0 lo,l7 (b7 fr cf) l.length hi with
    |some i,some j=>match mx with
     |none=>some (l,i,j,s,false)
     |some _=>none
    |_,_=>none
   |_=>none
  |_=>none
 |_=>none
def km[fu:Fu]{l:List DV}{j:Int}{s:Nat}(nlo nhi:Nat)(ls:List DV)(h:Nl fr cf=some (l,i,j,s,false))(ei:i=nlo)(ej:j=nhi)(hls:(l.take nhi).drop nlo=ls)(ho:cA s l)(h1:nlo<=nhi)(h2:nhi<=l.length)
  (hgo:cx tt n fu.n fr own cf (.d (.sl ls)) [] []=⟨vc,fr',own',cf'⟩)(k:aA prog GB C n Q0 fr' own' cf')
  (hv:autoParam (ak vc) fn._auto_1):aA prog GB C n Q0 fr own cf:=by
 unfold Nl at h;split at h<;>try (cases h;done)
 rename_i hh;split at h<;>try (cases h;done)
 rename_i hx;split at h<;>try (cases h;done)
 rename_i hT;split at h<;>try (cases h;done)
 rename_i hi hj;split at h<;>cases h;have:=ke (eh _ _ hT) J;subst ei ej hls;exact us hh (TF hx ho hi hj h1 h2) hgo hv k
def Py(fr:aC)(cf:Cf):Option (List DV×Int×Int×Nat):=match cE fr cf with
 |some ⟨_, .slice t x none (some hi) (some mx),_,_,_,_⟩=>match evD (b7 fr cf) x with
  |some (.sl l)=>match dE tt t with
   |some ⟨.sl _ s _,_,_,_⟩=>match l7 (b7 fr cf) 0 (some hi),l7 (b7 fr cf) 0 (some mx) with
    |some i,some j=>some (l,i,j,s)
    |_,_=>none
   |_=>none
  |_=>none
 |_=>none
def s3[fu:Fu]{l:List DV}{j:Int}{s:Nat}(nhi:Nat)(ls:List DV)(h:Py fr cf=some (l,i,j,s))(ei:i=nhi)(ej:j=nhi)(hls:l.take nhi=ls)(ho:cA s l)(h2:nhi<=l.length)
  (hgo:cx tt n fu.n fr own cf (.ct ls) [] []=⟨vc,fr',own',cf'⟩)(k:aA prog GB C n Q0 fr' own' cf')
  (hv:autoParam (ak vc) fn._auto_1):aA prog GB C n Q0 fr own cf:=by
 unfold Py at h;split at h<;>try (cases h;done)
 rename_i hh;split at h<;>try (cases h;done)
 rename_i hx;split at h<;>try (cases h;done)
 rename_i hT;split at h<;>cases h;rename_i hi hj;have:=ke (eh _ _ hT) J;subst ei ej hls;exact us hh (SF hx ho hi hj h2) hgo hv k
def KF(fr:aC)(cf:Cf):Option (Nat×List DV):=match cE fr cf with
 |some ⟨some d, .box _ x,_,_,_,_⟩=>match bh (b7 fr cf) x with
  |some f=>bif f.okc&&yr f d then(match i8 f.cells with
   |some l=>some (d,l)
   |none=>none) else none
  |none=>none
 |_=>none
end
section
variable {own:aG}
def p7(x y:Nat):FX->FX
 | .rw m=>bif Nat.beq m x then .rw y else bif Nat.beq m y then .no else .rw m
 | .ov m o=>bif Nat.beq m x then .ov y o else bif Nat.beq m y then .no else .ov m o
 | .be m s i j=>bif Nat.beq m x then .be y s i j else bif Nat.beq m y then .no else .be m s i j
 | .rs m s i j=>bif Nat.beq m x then .rs y s i j else bif Nat.beq m y then .no else .rs m s i j
 | .bx tp pre m post=>bif Nat.beq m x then .bx tp pre y post else bif Nat.beq m y then .no else .bx tp pre m post
 |f=>f
def qO(x y:Nat):Option Bk->Option Bk
 |some (.o ty cs lo)=>some (.o ty (cs.map (p7 x y)) lo)
 |B=>B
def Cb{α:Type}(g:FX->FX):List FX->(List FX->α)->α
 |[],k=>k []
 |f::t,k=>Cb g t fun t'=>Bx (g f) fun f'=>k (f'::t')
def Mr{α:Type}{g:FX->FX}: ∀{cs:List FX} {k:List FX->α},Cb g cs k=k (cs.map g)
 |[],k=>rfl
 |f::t,k=>by simp only[Cb,CP];rw[Mr];rfl
def Dy{α:Type}(g:FX->FX):aC->(aC->α)->α
 |[],k=>k []
 |(j,f)::t,k=>Dy g t fun t'=>Bx (g f) fun f'=>k ((j,f')::t')
def Im{α:Type}{g:FX->FX}: ∀{fr:aC} {k:aC->α},Dy g fr k=k (fr.map fun e=>(e.1,g e.2))
 |[],k=>rfl
 |(j,f)::t,k=>by simp only[Dy,CP];rw[Im];rfl
def CC{α:Type}(x y:Nat):aG->(aG->α)->α
 |[],k=>k []
 |(j,B)::t,k=>CC x y t fun t'=>bif Nat.beq j y then k ((x,none)::t') else match B with
  |some (.o ty cs lo)=>Cb (p7 x y) cs fun cs'=>bif Nat.beq j x then k ((y,some (.o ty cs' lo))::t') else k ((j,some (.o ty cs' lo))::t')
  |B=>bif Nat.beq j x then k ((y,B)::t') else k ((j,B)::t')
def HE{α:Type}{x y:Nat}: ∀{own:aG} {k:aG->α},CC x y own k=k (own.map fun e=>(bif Nat.beq e.1 y then x else bif Nat.beq e.1 x then y else e.1,bif Nat.beq e.1 y then none else qO x y e.2))
 |[],k=>rfl
 |(j,B)::t,k=>by
  simp only[CC,HE (own:=t),bY]
  cases Nat.beq j y with
  |true=>rfl
  |false=>
   cases B with
   |none=>cases Nat.beq j x<;>rfl
   |some B=>cases B<;>cases Nat.beq j x<;>simp only[cond_false,cond_true,Mr,qO]
def JZ{x y:Nat}(hxy:x≠y): ∀{own:aG} {k:Nat},bj (own.map fun e=>(bif Nat.beq e.1 y then x else bif Nat.beq e.1 x then y else e.1,bif Nat.beq e.1 y then none else qO x y e.2)) k=if k=x then none else if k=y then qO x y (bj own x) else qO x y (bj own k)
 |[],k=>by simp[bj,qO]
 |(j,B)::t,k=>by
  have bq: ∀a b:Nat,Nat.beq a b=decide (a=b):=fun a b=>by
   by_cases h:a=b
   .subst h;simp
   .rw[decide_eq_false h]
    cases hb:Nat.beq a b with
    |false=>rfl
    |true=>exact absurd (aL hb) h
  simp only[bY];rw[jc,JZ hxy (own:=t),jc,jc];by_cases h1:j=y
  .subst h1
   simp only[bq,decide_true,cond_true];by_cases h2:k=x
   .simp[h2]
   .by_cases h3:k=j
    .subst h3;simp[h2,Ne.symm h2,hxy]
    .simp[h2,h3]
  .by_cases h4:j=x
   .subst h4
    simp only[bq,h1,decide_false,cond_false,decide_true,cond_true];by_cases h2:k=y
    .subst h2;simp[Ne.symm h1]
    .by_cases h3:k=j
     .subst h3;simp[h1]
     .simp[h2,h3]
   .simp only[bq,h1,h4,decide_false,cond_false]
    by_cases h2:k=j
    .subst h2;simp[h1,h4]
    .by_cases h3:k=x
     .subst h3;simp[h2]
     .by_cases h5:k=y
      .subst h5;simp[h2,h3,Ne.symm h4]
      .simp[h2,h3,h5]
def JJ{x y:Nat}(hxy:x≠y){f:FX}{v:Value}(h:bO ρ G f v):bO (fun k=>if k=y then ρ x else ρ k) G (p7 x y f) v:=by
 have key: ∀m:Nat,Nat.beq m y=false->(fun k=>if k=y then ρ x else ρ k) m=ρ m:=fun m hm=>if_neg fun e=>by subst e;simp at hm
 cases f with
 |rw m=>
  simp only[p7]
  cases hb:Nat.beq m x with
  |true=>cases aL hb;simp only[cond_true];show v=_;simp;exact h
  |false=>
   cases hb':Nat.beq m y with
   |true=>trivial
   |false=>simp only[cond_false];show v=_;rw[key m hb'];exact h
 |ov m off=>
  simp only[p7]
  cases hb:Nat.beq m x with
  |true=>cases aL hb;simp only[cond_true];obtain⟨b,h1,h2⟩:=h;exact⟨b,by simp;exact h1,h2⟩
  |false=>
   cases hb':Nat.beq m y with
   |true=>trivial
   |false=>simp only[cond_false];obtain⟨b,h1,h2⟩:=h;exact⟨b,by rw[key m hb'];exact h1,h2⟩
 |be m s i j=>
  simp only[p7]
  cases hb:Nat.beq m x with
  |true=>cases aL hb;simp only[cond_true];obtain⟨b,h1,h2⟩:=h;exact⟨b,by simp;exact h1,h2⟩
  |false=>
   cases hb':Nat.beq m y with
   |true=>trivial
   |false=>simp only[cond_false];obtain⟨b,h1,h2⟩:=h;exact⟨b,by rw[key m hb'];exact h1,h2⟩
 |rs m s i j=>
  simp only[p7]
  cases hb:Nat.beq m x with
  |true=>cases aL hb;simp only[cond_true];obtain⟨b,c,h1,h2⟩:=h;exact⟨b,c,by simp;exact h1,h2⟩
  |false=>
   cases hb':Nat.beq m y with
   |true=>trivial
   |false=>simp only[cond_false];obtain⟨b,c,h1,h2⟩:=h;exact⟨b,c,by rw[key m hb'];exact h1,h2⟩
 |bx tp pre m post=>
  simp only[p7]
  cases hb:Nat.beq m x with
  |true=>cases aL hb;simp only[cond_true];obtain⟨m1,m2,e,h1,h2⟩:=h;exact⟨m1,m2,by simpa using e,h1,h2⟩
  |false=>
   cases hb':Nat.beq m y with
   |true=>trivial
   |false=>simp only[cond_false];obtain⟨m1,m2,e,h1,h2⟩:=h;exact⟨m1,m2,by rw[key m hb'];exact e,h1,h2⟩
 |_=>exact h
def GX{x y:Nat}(hxy:x≠y){ρ:NE}{G:Gh}: ∀{cs:List FX} {m:List Value},c6 ρ G cs m->c6 (fun k=>if k=y then ρ x else ρ k) G (cs.map (p7 x y)) m
 |[],m,h=>h
 |f::t,m,⟨v,q,e,h1,h2⟩=>⟨v,q,e,JJ hxy h1,GX hxy h2⟩
def xq(x y:Nat)(fr:aC)(own:aG):Option AH:=bif Nat.beq x y then none else Dy (p7 x y) fr fun fr'=>CC x y own fun own'=>some ⟨fr',own'⟩
def Uj{x y:Nat}{R:AH}(hy:Nat.blt y 2000000=true)(h:xq x y fr own=some R)(hk:SX GB C n (aP R.fr) (bj R.own) Φ):SX GB C n (aP fr) (bj own) Φ:=by
 unfold xq at h;rw[cond_eq_ite] at h;split at h<;>try (cases h;done)
 rename_i hb;have hxy:x≠y:=fun e=>hb (by subst e;simp);rw[Im,HE] at h;cases h;refine⟨fun ρ G ov a w r=>hk.run (fun k=>if k=y then ρ x else ρ k) G ov a w ?_⟩;have inv: ∀m B,bj (own.map fun e=>(bif Nat.beq e.1 y then x else bif Nat.beq e.1 x then y else e.1,bif Nat.beq e.1 y then none else qO x y e.2)) m=some B-> ∃m0 B0,bj own m0=some B0/\qO x y (some B0)=some B/\(m=y/\m0=x\/m≠y/\m≠x/\m0=m):=fun m B e=>by
  rw[JZ hxy] at e;split at e
  .cases e
  .rename_i hm
   split at e
   .cases hl:bj own x with
    |none=>rw[hl] at e;cases e
    |some B0=>rw[hl] at e;exact⟨x,B0,hl,e, .inl ⟨by assumption,J⟩⟩
   .cases hl:bj own m with
    |none=>rw[hl] at e;cases e
    |some B0=>rw[hl] at e;exact⟨m,B0,hl,e, .inr ⟨by assumption,hm,J⟩⟩
 have rho: ∀m m0,(m=y/\m0=x\/m≠y/\m≠x/\m0=m)->(fun k=>if k=y then ρ x else ρ k) m=ρ m0:=fun m m0 h=>by
  rcases h with⟨h1,h2⟩|⟨h1,_,h2⟩
  .subst h1 h2;simp
  .subst h2;exact if_neg h1
 refine⟨r.gb,r.h,r.sz,r.df,fun k f e=>?_,fun m B e=>?_,fun m m' B B' e e' hne=>?_,fun m p h1 h2 e=>by
  have:y<2000000:=by simpa[kS] using hy
  show(if m=y then ρ x else ρ m).a=_;rw[if_neg (by omega)];exact r.fxd m p h1 h2 e⟩
 .rw[DP] at e
  cases hf:aP fr k with
  |none=>rw[hf] at e;cases e
  |some g=>
   rw[hf] at e;cases e;obtain⟨v,h1,h2⟩:=r.fx k g hf;exact⟨v,h1,JJ hxy h2⟩
 .obtain⟨m0,B0,h1,h2,h3⟩:=inv m B e
  obtain⟨os,h4,h5⟩:=r.bx m0 B0 h1;refine⟨os,?_,h5⟩;have hr:=rho m m0 h3
  cases B0 with
  |b=>cases h2;obtain⟨vs,q1,q2,q3,q4⟩:=h4;exact⟨vs,by rw[hr];exact q1,q2,q3,q4⟩
  |c=>cases h2;obtain⟨vs,q1,q2,q3,q4,q5⟩:=h4;exact⟨vs,by rw[hr];exact q1,q2,q3,q4,by rw[hr];exact q5⟩
  |o ty cs lo=>cases h2;obtain⟨b,q,q1,q2,q3⟩:=h4;exact⟨b,q,by rw[hr];exact q1,q2,GX hxy q3⟩
 .obtain⟨m0,B0,h1,_,h3⟩:=inv m B e
  obtain⟨m1,B1,h4,_,h6⟩:=inv m' B' e';have q1:=rho m m0 h3;have q2:=rho m' m1 h6;simp only at q1 q2;rw[q1,q2];refine r.dj m0 m1 B0 B1 h1 h4 fun e=>?_;rcases h3 with⟨h7,h8⟩|⟨h7,h8,h9⟩<;>rcases h6 with⟨g7,g8⟩|⟨g7,g8,g9⟩
  .exact hne (h7.trans g7.symm)
  .exact g8 (by rw[<-g9,<-e,h8])
  .exact h8 (by rw[<-h9,e,g8])
  .exact hne (by rw[<-h9,e,g9])
def fm(x y:Nat){e:Exit}(h:xq x y fr own=some ⟨fr1,own1⟩)(k:aA prog GB C n Q0 fr1 own1 (.ex e K))(hy:Nat.blt y 2000000=true:=by rfl):aA prog GB C n Q0 fr own (.ex e K):=Uj hy h k
def Ym{d nm:Nat}(hnm:Nat.blt nm 2000000=true)(hl:aP fr d=some .nl){ty s:Nat}(hf:jw [nm] none (aP fr) (bj own))(h:SX GB C n (aP ((d, .rw nm)::fr)) (bj (oc own nm (some (.b ty s [] true)))) Φ):SX GB C n (aP fr) (bj own) Φ:=by
 refine⟨fun ρ G ov a w r=>?_⟩;obtain⟨f1,f2⟩:=hf nm aQ;have hset:bj (oc own nm (some (.b ty s [] true)))=upB (bj own) [(nm,some (.b ty s [] true))]:=by funext j;rw[Ae];rfl
 rw[hset] at h;refine h.run (fun k=>if k=nm then⟨none,0,0⟩ else ρ k) G ov a w ⟨r.gb,r.h,r.sz,r.df,fun k f e=>?_,fun m B e=>?_,fun m m' B B' e e' hne=>?_,fun m p h1 h2 e=>by
  have:nm<2000000:=by simpa[kS] using hnm
  show(if m=nm then(⟨none,0,0⟩:SV) else ρ m).a=_;rw[if_neg (by omega)];exact r.fxd m p h1 h2 e⟩
 .rw[jP] at e
  split at e
  .cases e;rename_i hk;subst hk
   obtain⟨v,h1,h2⟩:=r.fx _ _ hl;exact⟨v,h1,by rw[show v=_ from h2];show _=_;simp⟩
  .obtain⟨v,h1,h2⟩:=r.fx k f e
   exact⟨v,h1,h2.ren fun m hm=>th _ fun hc=>f1 k f (by simp) e (by rw[hm,hc])⟩
 .simp only[upB] at e
  by_cases hm:m=nm
  .subst hm;simp only[if_true] at e;cases e
   exact⟨[],⟨[],by simp only[if_true];exact .inl ⟨J,J,J⟩, .nil,by simp,fun _ o ho=>by cases ho⟩,fun o ho=>by cases ho⟩
  .simp only[hm,if_false] at e
   obtain⟨os,h1,h2⟩:=r.bx m B e;exact⟨os,h1.ren (if_neg hm) fun q hq=>th _ fun hc=>f2 m B hm e (by rw[<-hc];exact hq),h2⟩
 .simp only[upB] at e e'
  intro b hb hb';by_cases hm:m=nm
  .simp[hm] at hb
  .by_cases hm':m'=nm
   .simp[hm'] at hb'
   .simp only[hm,hm',if_false] at e e' hb hb'
    exact r.dj m m' B B' e e' hne b hb hb'
def nr(d nm ty s:Nat)(hl:aP fr d=some .nl)(hf:uq [nm] none fr own=true)(ho:vU own nm (some (.b ty s [] true)) id=own1)(k:aA prog GB C n Q0 ((d, .rw nm)::fr) own1 (.code c K))(hnm:Nat.blt nm 2000000=true:=by rfl):aA prog GB C n Q0 fr own (.code c K):=by
 subst ho;exact Ym hnm hl (A5 hf) k
def ku:List (Option DV)->Nat->List DV
 |[],_=>[]
 |some d::t,b=>d::ku t b
 |none::t,b=> .v (.pointer (some ⟨b,0,none⟩))::ku t b
def D5(lk:LK):List Operand->Option (Option Nat×List (Option DV))
 |[]=>some (none,[])
 |x::t=>match bh lk x,D5 lk t with
  |some (.ov nm 0),some (none,l)=>some (some nm,none::l)
  |some f,some (q,l)=>match ju f with
   |some d=>some (q,some d::l)
   |none=>none
  |_,_=>none
def JF(lk:LK)(fo:Operand)(args:Array Operand):Option (FuncId×Nat×List (Option DV)):=match bh lk fo with
 |some (.d (.v (.func (.func f) ⟨[]⟩ ⟨[]⟩)))=>match D5 lk args.toList with
  |some (some nm,l)=>some (f,nm,l)
  |_=>none
 |_=>none
def Hv{lk:LK}{bk:BM}{ρ:NE}{G:Gh}{ov:List av}{a:Act}{w:World}(r:bG GB C n lk bk ρ G ov a w){b:Nat}: ∀{x:List Operand} {q:Option Nat} {l:List (Option DV)},D5 lk x=some (q,l)->(∀nm,q=some nm->(ρ nm).a=some ⟨b,0,none⟩)->
  ∃y,fg (ck a) x=some y/\IsLs G (ku l b) y
 |[],q,l,e,_=>by cases e;exact⟨[],J, .nil⟩
 |x::t,q,l,e,hb=>by
  simp only[D5] at e;split at e
  .rename_i nm l' h1 h2
   cases e
   obtain⟨y,h3,b',h4,rfl⟩:=r.ev h1;have:=hb nm J;rw[h4] at this;cases this;obtain⟨ys,h5,h6⟩:=Hv r (b:=b) h2 (fun nm e=>by cases e);exact⟨_::ys,by simp only[fg,h3,h5], .cons ((aH (G:=G)).2 J) h6⟩
  .rename_i f q' l' _ h1 h2
   cases hd:ju f with
   |none=>rw[hd] at e;cases e
   |some d=>
   rw[hd] at e;cases e;obtain⟨y,h3,h4⟩:=r.ev h1;obtain⟨ys,h5,h6⟩:=Hv r (b:=b) h2 hb;exact⟨y::ys,by simp only[fg,h3,h5], .cons (lE h4 hd) h6⟩
  .cases e
def bG.lend{nm:Nat}{ty:TypeId}{cs:List FX}{lo:Bool}{csd:List DV}(r:bG GB C n lk bk ρ G ov a w)(hb:bk nm=some (.o ty cs lo))(hc:i8 cs=some csd):
  ∃b m rest,(ρ nm).a=some ⟨b,0,none⟩/\IsLs G csd m/\ov.Perm ([⟨b,m,ty,lo⟩]++rest)/\ ∀o∈ov,o.b≠b->o∈rest:=by
 obtain⟨os,⟨b,m,h1,rfl,h2⟩,h3⟩:=r.bx _ _ hb;obtain⟨l1,l2,rfl⟩:=mQ (h3 _ aQ);refine⟨b,m,l1++l2,h1,qn h2 hc,oW,fun o ho hne=>?_⟩;rcases aM.1 ho with ho|ho
 .exact bV _ ho
 .rcases aK.1 ho with rfl|ho
  .exact absurd J hne
  .exact bZ _ ho
def awJ{f:FuncId}{nm:Nat}{l:List (Option DV)}{ty:TypeId}{gd:Option (Nat×Bool)}{cs:List FX}{csd:List DV}{lo:Bool}
  (ha:JF lk fo args=some (f,nm,l))(hb:bk nm=some (.o ty0 cs lo))(hc:i8 cs=some csd)(hF: ∀b,PM GB P f (ku l b) b ty0 csd rv cs')(hx:cs'.map .d=csx):bP P GB C n lk bk ⟨dst, .call ⟨.value fo,args,tys⟩,ty,pos,af,gd⟩ (.d rv) [(nm,some (.o ty0 csx lo))] []:=by
 intro hd tl tb K' s1 s2 hf hk;refine⟨fun ρ G ov a w r Q=>?_⟩;subst hx;have r1:=r.mono s1 s2;unfold JF at ha;split at ha<;>try (cases ha;done)
 rename_i h1;split at ha<;>cases ha;rename_i h2;obtain⟨y,hy,hy'⟩:=r1.ev h1;rw[(aH (G:=G)).1 hy'] at hy;obtain⟨b,m,rest,h3,h4,h5,h6⟩:=r1.lend hb hc;obtain⟨vs,h7,h8⟩:=Hv r1 (b:=b) h2 (fun nm e=>by cases e;exact h3);refine vM (M:=[⟨b,m,ty0,lo⟩]) (rest:=rest) hy h7 h5 (hF b G vs m lo r.gb h8 h4) hd (fun v css G' hG hl hK a' w' rl=>?_) a w Q ⟨r.h,r.sz,cw a,r.df⟩;obtain⟨hr,m',rfl,hm'⟩:=hK;have rl':gm C n (Sx.put (ck a) dst v) (⟨b,m',ty0,lo⟩::rest) G' a' w':=rl;have r2:=r.upB (G':=G') (ov':=⟨b,m',ty0,lo⟩::rest) (w':=w') (B':= .o ty0 (cs'.map .d) lo) (os:=[⟨b,m',ty0,lo⟩]) hG.le rl'.h ⟨b,m',h3,J,ut hm'⟩ (fun o ho=>by rw[aU.1 ho];exact aQ)
  (fun o ho hne=>aJ _ (h6 o ho fun e=>hne (by rw[h3,e]))) ⟨_,s2 _ _ hb⟩
 exact hk.run ρ G' _ a' w' (r2.put (f:= .d rv) hr (jk rl'))
structure YD where
 f:FuncId
 nm:Nat
 l:List (Option DV)
 ty:TypeId
 cs:List DV
 lo:Bool
def Ki(fr:aC)(own:aG)(cf:Cf):Option YD:=match cE fr cf with
 |some ⟨_, .call ⟨.value fo,args,_⟩,_,_,_,_⟩=>match JF (b7 fr cf) fo args with
  |some (f,nm,l)=>match iH fr own cf nm with
   |some (.o ty cs lo)=>match i8 cs with
    |some csd=>some ⟨f,nm,l,ty,csd,lo⟩
    |none=>none
   |_=>none
  |none=>none
 |_=>none
def zl{α:Type}:List DV->(List FX->α)->α
 |[],k=>k []
 |d::t,k=>zl t fun t'=>k (.d d::t')
def Df{α:Type}: ∀{l:List DV} {k:List FX->α},zl l k=k (l.map .d)
 |[],k=>rfl
 |d::t,k=>by simp only[zl];rw[Df];rfl
def cm[fu:Fu]{f:FuncId}{nm:Nat}{l:List (Option DV)}{ty:TypeId}{cs:List DV}{lo:Bool}(ha:Ki fr own cf=some ⟨f,nm,l,ty,cs,lo⟩)(hF: ∀b,PM GB prog f (ku l b) b ty cs rv cs')
  (hgo:(zl cs' fun csx=>cx tt n fu.n fr own cf (.d rv) [(nm,some (.o ty csx lo))] [])=⟨vc,fr',own',cf'⟩)(k:aA prog GB C n Q0 fr' own' cf')
  (hv:autoParam (ak vc) fn._auto_1):aA prog GB C n Q0 fr own cf:=by
 unfold Ki at ha;split at ha<;>try (cases ha;done)
 rename_i hh;split at ha<;>try (cases ha;done)
 rename_i h1;split at ha<;>try (cases ha;done)
 rename_i h2;split at ha<;>cases ha;rename_i h3;rw[Df] at hgo;exact us hh (awJ h1 h2 h3 hF J) hgo hv k
abbrev NM:Nat:=1000000
def wm:Nat->List (Option DV)->aC
 |_,[]=>[]
 |i,some v::t=>(i, .d v)::wm (i+1) t
 |i,none::t=>(i, .ov NM 0)::wm (i+1) t
def If(b:Nat): ∀l:List (Option DV),(ku l b).length=l.length
 |[]=>rfl
 |some d::t=>by simp[ku,If b t]
 |none::t=>by simp[ku,If b t]
def JD{b:Nat}{ρ:NE}{G:Gh}(hρ:(ρ NM).a=some ⟨b,0,none⟩): ∀{ds:List (Option DV)} {vs:List Value} (i:Nat),IsLs G (ku ds b) vs-> ∀k f,aP (wm i ds) k=some f-> ∃y,(∃j,k=i+j/\vs[j]? =some y)/\bO ρ G f y
 |[],vs,i,h,k,f,e=>by cases e
 |some d::t,vs,i,h,k,f,e=>by
  obtain⟨y,m,rfl,h1,h2⟩:=bi.1 h;simp only[wm] at e;rw[jP] at e;split at e
  .cases e;rename_i hk;exact⟨y,⟨0,hk,rfl⟩,h1⟩
  .obtain⟨u,⟨j,hj,hu⟩,h3⟩:=JD hρ (i+1) h2 k f e
   exact⟨u,⟨j+1,by omega,by simpa using hu⟩,h3⟩
 |none::t,vs,i,h,k,f,e=>by
  obtain⟨y,m,rfl,h1,h2⟩:=bi.1 h;simp only[wm] at e;rw[jP] at e;split at e
  .cases e;rename_i hk;exact⟨y,⟨0,hk,rfl⟩,b,hρ,(aH (G:=G)).1 h1⟩
  .obtain⟨u,⟨j,hj,hu⟩,h3⟩:=JD hρ (i+1) h2 k f e
   exact⟨u,⟨j+1,by omega,by simpa using hu⟩,h3⟩
def Ju(C:aE)(b:Nat)(m:List Value)(ty:TypeId)(lo:Bool)(rv:DV)(cs':List DV):Ending->World->Prop:=AY C [⟨b,m,ty,lo⟩] (fun v css G'=>Is G' rv v/\ ∃m',css=[m']/\IsLs G' cs' m')
def yg[fu:Fu]{b:Nat}{f:FuncId}{k:Nat}{l:List (Option DV)}{cs:List DV}{ty:TypeId}(hf:prog.funcs[f]? =some fb)(hb:fb.body=some c)(hn:(fb.name== "runtime.NumGoroutine")=false)(hm:fb.ntmps=k)(hlen:Nat.ble l.length k=true)
  (hgo:(zl cs fun csx=>go tt k fu.n [] (wm 0 l) [(NM,some (.o ty csx false))] (.code c []))=⟨vc,fr,own,cf⟩)(h: ∀C b m lo,C.mb=[b]->aA prog GB C k (eH C prog fb (Ju C b m ty lo rv cs')) fr own cf)
  (hv:autoParam (ak vc) fn._auto_1):PM GB prog f (ku l b) b ty cs rv cs':=by
 intro G vs m lo hg hvs hm';refine jI.introR hf hb hn hm (by rw[hvs.len,If];exact hlen) fun C _ hmb hrd hfx=>?_;intro a w rl;refine uN hrd ?_;rw[Df] at hgo;have h1:=fB (GB:=GB) (C:=C) (Q0:=eH C prog fb (Ju C b m ty lo rv cs')) hgo hv (h C b m lo (by simpa using hmb));refine h1.run (fun _=>⟨some ⟨b,0,none⟩,0,0⟩) G [⟨b,m,ty,false⟩] a w ⟨hg,rl.h,rl.sz,rl.df,fun k f e=>?_,fun nm B e=>?_,fun nm nm' B B' e e' hne=>?_,fun nm p _ _ e=>by rw[hfx] at e;cases e⟩
 .obtain⟨y,⟨j,hj,hy⟩,h2⟩:=JD (ρ:=fun _=>⟨some ⟨b,0,none⟩,0,0⟩) (b:=b) rfl 0 hvs k f e
  refine⟨y,rl.fr k y ?_,h2⟩;rw[hj];exact vR vs 0 j y hy
 .rw[jc] at e
  split at e
  .cases e;exact⟨[⟨b,m,ty,false⟩],⟨b,m,J,J,ut hm'⟩,fun o ho=>ho⟩
  .cases e
 .rw[jc] at e e'
  split at e<;>split at e'
  .rename_i h2 h3;exact absurd (h2.trans h3.symm) hne
  .cases e'
  .cases e
  .cases e
def Ot(own:aG)(nm:Nat):Option (TypeId×List DV):=match bj own nm with
 |some (.o ty cs false)=>match i8 cs with
  |some l=>some (ty,l)
  |none=>none
 |_=>none
def m5{b:Nat}{ty:TypeId}{lo:Bool}{ds cs1:List DV}(hmb:C.mb=[b])(hr:rj tt fr own fb.results.toList=some ds)(ho:Ot own NM=some (ty,cs1))(hd:eO ds=rv)(hc:cs1=cs'):
  aA prog GB C n (eH C prog fb (Ju C b m ty lo rv cs')) fr own (.ex .ret []):=by
 refine⟨fun ρ G ov a w r=>?_⟩;obtain⟨vs,h1,h2⟩:=Dd r hr;have hk:Is G rv (nv vs):=hd▸Cz h2;unfold Ot at ho;split at ho<;>try (cases ho;done)
 rename_i hb;split at ho<;>cases ho;rename_i hl;obtain⟨b',m',rest,h3,h4,h5,h6⟩:=r.lend hb hl;have hbb:b'=b:=by
  have:=(r.h.hown _ (h5.mem_iff.2 (bV _ aQ))).2.2.2 J;rw[hmb] at this;simpa using this
 subst hbb hc;exact rO (C:=C) (n:=n) (fr:=ck a) (own:=ov) (G:=G) (M:=[⟨b',m,ty,lo⟩]) (css:=[m']) (K:=fun v css G'=>Is G' rv v/\ ∃m',css=[m']/\IsLs G' cs1 m') h1 J ([⟨b',m',ty,false⟩]++rest) h5 (oQ _ _) ⟨hk,m',J,h4⟩ a w ⟨r.h,r.sz,cw a,r.df⟩
end
section
variable {own:aG}
def csd[fu1:Fu][fu2:Fu](d:Nat){hp:Decidable p}(hl:aP fr d=some (.d (.v (.bool (@decide p hp)))))(g1:go tt n fu1.n [] ((d, .tt)::fr) own (.ops ops r K)=⟨vc1,fr1,own1,cf1⟩)(g2:go tt n fu2.n [] ((d, .ff)::fr) own (.ops ops r K)=⟨vc2,fr2,own2,cf2⟩)
  (k1:p->aA prog GB C n Q0 fr1 own1 cf1)(k2: ¬p->aA prog GB C n Q0 fr2 own2 cf2)
  (v1:p->ak vc1:=by intro;first|exact trivial|(simp only[ak];omega)|(simp only[ak,aX,aN,aS];omega))(v2: ¬p->ak vc2:=by intro;first|exact trivial|(simp only[ak];omega)|(simp only[ak,aX,aN,aS];omega)):aA prog GB C n Q0 fr own (.ops ops r K):=
 iq (fu1:=fu1) (fu2:=fu2) d hl g1 g2 (fun h=>k1 (of_decide_eq_true h)) (fun h=>k2 (of_decide_eq_false h)) (fun h=>v1 (of_decide_eq_true h)) (fun h=>v2 (of_decide_eq_false h))
def Bp(d:Nat)(hl:aP fr d=some .nl)(h:aA prog GB C n Q0 ((d, .d (.sl []))::fr) own (.code c K)):aA prog GB C n Q0 fr own (.code c K):=
 oG (g:= .d (.sl [])) hl (fun ρ G y hy=>(show Is G (.sl []) y from lE (ρ:=ρ) (f:= .nl) hy J)) h
def bP.to{f g:FX}(h:bP prog GB C n lk bk o f [] [])(e: ∀ρ G y,bO ρ G f y->bO ρ G g y):bP prog GB C n lk bk o g [] []:=fun hd tl tb Q h1 h2 hf hk=>
 h hd tl tb Q h1 h2 hf ⟨fun ρ G ov a w r=>hk.run ρ G ov a w ⟨r.gb,r.h,r.sz,r.df,fun k f' e'=>by
  cases ho:o.dst with
  |none=>exact r.fx k f' (by simpa only[ho,dG] using e')
  |some d=>
   have hr:=r.fx;simp only[ho,dG] at e' hr;by_cases q:k=d
   .rw[if_pos q] at e';cases e'
    obtain⟨y,h3,h4⟩:=hr k f (by rw[if_pos q]);exact⟨y,h3,e _ _ _ h4⟩
   .rw[if_neg q] at e'
    exact hr k f' (by rw[if_neg q];exact e'),r.bx,r.dj,r.fxd⟩⟩
def zf(fr:aC)(own:aG)(cf:Cf):Option (Oper×FX):=match cE fr cf with
 |some o=>match y4 tt (b7 fr cf) (iH fr own cf) o.dst o.op with
  |some ⟨none,f,[],[]⟩=>some (o,f)
  |_=>none
 |none=>none
def i7[fu1:Fu][fu2:Fu]{f:FX}{hp:Decidable p}(hs:zf fr own cf=some (o,f))(hb:tc f=some (@decide p hp))(g1:cx tt n fu1.n fr own cf .tt [] []=⟨vc1,fr1,own1,cf1⟩)(g2:cx tt n fu2.n fr own cf .ff [] []=⟨vc2,fr2,own2,cf2⟩)
  (k1:p->aA prog GB C n Q0 fr1 own1 cf1)(k2: ¬p->aA prog GB C n Q0 fr2 own2 cf2)
  (v1:p->ak vc1:=by intro;first|exact trivial|(simp only[ak];kernel_rfl)|(simp only[ak];omega)|(simp only[ak,aX,aN,aS];omega))(v2: ¬p->ak vc2:=by intro;first|exact trivial|(simp only[ak];kernel_rfl)|(simp only[ak];omega)|(simp only[ak,aX,aN,aS];omega)):aA prog GB C n Q0 fr own cf:=by
 unfold zf at hs;split at hs<;>try (cases hs;done)
 rename_i o' hh;split at hs<;>cases hs;rename_i hc;obtain⟨dst,op,ty,pos,af,gd⟩:=o;have h0:=ya (P:=prog) (GB:=GB) (C:=C) (n:=n) (ty':=ty) (pos:=pos) (af:=af) (gd:=gd) eh hc (fun p e=>by cases e);by_cases h:p
 .exact us hh (bP.to h0 fun ρ G y hy=>by rw[vS hy hb,decide_eq_true h];exact J) g1 (v1 h) (k1 h)
 .exact us hh (bP.to h0 fun ρ G y hy=>by rw[vS hy hb,decide_eq_false h];exact J) g2 (v2 h) (k2 h)
def ZZ{d:Nat}{f:FX}
  (hz: ∀lk bk ρ G ov a w,bG GB C n lk bk ρ G ov a w->bk d=some B-> ∃G' ov',bH G G'/\bE C ov' G' w/\(∀o∈ov,(ρ d).a≠some ⟨o.b,0,none⟩->o∈ov')/\ ∀y,bO ρ G f y->Is G' v y)(hk:SX GB C n (dG tl (some d) (.d v)) (Sx.upB tb [(d,none)]) Ψ):SX GB C n (dG tl (some d) f) (Sx.upB tb [(d,some B)]) Ψ:=by
 refine⟨fun ρ G ov a w r=>?_⟩;have hbd:Sx.upB tb [(d,some B)] d=some B:=by simp[Sx.upB]
 obtain⟨G',ov',h1,h2,h3,h4⟩:=hz _ _ ρ G ov a w r hbd;refine hk.run ρ G' ov' a w ⟨r.gb.trans h1,h2,r.sz,r.df,fun k g e=>?_,fun m B' e=>?_,fun m m' B1 B2 e e'=>?_,r.fxd⟩
 .by_cases hk:k=d
  .subst hk
   simp only[dG,if_true] at e;cases e;obtain⟨y,g1,g2⟩:=r.fx k f (by simp[dG]);exact⟨y,g1,h4 y g2⟩
  .simp only[dG,hk,if_false] at e
   obtain⟨y,g1,g2⟩:=r.fx k g (by simp[dG,hk,e]);exact⟨y,g1,g2.up h1⟩
 .simp only[Sx.upB] at e
  split at e
  .cases e
  .rename_i hm
   have e':Sx.upB tb [(d,some B)] m=some B':=by simp[Sx.upB,hm,e]
   obtain⟨os,g1,g2⟩:=r.bx m B' e';exact⟨os,g1.up h1,fun o ho=>h3 o (g2 o ho) fun hc=>r.dj m d B' B e' hbd hm _ (g1.blk ho) hc⟩
 .simp only[Sx.upB] at e e'
  split at e
  .cases e
  .rename_i hm
   split at e'
   .cases e'
   .rename_i hm'
    exact r.dj m m' B1 B2 (by simp[Sx.upB,hm,e]) (by simp[Sx.upB,hm',e'])
def bP.frz2{d nm:Nat}{f:FX}(hd:o.dst=some d)(h:bP prog GB C n lk bk o f [(nm,none),(d,some B)] [d])
  (hz: ∀lk bk ρ G ov a w,bG GB C n lk bk ρ G ov a w->bk d=some B-> ∃G' ov',bH G G'/\bE C ov' G' w/\(∀o∈ov,(ρ d).a≠some ⟨o.b,0,none⟩->o∈ov')/\ ∀y,bO ρ G f y->Is G' v y):bP prog GB C n lk bk o (.d v) [(nm,none),(d,none)] [d]:=by
 intro hd' tl tb K s1 s2 hf hk;refine h hd' tl tb K s1 s2 hf ?_;rw[hd] at hk⊢;exact ZZ (tb:=Sx.upB tb [(nm,none)]) hz hk
def Xw(d:Nat)(nm:Option Nat):List (Nat×Option Bk):=match nm with
 |some nm=>[(nm,none),(d,none)]
 |none=>[(d,none)]
def kI[fu:Fu]{d:Nat}{nm:Option Nat}{e s b:Nat}{ds ds2:List DV}(ds':List DV)(h:E2 fr own cf=some ⟨d,nm,e,s,b,ds,ds2⟩)(hds:ds++ds2=ds')(ho2:cA s ds2)(hgo:cx tt n fu.n fr own cf (.d (.sl ds')) (Xw d nm) [d]=⟨vc,fr',own',cf'⟩)(k:aA prog GB C n Q0 fr' own' cf')
  (ho:nm.isNone=true->cA s ds/\0<ds2.length:=by intro h;first|(cases h;done)|exact⟨Cp rfl,by simp⟩)(hbd:(ds.length+ds2.length)*b<=140737488355328:=by simp;omega)
  (hv:autoParam (ak vc) fn._auto_1):aA prog GB C n Q0 fr own cf:=by
 obtain⟨o,h1,h2,h3⟩:=R4 (GB:=GB) (C:=C) (n:=n) h ds' hds ho ho2 hbd
 cases nm with
 |none=>exact us h1 (h3.frzRow h2) hgo hv k
 |some nm=>exact us h1 (bP.frz2 h2 h3 fun _ _ _ _ _ _ _ r hb=>r.frzRow hb) hgo hv k
def dm[fu:Fu]{f:FX}(hs:zf fr own cf=some (o,f))(hb:tc f=some true)(hgo:cx tt n fu.n fr own cf .tt [] []=⟨vc,fr',own',cf'⟩)(k:aA prog GB C n Q0 fr' own' cf')
  (hv:autoParam (ak vc) fn._auto_1):aA prog GB C n Q0 fr own cf:=by
 unfold zf at hs;split at hs<;>try (cases hs;done)
 rename_i o' hh;split at hs<;>cases hs;rename_i hc;obtain⟨dst,op,ty,pos,af,gd⟩:=o;have h0:=ya (P:=prog) (GB:=GB) (C:=C) (n:=n) (ty':=ty) (pos:=pos) (af:=af) (gd:=gd) eh hc (fun p e=>by cases e);exact us hh (bP.to h0 fun ρ G y hy=>by rw[vS hy hb];exact J) hgo hv k
def cF[fu:Fu]{f:FX}(hs:zf fr own cf=some (o,f))(hb:tc f=some false)(hgo:cx tt n fu.n fr own cf .ff [] []=⟨vc,fr',own',cf'⟩)(k:aA prog GB C n Q0 fr' own' cf')
  (hv:autoParam (ak vc) fn._auto_1):aA prog GB C n Q0 fr own cf:=by
 unfold zf at hs;split at hs<;>try (cases hs;done)
 rename_i o' hh;split at hs<;>cases hs;rename_i hc;obtain⟨dst,op,ty,pos,af,gd⟩:=o;have h0:=ya (P:=prog) (GB:=GB) (C:=C) (n:=n) (ty':=ty) (pos:=pos) (af:=af) (gd:=gd) eh hc (fun p e=>by cases e);exact us hh (bP.to h0 fun ρ G y hy=>by rw[vS hy hb];exact J) hgo hv k
def Dw(nm:Nat){ty:TypeId}{cs:List FX}{lo:Bool}{ds:List DV}{e:Exit}(hb:bj own nm=some (.o ty cs lo))(hc:i8 cs=some ds)(ho:(nm,some (.o ty (ds.map .d) lo))::own=own1)(k:aA prog GB C n Q0 fr own1 (.ex e K)):aA prog GB C n Q0 fr own (.ex e K):=by
 subst ho;have old: ∀m B,bj ((nm,some (.o ty (ds.map .d) lo))::own) m=some B-> ∃B0,bj own m=some B0:=fun m B e=>by
  rw[jc] at e;split at e
  .rename_i h;subst h;exact⟨_,hb⟩
  .exact⟨_,e⟩
 refine⟨fun ρ G ov a w r=>k.run ρ G ov a w ⟨r.gb,r.h,r.sz,r.df,r.fx,fun m B e=>?_,fun m m' B B' e e'=>?_,r.fxd⟩⟩
 .rw[jc] at e
  split at e
  .rename_i h;subst h;cases e
   obtain⟨os,⟨b,m,h1,rfl,h2⟩,h3⟩:=r.bx _ _ hb;exact⟨_,⟨b,m,h1,J,ut (qn h2 hc)⟩,h3⟩
  .exact r.bx _ _ e
 .obtain⟨B0,h0⟩:=old _ _ e
  obtain⟨B1,h1⟩:=old _ _ e';exact r.dj m m' B0 B1 h0 h1
end
section
variable {own:aG}
def Qp(GB:Gh)(C:aE)(n:Nat)(lk:LK)(bk:BM)(o:Oper)(ι:Type)(f:ι->FX)(bl:ι->List (Nat×Option Bk))(nw:List Nat):Prop:=
 b8 n o.dst=true-> ∀(tl:LK) (tb:BM) (K:Act->World->Prop),jD lk tl->jD bk tb->jw nw o.dst tl tb->(∀x,SX GB C n (dG tl o.dst (f x)) (Sx.upB tb (bl x)) K)->SX GB C n tl tb (fun a w=> ∀Q,o.wp prog a w K Q)
def Hx(n q:Nat)(fr:aC)(own:aG)(cf:Cf)(f:FX)(bl:List (Nat×Option Bk)):wx:=match cf with
 | .ops ops (o::r) K=>rm own bl fun own'=>xg fr o.dst f fun fr'=>go tt n q [] fr' own' (.ops ops r K)
 |_=>oE
def Gr(n:Nat)(fr:aC)(own:aG)(cf:Cf)(nw:List Nat):Bool:=match cf with
 | .ops ops (o::_) _=>uq nw o.dst fr own&&b8 n o.dst&&uP ops (aP fr) o.guard
 |_=>false
def usF{f:ι->FX}{bl:ι->List (Nat×Option Bk)}{vc:ι->List Prop}{fr':ι->aC}{own':ι->aG}{cf':ι->Cf}(hh:cE fr cf=some o)(ho:Gr n fr own cf nw=true)(h:Qp GB C n (b7 fr cf) (iH fr own cf) o ι f bl nw)
  (hgo: ∀x,Hx n q fr own cf (f x) (bl x)=⟨vc x,fr' x,own' x,cf' x⟩)(hv: ∀x,ak (vc x))(k: ∀x,aA prog GB C n Q0 (fr' x) (own' x) (cf' x)):aA prog GB C n Q0 fr own cf:=by
 obtain⟨ops,h1,h2⟩:=Gb hh
 cases cf with
 |ops ops' r K=>
  cases r with
  |nil=>cases h1
  |cons o' r=>
   cases h1
   simp only[Gr,bU] at ho;refine⟨fun ρ G ov a w rl=>?_⟩;show wpListIn _ _ _ _ _ (o::r) a w;unfold wpListIn;rw[if_pos (EV ho.2 ρ G ov a w rl)];refine HX ((h ho.1.2 _ _ (fun a w=>a.defers=C.mks/\wpListIn (FW C.rd) 0 prog ops (cQ C.rd prog Q0 K) r a w) (jD.refl _) (jD.refl _) (A5 ho.1.1) (fun x=>?_)).run ρ G ov a w rl) fun a' w' k=>⟨k.1.trans rl.df.symm,k.2⟩;refine⟨fun ρ G ov a w r0=>⟨r0.df,SX.run (GB:=GB) (C:=C) (n:=n) ?_ ρ G ov a w r0⟩⟩;have hx:=hgo x;unfold Hx at hx;simp only[vO,A'] at hx;have:=fB (GB:=GB) (C:=C) (Q0:=Q0) hx (hv x) (k x);show SX GB C n (dG (aP fr) o.dst (f x)) (Sx.upB (bj own) (bl x)) _;rw[<-Gd,<-EU];exact this
 |_=>cases ho
def Uo{f:FuncId}{d:Nat}{ds:List DV}{ty:TypeId}{gd:Option (Nat×Bool)}{cs':ι->List DV}
  (ha:ua lk fo args=some (f,ds))(hF:PN GB prog f ds ty0 ι cs'):Qp GB C n lk bk ⟨some d, .call ⟨.value fo,args,tys⟩,ty,pos,af,gd⟩ ι (fun _=> .ov d 0) (fun x=>[(d,some (.o ty0 ((cs' x).map .d) true))]) [d]:=by
 intro hd tl tb K' s1 s2 hf hk;refine⟨fun ρ G ov a w r Q=>?_⟩;have r1:=r.mono s1 s2;obtain⟨h1,h2⟩:=Dv ha;obtain⟨y,hy,hy'⟩:=r1.ev h1;rw[(aH (G:=G)).1 hy'] at hy;obtain⟨vs,h3,h4⟩:=r1.evDs h2;refine vj (M:=[]) (rest:=ov) hy h3 (List.Perm.refl _) (hF G vs r.gb h4) hd (fun v own1 G' hG hK a' w' rl=>?_) a w Q ⟨r.h,r.sz,cw a,r.df⟩;obtain⟨x,b,m,rfl,rfl,hm⟩:=hK;have rl':gm C n (Sx.put (ck a) (some d) (.pointer (some ⟨b,0,none⟩))) (⟨b,m,ty0,true⟩::ov) G' a' w':=by simpa[relo,gr] using rl
 have hnd:=(bS.1 rl'.h.nd).1;exact(hk x).run _ G' _ a' w' (r.new (x:=⟨some ⟨b,0,none⟩,0,0⟩) (B':= .o ty0 ((cs' x).map .d) true) (os:=[⟨b,m,ty0,true⟩]) hf hG.le rl'.h ⟨b,m,by simp,J,ut hm⟩ (fun o ho=>by rw[aU.1 ho];exact aQ)
  (fun o ho=>aJ _ ho) (fun o ho e=>by cases e;exact hnd o ho J) (f:= .ov d 0) (y:= .pointer (some ⟨b,0,none⟩)) ⟨b,by simp,J⟩ (jk rl'))
def RT(fr:aC)(cf:Cf):Option (FuncId×List DV×Nat):=match cE fr cf with
 |some ⟨some d, .call ⟨.value fo,args,_⟩,_,_,_,_⟩=>match ua (b7 fr cf) fo args with
  |some (f,ds)=>some (f,ds,d)
  |none=>none
 |_=>none
def cn[fu:Fu]{f:FuncId}{d:Nat}{ds:List DV}{ty:TypeId}{cs':ι->List DV}{vc:ι->List Prop}{fr':ι->aC}{own':ι->aG}{cf':ι->Cf}(ha:RT fr cf=some (f,ds,d))(hF:PN GB prog f ds ty ι cs')
  (hgo: ∀x,(zl (cs' x) fun csx=>Hx n fu.n fr own cf (.ov d 0) [(d,some (.o ty csx true))])=⟨vc x,fr' x,own' x,cf' x⟩)(k: ∀x,aA prog GB C n Q0 (fr' x) (own' x) (cf' x))(ho:Gr n fr own cf [d]=true:=by rfl)
  (hv: ∀x,ak (vc x):=by intro;first|exact trivial|(simp only[ak];kernel_rfl)|(simp only[ak];omega)|(simp only[ak,aX,aN,aS];omega)):aA prog GB C n Q0 fr own cf:=by
 unfold RT at ha;split at ha<;>try (cases ha;done)
 rename_i hh;split at ha<;>cases ha;rename_i h1;simp only[Df] at hgo;exact usF hh ho (Uo h1 hF) hgo hv k
end
section
variable {own:aG}
end
section
variable {own:aG}
def IX(C:aE)(ty:TypeId)(ι:Type)(cs:ι->List DV):Ending->World->Prop:=qa C (fun v own' G'=> ∃x b m,v= .pointer (some ⟨b,0,none⟩)/\own'=[⟨b,m,ty,true⟩]/\IsLs G' (cs x) m)
def VG[fu:Fu]{f:FuncId}{m:Nat}{ds:List DV}{ty:TypeId}{cs:ι->List DV}(hf:prog.funcs[f]? =some fb)(hb:fb.body=some c)(hn:(fb.name== "runtime.NumGoroutine")=false)(hm:fb.ntmps=m)(hlen:Nat.ble ds.length m=true)
  (hgo:go tt m fu.n [] (qb 0 ds) [] (.code c [])=⟨vc,fr,own,cf⟩)(k: ∀C:aE,C.mb=[]->aA prog GB C m (eH C prog fb (IX C ty ι cs)) fr own cf)
  (hv:autoParam (ak vc) fn._auto_1):PN GB prog f ds ty ι cs:=by
 intro G vs hg hvs;refine gG.introR hf hb hn hm (by rw[hvs.len];exact hlen) fun C _ hmb hrd hfx=>?_;intro a w rl;refine uN hrd ?_;have h:=fB (GB:=GB) (C:=C) (Q0:=eH C prog fb (IX C ty ι cs)) hgo hv (k C (by simpa using hmb));exact h.run (fun _=>⟨none,0,0⟩) G [] a w ⟨hg,rl.h,rl.sz,rl.df,(fun k f e=>xb hvs rl.fr k f e),(fun nm B e=>by cases e),(fun nm nm' B B' e=>by cases e),fun nm p _ _ e=>by rw[hfx] at e;cases e⟩
def UB{t d:Nat}{ty:TypeId}{cs:ι->List DV}{l:List DV}(x:ι)(hr:fb.results.toList=[.tmp t])(hl:aP fr t=some (.ov d 0))(hw:bj own d=some (.o ty cs1 true))(hc:i8 cs1=some l)(hd:l=cs x):
  aA prog GB C n (eH C prog fb (IX C ty ι cs)) fr own (.ex .ret []):=by
 refine⟨fun ρ G ov a w r=>?_⟩;subst hd;obtain⟨b,m,rest,h3,h4,h5,h6⟩:=r.lend hw hc;obtain⟨y,hy,b',hb',hy'⟩:=r.ev (x:= .tmp t) (f:= .ov d 0) hl;rw[h3] at hb';cases hb';subst hy';exact Vk (C:=C) (n:=n) (fr:=ck a) (own:=ov) (G:=G) (vs:=[.pointer (some ⟨b,0,none⟩)]) (by rw[hr];exact .tmp hy .nil) (⟨b,m,ty,true⟩::rest) [⟨b,m,ty,true⟩] (by simpa using h5) (.cons_cons _ (jK _)) (fun _=>⟨x,b,m,J,J,h4⟩) a w ⟨r.h,r.sz,cw a,r.df⟩
def Cd[fu:Fu]{d:Nat}{l:List DV}(h:KF fr cf=some (d,l))(hgo:cx tt n fu.n fr own cf (.d (.pt l)) [(d,none)] [d]=⟨vc,fr',own',cf'⟩)(k:aA prog GB C n Q0 fr' own' cf')
  (hv:autoParam (ak vc) fn._auto_1):aA prog GB C n Q0 fr own cf:=by
 unfold KF at h;split at h<;>try (cases h;done)
 rename_i hh;split at h<;>try (cases h;done)
 rename_i g hx;rw[cond_eq_ite] at h;split at h<;>try (cases h;done)
 rename_i hc;simp only[bU] at hc;split at h<;>cases h;rename_i hl;exact us hh (V0 hx hc.1 hc.2 hl) hgo hv k
end
section
variable {own:aG}
def fi:List (Option DV)->SV->List DV
 |[],_=>[]
 |some d::t,w=>d::fi t w
 |none::t,w=> .v (.slice w.a w.n w.c)::fi t w
def C5(lk:LK):List Operand->Option (Option Nat×List (Option DV))
 |[]=>some (none,[])
 |x::t=>match bh lk x,C5 lk t with
  |some (.rw nm),some (none,l)=>some (some nm,none::l)
  |some f,some (q,l)=>match ju f with
   |some d=>some (q,some d::l)
   |none=>none
  |_,_=>none
def Ah(lk:LK)(fo:Operand)(args:Array Operand):Option (FuncId×Nat×List (Option DV)):=match bh lk fo with
 |some (.d (.v (.func (.func f) ⟨[]⟩ ⟨[]⟩)))=>match C5 lk args.toList with
  |some (some nm,l)=>some (f,nm,l)
  |_=>none
 |_=>none
def Eb{lk:LK}{bk:BM}{ρ:NE}{G:Gh}{ov:List av}{a:Act}{w:World}(r:bG GB C n lk bk ρ G ov a w){z:SV}: ∀{x:List Operand} {q:Option Nat} {l:List (Option DV)},C5 lk x=some (q,l)->(∀nm,q=some nm->ρ nm=z)->
  ∃y,fg (ck a) x=some y/\IsLs G (fi l z) y
 |[],q,l,e,_=>by cases e;exact⟨[],J, .nil⟩
 |x::t,q,l,e,hb=>by
  simp only[C5] at e;split at e
  .rename_i nm l' h1 h2
   cases e
   obtain⟨y,h3,h4⟩:=r.ev h1
   cases (show y=_ from h4)
   obtain⟨ys,h5,h6⟩:=Eb r (z:=z) h2 (fun nm e=>by cases e);have hz:=hb nm J;subst hz;exact⟨Value.slice (ρ nm).a (ρ nm).n (ρ nm).c::ys,by simp only[fg,h3,h5], .cons ((aH (G:=G)).2 J) h6⟩
  .rename_i f q' l' _ h1 h2
   cases hd:ju f with
   |none=>rw[hd] at e;cases e
   |some d=>
   rw[hd] at e;cases e;obtain⟨y,h3,h4⟩:=r.ev h1;obtain⟨ys,h5,h6⟩:=Eb r (z:=z) h2 hb;exact⟨y::ys,by simp only[fg,h3,h5], .cons (lE h4 hd) h6⟩
  .cases e
def Z0{f:FuncId}{nm d:Nat}{l:List (Option DV)}{s:Nat}{ty:TypeId}{gd:Option (Nat×Bool)}{lo:Bool}(hne:Nat.beq nm d=false)
  (ha:Ah lk fo args=some (f,nm,l))(hb:bk nm=some (.b ty0 s dsi lo))(hF:PB GB prog f (fi l) s ty0 dsi (fun w=> .tp (pre++ .v (.slice w.a w.n w.c)::post)) dso):bP prog GB C n lk bk ⟨some d, .call ⟨.value fo,args,tys⟩,ty,pos,af,gd⟩ (.bx true pre d post) [(nm,none),(d,some (.b ty0 s dso lo))] [d]:=by
 intro hd tl tb K' s1 s2 hf hk;refine⟨fun ρ G ov a w r Q=>?_⟩;have r1:=r.mono s1 s2;unfold Ah at ha;split at ha<;>try (cases ha;done)
 rename_i h1;split at ha<;>cases ha;rename_i h2;obtain⟨y,hy,hy'⟩:=r1.ev h1;rw[(aH (G:=G)).1 hy'] at hy;obtain⟨B,g1,g2⟩:=r1.bx _ _ hb;have hB:du G ⟨ρ nm,s,ty0,dsi,lo⟩ B:=g1;obtain⟨vs,h7,h8⟩:=Eb r1 (z:=ρ nm) h2 (fun nm e=>by cases e;rfl);have hp: ∃rest,ov.Perm (B++rest)/\ ∀o∈ov,(∀o'∈B,o.b≠o'.b)->o∈rest:=by
  rcases hB with⟨vs',⟨_,_,e⟩|⟨b0,r0,lo0,_,e,_⟩,_⟩
  .rw[e];exact⟨ov,List.Perm.refl _,fun o ho _=>ho⟩
  .rw[e] at g2⊢
   obtain⟨l1,l2,e2⟩:=mQ (g2 _ aQ);rw[e2];refine⟨l1++l2,oW,fun o ho hno=>?_⟩;rcases aM.1 ho with ho|ho
   .exact bV _ ho
   .rcases aK.1 ho with rfl|ho
    .exact absurd J (hno _ aQ)
    .exact bZ _ ho
 obtain⟨rest,h5,h6⟩:=hp;refine vj (M:=B) (rest:=rest) hy h7 h5 (hF G (ρ nm) vs B r.gb hB.weak h8) hd (fun v own1 G' hG hK a' w' rl=>?_) a w Q ⟨r.h,r.sz,cw a,r.df⟩;obtain⟨z,hr,vs',k1,k2,k3,k4⟩:=hK;have k1':=k1.relo (gr B);have e2:lo=true-> ∀o∈own1.map (relo (gr B)),o.lo=true:=fun hl o ho=>by
  obtain⟨o',_,rfl⟩:=aR.1 ho;obtain⟨_,_,_,_,hlo⟩:=hB;exact BT _ (hlo hl)
 generalize own1.map (relo (gr B))=B' at rl e2 k1';have rl':gm C n (Sx.put (ck a) (some d) v) (B'++rest) G' a' w':=rl;have hdis:=(gW.1 rl'.h.nd).2.2;have r2:=r.dropB nm;have hnn:nm≠d:=fun e=>by subst e;rw[nS] at hne;cases hne
 have hf2:jw [d] (some d) tl (Sx.upB tb [(nm,none)]):=fun q hq=>by
  obtain⟨f1,f2⟩:=hf q hq;refine⟨f1,fun k B e1 e=>?_⟩;simp only[Sx.upB] at e;split at e
  .cases e
  .exact f2 k B e1 e
 have hsep: ∀q B0,Sx.upB tb [(nm,none)] q=some B0-> ∀o∈ov,(ρ q).a=some ⟨o.b,0,none⟩->o∈rest:=fun q B0 e o ho hbq=>by
  simp only[Sx.upB] at e;split at e
  .cases e
  .rename_i hqn
   refine h6 o ho fun o' ho' he=>?_;exact r.dj nm q _ _ (s2 _ _ hb) e (Ne.symm hqn) o'.b (g1.blk ho') (by rw[hbq,he])
 obtain⟨m,rfl,hm⟩:=lj.1 hr;obtain⟨m1,m2',rfl,c1,c2⟩: ∃m1 m2',m=m1++m2'/\IsLs G' pre m1/\IsLs G' (.v (.slice z.a z.n z.c)::post) m2':=IsLs.unapp hm;obtain⟨u,m2,rfl,c3,c4⟩:=bi.1 c2;rw[aH.1 c3] at rl';have r3:=r2.new' (x:=z) (B':= .b ty0 s dso lo) (os:=B') (ov':=B'++rest) (f:= .bx true pre d post) (y:= .tuple ⟨m1++Value.slice z.a z.n z.c::m2⟩) hf2 hG.le rl'.h ⟨vs',by simpa using k1',k2,k3,e2⟩ (fun o ho=>bV _ ho)
  (fun q B0 hq e o ho hbq=>⟨bZ _ (hsep q B0 e o ho hbq),fun hc=>by
   have hx: ∃o1∈B',o1.b=o.b:=by
    rcases k1' with⟨_,h,_⟩|⟨b0,rest0,lo0,h,hB,_⟩
    .rw[show z=_ from h] at hc;cases hc
    .rw[show z=_ from h] at hc;cases hc;exact⟨⟨_,aD vs'++rest0,_,lo0⟩,by rw[hB];exact aQ,J⟩
   obtain⟨o1,ho1,he1⟩:=hx;exact hdis o1 ho1 o (hsep q B0 e o ho hbq) he1⟩) ⟨m1,m2,by simp,c1,c4⟩ (jk rl')
 exact hk.run _ G' _ a' w' r3
structure CbA where
 f:FuncId
 nm:Nat
 l:List (Option DV)
 ty:TypeId
 s:Nat
 ds:List DV
 lo:Bool
 d:Nat
def B8(fr:aC)(own:aG)(cf:Cf):Option CbA:=match cE fr cf with
 |some ⟨some d, .call ⟨.value fo,args,_⟩,_,_,_,_⟩=>match Ah (b7 fr cf) fo args with
  |some (f,nm,l)=>match iH fr own cf nm with
   |some (.b ty s ds lo)=>bif Nat.beq nm d then none else some ⟨f,nm,l,ty,s,ds,lo,d⟩
   |_=>none
  |none=>none
 |_=>none
def cb[fu:Fu]{f:FuncId}{nm d:Nat}{l:List (Option DV)}{ty:TypeId}{s:Nat}{lo:Bool}(dso':List DV)(ha:B8 fr own cf=some ⟨f,nm,l,ty,s,dsi,lo,d⟩)(hF:PB GB prog f (fi l) s ty dsi (fun w=> .tp (pre++ .v (.slice w.a w.n w.c)::post)) dso)(he:dso=dso')
  (hgo:cx tt n fu.n fr own cf (.bx true pre d post) [(nm,none),(d,some (.b ty s dso' lo))] [d]=⟨vc,fr',own',cf'⟩)(k:aA prog GB C n Q0 fr' own' cf')
  (hv:autoParam (ak vc) fn._auto_1):aA prog GB C n Q0 fr own cf:=by
 subst he;unfold B8 at ha;split at ha<;>try (cases ha;done)
 rename_i hh;split at ha<;>try (cases ha;done)
 rename_i h1;split at ha<;>try (cases ha;done)
 rename_i h2;rw[cond_eq_ite] at ha;split at ha<;>cases ha;rename_i h3;exact us hh (Z0 (by cases hq:Nat.beq nm d with|false=>rfl|true=>exact absurd hq h3) h1 h2 hF) hgo hv k
def vK:Nat->List (Option DV)->aC
 |_,[]=>[]
 |i,some v::t=>(i, .d v)::vK (i+1) t
 |i,none::t=>(i, .rw NM)::vK (i+1) t
def EH(w:SV): ∀l:List (Option DV),(fi l w).length=l.length
 |[]=>rfl
 |some d::t=>by simp[fi,EH w t]
 |none::t=>by simp[fi,EH w t]
def CL{w:SV}{ρ:NE}{G:Gh}(hρ:ρ NM=w): ∀{ds:List (Option DV)} {vs:List Value} (i:Nat),IsLs G (fi ds w) vs-> ∀k f,aP (vK i ds) k=some f-> ∃y,(∃j,k=i+j/\vs[j]? =some y)/\bO ρ G f y
 |[],vs,i,h,k,f,e=>by cases e
 |some d::t,vs,i,h,k,f,e=>by
  obtain⟨y,m,rfl,h1,h2⟩:=bi.1 h;simp only[vK] at e;rw[jP] at e;split at e
  .cases e;rename_i hk;exact⟨y,⟨0,hk,rfl⟩,h1⟩
  .obtain⟨u,⟨j,hj,hu⟩,h3⟩:=CL hρ (i+1) h2 k f e
   exact⟨u,⟨j+1,by omega,by simpa using hu⟩,h3⟩
 |none::t,vs,i,h,k,f,e=>by
  obtain⟨y,m,rfl,h1,h2⟩:=bi.1 h;simp only[vK] at e;rw[jP] at e;split at e
  .cases e;rename_i hk;exact⟨y,⟨0,hk,rfl⟩,by show y=_;rw[hρ];exact aH.1 h1⟩
  .obtain⟨u,⟨j,hj,hu⟩,h3⟩:=CL hρ (i+1) h2 k f e
   exact⟨u,⟨j+1,by omega,by simpa using hu⟩,h3⟩
def IP(C:aE)(s:Nat)(ty:TypeId)(pre post dso:List DV):Ending->World->Prop:=qa C (fun v own' G'=> ∃w',Is G' (.tp (pre++ .v (.slice w'.a w'.n w'.c)::post)) v/\du G' ⟨w',s,ty,dso,false⟩ own')
def Fp[fu:Fu]{f:FuncId}{k s:Nat}{l:List (Option DV)}{ty:TypeId}(hf:prog.funcs[f]? =some fb)(hb:fb.body=some c)(hn:(fb.name== "runtime.NumGoroutine")=false)(hm:fb.ntmps=k)(hlen:Nat.ble l.length k=true)
  (hgo:go tt k fu.n [] (vK 0 l) [(NM,some (.b ty s dsi false))] (.code c [])=⟨vc,fr,own,cf⟩)(h: ∀C,aA prog GB C k (eH C prog fb (IP C s ty pre post dso)) fr own cf)
  (hv:autoParam (ak vc) fn._auto_1):PB GB prog f (fi l) s ty dsi (fun w=> .tp (pre++ .v (.slice w.a w.n w.c)::post)) dso:=by
 intro G w vs B hg hB hvs;refine gG.introR hf hb hn hm (by rw[hvs.len,EH];exact hlen) fun C _ hmb hrd hfx=>?_;intro a wd rl;refine uN hrd ?_;have h1:=fB (GB:=GB) (C:=C) (Q0:=eH C prog fb (IP C s ty pre post dso)) hgo hv (h C);refine h1.run (fun _=>w) G (Sx.asB B) a wd ⟨hg,rl.h,rl.sz,rl.df,fun k f e=>?_,fun nm B' e=>?_,fun nm nm' B' B2 e e' hne=>?_,fun nm p _ _ e=>by rw[hfx] at e;cases e⟩
 .obtain⟨y,⟨j,hj,hy⟩,h2⟩:=CL (ρ:=fun _=>w) (w:=w) rfl 0 hvs k f e
  refine⟨y,rl.fr k y ?_,h2⟩;rw[hj];exact vR vs 0 j y hy
 .rw[jc] at e
  split at e
  .cases e;exact⟨Sx.asB B,hB.asB,fun o ho=>ho⟩
  .cases e
 .rw[jc] at e e'
  split at e<;>split at e'
  .rename_i h2 h3;exact absurd (h2.trans h3.symm) hne
  .cases e'
  .cases e
  .cases e
def JN{B:List av}{w:SV}{s:Nat}{ty:TypeId}{ds:List DV}{lo:Bool}(h:du G ⟨w,s,ty,ds,lo⟩ B)(g: ∀o∈B,o∈ov): ∃rest,ov.Perm (B++rest):=by
 rcases h with⟨vs',⟨_,_,e⟩|⟨b0,r0,lo0,_,e,_⟩,_⟩
 .rw[e];exact⟨ov,List.Perm.refl _⟩
 .rw[e] at g⊢
  obtain⟨l1,l2,e2⟩:=mQ (g _ aQ);rw[e2];exact⟨l1++l2,oW⟩
def Fo{t u d s:Nat}{ty:TypeId}{ds:List DV}{f:FX}(hr:fb.results.toList=[.tmp t, .tmp u])(hl:aP fr t=some (.rw d))(hu:aP fr u=some f)(hd:ju f=some v)(hw:bj own d=some (.b ty s ds false))(ed:ds=dso)(ev:v=v'):
  aA prog GB C n (eH C prog fb (IP C s ty [] [v'] dso)) fr own (.ex .ret []):=by
 subst ed ev;refine⟨fun ρ G ov a w r=>?_⟩;obtain⟨B,g1,g2⟩:=r.bx _ _ hw;have hB:du G ⟨ρ d,s,ty,ds,false⟩ B:=g1;obtain⟨rest,hp⟩:=JN hB g2;obtain⟨y,hy,hy'⟩:=r.ev (x:= .tmp t) (f:= .rw d) hl
 cases (show y=_ from hy')
 obtain⟨z,hz,hz'⟩:=r.ev (x:= .tmp u) (f:=f) hu;exact vE (C:=C) (n:=n) (fr:=ck a) (own:=ov) (G:=G) (vs:=[.slice (ρ d).a (ρ d).n (ρ d).c,z]) (by rw[hr];exact .tmp hy (.tmp hz .nil)) (B++rest) B hp (oQ _ _)
  ⟨ρ d,lj.2 ⟨_,J, .cons (aH.2 J) (.cons (lE hz' hd) .nil)⟩,hB⟩ a w ⟨r.h,r.sz,cw a,r.df⟩
def DD(lk:LK):List Operand->Option (List (Option DV))
 |[]=>some []
 |x::t=>match bh lk x,DD lk t with
  |some .nl,some l=>some (none::l)
  |some f,some l=>match ju f with
   |some d=>some (some d::l)
   |none=>none
  |_,_=>none
def Iz(lk:LK)(fo:Operand)(args:Array Operand):Option (FuncId×List (Option DV)):=match bh lk fo with
 |some (.d (.v (.func (.func f) ⟨[]⟩ ⟨[]⟩)))=>match DD lk args.toList with
  |some l=>some (f,l)
  |_=>none
 |_=>none
def HF{lk:LK}{bk:BM}{ρ:NE}{G:Gh}{ov:List av}{a:Act}{w:World}(r:bG GB C n lk bk ρ G ov a w): ∀{x:List Operand} {l:List (Option DV)},DD lk x=some l-> ∃y,fg (ck a) x=some y/\IsLs G (fi l ⟨none,0,0⟩) y
 |[],l,e=>by cases e;exact⟨[],J, .nil⟩
 |x::t,l,e=>by
  simp only[DD] at e;split at e
  .rename_i l' h1 h2
   cases e
   obtain⟨y,h3,h4⟩:=r.ev h1
   cases (show y=_ from h4)
   obtain⟨ys,h5,h6⟩:=HF r h2;exact⟨Value.slice none 0 0::ys,by simp only[fg,h3,h5], .cons ((aH (G:=G)).2 J) h6⟩
  .rename_i f l' _ h1 h2
   cases hd:ju f with
   |none=>rw[hd] at e;cases e
   |some d=>
   rw[hd] at e;cases e;obtain⟨y,h3,h4⟩:=r.ev h1;obtain⟨ys,h5,h6⟩:=HF r h2;exact⟨y::ys,by simp only[fg,h3,h5], .cons (lE h4 hd) h6⟩
  .cases e
def ZY{f:FuncId}{d:Nat}{l:List (Option DV)}{s:Nat}{ty:TypeId}{gd:Option (Nat×Bool)}
  (ha:Iz lk fo args=some (f,l))(hF:PB GB prog f (fi l) s ty0 [] (fun w=> .tp (pre++ .v (.slice w.a w.n w.c)::post)) dso):bP prog GB C n lk bk ⟨some d, .call ⟨.value fo,args,tys⟩,ty,pos,af,gd⟩ (.bx true pre d post) [(d,some (.b ty0 s dso true))] [d]:=by
 intro hd tl tb K' s1 s2 hf hk;refine⟨fun ρ G ov a w r Q=>?_⟩;have r1:=r.mono s1 s2;unfold Iz at ha;split at ha<;>try (cases ha;done)
 rename_i h1;split at ha<;>cases ha;rename_i h2;obtain⟨y,hy,hy'⟩:=r1.ev h1;rw[(aH (G:=G)).1 hy'] at hy;obtain⟨vs,h7,h8⟩:=HF r1 h2;refine vj (M:=[]) (rest:=ov) hy h7 (List.Perm.refl _) (hF G ⟨none,0,0⟩ vs [] r.gb ⟨[], .nil _ _, .nil,by simp,fun h=>by cases h⟩ h8) hd (fun v own1 G' hG hK a' w' rl=>?_) a w Q ⟨r.h,r.sz,cw a,r.df⟩;obtain⟨z,hr,vs',k1,k2,k3,k4⟩:=hK;have k1':=k1.relo (gr []);have e2: ∀o∈own1.map (relo (gr [])),o.lo=true:=fun o ho=>by
  obtain⟨o',_,rfl⟩:=aR.1 ho;rfl
 generalize own1.map (relo (gr []))=B' at rl e2 k1';have rl':gm C n (Sx.put (ck a) (some d) v) (B'++ov) G' a' w':=rl;have hdis:=(gW.1 rl'.h.nd).2.2;obtain⟨m,rfl,hm⟩:=lj.1 hr;obtain⟨m1,m2',rfl,c1,c2⟩: ∃m1 m2',m=m1++m2'/\IsLs G' pre m1/\IsLs G' (.v (.slice z.a z.n z.c)::post) m2':=IsLs.unapp hm;obtain⟨u,m2,rfl,c3,c4⟩:=bi.1 c2;rw[aH.1 c3] at rl';have r3:=r.new (x:=z) (B':= .b ty0 s dso true) (os:=B') (ov':=B'++ov) (f:= .bx true pre d post) (y:= .tuple ⟨m1++Value.slice z.a z.n z.c::m2⟩) hf hG.le rl'.h ⟨vs',by simpa using k1',k2,k3,fun _=>e2⟩ (fun o ho=>bV _ ho) (fun o ho=>bZ _ ho)
  (fun o ho hc=>by
   have hx: ∃o1∈B',o1.b=o.b:=by
    rcases k1' with⟨_,h,_⟩|⟨b0,rest0,lo0,h,hB,_⟩
    .rw[show z=_ from h] at hc;cases hc
    .rw[show z=_ from h] at hc;cases hc;exact⟨⟨_,aD vs'++rest0,_,lo0⟩,by rw[hB];exact aQ,J⟩
   obtain⟨o1,ho1,he1⟩:=hx;exact hdis o1 ho1 o ho he1) ⟨m1,m2,by simp,c1,c4⟩ (jk rl')
 exact hk.run _ G' _ a' w' r3
def NT(fr:aC)(cf:Cf):Option (FuncId×List (Option DV)×Nat):=match cE fr cf with
 |some ⟨some d, .call ⟨.value fo,args,_⟩,_,_,_,_⟩=>match Iz (b7 fr cf) fo args with
  |some (f,l)=>some (f,l,d)
  |none=>none
 |_=>none
def XY[fu:Fu]{f:FuncId}{d:Nat}{l:List (Option DV)}{ty:TypeId}{s:Nat}(dso':List DV)(ha:NT fr cf=some (f,l,d))(hF:PB GB prog f (fi l) s ty [] (fun w=> .tp (pre++ .v (.slice w.a w.n w.c)::post)) dso)(he:dso=dso')
  (hgo:cx tt n fu.n fr own cf (.bx true pre d post) [(d,some (.b ty s dso' true))] [d]=⟨vc,fr',own',cf'⟩)(k:aA prog GB C n Q0 fr' own' cf')
  (hv:autoParam (ak vc) fn._auto_1):aA prog GB C n Q0 fr own cf:=by
 subst he;unfold NT at ha;split at ha<;>try (cases ha;done)
 rename_i hh;split at ha<;>cases ha;rename_i h1;exact us hh (ZY h1 hF) hgo hv k
end
section
variable {fr:Fr}{own own':List av}
variable {gd:Option (Nat×Bool)}{e s:Nat}
def X1[hT:cj P t e s by_]{z:Value}[hz:gc P e z]{k k':IntKind}{l:Int}(hx:aB fr x=some (.int k 0))(hy:aB fr y=some (.int k' l))(h0:0<=l)(hb:by_*l<=2^47)(hl:l<=2^60)(hs:(aF z).length=s)(hd:b8 n dst=true)
  (h: ∀b,St C n (put fr dst (.slice (some ⟨b,0,none⟩) 0 l.toNat)) (⟨b,dl z l.toNat,e,true⟩::own) G Φ):
  Ch P C n fr own G ⟨dst, .makeSlice t x y,ty',pos,af,gd⟩ Φ:=by
 intro a w Q rl;have h1:(Instr.makeSlice t (a.eval x) (a.eval y)).run P w= .ok (.slice (some ⟨w.heap.size,0,none⟩) 0 l.toNat) (w.alloc (.cells ⟨dl z l.toNat⟩ e)):=by
  obtain⟨i,hi,hib⟩:=Od (P:=P) (t:=t) (e:=e) (s:=s) (by_:=by_) w;rw[bw rl.fr hx,bw rl.fr hy];unfold Instr.makeSlice;rw[aO (hT.u w)];simp only[asInt,asIntOf];rw[aO (a:=0) (w':=w) J,aO (a:=l) (w':=w) J,aO hi,hib];have hw:IntKind.i64.wrap l=l:=rp (by simp[IntKind.min,IntKind.max,IntKind.signed,IntKind.bits];omega);have hw0:IntKind.i64.wrap 0=0:=J;simp only[hw,hw0];have c1: ¬((by_:Int)*l>2^48):=by
   have:(2:Int)^47<=2^48:=by decide
   omega
  have c5:decide ((by_:Int)*l>2^48)=false:=decide_eq_false c1;have c2:decide (l<0)=false:=decide_eq_false (by omega);have c4:decide ((0:Int)>l)=false:=by simp;omega
  simp only[c2,c4,c5,Bool.false_or,Int.lt_irrefl,decide_false,Bool.or_false,kJ,if_false];have hr: ¬(l.toNat*by_>roomBytes):=by
   unfold roomBytes;have:((l.toNat*by_:Nat):Int)=by_*l:=by rw[iU,pN h0,rK]
   have h47:((2^47:Nat):Int)=2^47:=by decide
   omega
  unfold askRoom;simp only[hr,if_false];rw[aO (run_pure _ _ _),aO (hT.siz w)];have hn:l.toNat*s=l.toNat*(aF z).length:=by rw[hs]
  by_cases h00:l.toNat*s=0
  .rw[if_pos h00,aO (run_pure _ _ _)]
   have e0:dl z l.toNat=[]:=cR (by rw[nk,hs];exact h00);rw[h00,e0,show(Array.range 0)= #[] from J,Array.map_empty];rfl
  .rw[if_neg h00,aO (hz.zero w),oD]
   rw[aO (run_pure _ _ _),BE hn];rfl
 refine kv (v:= .slice (some ⟨w.heap.size,0,none⟩) 0 l.toNat) (cD h1) (h w.heap.size _ _ ((rl.heap (rl.h.alloc _ _)).put _ hd))
def qj(G:Gh)(ov:List av):Gh:=fun b=>match G b with
 |some cs=>some cs
 |none=>(ov.find? fun o=>Nat.beq o.b b).map (·.cs)
def IW:bH G (qj G ov):=fun b cs h=>by unfold qj;rw[h]
def NW{o:av}: ∀{ov:List av},o∈ov->ov.Pairwise (fun x y=>x.b≠y.b)->ov.find? (fun u=>Nat.beq u.b o.b)=some o
 |u::t,ho,nd=>by
  rcases aK.1 ho with rfl|ho
  .rw[List.find?_cons_of_pos (by simp)]
  .have:=(bS.1 nd).1 o ho
   rw[List.find?_cons_of_neg (by simpa using this)];exact NW ho (bS.1 nd).2
def XJ{o:av}(ho:o∈ov)(hn:G o.b=none)(nd:ov.Pairwise (fun x y=>x.b≠y.b)):qj G ov o.b=some o.cs:=by
 unfold qj;rw[hn,NW ho nd];rfl
def bE.lendSub(h:bE C ov G w)(b:Nat)(cs:List Value)(hb:qj G ov b=some cs): ∃ty fz,w.heap[b]? =some (.cells ⟨cs⟩ ty fz):=by
 unfold qj at hb;split at hb
 .rename_i hg;cases hb;exact h.sub _ _ hg
 .cases hf:ov.find? (fun o=>Nat.beq o.b b) with
  |none=>rw[hf] at hb;cases hb
  |some o=>
   rw[hf] at hb;cases hb;have e:o.b=b:=aL (by simpa using List.find?_some hf);subst e;exact⟨_,_,(h.hown o (List.mem_of_find?_eq_some hf)).1⟩
def bE.lent(h:bE C ov G w)(k:bE ⟨w,qj G ov,[],[],[],none,fun _=>none⟩ [] G' w'):bE C ov G w':=by
 have same: ∀b o,w.heap[b]? =some o->w'.heap[b]? =some o:=fun b o hb=>by rw[k.keep b (il hb) (by simp)];exact hb
 have hsz:w.heap.size<=w'.heap.size:=k.size;refine⟨k.os.trans h.os,k.tape.trans h.tape,k.output.trans h.output,cS h.size hsz,fun b hb hm=>?_,fun b cs hb=>?_,h.gle,h.gold,fun o ho=>?_,h.nd,cS h.dr k.dr,fun p hp=>⟨(h.ext p hp).1,same _ _ (h.ext p hp).2⟩⟩
 .have:=h.size;rw[k.keep b (by show b<w.heap.size;omega) (by simp)];exact h.keep b hb hm
 .obtain⟨ty,fz,h1⟩:=h.sub b cs hb;exact⟨ty,fz,same _ _ h1⟩
 .obtain⟨h1,h2⟩:=h.hown o ho;exact⟨same _ _ h1,h2⟩
def ayc{f:FuncId}{K:Value->Gh->Prop}(ho:aB fr fo=some (.func (.func f) #[] #[]))(hv:fg fr args.toList=some vs)
  (hF:Fn P f vs (qj G own) K)(hd:b8 n dst=true)(h: ∀v (G':Gh),K v G'->St C n (put fr dst v) own G Φ):Ch P C n fr own G ⟨dst, .call ⟨.value fo,args,tys⟩,ty',pos,af,gd⟩ Φ:=by
 intro a w Q rl;have h2:=DG (c1:=[]) (c2:=[]) (P:=P) (dst:=dst) (ty':=ty') (pos:=pos) (af:=af) (gd:=gd) (tys:=tys) (w:=w) hF.able rl.fr ho hv;rw[jL,fL] at h2;simp only[Oper.wp,h2,Oper.upon];refine(hF.run w rl.h.lendSub).mono ?_;rintro e w' ⟨v,G',rfl,hh,hK⟩;exact h v G' hK _ _ ((rl.heap (rl.h.lent hh)).put _ hd)
end
def DV.np:DV->Bool
 | .v _=>true
 | .tp l=>l.all fun d=>match d with
  | .v _=>true
  |_=>false
 |_=>false
def La{A G:Gh}: ∀{l:List DV} {m:List Value},(l.all fun d=>match d with| .v _=>true|_=>false)=true->IsLs A l m->IsLs G l m
 |[],m,_,k=>d8.2 (d8.1 k)
 |d::t,m,h,k=>by
  obtain⟨y,n,rfl,k1,k2⟩:=bi.1 k;simp only[List.all_cons,bU] at h;refine .cons ?_ (La h.2 k2)
  cases d with
  |v x=>exact aH.2 (aH.1 k1)
  |_=>simp at h
def Is.np{d:DV}{y:Value}(h:d.np=true)(k:Is A d y):Is G d y:=by
 cases d with
 |v x=>exact aH.2 (aH.1 k)
 |tp l=>obtain⟨m,e,k⟩:=lj.1 k;exact lj.2 ⟨m,e,La h k⟩
 |_=>cases h
section
variable {own:aG}
variable {gd:Option (Nat×Bool)}{e s:Nat}
def Pk:Option Bk->Option (List DV)
 |some (.b _ _ ds _)=>some ds
 |some (.c _ _ ds _)=>some ds
 |_=>none
def Hu(lk:LK)(bk:BM)(x:Operand):Option DV:=match bh lk x with
 |some (.rw nm)=>match Pk (bk nm) with
  |some ds=>some (.sl ds)
  |none=>none
 |some f=>ju f
 |none=>none
def Dn(lk:LK)(bk:BM):List Operand->Option (List DV)
 |[]=>some []
 |x::t=>match Hu lk bk x,Dn lk bk t with
  |some d,some l=>some (d::l)
  |_,_=>none
def T4(r:bG GB C n lk bk ρ G ov a w){d:DV}(h:Hu lk bk x=some d): ∃y,aB (ck a) x=some y/\Is (qj G ov) d y:=by
 unfold Hu at h;split at h
 .rename_i nm h1
  obtain⟨y,h2,h3⟩:=r.ev h1
  cases (show y=_ from h3)
  refine⟨_,h2,?_⟩;split at h<;>cases h;rename_i ds hr;obtain⟨ty,s,vs,B,hB,hv,hs,hBo⟩: ∃ty s vs B,ig s ty (ρ nm) vs B/\IsLs G ds vs/\(∀v∈vs,(aF v).length=s)/\ ∀o∈B,o∈ov:=by
   unfold Pk at hr;split at hr<;>cases hr
   .rename_i hb;obtain⟨B,⟨vs,h4,h5,h6,_⟩,h7⟩:=r.bx _ _ hb;exact⟨_,_,vs,B,h4,h5,h6,h7⟩
   .rename_i hb;obtain⟨B,⟨vs,h4,h5,h6,_⟩,h7⟩:=r.bx _ _ hb;exact⟨_,_,vs,B,h4,h5,h6,h7⟩
  rcases hB with⟨e1,e2,e3⟩|⟨b,rest,lo',e2,e3,h5,h6,h7⟩
  .subst e1
   have ed:ds=[]:=cR (by rw[<-hv.len];rfl);subst ed;rw[e2];exact gp.2 ⟨0,⟨none,0,0⟩,[],J, .nil _ 0, .nil⟩
  .subst e3
   have ho:=hBo _ aQ;have hg:=XJ ho (r.h.hown _ ho).2.1 r.h.nd;rw[e2];exact gp.2 ⟨s,⟨some ⟨b,0,none⟩,vs.length,_⟩,vs,J,f7.of_flat hs hg h7,hv.up IW⟩
 .rename_i h1
  obtain⟨y,h2,h3⟩:=r.ev h1;exact⟨y,h2,(lE h3 h).up IW⟩
 .cases h
def OC(r:bG GB C n lk bk ρ G ov a w): ∀{l:List Operand} {ds:List DV},Dn lk bk l=some ds-> ∃vs,fg (ck a) l=some vs/\IsLs (qj G ov) ds vs
 |[],ds,e=>by cases e;exact⟨[],J, .nil⟩
 |x::t,ds,e=>by
  simp only[Dn] at e;split at e<;>cases e;rename_i h1 h2;obtain⟨y,h3,h4⟩:=T4 r h1;obtain⟨vs,h5,h6⟩:=OC r h2;exact⟨y::vs,by simp only[fg,h3,h5], .cons h4 h6⟩
def HD(lk:LK)(bk:BM)(fo:Operand)(args:Array Operand):Option (FuncId×List DV):=match bh lk fo with
 |some (.d (.v (.func (.func f) ⟨[]⟩ ⟨[]⟩)))=>match Dn lk bk args.toList with
  |some ds=>some (f,ds)
  |none=>none
 |_=>none
def Y'{f:FuncId}{ds:List DV}(ha:HD lk bk fo args=some (f,ds))(hnp:rv.np=true)(hF:PF GB prog f ds rv):bP prog GB C n lk bk ⟨dst, .call ⟨.value fo,args,tys⟩,ty',pos,af,gd⟩ (.d rv) [] []:=by
 intro hd tl tb K' s1 s2 hf hk;refine⟨fun ρ G ov a w r Q=>?_⟩;have r1:=r.mono s1 s2;unfold HD at ha;split at ha<;>try (cases ha;done)
 rename_i h1;split at ha<;>cases ha;rename_i h2;obtain⟨y,hy,hy'⟩:=r1.ev h1;rw[(aH (G:=G)).1 hy'] at hy;obtain⟨vs,h3,h4⟩:=OC r1 h2;refine ayc hy h3 (hF _ vs (r.gb.trans IW) h4) hd (fun v G' hK a' w' rl=>?_) a w Q ⟨r.h,r.sz,cw a,r.df⟩;exact hk.run ρ G ov a' w' ⟨r.gb,rl.h,rl.sz,rl.df,(jk rl).fx (fun k g _ e=>r.fx k g e) (Is.np hnp hK),r.bx,r.dj,r.fxd⟩
def J9(fr:aC)(own:aG)(cf:Cf):Option (FuncId×List DV):=match cE fr cf with
 |some ⟨_, .call ⟨.value fo,args,_⟩,_,_,_,_⟩=>HD (b7 fr cf) (iH fr own cf) fo args
 |_=>none
def cL[fu:Fu]{f:FuncId}{ds:List DV}(ha:J9 fr own cf=some (f,ds))(hF:PF GB prog f ds rv)(hnp:rv.np=true)(hgo:cx tt n fu.n fr own cf (.d rv) [] []=⟨vc,fr',own',cf'⟩)(k:aA prog GB C n Q0 fr' own' cf')
  (hv:ak vc:=by first|exact trivial|(simp only[ak];kernel_rfl)|(simp only[ak];omega)):aA prog GB C n Q0 fr own cf:=by
 unfold J9 at ha;split at ha<;>try (cases ha;done)
 rename_i hh;exact us hh (Y' ha hnp hF) hgo hv k
def YN{d:Nat}{i:TI}{z:DV}{k:IntKind}[hT:cj prog t e s by_](hi:et prog e=some i)(hz:nA i=some z)(hs:Nat.beq z.cells.length s=true)(hx:bh lk x=some (.d (.v (.int k 0))))(hy:bh lk y=some (.d (.v (.int k' (cap:Nat)))))(hb:by_*cap<=140737488355328)(hl:cap<=1152921504606846976):
  bP prog GB C n lk bk ⟨some d, .makeSlice t x y,ty',pos,af,gd⟩ (.rw d) [(d,some (.c e s [] cap))] [d]:=by
 intro hd tl tb K s1 s2 hf hk;refine⟨fun ρ G ov a w r Q=>?_⟩;obtain⟨v,hz1,hz2,hz3⟩:=y5 hi hz;obtain⟨q1,p1,p2⟩:=(r.mono s1 s2).ev hx;obtain⟨q2,p3,p4⟩:=(r.mono s1 s2).ev hy;rw[cH] at p2 p4;subst p2 p4;have c1:=((hz2 G).cells hz3).1.len;replace hs:=aL hs;refine X1 p1 p3 (by omega) (by have:((by_*cap:Nat):Int)=by_*cap:=iU ..;omega) (by omega) (by rw[c1,hs]) hd (fun b a' w' rl=>?_) a w Q ⟨r.h,r.sz,cw a,r.df⟩;rw[cK] at rl;have hnd:=(bS.1 rl.h.nd).1;refine hk.run _ _ _ a' w' (r.new' (x:=⟨some ⟨b,0,none⟩,0,cap⟩) (B':= .c e s [] cap) (os:=[⟨b,dl v cap,e,true⟩]) (f:= .rw d) (y:= .slice (some ⟨b,0,none⟩) 0 cap) hf (bH.refl _) rl.h ⟨[], .inr ⟨b,dl v cap,true,by simp,J,by simp[aD],?_,by simp⟩, .nil,by simp,fun o ho=>by rw[aU.1 ho],by simp⟩
  (fun o ho=>by rw[aU.1 ho];exact aQ) (fun m B' _ _ o ho _=>⟨aJ _ ho,fun e'=>by cases e';exact hnd o ho J⟩) (by show _=_;simp) (jk rl))
 rw[nk,c1,hs];simp[aD]
def aFd{d nm:Nat}{ds ds2:List DV}[hT:cj prog t e s by_][hN:ji prog t'](hx:bh lk x=some (.rw nm))(hb:bk nm=some (.c e s ds cap))(hy:pg lk bk s y=some ds2)(hk2:cA s ds2)(hc:ds.length+ds2.length<=cap)(hp:0<ds2.length)(hnd:Nat.beq nm d=false):
  bP prog GB C n lk bk ⟨some d, .call ⟨.builtin .append, #[x,y], #[t,t']⟩,ty',pos,af,gd⟩ (.rw d) [(nm,none),(d,some (.c e s (ds++ds2) cap))] [d]:=by
 intro hd tl tb K s1 s2 hf hk;refine⟨fun ρ G ov a w r Q=>?_⟩;have r1:=r.mono s1 s2;have hne:nm≠d:=fun e=>by subst e;simp at hnd
 obtain⟨u,hx',hx2⟩:=r1.ev hx
 cases hx2
 obtain⟨B,⟨vs,hB,hv,hvs,hlo,hcap⟩,hBo⟩:=r1.bx _ _ hb;obtain⟨w2,us,hy',h2,h3,h4,h5,h6⟩:=BB (P:=prog) (C:=C) r1 hy hk2;have hus:(aD us).length=us.length*s:=ek us h4;have hl1:=hv.len;have hl2:=h3.len;have rd:=r.dropB nm;have hf':jw [d] (some d) tl (Sx.upB tb [(nm,none)]):=fun m hm=>by
  obtain⟨g1,g2⟩:=hf m hm;refine⟨g1,fun k B' hk e=>g2 k B' hk ?_⟩;simp only[Sx.upB] at e;split at e
  .cases e
  .exact e
 rcases hB with⟨e1,e2,e3⟩|⟨b,rest,lo',k3,k4,k5,k6,k7⟩
 .rw[e2] at hcap;simp at hcap;omega
 subst k4;have hl':=hlo _ aQ;simp only at hl';subst hl';have ha:(ρ nm).a=some ⟨b,0,none⟩:=by rw[k3]
 have hn:(ρ nm).n=vs.length:=by rw[k3]
 rw[ha,hn] at hx';rw[h2] at hy' h6;have hin:=hBo _ aQ;obtain⟨l1,l2,e5⟩:=mQ hin;have hperm:ov.Perm (⟨b,aD vs++rest,e,true⟩::(l1++l2)):=by rw[e5];exact oW
 have hall: ∀v∈vs++us,(aF v).length=s:=fun v hv=>by
  rcases aM.1 hv with hv|hv
  .exact hvs v hv
  .exact h4 v hv
 have hcs:(aD vs++rest).length=(ρ nm).c*s:=by rw[aY];exact k6
 have hroom:vs.length+us.length<=(ρ nm).c:=by omega
 have hmul:(vs.length+us.length)*s<=(ρ nm).c*s:=bT _ hroom;rw[dV] at hmul;have hrest:us.length*s<=rest.length:=by rw[k5] at k6;omega
 have hovw:cp (aD vs++rest) (vs.length*s) (aD us)=aD (vs++us)++rest.drop (us.length*s):=by
  rw[py _ _ _ (by rw[hus,aY];omega),ni,<-k5];simp[hus,mS,dX]
 refine KP (P:=prog) (own:=⟨b,aD vs++rest,e,true⟩::(l1++l2)) (m:=us.length) (ys:=aD us) hx' hy' (.hd ..) hcs (fun w hh=>h6 w (hh.perm hperm.symm)) hus h5 hroom hd (fun a' w' rl=>?_) a w Q ⟨r.h.perm hperm,r.sz,cw a,r.df⟩;rw[hovw] at rl;have hnd':=(bS.1 rl.h.nd).1;refine hk.run _ _ _ a' w' (rd.new' (x:=⟨some ⟨b,0,none⟩,vs.length+us.length,(ρ nm).c⟩) (B':= .c e s (ds++ds2) cap) (os:=[⟨b,aD (vs++us)++rest.drop (us.length*s),e,true⟩]) (f:= .rw d) (y:= .slice (some ⟨b,0,none⟩) (vs.length+us.length) (ρ nm).c) hf' (bH.refl _) rl.h
  ⟨vs++us, .inr ⟨b,rest.drop (us.length*s),true,by simp,J,ek _ hall,?_,by simpa using hroom⟩,hv.app h3,hall,fun o ho=>by rw[aU.1 ho],by simpa using hcap⟩ (fun o ho=>by rw[aU.1 ho];exact aQ)
  (fun m B' hm e' o ho hmo=>?_) (by show _=_;simp) (jk rl))
 .rw[ek _ hall,aY,gK,dV]
  simp only[if_true];rw[k5] at k6;omega
 .have hmn:m≠nm/\tb m=some B':=by
   simp only[Sx.upB] at e';split at e'
   .cases e'
   .exact⟨by assumption,e'⟩
  have hob:o.b≠b:=fun e6=>r.dj m nm B' _ hmn.2 (s2 _ _ hb) hmn.1 b (by rw[hmo,e6]) ha;refine⟨?_,fun e6=>by cases e6;exact hob J⟩;rcases aK.1 (hperm.mem_iff.1 ho) with rfl|ho
  .exact absurd J hob
  .exact aJ _ ho
end
end Go.Sx
end
