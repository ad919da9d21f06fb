import Derived.Test.YtmbbejdimfkkcaaGreatDoorMo6
set_option linter.all false
set_option maxRecDepth 100000
section
namespace Go.Sx
open Go Go.Proofs Tryz
section
variable {GB:Gh} {C:aH} {n:Nat} {Q0:Exit->Act->World->Prop} {fr fr':aF} {own own':bh} {cf cf':Cf} {vc:List Prop} {ops:Array Oper} {o:Oper} {K:List Kt} {r:List Oper}
def di(fr:aF)(cf:Cf):Option Oper:=match IG cf with
 |some (ops,o)=>bif xu ops (ck fr cf) o.guard then some o else none
 |none=>none
def K5(h:di fr cf=some o): ∃ops,IG cf=some (ops,o)/\xu ops (ck fr cf) o.guard=true:=by
 unfold di at h;split at h<;>try (cases h;done)
 rename_i ops o' hh
 cases hg:xu ops (ck fr cf) o'.guard with
 |false=>rw[hg] at h;cases h
 |true=>rw[hg] at h;cases h;exact⟨ops,hh,hg⟩
def us{q:Nat}{f:FX}{bl:List (Nat×Option Bk)}{nw:List Nat}(hh:di fr cf=some o)(h:b9 prog GB C n (ck fr cf) (jo fr own cf) o f bl nw)
  (hgo:c6 tt n q fr own cf f bl nw=⟨vc,fr',own',cf'⟩)(hv:ak vc)(k:av prog GB C n Q0 fr' own' cf'):av prog GB C n Q0 fr own cf:=by
 obtain⟨ops,h1,h2⟩:=K5 hh;exact uo h1 h2 h hgo hv k
def Bz(fr:aF)(cf:Cf):Option (FuncId×List DV):=match di fr cf with
 |some ⟨_, .call ⟨.value fo,args,_⟩,_,_,_,_⟩=>vk (ck fr cf) fo args
 |_=>none
def cl[fu:Fu]{f:FuncId}{ds:List DV}{rv:DV}(ha:Bz fr cf=some (f,ds))(hF:PF GB prog f ds rv)(hgo:c6 tt n fu.n fr own cf (.d rv) [] []=⟨vc,fr',own',cf'⟩)(k:av prog GB C n Q0 fr' own' cf')
  (hv:autoParam (ak vc) fn._auto_1):av prog GB C n Q0 fr own cf:=by
 unfold Bz at ha;split at ha<;>try (cases ha;done)
 rename_i hh;exact us hh (Pr ha hF) hgo hv k
def N'(fr:aF)(cf:Cf):Option (List DV×Int×Nat):=match di fr cf with
 |some ⟨_, .indexAddr t x y,_,_,_,_⟩=>match evD (ck fr cf) x with
  |some (.sl l)=>match bt (ck fr cf) y with
   |some (.d (.v (.int _ i)))=>match eo tt t with
    |some ⟨.sl _ s _,_,_,_⟩=>some (l,i,s)
    |_=>none
   |_=>none
  |_=>none
 |_=>none
def Q9(n q:Nat)(fr:aF)(own:bh)(cf:Cf)(d:DV)(s:Nat):Bd:=bif d.okc&&Nat.beq d.cells.length s then l8 d.cells fun cs=>c6 tt n q fr own cf (.ep cs) [] [] else qe
def ix[fu:Fu](d:DV){l:List DV}{i:Int}{s:Nat}(h:N' fr cf=some (l,i,s))(he:l[i.toNat]? =some d)(hgo:Q9 n fu.n fr own cf d s=⟨vc,fr',own',cf'⟩)(k:av prog GB C n Q0 fr' own' cf')(h0:0<=i:=by omega)
  (hv:autoParam (ak vc) fn._auto_1):av prog GB C n Q0 fr own cf:=by
 unfold N' at h;split at h<;>try (cases h;done)
 rename_i hh;split at h<;>try (cases h;done)
 rename_i hx;split at h<;>try (cases h;done)
 rename_i hy;split at h<;>cases h;rename_i hT;have:=lh (fi _ _ hT) J;unfold Q9 at hgo
 cases hc:(d.okc&&Nat.beq d.cells.length s) with
 |false=>simp only[hc,cond_false,qe] at hgo;cases hgo;exact absurd hv (fun x=>x)
 |true=>
  simp only[hc,cond_true,uh] at hgo;exact us hh (aJc hx hy h0 he hc) hgo hv k
structure ZQ where
 ds:List DV
 k:Nat
 j:Nat
 ag:Option Nat
def NI(fr:aF)(own:bh)(cf:Cf):Option ZQ:=match di fr cf with
 |some ⟨_, .load t x,_,_,_,_⟩=>match bt (ck fr cf) x with
  |some (.be nm sz k j)=>match jo fr own cf nm with
   |some (.b _ s ds _)=>bif Nat.beq s sz then(match eo tt t with
    |some i=>match i.ag with
     |some ag=>some ⟨ds,k,j,ag⟩
     |none=>none
    |none=>none) else none
   |_=>none
  |_=>none
 |_=>none
def VW(n q:Nat)(fr:aF)(own:bh)(cf:Cf)(d:DV)(ag:Option Nat)(j:Nat):Bd:=bif d.okc then(match Cs ag d.cells j with
 |some c=>c6 tt n q fr own cf (.d c) [] []
 |none=>qe) else qe
def lb[fu:Fu](d:DV){ds:List DV}{k' j:Nat}{ag:Option Nat}(h:NI fr own cf=some ⟨ds,k',j,ag⟩)(he:ds[k']? =some d)(hgo:VW n fu.n fr own cf d ag j=⟨vc,fr',own',cf'⟩)(k:av prog GB C n Q0 fr' own' cf')
  (hv:autoParam (ak vc) fn._auto_1):av prog GB C n Q0 fr own cf:=by
 unfold NI at h;split at h<;>try (cases h;done)
 rename_i hh;split at h<;>try (cases h;done)
 rename_i hx;split at h<;>try (cases h;done)
 rename_i ty s ds' lo hb;rw[cond_eq_ite] at h;split at h<;>try (cases h;done)
 rename_i hs
 cases bX hs
 split at h<;>try (cases h;done)
 rename_i hT;split at h<;>cases h;rename_i ha;unfold VW at hgo
 cases hc:d.okc with
 |false=>simp only[hc,cond_false,qe] at hgo;cases hgo;exact absurd hv (fun x=>x)
 |true=>
  simp only[hc,cond_true] at hgo
  cases hl:Cs ag d.cells j with
  |none=>simp only[hl,qe] at hgo;cases hgo;exact absurd hv (fun x=>x)
  |some c=>simp only[hl] at hgo;exact us hh (Zw (fi _ _ hT) ha hx hb he hc hl) hgo hv k
structure X2 where
 nm:Nat
 ty:TypeId
 s:Nat
 ds:List DV
 lo:Bool
 k:Nat
 j:Nat
 ag:Option Nat
 u:DV
def O6(fr:aF)(own:bh)(cf:Cf):Option X2:=match di fr cf with
 |some ⟨_, .store t x y,_,_,_,_⟩=>match bt (ck fr cf) x with
  |some (.be nm sz k j)=>match jo fr own cf nm with
   |some (.b ty s ds lo)=>bif Nat.beq s sz then(match eo tt t with
    |some i=>match i.ag with
     |some ag=>match evD (ck fr cf) y with
      |some u=>some ⟨nm,ty,s,ds,lo,k,j,ag,u⟩
      |none=>none
     |none=>none
    |none=>none) else none
   |_=>none
  |_=>none
 |_=>none
def sb[fu:Fu](d:DV){nm:Nat}{ty:TypeId}{s:Nat}{ds:List DV}{lo:Bool}{k' j:Nat}{ag:Option Nat}{u d':DV}(ds':List DV)(h:O6 fr own cf=some ⟨nm,ty,s,ds,lo,k',j,ag,u⟩)(he:ds[k']? =some d)(hl:Ho ag d j u=some d')(hds:ds.set k' d'=ds')
  (hgo:c6 tt n fu.n fr own cf .un [(nm,some (.b ty s ds' lo))] []=⟨vc,fr',own',cf'⟩)(k:av prog GB C n Q0 fr' own' cf')
  (hv:autoParam (ak vc) fn._auto_1):av prog GB C n Q0 fr own cf:=by
 unfold O6 at h;split at h<;>try (cases h;done)
 rename_i hh;split at h<;>try (cases h;done)
 rename_i hx;split at h<;>try (cases h;done)
 rename_i hb;rw[cond_eq_ite] at h;split at h<;>try (cases h;done)
 rename_i hs
 cases bX hs
 split at h<;>try (cases h;done)
 rename_i hT;split at h<;>try (cases h;done)
 rename_i ha;split at h<;>cases h;rename_i hy;exact us hh (aGX (fi _ _ hT) ha hx hb hy he hl hds) hgo hv k
structure Z5 where
 d:Nat
 e:Nat
 s:Nat
 b:Nat
 z:DV
 l:Int
def Hn(fr:aF)(cf:Cf):Option Z5:=match di fr cf with
 |some ⟨some d, .makeSlice t x y,_,_,_,_⟩=>match bt (ck fr cf) x with
  |some (.d (.v (.int _ l)))=>match eo tt t with
   |some ⟨.sl e s b,_,_,_⟩=>match eo tt e with
    |some i=>match po i with
     |some z=>bif Nat.beq z.cells.length s then some ⟨d,e,s,b,z,l⟩ else none
     |none=>none
    |none=>none
   |_=>none
  |_=>none
 |_=>none
def mk[fu:Fu]{d e s b:Nat}{z:DV}{l:Int}{k':IntKind}(ds:List DV)(h:Hn fr cf=some ⟨d,e,s,b,z,l⟩)(hy:(match di fr cf with|some ⟨_, .makeSlice _ _ y,_,_,_,_⟩=>bt (ck fr cf) y|_=>none)=some (.d (.v (.int k' l))))(hds:List.replicate l.toNat z=ds)
  (hgo:c6 tt n fu.n fr own cf (.rw d) [(d,some (.b e s ds true))] [d]=⟨vc,fr',own',cf'⟩)(k:av prog GB C n Q0 fr' own' cf')(h0:0<=l:=by omega)(hb:b*l<=140737488355328:=by omega)(hl:l<=1152921504606846976:=by omega)
  (hv:autoParam (ak vc) fn._auto_1):av prog GB C n Q0 fr own cf:=by
 unfold Hn at h;split at h<;>try (cases h;done)
 rename_i hh;split at h<;>try (cases h;done)
 rename_i hx;split at h<;>try (cases h;done)
 rename_i hT;split at h<;>try (cases h;done)
 rename_i hi;split at h<;>try (cases h;done)
 rename_i hz;rw[cond_eq_ite] at h;split at h<;>cases h;rename_i hs;rw[hh] at hy;have:=lh (fi _ _ hT) J;exact us hh (XD (fi _ _ hi) hz hs hx hy h0 hb hl hds) hgo hv k
structure P6 where
 d:Nat
 e:Nat
 s:Nat
 ds:List DV
def GM(fr:aF)(cf:Cf):Option P6:=match di fr cf with
 |some ⟨some d, .buildSlice t len parts,_,_,_,_⟩=>match eo tt t with
  |some ⟨.sl e s _,_,_,_⟩=>match eo tt e with
   |some i=>match po i with
    |some z=>match y5 (ck fr cf) 0 parts.toList with
     |some ds=>bif Nat.beq z.cells.length s&&(Ey s ds&&(Nat.beq parts.toList.length len&&(Nat.ble (len*s) 1000&&Nat.blt 0 (len*s)))) then some ⟨d,e,s,ds⟩ else none
     |none=>none
    |none=>none
   |none=>none
  |_=>none
 |_=>none
def Nw{d e s:Nat}{ds:List DV}(h:GM fr cf=some ⟨d,e,s,ds⟩): ∃o,di fr cf=some o/\o.dst=some d/\b9 prog GB C n (ck fr cf) (jo fr own cf) o (.rw d) [(d,some (.b e s ds true))] [d]:=by
 unfold GM at h;split at h<;>try (cases h;done)
 rename_i hh;split at h<;>try (cases h;done)
 rename_i hT;split at h<;>try (cases h;done)
 rename_i hi;split at h<;>try (cases h;done)
 rename_i hz;split at h<;>try (cases h;done)
 rename_i hr;rw[cond_eq_ite] at h;split at h<;>cases h;rename_i hc;simp only[bT] at hc;have:=lh (fi _ _ hT) J;exact⟨_,hh,J,Rp (fi _ _ hi) hz hc.1 hr hc.2.1 hc.2.2.1 hc.2.2.2.1 hc.2.2.2.2⟩
def ro[fu:Fu]{d e s:Nat}{ds:List DV}(h:GM fr cf=some ⟨d,e,s,ds⟩)(hgo:c6 tt n fu.n fr own cf (.rw d) [(d,some (.b e s ds true))] [d]=⟨vc,fr',own',cf'⟩)(k:av prog GB C n Q0 fr' own' cf')
  (hv:autoParam (ak vc) fn._auto_1):av prog GB C n Q0 fr own cf:=by
 obtain⟨o,h1,_,h3⟩:=Nw (GB:=GB) (C:=C) (n:=n) (own:=own) h;exact us h1 h3 hgo hv k
def rf[fu:Fu]{d e s:Nat}{ds:List DV}(h:GM fr cf=some ⟨d,e,s,ds⟩)(hgo:c6 tt n fu.n fr own cf (.d (.sl ds)) [(d,none)] [d]=⟨vc,fr',own',cf'⟩)(k:av prog GB C n Q0 fr' own' cf')
  (hv:autoParam (ak vc) fn._auto_1):av prog GB C n Q0 fr own cf:=by
 obtain⟨o,h1,h2,h3⟩:=Nw (GB:=GB) (C:=C) (n:=n) (own:=own) h;exact us h1 (h3.frzRow h2) hgo hv k
def Vr(fr:aF)(cf:Cf):Option (Nat×Nat×Nat):=match di fr cf with
 |some ⟨some d, .buildSlice t 0 ⟨[]⟩,_,_,_,_⟩=>match eo tt t with
  |some ⟨.sl e s _,_,_,_⟩=>some (d,e,s)
  |_=>none
 |_=>none
def oG[fu:Fu]{d e s:Nat}(h:Vr fr cf=some (d,e,s))(hgo:c6 tt n fu.n fr own cf (.rw d) [(d,some (.b e s [] true))] [d]=⟨vc,fr',own',cf'⟩)(k:av prog GB C n Q0 fr' own' cf')
  (hv:autoParam (ak vc) fn._auto_1):av prog GB C n Q0 fr own cf:=by
 unfold Vr at h;split at h<;>try (cases h;done)
 rename_i hh;split at h<;>cases h;rename_i hT;have:=lh (fi _ _ hT) J;exact us hh aDT hgo hv k
structure ApA where
 d:Nat
 nm:Option Nat
 e:Nat
 s:Nat
 b:Nat
 ds:List DV
 ds2:List DV
def He(fr:aF)(own:bh)(cf:Cf):Option ApA:=match di fr cf with
 |some ⟨some d, .call ⟨.builtin .append,⟨[x,y]⟩,⟨[t,t']⟩⟩,_,_,_,_⟩=>match eo tt t with
  |some ⟨.sl e s b,_,_,_⟩=>match eo tt t' with
   |some ⟨.sl _ _ _,_,_,_⟩=>match eo tt e with
    |some i=>match po i with
     |some z=>bif Nat.beq z.cells.length s&&Nat.blt 0 b then(match qP (ck fr cf) (jo fr own cf) s y with
      |some ds2=>match bt (ck fr cf) x with
       |some (.rw nm)=>match jo fr own cf nm with
        |some (.b e' s' ds true)=>bif (Nat.beq e' e&&Nat.beq s' s)&&!Nat.beq nm d then some ⟨d,some nm,e,s,b,ds,ds2⟩ else none
        |_=>none
       |some (.ct ds)=>some ⟨d,none,e,s,b,ds,ds2⟩
       |some .nl=>some ⟨d,none,e,s,b,[],ds2⟩
       |_=>none
      |none=>none) else none
     |none=>none
    |none=>none
   |_=>none
  |_=>none
 |_=>none
def S9(d:Nat)(nm:Option Nat)(B:Bk):List (Nat×Option Bk):=match nm with
 |some nm=>[(nm,none),(d,some B)]
 |none=>[(d,some B)]
def NG{d:Nat}{nm:Option Nat}{e s b:Nat}{ds ds2:List DV}(h:He fr own cf=some ⟨d,nm,e,s,b,ds,ds2⟩)(ds':List DV)(hds:ds++ds2=ds')(ho:nm.isNone=true->cO s ds/\0<ds2.length)(ho2:cO s ds2)(hbd:(ds.length+ds2.length)*b<=140737488355328):
  ∃o,di fr cf=some o/\o.dst=some d/\b9 prog GB C n (ck fr cf) (jo fr own cf) o (.rw d) (S9 d nm (.b e s ds' true)) [d]:=by
 unfold He at h;split at h<;>try (cases h;done)
 rename_i hh;split at h<;>try (cases h;done)
 rename_i hT;split at h<;>try (cases h;done)
 rename_i hT';split at h<;>try (cases h;done)
 rename_i hi;split at h<;>try (cases h;done)
 rename_i hz;rw[cond_eq_ite] at h;split at h<;>try (cases h;done)
 rename_i hc;simp only[bT] at hc;split at h<;>try (cases h;done)
 rename_i hy;have:=lh (fi _ _ hT) J;have hN:kd prog _:=⟨_,(lh (fi _ _ hT') J).un⟩;refine⟨_,hh,?_⟩;split at h<;>try (cases h;done)
 .rename_i hx
  split at h<;>try (cases h;done)
  rename_i hb;rw[cond_eq_ite] at h;split at h<;>cases h;rename_i hq;simp only[bT,iW] at hq
  cases bX hq.1.1
  cases bX hq.1.2
  exact⟨J,YO (fi _ _ hi) hz hc.1 hx hb hy ho2 hc.2 hbd hq.2 hds⟩
 .rename_i hx
  cases h
  obtain⟨h1,h2⟩:=ho rfl;exact⟨J,OQ (fi _ _ hi) hz hc.1 (.inl hx) h1 hy ho2 h2 hc.2 hbd hds⟩
 .rename_i hx
  cases h
  obtain⟨h1,h2⟩:=ho rfl;exact⟨J,OQ (fi _ _ hi) hz hc.1 (.inr ⟨hx,J⟩) h1 hy ho2 h2 hc.2 hbd hds⟩
def ap[fu:Fu]{d:Nat}{nm:Option Nat}{e s b:Nat}{ds ds2:List DV}(ds':List DV)(h:He fr own cf=some ⟨d,nm,e,s,b,ds,ds2⟩)(hds:ds++ds2=ds')(ho2:cO s ds2)(hgo:c6 tt n fu.n fr own cf (.rw d) (S9 d nm (.b e s ds' true)) [d]=⟨vc,fr',own',cf'⟩)(k:av prog GB C n Q0 fr' own' cf')
  (ho:nm.isNone=true->cO s ds/\0<ds2.length:=by intro h;first|(cases h;done)|exact⟨F3 rfl,omc⟩)(hbd:(ds.length+ds2.length)*b<=140737488355328:=by simp;omega)
  (hv:autoParam (ak vc) fn._auto_1):av prog GB C n Q0 fr own cf:=by
 obtain⟨o,h1,_,h3⟩:=NG (GB:=GB) (C:=C) (n:=n) h ds' hds ho ho2 hbd;exact us h1 h3 hgo hv k
def Rh(fr:aF)(cf:Cf):Option (List DV×Int×Int×Nat×Bool):=match di fr cf with
 |some ⟨_, .slice t x lo hi mx,_,_,_,_⟩=>match evD (ck fr cf) x with
  |some (.sl l)=>match eo tt t with
   |some ⟨.sl _ s _,_,_,_⟩=>match ni (ck fr cf) 0 lo,ni (ck fr cf) l.length hi with
    |some i,some j=>match mx with
     |none=>some (l,i,j,s,false)
     |some _=>none
    |_,_=>none
   |_=>none
  |_=>none
 |_=>none
def kp[fu:Fu]{l:List DV}{i j:Int}{s:Nat}(nlo nhi:Nat)(ls:List DV)(h:Rh fr cf=some (l,i,j,s,false))(ei:i=nlo)(ej:j=nhi)(hls:(l.take nhi).drop nlo=ls)(ho:cO s l)(h1:nlo<=nhi)(h2:nhi<=l.length)
  (hgo:c6 tt n fu.n fr own cf (.d (.sl ls)) [] []=⟨vc,fr',own',cf'⟩)(k:av prog GB C n Q0 fr' own' cf')
  (hv:autoParam (ak vc) fn._auto_1):av prog GB C n Q0 fr own cf:=by
 unfold Rh at h;split at h<;>try (cases h;done)
 rename_i hh;split at h<;>try (cases h;done)
 rename_i hx;split at h<;>try (cases h;done)
 rename_i hT;split at h<;>try (cases h;done)
 rename_i hi hj;split at h<;>cases h;have:=lh (fi _ _ hT) J;subst ei ej hls;exact us hh (aGJ hx ho hi hj h1 h2) hgo hv k
def VD(fr:aF)(cf:Cf):Option (List DV×Int×Int×Nat):=match di fr cf with
 |some ⟨_, .slice t x none (some hi) (some mx),_,_,_,_⟩=>match evD (ck fr cf) x with
  |some (.sl l)=>match eo tt t with
   |some ⟨.sl _ s _,_,_,_⟩=>match ni (ck fr cf) 0 (some hi),ni (ck fr cf) 0 (some mx) with
    |some i,some j=>some (l,i,j,s)
    |_,_=>none
   |_=>none
  |_=>none
 |_=>none
def s3[fu:Fu]{l:List DV}{i j:Int}{s:Nat}(nhi:Nat)(ls:List DV)(h:VD fr cf=some (l,i,j,s))(ei:i=nhi)(ej:j=nhi)(hls:l.take nhi=ls)(ho:cO s l)(h2:nhi<=l.length)
  (hgo:c6 tt n fu.n fr own cf (.ct ls) [] []=⟨vc,fr',own',cf'⟩)(k:av prog GB C n Q0 fr' own' cf')
  (hv:autoParam (ak vc) fn._auto_1):av prog GB C n Q0 fr own cf:=by
 unfold VD at h;split at h<;>try (cases h;done)
 rename_i hh;split at h<;>try (cases h;done)
 rename_i hx;split at h<;>try (cases h;done)
 rename_i hT;split at h<;>cases h;rename_i hi hj;have:=lh (fi _ _ hT) J;subst ei ej hls;exact us hh (aGr hx ho hi hj h2) hgo hv k
def Qr(fr:aF)(cf:Cf):Option (Nat×List DV):=match di fr cf with
 |some ⟨some d, .box _ x,_,_,_,_⟩=>match bt (ck fr cf) x with
  |some f=>bif f.okc&&Bx f d then(match jz f.cells with
   |some l=>some (d,l)
   |none=>none) else none
  |none=>none
 |_=>none
end
section
variable {GB:Gh} {C:aH} {n:Nat} {Q0:Exit->Act->World->Prop} {fr fr':aF} {own own':bh} {cf cf':Cf} {vc:List Prop} {ops:Array Oper} {o:Oper} {K:List Kt} {r:List Oper}
def td(x y:Nat):FX->FX
 | .rw m=>bif Nat.beq m x then .rw y else bif Nat.beq m y then .no else .rw m
 | .ov m o=>bif Nat.beq m x then .ov y o else bif Nat.beq m y then .no else .ov m o
 | .be m s i j=>bif Nat.beq m x then .be y s i j else bif Nat.beq m y then .no else .be m s i j
 | .rs m s i j=>bif Nat.beq m x then .rs y s i j else bif Nat.beq m y then .no else .rs m s i j
 | .bx tp pre m post=>bif Nat.beq m x then .bx tp pre y post else bif Nat.beq m y then .no else .bx tp pre m post
 |f=>f
def tf(x y:Nat):Option Bk->Option Bk
 |some (.o ty cs lo)=>some (.o ty (cs.map (td x y)) lo)
 |B=>B
def Fw{α:Type}(g:FX->FX):List FX->(List FX->α)->α
 |[],k=>k []
 |f::t,k=>Fw g t fun t'=>CP (g f) fun f'=>k (f'::t')
def Oa{α:Type}{g:FX->FX}: ∀{cs:List FX} {k:List FX->α},Fw g cs k=k (cs.map g)
 |[],k=>rfl
 |f::t,k=>by simp only[Fw,GJ];rw[Oa];rfl
def FG{α:Type}(g:FX->FX):aF->(aF->α)->α
 |[],k=>k []
 |(j,f)::t,k=>FG g t fun t'=>CP (g f) fun f'=>k ((j,f')::t')
def IX{α:Type}{g:FX->FX}: ∀{fr:aF} {k:aF->α},FG g fr k=k (fr.map fun e=>(e.1,g e.2))
 |[],k=>rfl
 |(j,f)::t,k=>by simp only[FG,GJ];rw[IX];rfl
def Hc{α:Type}(x y:Nat):bh->(bh->α)->α
 |[],k=>k []
 |(j,B)::t,k=>Hc x y t fun t'=>bif Nat.beq j y then k ((x,none)::t') else match B with
  |some (.o ty cs lo)=>Fw (td x y) cs fun cs'=>bif Nat.beq j x then k ((y,some (.o ty cs' lo))::t') else k ((j,some (.o ty cs' lo))::t')
  |B=>bif Nat.beq j x then k ((y,B)::t') else k ((j,B)::t')
def I4{α:Type}{x y:Nat}: ∀{own:bh} {k:bh->α},Hc x y own k=k (own.map fun e=>(bif Nat.beq e.1 y then x else bif Nat.beq e.1 x then y else e.1,bif Nat.beq e.1 y then none else tf x y e.2))
 |[],k=>rfl
 |(j,B)::t,k=>by
  simp only[Hc,I4 (own:=t),bY]
  cases Nat.beq j y with
  |true=>rfl
  |false=>
   cases B with
   |none=>cases Nat.beq j x<;>rfl
   |some B=>cases B<;>cases Nat.beq j x<;>simp only[cond_false,cond_true,Oa,tf]
def L'{x y:Nat}(hxy:x≠y): ∀{own:bh} {k:Nat},bC (own.map fun e=>(bif Nat.beq e.1 y then x else bif Nat.beq e.1 x then y else e.1,bif Nat.beq e.1 y then none else tf x y e.2)) k=if k=x then none else if k=y then tf x y (bC own x) else tf x y (bC own k)
 |[],k=>by simp[bC,tf]
 |(j,B)::t,k=>by
  have bq: ∀a b:Nat,Nat.beq a b=decide (a=b):=fun a b=>by
   by_cases h:a=b
   .subst h;simp
   .rw[decide_eq_false h]
    cases hb:Nat.beq a b with
    |false=>rfl
    |true=>exact absurd (bX hb) h
  simp only[bY];rw[jO,L' hxy (own:=t),jO,jO];by_cases h1:j=y
  .subst h1
   simp only[bq,decide_true,cond_true];by_cases h2:k=x
   .simp[h2]
   .by_cases h3:k=j
    .subst h3;simp[h2,Ne.symm h2,hxy]
    .simp[h2,h3]
  .by_cases h4:j=x
   .subst h4
    simp only[bq,h1,decide_false,cond_false,decide_true,cond_true];by_cases h2:k=y
    .subst h2;simp[Ne.symm h1]
    .by_cases h3:k=j
     .subst h3;simp[h1]
     .simp[h2,h3]
   .simp only[bq,h1,h4,decide_false,cond_false]
    by_cases h2:k=j
    .subst h2;simp[h1,h4]
    .by_cases h3:k=x
     .subst h3;simp[h2]
     .by_cases h5:k=y
      .subst h5;simp[h2,h3,Ne.symm h4]
      .simp[h2,h3,h5]
def H0{x y:Nat}(hxy:x≠y){ρ:NE}{G:Gh}{f:FX}{v:Value}(h:ce ρ G f v):ce (fun k=>if k=y then ρ x else ρ k) G (td x y f) v:=by
 have key: ∀m:Nat,Nat.beq m y=false->(fun k=>if k=y then ρ x else ρ k) m=ρ m:=fun m hm=>if_neg fun e=>by subst e;simp at hm
 cases f with
 |rw m=>
  simp only[td]
  cases hb:Nat.beq m x with
  |true=>cases bX hb;simp only[cond_true];show v=_;simp;exact h
  |false=>
   cases hb':Nat.beq m y with
   |true=>trivial
   |false=>simp only[cond_false];show v=_;rw[key m hb'];exact h
 |ov m off=>
  simp only[td]
  cases hb:Nat.beq m x with
  |true=>cases bX hb;simp only[cond_true];obtain⟨b,h1,h2⟩:=h;exact⟨b,by simp;exact h1,h2⟩
  |false=>
   cases hb':Nat.beq m y with
   |true=>trivial
   |false=>simp only[cond_false];obtain⟨b,h1,h2⟩:=h;exact⟨b,by rw[key m hb'];exact h1,h2⟩
 |be m s i j=>
  simp only[td]
  cases hb:Nat.beq m x with
  |true=>cases bX hb;simp only[cond_true];obtain⟨b,h1,h2⟩:=h;exact⟨b,by simp;exact h1,h2⟩
  |false=>
   cases hb':Nat.beq m y with
   |true=>trivial
   |false=>simp only[cond_false];obtain⟨b,h1,h2⟩:=h;exact⟨b,by rw[key m hb'];exact h1,h2⟩
 |rs m s i j=>
  simp only[td]
  cases hb:Nat.beq m x with
  |true=>cases bX hb;simp only[cond_true];obtain⟨b,c,h1,h2⟩:=h;exact⟨b,c,by simp;exact h1,h2⟩
  |false=>
   cases hb':Nat.beq m y with
   |true=>trivial
   |false=>simp only[cond_false];obtain⟨b,c,h1,h2⟩:=h;exact⟨b,c,by rw[key m hb'];exact h1,h2⟩
 |bx tp pre m post=>
  simp only[td]
  cases hb:Nat.beq m x with
  |true=>cases bX hb;simp only[cond_true];obtain⟨m1,m2,e,h1,h2⟩:=h;exact⟨m1,m2,by simpa using e,h1,h2⟩
  |false=>
   cases hb':Nat.beq m y with
   |true=>trivial
   |false=>simp only[cond_false];obtain⟨m1,m2,e,h1,h2⟩:=h;exact⟨m1,m2,by rw[key m hb'];exact e,h1,h2⟩
 |_=>exact h
def LD{x y:Nat}(hxy:x≠y){ρ:NE}{G:Gh}: ∀{cs:List FX} {m:List Value},dB ρ G cs m->dB (fun k=>if k=y then ρ x else ρ k) G (cs.map (td x y)) m
 |[],m,h=>h
 |f::t,m,⟨v,q,e,h1,h2⟩=>⟨v,q,e,H0 hxy h1,LD hxy h2⟩
def AY(x y:Nat)(fr:aF)(own:bh):Option C9:=bif Nat.beq x y then none else FG (td x y) fr fun fr'=>Hc x y own fun own'=>some ⟨fr',own'⟩
def aIk{x y:Nat}{Φ:Act->World->Prop}{R:C9}(hy:Nat.blt y 2000000=true)(h:AY x y fr own=some R)(hk:SX GB C n (bi R.fr) (bC R.own) Φ):SX GB C n (bi fr) (bC own) Φ:=by
 unfold AY at h;rw[cond_eq_ite] at h;split at h<;>try (cases h;done)
 rename_i hb;have hxy:x≠y:=fun e=>hb (by subst e;simp);rw[IX,I4] at h;cases h;refine⟨fun ρ G ov a w r=>hk.run (fun k=>if k=y then ρ x else ρ k) G ov a w ?_⟩;have inv: ∀m B,bC (own.map fun e=>(bif Nat.beq e.1 y then x else bif Nat.beq e.1 x then y else e.1,bif Nat.beq e.1 y then none else tf x y e.2)) m=some B-> ∃m0 B0,bC own m0=some B0/\tf x y (some B0)=some B/\(m=y/\m0=x\/m≠y/\m≠x/\m0=m):=fun m B e=>by
  rw[L' hxy] at e;split at e
  .cases e
  .rename_i hm
   split at e
   .cases hl:bC own x with
    |none=>rw[hl] at e;cases e
    |some B0=>rw[hl] at e;exact⟨x,B0,hl,e, .inl ⟨ome,J⟩⟩
   .cases hl:bC own m with
    |none=>rw[hl] at e;cases e
    |some B0=>rw[hl] at e;exact⟨m,B0,hl,e, .inr ⟨ome,hm,J⟩⟩
 have rho: ∀m m0,(m=y/\m0=x\/m≠y/\m≠x/\m0=m)->(fun k=>if k=y then ρ x else ρ k) m=ρ m0:=fun m m0 h=>by
  rcases h with⟨h1,h2⟩|⟨h1,_,h2⟩
  .subst h1 h2;simp
  .subst h2;exact if_neg h1
 refine⟨r.gb,r.h,r.sz,r.df,fun k f e=>?_,fun m B e=>?_,fun m m' B B' e e' hne=>?_,fun m p h1 h2 e=>by
  have:y<2000000:=by simpa[lV] using hy
  show(if m=y then ρ x else ρ m).a=_;rw[if_neg we];exact r.fxd m p h1 h2 e⟩
 .rw[En] at e
  cases hf:bi fr k with
  |none=>rw[hf] at e;cases e
  |some g=>
   rw[hf] at e;cases e;obtain⟨v,h1,h2⟩:=r.fx k g hf;exact⟨v,h1,H0 hxy h2⟩
 .obtain⟨m0,B0,h1,h2,h3⟩:=inv m B e
  obtain⟨os,h4,h5⟩:=r.bx m0 B0 h1;refine⟨os,?_,h5⟩;have hr:=rho m m0 h3
  cases B0 with
  |b=>cases h2;obtain⟨vs,q1,q2,q3,q4⟩:=h4;exact⟨vs,by rw[hr];exact q1,q2,q3,q4⟩
  |c=>cases h2;obtain⟨vs,q1,q2,q3,q4,q5⟩:=h4;exact⟨vs,by rw[hr];exact q1,q2,q3,q4,by rw[hr];exact q5⟩
  |p=>cases h2;obtain⟨q0,vs,q1,q2,q3,q4⟩:=h4;exact⟨by rw[hr];exact q0,vs,q1,q2,q3,q4⟩
  |o ty cs lo=>cases h2;obtain⟨b,q,q1,q2,q3⟩:=h4;exact⟨b,q,by rw[hr];exact q1,q2,LD hxy q3⟩
 .obtain⟨m0,B0,h1,_,h3⟩:=inv m B e
  obtain⟨m1,B1,h4,_,h6⟩:=inv m' B' e';have q1:=rho m m0 h3;have q2:=rho m' m1 h6;simp only at q1 q2;rw[q1,q2];refine r.dj m0 m1 B0 B1 h1 h4 fun e=>?_;rcases h3 with⟨h7,h8⟩|⟨h7,h8,h9⟩<;>rcases h6 with⟨g7,g8⟩|⟨g7,g8,g9⟩
  .exact hne (h7.trans g7.symm)
  .exact g8 (by rw[<-g9,<-e,h8])
  .exact h8 (by rw[<-h9,e,g8])
  .exact hne (by rw[<-h9,e,g9])
def ek(x y:Nat){fr1:aF}{own1:bh}{e:Exit}(h:AY x y fr own=some ⟨fr1,own1⟩)(k:av prog GB C n Q0 fr1 own1 (.ex e K))(hy:Nat.blt y 2000000=true:=by rfl):av prog GB C n Q0 fr own (.ex e K):=aIk hy h k
def Ys{d nm:Nat}(hnm:Nat.blt nm 2000000=true)(hl:bi fr d=some .nl){Φ:Act->World->Prop}{ty s:Nat}(hf:kE [nm] none (bi fr) (bC own))(h:SX GB C n (bi ((d, .rw nm)::fr)) (bC (oF own nm (some (.b ty s [] true)))) Φ):SX GB C n (bi fr) (bC own) Φ:=by
 refine⟨fun ρ G ov a w r=>?_⟩;obtain⟨f1,f2⟩:=hf nm aQ;have hset:bC (oF own nm (some (.b ty s [] true)))=upB (bC own) [(nm,some (.b ty s [] true))]:=by funext j;rw[Cm];rfl
 rw[hset] at h;refine h.run (fun k=>if k=nm then⟨none,0,0⟩ else ρ k) G ov a w ⟨r.gb,r.h,r.sz,r.df,fun k f e=>?_,fun m B e=>?_,fun m m' B B' e e' hne=>?_,fun m p h1 h2 e=>by
  have:nm<2000000:=by simpa[lV] using hnm
  show(if m=nm then(⟨none,0,0⟩:SV) else ρ m).a=_;rw[if_neg we];exact r.fxd m p h1 h2 e⟩
 .rw[kH] at e
  split at e
  .cases e;rename_i hk;subst hk
   obtain⟨v,h1,h2⟩:=r.fx _ _ hl;exact⟨v,h1,by rw[show v=_ from h2];show _=_;simp⟩
  .obtain⟨v,h1,h2⟩:=r.fx k f e
   exact⟨v,h1,h2.ren fun m hm=>wl _ fun hc=>f1 k f omc e (by rw[hm,hc])⟩
 .simp only[upB] at e
  by_cases hm:m=nm
  .subst hm;simp only[if_true] at e;cases e
   exact⟨[],⟨[],by simp only[if_true];exact .inl ⟨J,J,J⟩, .nil,omc,fun _ o ho=>by cases ho⟩,fun o ho=>by cases ho⟩
  .simp only[hm,if_false] at e
   obtain⟨os,h1,h2⟩:=r.bx m B e;exact⟨os,h1.ren (if_neg hm) fun q hq=>wl _ fun hc=>f2 m B hm e ozb,h2⟩
 .simp only[upB] at e e'
  intro b hb hb';by_cases hm:m=nm
  .simp[hm] at hb
  .by_cases hm':m'=nm
   .simp[hm'] at hb'
   .simp only[hm,hm',if_false] at e e' hb hb'
    exact r.dj m m' B B' e e' hne b hb hb'
def nr(d nm ty s:Nat){own1:bh}{c:Code}(hl:bi fr d=some .nl)(hf:vv [nm] none fr own=true)(ho:yo own nm (some (.b ty s [] true)) id=own1)(k:av prog GB C n Q0 ((d, .rw nm)::fr) own1 (.code c K))(hnm:Nat.blt nm 2000000=true:=by rfl):av prog GB C n Q0 fr own (.code c K):=by
 subst ho;exact Ys hnm hl (Ck hf) k
def lg:List (Option DV)->Nat->List DV
 |[],_=>[]
 |some d::t,b=>d::lg t b
 |none::t,b=> .v (.pointer (some ⟨b,0,none⟩))::lg t b
def F7(lk:LK):List Operand->Option (Option Nat×List (Option DV))
 |[]=>some (none,[])
 |x::t=>match bt lk x,F7 lk t with
  |some (.ov nm 0),some (none,l)=>some (some nm,none::l)
  |some f,some (q,l)=>match ki f with
   |some d=>some (q,some d::l)
   |none=>none
  |_,_=>none
def MN(lk:LK)(fo:Operand)(args:Array Operand):Option (FuncId×Nat×List (Option DV)):=match bt lk fo with
 |some (.d (.v (.func (.func f) ⟨[]⟩ ⟨[]⟩)))=>match F7 lk args.toList with
  |some (some nm,l)=>some (f,nm,l)
  |_=>none
 |_=>none
def K9{lk:LK}{bk:BM}{ρ:NE}{G:Gh}{ov:List aA}{a:Act}{w:World}(r:bP GB C n lk bk ρ G ov a w){b:Nat}: ∀{x:List Operand} {q:Option Nat} {l:List (Option DV)},F7 lk x=some (q,l)->(∀nm,q=some nm->(ρ nm).a=some ⟨b,0,none⟩)->
  ∃y,fI (cG a) x=some y/\IsLs G (lg l b) y
 |[],q,l,e,_=>by cases e;exact⟨[],J, .nil⟩
 |x::t,q,l,e,hb=>by
  simp only[F7] at e;split at e
  .rename_i nm l' h1 h2
   cases e
   obtain⟨y,h3,b',h4,rfl⟩:=r.ev h1;have:=hb nm J;rw[h4] at this;cases this;obtain⟨ys,h5,h6⟩:=K9 r (b:=b) h2 (fun nm e=>by cases e);exact⟨_::ys,by simp only[fI,h3,h5], .cons ((aP (G:=G)).2 J) h6⟩
  .rename_i f q' l' _ h1 h2
   cases hd:ki f with
   |none=>rw[hd] at e;cases e
   |some d=>
   rw[hd] at e;cases e;obtain⟨y,h3,h4⟩:=r.ev h1;obtain⟨ys,h5,h6⟩:=K9 r (b:=b) h2 hb;exact⟨y::ys,by simp only[fI,h3,h5], .cons (mI h4 hd) h6⟩
  .cases e
def bP.lend{lk:LK}{bk:BM}{ρ:NE}{G:Gh}{ov:List aA}{a:Act}{w:World}{nm:Nat}{ty:TypeId}{cs:List FX}{lo:Bool}{csd:List DV}(r:bP GB C n lk bk ρ G ov a w)(hb:bk nm=some (.o ty cs lo))(hc:jz cs=some csd):
  ∃b m rest,(ρ nm).a=some ⟨b,0,none⟩/\IsLs G csd m/\ov.Perm ([⟨b,m,ty,lo⟩]++rest)/\ ∀o∈ov,o.b≠b->o∈rest:=by
 obtain⟨os,⟨b,m,h1,rfl,h2⟩,h3⟩:=r.bx _ _ hb;obtain⟨l1,l2,rfl⟩:=mL (h3 _ aQ);refine⟨b,m,l1++l2,h1,tr h2 hc,pQ,fun o ho hne=>?_⟩;rcases bZ.1 ho with ho|ho
 .exact bU _ ho
 .rcases aW.1 ho with rfl|ho
  .exact absurd J hne
  .exact bQ _ ho
def aAl{P:Program}{lk:LK}{bk:BM}{fo:Operand}{args:Array Operand}{tys:Array TypeId}{f:FuncId}{nm:Nat}{l:List (Option DV)}{rv:DV}{dst:Option Nat}{ty ty0:TypeId}{pos:String}{af:Array Edge}{gd:Option (Nat×Bool)}{cs:List FX}{csd cs':List DV}{lo:Bool}
  (ha:MN lk fo args=some (f,nm,l))(hb:bk nm=some (.o ty0 cs lo))(hc:jz cs=some csd)(hF: ∀b,PM GB P f (lg l b) b ty0 csd rv cs'){csx:List FX}(hx:cs'.map .d=csx):b9 P GB C n lk bk ⟨dst, .call ⟨.value fo,args,tys⟩,ty,pos,af,gd⟩ (.d rv) [(nm,some (.o ty0 csx lo))] []:=by
 intro hd tl tb K' s1 s2 hf hk;refine⟨fun ρ G ov a w r Q=>?_⟩;subst hx;have r1:=r.mono s1 s2;unfold MN at ha;split at ha<;>try (cases ha;done)
 rename_i h1;split at ha<;>cases ha;rename_i h2;obtain⟨y,hy,hy'⟩:=r1.ev h1;rw[(aP (G:=G)).1 hy'] at hy;obtain⟨b,m,rest,h3,h4,h5,h6⟩:=r1.lend hb hc;obtain⟨vs,h7,h8⟩:=K9 r1 (b:=b) h2 (fun nm e=>by cases e;exact h3);refine zz (M:=[⟨b,m,ty0,lo⟩]) (rest:=rest) hy h7 h5 (hF b G vs m lo r.gb h8 h4) hd (fun v css G' hG hl hK a' w' rl=>?_) a w Q ⟨r.h,r.sz,c7 a,r.df⟩;obtain⟨hr,m',rfl,hm'⟩:=hK;have rl':io C n (Sx.put (cG a) dst v) (⟨b,m',ty0,lo⟩::rest) G' a' w':=rl;have r2:=r.upB (G':=G') (ov':=⟨b,m',ty0,lo⟩::rest) (w':=w') (B':= .o ty0 (cs'.map .d) lo) (os:=[⟨b,m',ty0,lo⟩]) hG.le rl'.h ⟨b,m',h3,J,wm hm'⟩ (fun o ho=>by rw[aT.1 ho];exact aQ)
  (fun o ho hne=>aJ _ (h6 o ho fun e=>hne (by rw[h3,e]))) ⟨_,s2 _ _ hb⟩
 exact hk.run ρ G' _ a' w' (r2.put (f:= .d rv) hr (kj rl'))
structure Wn where
 f:FuncId
 nm:Nat
 l:List (Option DV)
 ty:TypeId
 cs:List DV
 lo:Bool
def R7(fr:aF)(own:bh)(cf:Cf):Option Wn:=match di fr cf with
 |some ⟨_, .call ⟨.value fo,args,_⟩,_,_,_,_⟩=>match MN (ck fr cf) fo args with
  |some (f,nm,l)=>match jo fr own cf nm with
   |some (.o ty cs lo)=>match jz cs with
    |some csd=>some ⟨f,nm,l,ty,csd,lo⟩
    |none=>none
   |_=>none
  |none=>none
 |_=>none
def As{α:Type}:List DV->(List FX->α)->α
 |[],k=>k []
 |d::t,k=>As t fun t'=>k (.d d::t')
def Gs{α:Type}: ∀{l:List DV} {k:List FX->α},As l k=k (l.map .d)
 |[],k=>rfl
 |d::t,k=>by simp only[As];rw[Gs];rfl
def cm[fu:Fu]{f:FuncId}{nm:Nat}{l:List (Option DV)}{ty:TypeId}{cs cs':List DV}{lo:Bool}{rv:DV}(ha:R7 fr own cf=some ⟨f,nm,l,ty,cs,lo⟩)(hF: ∀b,PM GB prog f (lg l b) b ty cs rv cs')
  (hgo:(As cs' fun csx=>c6 tt n fu.n fr own cf (.d rv) [(nm,some (.o ty csx lo))] [])=⟨vc,fr',own',cf'⟩)(k:av prog GB C n Q0 fr' own' cf')
  (hv:autoParam (ak vc) fn._auto_1):av prog GB C n Q0 fr own cf:=by
 unfold R7 at ha;split at ha<;>try (cases ha;done)
 rename_i hh;split at ha<;>try (cases ha;done)
 rename_i h1;split at ha<;>try (cases ha;done)
 rename_i h2;split at ha<;>cases ha;rename_i h3;rw[Gs] at hgo;exact us hh (aAl h1 h2 h3 hF J) hgo hv k
abbrev NM:Nat:=1000000
def AL:Nat->List (Option DV)->aF
 |_,[]=>[]
 |i,some v::t=>(i, .d v)::AL (i+1) t
 |i,none::t=>(i, .ov NM 0)::AL (i+1) t
def Jd(b:Nat): ∀l:List (Option DV),(lg l b).length=l.length
 |[]=>rfl
 |some d::t=>by simp[lg,Jd b t]
 |none::t=>by simp[lg,Jd b t]
def I8{b:Nat}{ρ:NE}{G:Gh}(hρ:(ρ NM).a=some ⟨b,0,none⟩): ∀{ds:List (Option DV)} {vs:List Value} (i:Nat),IsLs G (lg ds b) vs-> ∀k f,bi (AL i ds) k=some f-> ∃y,(∃j,k=i+j/\vs[j]? =some y)/\ce ρ G f y
 |[],vs,i,h,k,f,e=>by cases e
 |some d::t,vs,i,h,k,f,e=>by
  obtain⟨y,m,rfl,h1,h2⟩:=bA.1 h;simp only[AL] at e;rw[kH] at e;split at e
  .cases e;rename_i hk;exact⟨y,⟨0,hk,rfl⟩,h1⟩
  .obtain⟨u,⟨j,hj,hu⟩,h3⟩:=I8 hρ (i+1) h2 k f e
   exact⟨u,⟨j+1,we,by simpa using hu⟩,h3⟩
 |none::t,vs,i,h,k,f,e=>by
  obtain⟨y,m,rfl,h1,h2⟩:=bA.1 h;simp only[AL] at e;rw[kH] at e;split at e
  .cases e;rename_i hk;exact⟨y,⟨0,hk,rfl⟩,b,hρ,(aP (G:=G)).1 h1⟩
  .obtain⟨u,⟨j,hj,hu⟩,h3⟩:=I8 hρ (i+1) h2 k f e
   exact⟨u,⟨j+1,we,by simpa using hu⟩,h3⟩
def Ih(C:aH)(b:Nat)(m:List Value)(ty:TypeId)(lo:Bool)(rv:DV)(cs':List DV):Ending->World->Prop:=DI C [⟨b,m,ty,lo⟩] (fun v css G'=>Is G' rv v/\ ∃m',css=[m']/\IsLs G' cs' m')
def Au[fu:Fu]{b:Nat}{f:FuncId}{fb:Func}{c:Code}{k:Nat}{l:List (Option DV)}{cs cs':List DV}{ty:TypeId}{rv:DV}(hf:prog.funcs[f]? =some fb)(hb:fb.body=some c)(hn:(fb.name== "runtime.NumGoroutine")=false)(hm:fb.ntmps=k)(hlen:Nat.ble l.length k=true)
  (hgo:(As cs fun csx=>go tt k fu.n [] (AL 0 l) [(NM,some (.o ty csx false))] (.code c []))=⟨vc,fr,own,cf⟩)(h: ∀C b m lo,C.mb=[b]->av prog GB C k (fC C prog fb (Ih C b m ty lo rv cs')) fr own cf)
  (hv:autoParam (ak vc) fn._auto_1):PM GB prog f (lg l b) b ty cs rv cs':=by
 intro G vs m lo hg hvs hm';refine kD.introR hf hb hn hm (by rw[hvs.len,Jd];exact hlen) fun C _ hmb hrd hfx=>?_;intro a w rl;refine wh hrd ?_;rw[Gs] at hgo;have h1:=gn (GB:=GB) (C:=C) (Q0:=fC C prog fb (Ih C b m ty lo rv cs')) hgo hv (h C b m lo (by simpa using hmb));refine h1.run (fun _=>⟨some ⟨b,0,none⟩,0,0⟩) G [⟨b,m,ty,false⟩] a w ⟨hg,rl.h,rl.sz,rl.df,fun k f e=>?_,fun nm B e=>?_,fun nm nm' B B' e e' hne=>?_,fun nm p _ _ e=>by rw[hfx] at e;cases e⟩
 .obtain⟨y,⟨j,hj,hy⟩,h2⟩:=I8 (ρ:=fun _=>⟨some ⟨b,0,none⟩,0,0⟩) (b:=b) rfl 0 hvs k f e
  refine⟨y,rl.fr k y ?_,h2⟩;rw[hj];exact zy vs 0 j y hy
 .rw[jO] at e
  split at e
  .cases e;exact⟨[⟨b,m,ty,false⟩],⟨b,m,J,J,wm hm'⟩,fun o ho=>ho⟩
  .cases e
 .rw[jO] at e e'
  split at e<;>split at e'
  .rename_i h2 h3;exact absurd (h2.trans h3.symm) hne
  .cases e'
  .cases e
  .cases e
def Ph(own:bh)(nm:Nat):Option (TypeId×List DV):=match bC own nm with
 |some (.o ty cs false)=>match jz cs with
  |some l=>some (ty,l)
  |none=>none
 |_=>none
def oo{fb:Func}{b:Nat}{m:List Value}{ty:TypeId}{lo:Bool}{ds cs1 cs':List DV}{rv:DV}(hmb:C.mb=[b])(hr:sh tt fr own fb.results.toList=some ds)(ho:Ph own NM=some (ty,cs1))(hd:fy ds=rv)(hc:cs1=cs'):
  av prog GB C n (fC C prog fb (Ih C b m ty lo rv cs')) fr own (.ex .ret []):=by
 refine⟨fun ρ G ov a w r=>?_⟩;obtain⟨vs,h1,h2⟩:=EL r hr;have hk:Is G rv (pf vs):=hd▸Ea h2;unfold Ph at ho;split at ho<;>try (cases ho;done)
 rename_i hb;split at ho<;>cases ho;rename_i hl;obtain⟨b',m',rest,h3,h4,h5,h6⟩:=r.lend hb hl;have hbb:b'=b:=by
  have:=(r.h.hown _ (h5.mem_iff.2 (bU _ aQ))).2.2.2 J;rw[hmb] at this;simpa using this
 subst hbb hc;exact t6 (C:=C) (n:=n) (fr:=cG a) (own:=ov) (G:=G) (M:=[⟨b',m,ty,lo⟩]) (css:=[m']) (K:=fun v css G'=>Is G' rv v/\ ∃m',css=[m']/\IsLs G' cs1 m') h1 J ([⟨b',m',ty,false⟩]++rest) h5 (oS _ _) ⟨hk,m',J,h4⟩ a w ⟨r.h,r.sz,c7 a,r.df⟩
end
section
variable {GB:Gh} {C:aH} {n:Nat} {fr1 fr2:aF} {own1 own2:bh} {cf1 cf2:Cf} {vc1 vc2:List Prop} {Q0:Exit->Act->World->Prop} {fr fr':aF} {own own':bh} {cf cf':Cf} {vc:List Prop} {ops:Array Oper} {o:Oper} {K:List Kt} {r:List Oper}
def csd[fu1:Fu][fu2:Fu](d:Nat){p:Prop}{hp:Decidable p}(hl:bi fr d=some (.d (.v (.bool (@decide p hp)))))(g1:go tt n fu1.n [] ((d, .tt)::fr) own (.ops ops r K)=⟨vc1,fr1,own1,cf1⟩)(g2:go tt n fu2.n [] ((d, .ff)::fr) own (.ops ops r K)=⟨vc2,fr2,own2,cf2⟩)
  (k1:p->av prog GB C n Q0 fr1 own1 cf1)(k2: ¬p->av prog GB C n Q0 fr2 own2 cf2)
  (v1:p->ak vc1:=by intro;first|exact trivial|(simp only[ak];omega)|(simp only[ak,aX,bJ,aM];omega))(v2: ¬p->ak vc2:=by intro;first|exact trivial|(simp only[ak];omega)|(simp only[ak,aX,bJ,aM];omega)):av prog GB C n Q0 fr own (.ops ops r K):=
 ja (fu1:=fu1) (fu2:=fu2) d hl g1 g2 (fun h=>k1 (of_decide_eq_true h)) (fun h=>k2 (of_decide_eq_false h)) (fun h=>v1 (of_decide_eq_true h)) (fun h=>v2 (of_decide_eq_false h))
def Dl(d:Nat)(hl:bi fr d=some .nl){c:Code}(h:av prog GB C n Q0 ((d, .d (.sl []))::fr) own (.code c K)):av prog GB C n Q0 fr own (.code c K):=
 oq (g:= .d (.sl [])) hl (fun ρ G y hy=>(show Is G (.sl []) y from mI (ρ:=ρ) (f:= .nl) hy J)) h
def b9.to{lk:LK}{bk:BM}{o:Oper}{f g:FX}(h:b9 prog GB C n lk bk o f [] [])(e: ∀ρ G y,ce ρ G f y->ce ρ G g y):b9 prog GB C n lk bk o g [] []:=fun hd tl tb Q h1 h2 hf hk=>
 h hd tl tb Q h1 h2 hf ⟨fun ρ G ov a w r=>hk.run ρ G ov a w ⟨r.gb,r.h,r.sz,r.df,fun k f' e'=>by
  cases ho:o.dst with
  |none=>exact r.fx k f' (by simpa only[ho,eD] using e')
  |some d=>
   have hr:=r.fx;simp only[ho,eD] at e' hr;by_cases q:k=d
   .rw[if_pos q] at e';cases e'
    obtain⟨y,h3,h4⟩:=hr k f (by rw[if_pos q]);exact⟨y,h3,e _ _ _ h4⟩
   .rw[if_neg q] at e'
    exact hr k f' (by rw[if_neg q];exact e'),r.bx,r.dj,r.fxd⟩⟩
def AD(fr:aF)(own:bh)(cf:Cf):Option (Oper×FX):=match di fr cf with
 |some o=>match A5 tt (ck fr cf) (jo fr own cf) o.dst o.op with
  |some ⟨none,f,[],[]⟩=>some (o,f)
  |_=>none
 |none=>none
def jP[fu1:Fu][fu2:Fu]{f:FX}{p:Prop}{hp:Decidable p}(hs:AD fr own cf=some (o,f))(hb:ud f=some (@decide p hp))(g1:c6 tt n fu1.n fr own cf .tt [] []=⟨vc1,fr1,own1,cf1⟩)(g2:c6 tt n fu2.n fr own cf .ff [] []=⟨vc2,fr2,own2,cf2⟩)
  (k1:p->av prog GB C n Q0 fr1 own1 cf1)(k2: ¬p->av prog GB C n Q0 fr2 own2 cf2)
  (v1:p->ak vc1:=by intro;first|exact trivial|(simp only[ak];kernel_rfl)|(simp only[ak];omega)|(simp only[ak,aX,bJ,aM];omega))(v2: ¬p->ak vc2:=by intro;first|exact trivial|(simp only[ak];kernel_rfl)|(simp only[ak];omega)|(simp only[ak,aX,bJ,aM];omega)):av prog GB C n Q0 fr own cf:=by
 unfold AD at hs;split at hs<;>try (cases hs;done)
 rename_i o' hh;split at hs<;>cases hs;rename_i hc;obtain⟨dst,op,ty,pos,af,gd⟩:=o;have h0:=Bu (P:=prog) (GB:=GB) (C:=C) (n:=n) (ty':=ty) (pos:=pos) (af:=af) (gd:=gd) fi hc (fun p e=>by cases e);by_cases h:p
 .exact us hh (b9.to h0 fun ρ G y hy=>by rw[yn hy hb,decide_eq_true h];exact J) g1 (v1 h) (k1 h)
 .exact us hh (b9.to h0 fun ρ G y hy=>by rw[yn hy hb,decide_eq_false h];exact J) g2 (v2 h) (k2 h)
def Zi{tl:LK}{tb:BM}{Ψ:Act->World->Prop}{d:Nat}{B:Bk}{f:FX}{v:DV}
  (hz: ∀lk bk ρ G ov a w,bP GB C n lk bk ρ G ov a w->bk d=some B-> ∃G' ov',b7 G G'/\bI C ov' G' w/\(∀o∈ov,(ρ d).a≠some ⟨o.b,0,none⟩->o∈ov')/\ ∀y,ce ρ G f y->Is G' v y)(hk:SX GB C n (eD tl (some d) (.d v)) (Sx.upB tb [(d,none)]) Ψ):SX GB C n (eD tl (some d) f) (Sx.upB tb [(d,some B)]) Ψ:=by
 refine⟨fun ρ G ov a w r=>?_⟩;have hbd:Sx.upB tb [(d,some B)] d=some B:=by simp[Sx.upB]
 obtain⟨G',ov',h1,h2,h3,h4⟩:=hz _ _ ρ G ov a w r hbd;refine hk.run ρ G' ov' a w ⟨r.gb.trans h1,h2,r.sz,r.df,fun k g e=>?_,fun m B' e=>?_,fun m m' B1 B2 e e'=>?_,r.fxd⟩
 .by_cases hk:k=d
  .subst hk
   simp only[eD,if_true] at e;cases e;obtain⟨y,g1,g2⟩:=r.fx k f (by simp[eD]);exact⟨y,g1,h4 y g2⟩
  .simp only[eD,hk,if_false] at e
   obtain⟨y,g1,g2⟩:=r.fx k g (by simp[eD,hk,e]);exact⟨y,g1,g2.up h1⟩
 .simp only[Sx.upB] at e
  split at e
  .cases e
  .rename_i hm
   have e':Sx.upB tb [(d,some B)] m=some B':=by simp[Sx.upB,hm,e]
   obtain⟨os,g1,g2⟩:=r.bx m B' e';exact⟨os,g1.up h1,fun o ho=>h3 o (g2 o ho) fun hc=>r.dj m d B' B e' hbd hm _ (g1.blk ho) hc⟩
 .simp only[Sx.upB] at e e'
  split at e
  .cases e
  .rename_i hm
   split at e'
   .cases e'
   .rename_i hm'
    exact r.dj m m' B1 B2 (by simp[Sx.upB,hm,e]) (by simp[Sx.upB,hm',e'])
def b9.frz2{lk:LK}{bk:BM}{o:Oper}{d nm:Nat}{B:Bk}{f:FX}{v:DV}(hd:o.dst=some d)(h:b9 prog GB C n lk bk o f [(nm,none),(d,some B)] [d])
  (hz: ∀lk bk ρ G ov a w,bP GB C n lk bk ρ G ov a w->bk d=some B-> ∃G' ov',b7 G G'/\bI C ov' G' w/\(∀o∈ov,(ρ d).a≠some ⟨o.b,0,none⟩->o∈ov')/\ ∀y,ce ρ G f y->Is G' v y):b9 prog GB C n lk bk o (.d v) [(nm,none),(d,none)] [d]:=by
 intro hd' tl tb K s1 s2 hf hk;refine h hd' tl tb K s1 s2 hf ?_;rw[hd] at hk⊢;exact Zi (tb:=Sx.upB tb [(nm,none)]) hz hk
def Yb(d:Nat)(nm:Option Nat):List (Nat×Option Bk):=match nm with
 |some nm=>[(nm,none),(d,none)]
 |none=>[(d,none)]
def kz[fu:Fu]{d:Nat}{nm:Option Nat}{e s b:Nat}{ds ds2:List DV}(ds':List DV)(h:He fr own cf=some ⟨d,nm,e,s,b,ds,ds2⟩)(hds:ds++ds2=ds')(ho2:cO s ds2)(hgo:c6 tt n fu.n fr own cf (.d (.sl ds')) (Yb d nm) [d]=⟨vc,fr',own',cf'⟩)(k:av prog GB C n Q0 fr' own' cf')
  (ho:nm.isNone=true->cO s ds/\0<ds2.length:=by intro h;first|(cases h;done)|exact⟨F3 rfl,omc⟩)(hbd:(ds.length+ds2.length)*b<=140737488355328:=by simp;omega)
  (hv:autoParam (ak vc) fn._auto_1):av prog GB C n Q0 fr own cf:=by
 obtain⟨o,h1,h2,h3⟩:=NG (GB:=GB) (C:=C) (n:=n) h ds' hds ho ho2 hbd
 cases nm with
 |none=>exact us h1 (h3.frzRow h2) hgo hv k
 |some nm=>exact us h1 (b9.frz2 h2 h3 fun _ _ _ _ _ _ _ r hb=>r.frzRow hb) hgo hv k
def d7[fu:Fu]{f:FX}(hs:AD fr own cf=some (o,f))(hb:ud f=some true)(hgo:c6 tt n fu.n fr own cf .tt [] []=⟨vc,fr',own',cf'⟩)(k:av prog GB C n Q0 fr' own' cf')
  (hv:autoParam (ak vc) fn._auto_1):av prog GB C n Q0 fr own cf:=by
 unfold AD at hs;split at hs<;>try (cases hs;done)
 rename_i o' hh;split at hs<;>cases hs;rename_i hc;obtain⟨dst,op,ty,pos,af,gd⟩:=o;have h0:=Bu (P:=prog) (GB:=GB) (C:=C) (n:=n) (ty':=ty) (pos:=pos) (af:=af) (gd:=gd) fi hc (fun p e=>by cases e);exact us hh (b9.to h0 fun ρ G y hy=>by rw[yn hy hb];exact J) hgo hv k
def cv[fu:Fu]{f:FX}(hs:AD fr own cf=some (o,f))(hb:ud f=some false)(hgo:c6 tt n fu.n fr own cf .ff [] []=⟨vc,fr',own',cf'⟩)(k:av prog GB C n Q0 fr' own' cf')
  (hv:autoParam (ak vc) fn._auto_1):av prog GB C n Q0 fr own cf:=by
 unfold AD at hs;split at hs<;>try (cases hs;done)
 rename_i o' hh;split at hs<;>cases hs;rename_i hc;obtain⟨dst,op,ty,pos,af,gd⟩:=o;have h0:=Bu (P:=prog) (GB:=GB) (C:=C) (n:=n) (ty':=ty) (pos:=pos) (af:=af) (gd:=gd) fi hc (fun p e=>by cases e);exact us hh (b9.to h0 fun ρ G y hy=>by rw[yn hy hb];exact J) hgo hv k
def FJ(nm:Nat){ty:TypeId}{cs:List FX}{lo:Bool}{ds:List DV}{own1:bh}{e:Exit}(hb:bC own nm=some (.o ty cs lo))(hc:jz cs=some ds)(ho:(nm,some (.o ty (ds.map .d) lo))::own=own1)(k:av prog GB C n Q0 fr own1 (.ex e K)):av prog GB C n Q0 fr own (.ex e K):=by
 subst ho;have old: ∀m B,bC ((nm,some (.o ty (ds.map .d) lo))::own) m=some B-> ∃B0,bC own m=some B0:=fun m B e=>by
  rw[jO] at e;split at e
  .rename_i h;subst h;exact⟨_,hb⟩
  .exact⟨_,e⟩
 refine⟨fun ρ G ov a w r=>k.run ρ G ov a w ⟨r.gb,r.h,r.sz,r.df,r.fx,fun m B e=>?_,fun m m' B B' e e'=>?_,r.fxd⟩⟩
 .rw[jO] at e
  split at e
  .rename_i h;subst h;cases e
   obtain⟨os,⟨b,m,h1,rfl,h2⟩,h3⟩:=r.bx _ _ hb;exact⟨_,⟨b,m,h1,J,wm (tr h2 hc)⟩,h3⟩
  .exact r.bx _ _ e
 .obtain⟨B0,h0⟩:=old _ _ e
  obtain⟨B1,h1⟩:=old _ _ e';exact r.dj m m' B0 B1 h0 h1
end
section
variable {GB:Gh} {C:aH} {n:Nat} {Q0:Exit->Act->World->Prop} {fr fr':aF} {own own':bh} {cf cf':Cf} {vc:List Prop} {ops:Array Oper} {o:Oper} {K:List Kt} {r:List Oper}
def Vf(GB:Gh)(C:aH)(n:Nat)(lk:LK)(bk:BM)(o:Oper)(ι:Type)(f:ι->FX)(bl:ι->List (Nat×Option Bk))(nw:List Nat):Prop:=
 co n o.dst=true-> ∀(tl:LK) (tb:BM) (K:Act->World->Prop),ks lk tl->ks bk tb->kE nw o.dst tl tb->(∀x,SX GB C n (eD tl o.dst (f x)) (Sx.upB tb (bl x)) K)->SX GB C n tl tb (fun a w=> ∀Q,o.wp prog a w K Q)
def MH(n q:Nat)(fr:aF)(own:bh)(cf:Cf)(f:FX)(bl:List (Nat×Option Bk)):Bd:=match cf with
 | .ops ops (o::r) K=>r9 own bl fun own'=>Bw fr o.dst f fun fr'=>go tt n q [] fr' own' (.ops ops r K)
 |_=>qe
def ID(n:Nat)(fr:aF)(own:bh)(cf:Cf)(nw:List Nat):Bool:=match cf with
 | .ops ops (o::_) _=>vv nw o.dst fr own&&co n o.dst&&xu ops (bi fr) o.guard
 |_=>false
def usF{q:Nat}{ι:Type}{f:ι->FX}{bl:ι->List (Nat×Option Bk)}{nw:List Nat}{vc:ι->List Prop}{fr':ι->aF}{own':ι->bh}{cf':ι->Cf}(hh:di fr cf=some o)(ho:ID n fr own cf nw=true)(h:Vf GB C n (ck fr cf) (jo fr own cf) o ι f bl nw)
  (hgo: ∀x,MH n q fr own cf (f x) (bl x)=⟨vc x,fr' x,own' x,cf' x⟩)(hv: ∀x,ak (vc x))(k: ∀x,av prog GB C n Q0 (fr' x) (own' x) (cf' x)):av prog GB C n Q0 fr own cf:=by
 obtain⟨ops,h1,h2⟩:=K5 hh
 cases cf with
 |ops ops' r K=>
  cases r with
  |nil=>cases h1
  |cons o' r=>
   cases h1
   simp only[ID,bT] at ho;refine⟨fun ρ G ov a w rl=>?_⟩;show wpListIn _ _ _ _ _ (o::r) a w;unfold wpListIn;rw[if_pos (Hy ho.2 ρ G ov a w rl)];refine My ((h ho.1.2 _ _ (fun a w=>a.defers=C.mks/\wpListIn (FW C.rd) 0 prog ops (cQ C.rd prog Q0 K) r a w) (ks.refl _) (ks.refl _) (Ck ho.1.1) (fun x=>?_)).run ρ G ov a w rl) fun a' w' k=>⟨k.1.trans rl.df.symm,k.2⟩;refine⟨fun ρ G ov a w r0=>⟨r0.df,SX.run (GB:=GB) (C:=C) (n:=n) ?_ ρ G ov a w r0⟩⟩;have hx:=hgo x;unfold MH at hx;simp only[yb,Dn] at hx;have:=gn (GB:=GB) (C:=C) (Q0:=Q0) hx (hv x) (k x);show SX GB C n (eD (bi fr) o.dst (f x)) (Sx.upB (bC own) (bl x)) _;rw[<-JK,<-Ga];exact this
 |_=>cases ho
def aAe{lk:LK}{bk:BM}{fo:Operand}{args:Array Operand}{tys:Array TypeId}{f:FuncId}{d:Nat}{ds:List DV}{ι:Type}{ty ty0:TypeId}{pos:String}{af:Array Edge}{gd:Option (Nat×Bool)}{cs':ι->List DV}
  (ha:vk lk fo args=some (f,ds))(hF:PN GB prog f ds ty0 ι cs'):Vf GB C n lk bk ⟨some d, .call ⟨.value fo,args,tys⟩,ty,pos,af,gd⟩ ι (fun _=> .ov d 0) (fun x=>[(d,some (.o ty0 ((cs' x).map .d) true))]) [d]:=by
 intro hd tl tb K' s1 s2 hf hk;refine⟨fun ρ G ov a w r Q=>?_⟩;have r1:=r.mono s1 s2;obtain⟨h1,h2⟩:=Ge ha;obtain⟨y,hy,hy'⟩:=r1.ev h1;rw[(aP (G:=G)).1 hy'] at hy;obtain⟨vs,h3,h4⟩:=r1.evDs h2;refine yc (M:=[]) (rest:=ov) hy h3 (List.Perm.refl _) (hF G vs r.gb h4) hd (fun v own1 G' hG hK a' w' rl=>?_) a w Q ⟨r.h,r.sz,c7 a,r.df⟩;obtain⟨x,b,m,rfl,rfl,hm⟩:=hK;have rl':io C n (Sx.put (cG a) (some d) (.pointer (some ⟨b,0,none⟩))) (⟨b,m,ty0,true⟩::ov) G' a' w':=by simpa[relo,iw] using rl
 have hnd:=(cZ.1 rl'.h.nd).1;exact(hk x).run _ G' _ a' w' (r.new (x:=⟨some ⟨b,0,none⟩,0,0⟩) (B':= .o ty0 ((cs' x).map .d) true) (os:=[⟨b,m,ty0,true⟩]) hf hG.le rl'.h ⟨b,m,omc,J,wm hm⟩ (fun o ho=>by rw[aT.1 ho];exact aQ)
  (fun o ho=>aJ _ ho) (fun o ho e=>by cases e;exact hnd o ho J) (f:= .ov d 0) (y:= .pointer (some ⟨b,0,none⟩)) ⟨b,omc,J⟩ (kj rl'))
def Uz(fr:aF)(cf:Cf):Option (FuncId×List DV×Nat):=match di fr cf with
 |some ⟨some d, .call ⟨.value fo,args,_⟩,_,_,_,_⟩=>match vk (ck fr cf) fo args with
  |some (f,ds)=>some (f,ds,d)
  |none=>none
 |_=>none
def cn[fu:Fu]{f:FuncId}{d:Nat}{ds:List DV}{ty:TypeId}{ι:Type}{cs':ι->List DV}{vc:ι->List Prop}{fr':ι->aF}{own':ι->bh}{cf':ι->Cf}(ha:Uz fr cf=some (f,ds,d))(hF:PN GB prog f ds ty ι cs')
  (hgo: ∀x,(As (cs' x) fun csx=>MH n fu.n fr own cf (.ov d 0) [(d,some (.o ty csx true))])=⟨vc x,fr' x,own' x,cf' x⟩)(k: ∀x,av prog GB C n Q0 (fr' x) (own' x) (cf' x))(ho:ID n fr own cf [d]=true:=by rfl)
  (hv: ∀x,ak (vc x):=by intro;first|exact trivial|(simp only[ak];kernel_rfl)|(simp only[ak];omega)|(simp only[ak,aX,bJ,aM];omega)):av prog GB C n Q0 fr own cf:=by
 unfold Uz at ha;split at ha<;>try (cases ha;done)
 rename_i hh;split at ha<;>cases ha;rename_i h1;simp only[Gs] at hgo;exact usF hh ho (aAe h1 hF) hgo hv k
end
section
variable {GB:Gh} {C:aH} {n:Nat} {Q0:Exit->Act->World->Prop} {fr fr':aF} {own own':bh} {cf cf':Cf} {vc:List Prop} {ops:Array Oper} {o:Oper} {K:List Kt} {r:List Oper}
end
section
variable {GB:Gh} {C:aH} {n:Nat} {Q0:Exit->Act->World->Prop} {fr fr':aF} {own own':bh} {cf cf':Cf} {vc:List Prop} {ops:Array Oper} {o:Oper} {K:List Kt} {r:List Oper}
def LE(C:aH)(ty:TypeId)(ι:Type)(cs:ι->List DV):Ending->World->Prop:=sF C (fun v own' G'=> ∃x b m,v= .pointer (some ⟨b,0,none⟩)/\own'=[⟨b,m,ty,true⟩]/\IsLs G' (cs x) m)
def WA[fu:Fu]{f:FuncId}{fb:Func}{c:Code}{m:Nat}{ds:List DV}{ty:TypeId}{ι:Type}{cs:ι->List DV}(hf:prog.funcs[f]? =some fb)(hb:fb.body=some c)(hn:(fb.name== "runtime.NumGoroutine")=false)(hm:fb.ntmps=m)(hlen:Nat.ble ds.length m=true)
  (hgo:go tt m fu.n [] (sD 0 ds) [] (.code c [])=⟨vc,fr,own,cf⟩)(k: ∀C:aH,C.mb=[]->av prog GB C m (fC C prog fb (LE C ty ι cs)) fr own cf)
  (hv:autoParam (ak vc) fn._auto_1):PN GB prog f ds ty ι cs:=by
 intro G vs hg hvs;refine iD.introR hf hb hn hm okE fun C _ hmb hrd hfx=>?_;intro a w rl;refine wh hrd ?_;have h:=gn (GB:=GB) (C:=C) (Q0:=fC C prog fb (LE C ty ι cs)) hgo hv (k C (by simpa using hmb));exact h.run (fun _=>⟨none,0,0⟩) G [] a w ⟨hg,rl.h,rl.sz,rl.df,(fun k f e=>A7 hvs rl.fr k f e),(fun nm B e=>by cases e),(fun nm nm' B B' e=>by cases e),fun nm p _ _ e=>by rw[hfx] at e;cases e⟩
theorem oke{p:Prop}(h:p:=by rw[hr];exact .tmp hy .nil):p:=h
def rzN{fb:Func}{t d:Nat}{ty:TypeId}{ι:Type}{cs:ι->List DV}{cs1:List FX}{l:List DV}(x:ι)(hr:fb.results.toList=[.tmp t])(hl:bi fr t=some (.ov d 0))(hw:bC own d=some (.o ty cs1 true))(hc:jz cs1=some l)(hd:l=cs x):
  av prog GB C n (fC C prog fb (LE C ty ι cs)) fr own (.ex .ret []):=by
 refine⟨fun ρ G ov a w r=>?_⟩;subst hd;obtain⟨b,m,rest,h3,h4,h5,h6⟩:=r.lend hw hc;obtain⟨y,hy,b',hb',hy'⟩:=r.ev (x:= .tmp t) (f:= .ov d 0) hl;rw[h3] at hb';cases hb';subst hy';exact Xt (C:=C) (n:=n) (fr:=cG a) (own:=ov) (G:=G) (vs:=[.pointer (some ⟨b,0,none⟩)]) oke (⟨b,m,ty,true⟩::rest) [⟨b,m,ty,true⟩] (by simpa using h5) (.cons_cons _ (jM _)) (fun _=>⟨x,b,m,J,J,h4⟩) a w ⟨r.h,r.sz,c7 a,r.df⟩
def GY[fu:Fu]{d:Nat}{l:List DV}(h:Qr fr cf=some (d,l))(hgo:c6 tt n fu.n fr own cf (.d (.pt l)) [(d,none)] [d]=⟨vc,fr',own',cf'⟩)(k:av prog GB C n Q0 fr' own' cf')
  (hv:autoParam (ak vc) fn._auto_1):av prog GB C n Q0 fr own cf:=by
 unfold Qr at h;split at h<;>try (cases h;done)
 rename_i hh;split at h<;>try (cases h;done)
 rename_i g hx;rw[cond_eq_ite] at h;split at h<;>try (cases h;done)
 rename_i hc;simp only[bT] at hc;split at h<;>cases h;rename_i hl;exact us hh (aFm hx hc.1 hc.2 hl) hgo hv k
end
section
variable {GB:Gh} {C:aH} {n:Nat} {Q0:Exit->Act->World->Prop} {fr fr':aF} {own own':bh} {cf cf':Cf} {vc:List Prop} {ops:Array Oper} {o:Oper} {K:List Kt} {r:List Oper}
def f7:List (Option DV)->SV->List DV
 |[],_=>[]
 |some d::t,w=>d::f7 t w
 |none::t,w=> .v (.slice w.a w.n w.c)::f7 t w
def ER(lk:LK):List Operand->Option (Option Nat×List (Option DV))
 |[]=>some (none,[])
 |x::t=>match bt lk x,ER lk t with
  |some (.rw nm),some (none,l)=>some (some nm,none::l)
  |some f,some (q,l)=>match ki f with
   |some d=>some (q,some d::l)
   |none=>none
  |_,_=>none
def CI(lk:LK)(fo:Operand)(args:Array Operand):Option (FuncId×Nat×List (Option DV)):=match bt lk fo with
 |some (.d (.v (.func (.func f) ⟨[]⟩ ⟨[]⟩)))=>match ER lk args.toList with
  |some (some nm,l)=>some (f,nm,l)
  |_=>none
 |_=>none
def Ed{lk:LK}{bk:BM}{ρ:NE}{G:Gh}{ov:List aA}{a:Act}{w:World}(r:bP GB C n lk bk ρ G ov a w){z:SV}: ∀{x:List Operand} {q:Option Nat} {l:List (Option DV)},ER lk x=some (q,l)->(∀nm,q=some nm->ρ nm=z)->
  ∃y,fI (cG a) x=some y/\IsLs G (f7 l z) y
 |[],q,l,e,_=>by cases e;exact⟨[],J, .nil⟩
 |x::t,q,l,e,hb=>by
  simp only[ER] at e;split at e
  .rename_i nm l' h1 h2
   cases e
   obtain⟨y,h3,h4⟩:=r.ev h1
   cases (show y=_ from h4)
   obtain⟨ys,h5,h6⟩:=Ed r (z:=z) h2 (fun nm e=>by cases e);have hz:=hb nm J;subst hz;exact⟨Value.slice (ρ nm).a (ρ nm).n (ρ nm).c::ys,by simp only[fI,h3,h5], .cons ((aP (G:=G)).2 J) h6⟩
  .rename_i f q' l' _ h1 h2
   cases hd:ki f with
   |none=>rw[hd] at e;cases e
   |some d=>
   rw[hd] at e;cases e;obtain⟨y,h3,h4⟩:=r.ev h1;obtain⟨ys,h5,h6⟩:=Ed r (z:=z) h2 hb;exact⟨y::ys,by simp only[fI,h3,h5], .cons (mI h4 hd) h6⟩
  .cases e
def aBp{lk:LK}{bk:BM}{fo:Operand}{args:Array Operand}{tys:Array TypeId}{f:FuncId}{nm d:Nat}{l:List (Option DV)}{s:Nat}{ty ty0:TypeId}{pos:String}{af:Array Edge}{gd:Option (Nat×Bool)}{dsi dso pre post:List DV}{lo:Bool}(hne:Nat.beq nm d=false)
  (ha:CI lk fo args=some (f,nm,l))(hb:bk nm=some (.b ty0 s dsi lo))(hF:PB GB prog f (f7 l) s ty0 dsi (fun w=> .tp (pre++ .v (.slice w.a w.n w.c)::post)) dso):b9 prog GB C n lk bk ⟨some d, .call ⟨.value fo,args,tys⟩,ty,pos,af,gd⟩ (.bx true pre d post) [(nm,none),(d,some (.b ty0 s dso lo))] [d]:=by
 intro hd tl tb K' s1 s2 hf hk;refine⟨fun ρ G ov a w r Q=>?_⟩;have r1:=r.mono s1 s2;unfold CI at ha;split at ha<;>try (cases ha;done)
 rename_i h1;split at ha<;>cases ha;rename_i h2;obtain⟨y,hy,hy'⟩:=r1.ev h1;rw[(aP (G:=G)).1 hy'] at hy;obtain⟨B,g1,g2⟩:=r1.bx _ _ hb;have hB:eg G ⟨ρ nm,s,ty0,dsi,lo⟩ B:=g1;obtain⟨vs,h7,h8⟩:=Ed r1 (z:=ρ nm) h2 (fun nm e=>by cases e;rfl);have hp: ∃rest,ov.Perm (B++rest)/\ ∀o∈ov,(∀o'∈B,o.b≠o'.b)->o∈rest:=by
  rcases hB with⟨vs',⟨_,_,e⟩|⟨b0,r0,lo0,_,e,_⟩,_⟩
  .rw[e];exact⟨ov,List.Perm.refl _,fun o ho _=>ho⟩
  .rw[e] at g2⊢
   obtain⟨l1,l2,e2⟩:=mL (g2 _ aQ);rw[e2];refine⟨l1++l2,pQ,fun o ho hno=>?_⟩;rcases bZ.1 ho with ho|ho
   .exact bU _ ho
   .rcases aW.1 ho with rfl|ho
    .exact absurd J (hno _ aQ)
    .exact bQ _ ho
 obtain⟨rest,h5,h6⟩:=hp;refine yc (M:=B) (rest:=rest) hy h7 h5 (hF G (ρ nm) vs B r.gb hB.weak h8) hd (fun v own1 G' hG hK a' w' rl=>?_) a w Q ⟨r.h,r.sz,c7 a,r.df⟩;obtain⟨z,hr,vs',k1,k2,k3,k4⟩:=hK;have k1':=k1.relo (iw B);have e2:lo=true-> ∀o∈own1.map (relo (iw B)),o.lo=true:=fun hl o ho=>by
  obtain⟨o',_,rfl⟩:=aU.1 ho;obtain⟨_,_,_,_,hlo⟩:=hB;exact HQ _ (hlo hl)
 generalize own1.map (relo (iw B))=B' at rl e2 k1';have rl':io C n (Sx.put (cG a) (some d) v) (B'++rest) G' a' w':=rl;have hdis:=(gN.1 rl'.h.nd).2.2;have r2:=r.dropB nm;have hnn:nm≠d:=fun e=>by subst e;rw[oY] at hne;cases hne
 have hf2:kE [d] (some d) tl (Sx.upB tb [(nm,none)]):=fun q hq=>by
  obtain⟨f1,f2⟩:=hf q hq;refine⟨f1,fun k B e1 e=>?_⟩;simp only[Sx.upB] at e;split at e
  .cases e
  .exact f2 k B e1 e
 have hsep: ∀q B0,Sx.upB tb [(nm,none)] q=some B0-> ∀o∈ov,(ρ q).a=some ⟨o.b,0,none⟩->o∈rest:=fun q B0 e o ho hbq=>by
  simp only[Sx.upB] at e;split at e
  .cases e
  .rename_i hqn
   refine h6 o ho fun o' ho' he=>?_;exact r.dj nm q _ _ (s2 _ _ hb) e (Ne.symm hqn) o'.b (g1.blk ho') (by rw[hbq,he])
 obtain⟨m,rfl,hm⟩:=mm.1 hr;obtain⟨m1,m2',rfl,c1,c2⟩: ∃m1 m2',m=m1++m2'/\IsLs G' pre m1/\IsLs G' (.v (.slice z.a z.n z.c)::post) m2':=IsLs.unapp hm;obtain⟨u,m2,rfl,c3,c4⟩:=bA.1 c2;rw[aP.1 c3] at rl';have r3:=r2.new' (x:=z) (B':= .b ty0 s dso lo) (os:=B') (ov':=B'++rest) (f:= .bx true pre d post) (y:= .tuple ⟨m1++Value.slice z.a z.n z.c::m2⟩) hf2 hG.le rl'.h ⟨vs',by simpa using k1',k2,k3,e2⟩ (fun o ho=>bU _ ho)
  (fun q B0 hq e o ho hbq=>⟨bQ _ (hsep q B0 e o ho hbq),fun hc=>by
   have hx: ∃o1∈B',o1.b=o.b:=by
    rcases k1' with⟨_,h,_⟩|⟨b0,rest0,lo0,h,hB,_⟩
    .rw[show z=_ from h] at hc;cases hc
    .rw[show z=_ from h] at hc;cases hc;exact⟨⟨_,aI vs'++rest0,_,lo0⟩,by rw[hB];exact aQ,J⟩
   obtain⟨o1,ho1,he1⟩:=hx;exact hdis o1 ho1 o (hsep q B0 e o ho hbq) he1⟩) ⟨m1,m2,omc,c1,c4⟩ (kj rl')
 exact hk.run _ G' _ a' w' r3
structure CbA where
 f:FuncId
 nm:Nat
 l:List (Option DV)
 ty:TypeId
 s:Nat
 ds:List DV
 lo:Bool
 d:Nat
def GD(fr:aF)(own:bh)(cf:Cf):Option CbA:=match di fr cf with
 |some ⟨some d, .call ⟨.value fo,args,_⟩,_,_,_,_⟩=>match CI (ck fr cf) fo args with
  |some (f,nm,l)=>match jo fr own cf nm with
   |some (.b ty s ds lo)=>bif Nat.beq nm d then none else some ⟨f,nm,l,ty,s,ds,lo,d⟩
   |_=>none
  |none=>none
 |_=>none
theorem okO{p:Prop}(h:p:=by cases hq:Nat.beq nm d with|false=>rfl|true=>exact absurd hq h3):p:=h
def cb[fu:Fu]{f:FuncId}{nm d:Nat}{l:List (Option DV)}{ty:TypeId}{s:Nat}{dsi dso pre post:List DV}{lo:Bool}(dso':List DV)(ha:GD fr own cf=some ⟨f,nm,l,ty,s,dsi,lo,d⟩)(hF:PB GB prog f (f7 l) s ty dsi (fun w=> .tp (pre++ .v (.slice w.a w.n w.c)::post)) dso)(he:dso=dso')
  (hgo:c6 tt n fu.n fr own cf (.bx true pre d post) [(nm,none),(d,some (.b ty s dso' lo))] [d]=⟨vc,fr',own',cf'⟩)(k:av prog GB C n Q0 fr' own' cf')
  (hv:autoParam (ak vc) fn._auto_1):av prog GB C n Q0 fr own cf:=by
 subst he;unfold GD at ha;split at ha<;>try (cases ha;done)
 rename_i hh;split at ha<;>try (cases ha;done)
 rename_i h1;split at ha<;>try (cases ha;done)
 rename_i h2;rw[cond_eq_ite] at ha;split at ha<;>cases ha;rename_i h3;exact us hh (aBp okO h1 h2 hF) hgo hv k
def zg:Nat->List (Option DV)->aF
 |_,[]=>[]
 |i,some v::t=>(i, .d v)::zg (i+1) t
 |i,none::t=>(i, .rw NM)::zg (i+1) t
def EM(w:SV): ∀l:List (Option DV),(f7 l w).length=l.length
 |[]=>rfl
 |some d::t=>by simp[f7,EM w t]
 |none::t=>by simp[f7,EM w t]
def FT{w:SV}{ρ:NE}{G:Gh}(hρ:ρ NM=w): ∀{ds:List (Option DV)} {vs:List Value} (i:Nat),IsLs G (f7 ds w) vs-> ∀k f,bi (zg i ds) k=some f-> ∃y,(∃j,k=i+j/\vs[j]? =some y)/\ce ρ G f y
 |[],vs,i,h,k,f,e=>by cases e
 |some d::t,vs,i,h,k,f,e=>by
  obtain⟨y,m,rfl,h1,h2⟩:=bA.1 h;simp only[zg] at e;rw[kH] at e;split at e
  .cases e;rename_i hk;exact⟨y,⟨0,hk,rfl⟩,h1⟩
  .obtain⟨u,⟨j,hj,hu⟩,h3⟩:=FT hρ (i+1) h2 k f e
   exact⟨u,⟨j+1,we,by simpa using hu⟩,h3⟩
 |none::t,vs,i,h,k,f,e=>by
  obtain⟨y,m,rfl,h1,h2⟩:=bA.1 h;simp only[zg] at e;rw[kH] at e;split at e
  .cases e;rename_i hk;exact⟨y,⟨0,hk,rfl⟩,by show y=_;rw[hρ];exact aP.1 h1⟩
  .obtain⟨u,⟨j,hj,hu⟩,h3⟩:=FT hρ (i+1) h2 k f e
   exact⟨u,⟨j+1,we,by simpa using hu⟩,h3⟩
def IW(C:aH)(s:Nat)(ty:TypeId)(pre post dso:List DV):Ending->World->Prop:=sF C (fun v own' G'=> ∃w',Is G' (.tp (pre++ .v (.slice w'.a w'.n w'.c)::post)) v/\eg G' ⟨w',s,ty,dso,false⟩ own')
def MI[fu:Fu]{f:FuncId}{fb:Func}{c:Code}{k s:Nat}{l:List (Option DV)}{dsi dso pre post:List DV}{ty:TypeId}(hf:prog.funcs[f]? =some fb)(hb:fb.body=some c)(hn:(fb.name== "runtime.NumGoroutine")=false)(hm:fb.ntmps=k)(hlen:Nat.ble l.length k=true)
  (hgo:go tt k fu.n [] (zg 0 l) [(NM,some (.b ty s dsi false))] (.code c [])=⟨vc,fr,own,cf⟩)(h: ∀C,av prog GB C k (fC C prog fb (IW C s ty pre post dso)) fr own cf)
  (hv:autoParam (ak vc) fn._auto_1):PB GB prog f (f7 l) s ty dsi (fun w=> .tp (pre++ .v (.slice w.a w.n w.c)::post)) dso:=by
 intro G w vs B hg hB hvs;refine iD.introR hf hb hn hm (by rw[hvs.len,EM];exact hlen) fun C _ hmb hrd hfx=>?_;intro a wd rl;refine wh hrd ?_;have h1:=gn (GB:=GB) (C:=C) (Q0:=fC C prog fb (IW C s ty pre post dso)) hgo hv (h C);refine h1.run (fun _=>w) G (Sx.asB B) a wd ⟨hg,rl.h,rl.sz,rl.df,fun k f e=>?_,fun nm B' e=>?_,fun nm nm' B' B2 e e' hne=>?_,fun nm p _ _ e=>by rw[hfx] at e;cases e⟩
 .obtain⟨y,⟨j,hj,hy⟩,h2⟩:=FT (ρ:=fun _=>w) (w:=w) rfl 0 hvs k f e
  refine⟨y,rl.fr k y ?_,h2⟩;rw[hj];exact zy vs 0 j y hy
 .rw[jO] at e
  split at e
  .cases e;exact⟨Sx.asB B,hB.asB,fun o ho=>ho⟩
  .cases e
 .rw[jO] at e e'
  split at e<;>split at e'
  .rename_i h2 h3;exact absurd (h2.trans h3.symm) hne
  .cases e'
  .cases e
  .cases e
def J0{B:List aA}{G:Gh}{w:SV}{s:Nat}{ty:TypeId}{ds:List DV}{lo:Bool}{ov:List aA}(h:eg G ⟨w,s,ty,ds,lo⟩ B)(g: ∀o∈B,o∈ov): ∃rest,ov.Perm (B++rest):=by
 rcases h with⟨vs',⟨_,_,e⟩|⟨b0,r0,lo0,_,e,_⟩,_⟩
 .rw[e];exact⟨ov,List.Perm.refl _⟩
 .rw[e] at g⊢
  obtain⟨l1,l2,e2⟩:=mL (g _ aQ);rw[e2];exact⟨l1++l2,pQ⟩
def JX{fb:Func}{t u d s:Nat}{ty:TypeId}{ds dso:List DV}{f:FX}{v v':DV}(hr:fb.results.toList=[.tmp t, .tmp u])(hl:bi fr t=some (.rw d))(hu:bi fr u=some f)(hd:ki f=some v)(hw:bC own d=some (.b ty s ds false))(ed:ds=dso)(ev:v=v'):
  av prog GB C n (fC C prog fb (IW C s ty [] [v'] dso)) fr own (.ex .ret []):=by
 subst ed ev;refine⟨fun ρ G ov a w r=>?_⟩;obtain⟨B,g1,g2⟩:=r.bx _ _ hw;have hB:eg G ⟨ρ d,s,ty,ds,false⟩ B:=g1;obtain⟨rest,hp⟩:=J0 hB g2;obtain⟨y,hy,hy'⟩:=r.ev (x:= .tmp t) (f:= .rw d) hl
 cases (show y=_ from hy')
 obtain⟨z,hz,hz'⟩:=r.ev (x:= .tmp u) (f:=f) hu;exact y4 (C:=C) (n:=n) (fr:=cG a) (own:=ov) (G:=G) (vs:=[.slice (ρ d).a (ρ d).n (ρ d).c,z]) (by rw[hr];exact .tmp hy (.tmp hz .nil)) (B++rest) B hp (oS _ _)
  ⟨ρ d,mm.2 ⟨_,J, .cons (aP.2 J) (.cons (mI hz' hd) .nil)⟩,hB⟩ a w ⟨r.h,r.sz,c7 a,r.df⟩
def ES(lk:LK):List Operand->Option (List (Option DV))
 |[]=>some []
 |x::t=>match bt lk x,ES lk t with
  |some .nl,some l=>some (none::l)
  |some f,some l=>match ki f with
   |some d=>some (some d::l)
   |none=>none
  |_,_=>none
def Lp(lk:LK)(fo:Operand)(args:Array Operand):Option (FuncId×List (Option DV)):=match bt lk fo with
 |some (.d (.v (.func (.func f) ⟨[]⟩ ⟨[]⟩)))=>match ES lk args.toList with
  |some l=>some (f,l)
  |_=>none
 |_=>none
def Lr{lk:LK}{bk:BM}{ρ:NE}{G:Gh}{ov:List aA}{a:Act}{w:World}(r:bP GB C n lk bk ρ G ov a w): ∀{x:List Operand} {l:List (Option DV)},ES lk x=some l-> ∃y,fI (cG a) x=some y/\IsLs G (f7 l ⟨none,0,0⟩) y
 |[],l,e=>by cases e;exact⟨[],J, .nil⟩
 |x::t,l,e=>by
  simp only[ES] at e;split at e
  .rename_i l' h1 h2
   cases e
   obtain⟨y,h3,h4⟩:=r.ev h1
   cases (show y=_ from h4)
   obtain⟨ys,h5,h6⟩:=Lr r h2;exact⟨Value.slice none 0 0::ys,by simp only[fI,h3,h5], .cons ((aP (G:=G)).2 J) h6⟩
  .rename_i f l' _ h1 h2
   cases hd:ki f with
   |none=>rw[hd] at e;cases e
   |some d=>
   rw[hd] at e;cases e;obtain⟨y,h3,h4⟩:=r.ev h1;obtain⟨ys,h5,h6⟩:=Lr r h2;exact⟨y::ys,by simp only[fI,h3,h5], .cons (mI h4 hd) h6⟩
  .cases e
def awo{lk:LK}{bk:BM}{fo:Operand}{args:Array Operand}{tys:Array TypeId}{f:FuncId}{d:Nat}{l:List (Option DV)}{s:Nat}{ty ty0:TypeId}{pos:String}{af:Array Edge}{gd:Option (Nat×Bool)}{dso pre post:List DV}
  (ha:Lp lk fo args=some (f,l))(hF:PB GB prog f (f7 l) s ty0 [] (fun w=> .tp (pre++ .v (.slice w.a w.n w.c)::post)) dso):b9 prog GB C n lk bk ⟨some d, .call ⟨.value fo,args,tys⟩,ty,pos,af,gd⟩ (.bx true pre d post) [(d,some (.b ty0 s dso true))] [d]:=by
 intro hd tl tb K' s1 s2 hf hk;refine⟨fun ρ G ov a w r Q=>?_⟩;have r1:=r.mono s1 s2;unfold Lp at ha;split at ha<;>try (cases ha;done)
 rename_i h1;split at ha<;>cases ha;rename_i h2;obtain⟨y,hy,hy'⟩:=r1.ev h1;rw[(aP (G:=G)).1 hy'] at hy;obtain⟨vs,h7,h8⟩:=Lr r1 h2;refine yc (M:=[]) (rest:=ov) hy h7 (List.Perm.refl _) (hF G ⟨none,0,0⟩ vs [] r.gb ⟨[], .nil _ _, .nil,omc,fun h=>by cases h⟩ h8) hd (fun v own1 G' hG hK a' w' rl=>?_) a w Q ⟨r.h,r.sz,c7 a,r.df⟩;obtain⟨z,hr,vs',k1,k2,k3,k4⟩:=hK;have k1':=k1.relo (iw []);have e2: ∀o∈own1.map (relo (iw [])),o.lo=true:=fun o ho=>by
  obtain⟨o',_,rfl⟩:=aU.1 ho;rfl
 generalize own1.map (relo (iw []))=B' at rl e2 k1';have rl':io C n (Sx.put (cG a) (some d) v) (B'++ov) G' a' w':=rl;have hdis:=(gN.1 rl'.h.nd).2.2;obtain⟨m,rfl,hm⟩:=mm.1 hr;obtain⟨m1,m2',rfl,c1,c2⟩: ∃m1 m2',m=m1++m2'/\IsLs G' pre m1/\IsLs G' (.v (.slice z.a z.n z.c)::post) m2':=IsLs.unapp hm;obtain⟨u,m2,rfl,c3,c4⟩:=bA.1 c2;rw[aP.1 c3] at rl';have r3:=r.new (x:=z) (B':= .b ty0 s dso true) (os:=B') (ov':=B'++ov) (f:= .bx true pre d post) (y:= .tuple ⟨m1++Value.slice z.a z.n z.c::m2⟩) hf hG.le rl'.h ⟨vs',by simpa using k1',k2,k3,fun _=>e2⟩ (fun o ho=>bU _ ho) (fun o ho=>bQ _ ho)
  (fun o ho hc=>by
   have hx: ∃o1∈B',o1.b=o.b:=by
    rcases k1' with⟨_,h,_⟩|⟨b0,rest0,lo0,h,hB,_⟩
    .rw[show z=_ from h] at hc;cases hc
    .rw[show z=_ from h] at hc;cases hc;exact⟨⟨_,aI vs'++rest0,_,lo0⟩,by rw[hB];exact aQ,J⟩
   obtain⟨o1,ho1,he1⟩:=hx;exact hdis o1 ho1 o ho he1) ⟨m1,m2,omc,c1,c4⟩ (kj rl')
 exact hk.run _ G' _ a' w' r3
def VR(fr:aF)(cf:Cf):Option (FuncId×List (Option DV)×Nat):=match di fr cf with
 |some ⟨some d, .call ⟨.value fo,args,_⟩,_,_,_,_⟩=>match Lp (ck fr cf) fo args with
  |some (f,l)=>some (f,l,d)
  |none=>none
 |_=>none
def ZA[fu:Fu]{f:FuncId}{d:Nat}{l:List (Option DV)}{ty:TypeId}{s:Nat}{dso pre post:List DV}(dso':List DV)(ha:VR fr cf=some (f,l,d))(hF:PB GB prog f (f7 l) s ty [] (fun w=> .tp (pre++ .v (.slice w.a w.n w.c)::post)) dso)(he:dso=dso')
  (hgo:c6 tt n fu.n fr own cf (.bx true pre d post) [(d,some (.b ty s dso' true))] [d]=⟨vc,fr',own',cf'⟩)(k:av prog GB C n Q0 fr' own' cf')
  (hv:autoParam (ak vc) fn._auto_1):av prog GB C n Q0 fr own cf:=by
 subst he;unfold VR at ha;split at ha<;>try (cases ha;done)
 rename_i hh;split at ha<;>cases ha;rename_i h1;exact us hh (awo h1 hF) hgo hv k
end
section
variable {P:Program} {C:aH} {n:Nat} {fr:Fr} {own own':List aA} {G:Gh} {Φ:Act->World->Prop}
variable {dst:Option Nat} {t t' ty':TypeId} {pos:String} {af:Array Edge} {gd:Option (Nat×Bool)} {x y:Operand} {e s by_:Nat}
def aJ3[hT:cE P t e s by_]{z:Value}[hz:gA P e z]{k k':IntKind}{l:Int}(hx:aE fr x=some (.int k 0))(hy:aE fr y=some (.int k' l))(h0:0<=l)(hb:by_*l<=2^47)(hl:l<=2^60)(hs:(aO z).length=s)(hd:co n dst=true)
  (h: ∀b,St C n (put fr dst (.slice (some ⟨b,0,none⟩) 0 l.toNat)) (⟨b,dH z l.toNat,e,true⟩::own) G Φ):
  Ch P C n fr own G ⟨dst, .makeSlice t x y,ty',pos,af,gd⟩ Φ:=by
 intro a w Q rl;have h1:(Instr.makeSlice t (a.eval x) (a.eval y)).run P w= .ok (.slice (some ⟨w.heap.size,0,none⟩) 0 l.toNat) (w.alloc (.cells ⟨dH z l.toNat⟩ e)):=by
  obtain⟨i,hi,hib⟩:=NU (P:=P) (t:=t) (e:=e) (s:=s) (by_:=by_) w;rw[bF rl.fr hx,bF rl.fr hy];unfold Instr.makeSlice;rw[bj (hT.u w)];simp only[asInt,asIntOf];rw[bj (a:=0) (w':=w) J,bj (a:=l) (w':=w) J,bj hi,hib];have hw:IntKind.i64.wrap l=l:=tI okM;have hw0:IntKind.i64.wrap 0=0:=J;simp only[hw,hw0];have c1: ¬((by_:Int)*l>2^48):=by
   have:(2:Int)^47<=2^48:=by decide
   omega
  have c5:decide ((by_:Int)*l>2^48)=false:=decide_eq_false c1;have c2:decide (l<0)=false:=decide_eq_false we;have c4:decide ((0:Int)>l)=false:=by simp;omega
  simp only[c2,c4,c5,pR,Int.lt_irrefl,decide_false,Bool.or_false,gR,if_false];have hr: ¬(l.toNat*by_>roomBytes):=by
   unfold roomBytes;have:((l.toNat*by_:Nat):Int)=by_*l:=by rw[jJ,qS h0,sJ]
   have h47:((2^47:Nat):Int)=2^47:=by decide
   omega
  unfold askRoom;simp only[hr,if_false];rw[bj (run_pure _ _ _),bj (hT.siz w)];have hn:l.toNat*s=l.toNat*(aO z).length:=by rw[hs]
  by_cases h00:l.toNat*s=0
  .rw[if_pos h00,bj (run_pure _ _ _)]
   have e0:dH z l.toNat=[]:=cY (by rw[pA,hs];exact h00);rw[h00,e0,show(Array.range 0)= #[] from J,Array.map_empty];rfl
  .rw[if_neg h00,bj (hz.zero w),pP]
   rw[bj (run_pure _ _ _),CX hn];rfl
 refine lw (v:= .slice (some ⟨w.heap.size,0,none⟩) 0 l.toNat) (dh h1) (h w.heap.size _ _ ((rl.heap (rl.h.alloc _ _)).put _ hd))
def tB(G:Gh)(ov:List aA):Gh:=fun b=>match G b with
 |some cs=>some cs
 |none=>(ov.find? fun o=>Nat.beq o.b b).map (·.cs)
def Iu{ov:List aA}:b7 G (tB G ov):=fun b cs h=>by unfold tB;rw[h]
def Pm{o:aA}: ∀{ov:List aA},o∈ov->ov.Pairwise (fun x y=>x.b≠y.b)->ov.find? (fun u=>Nat.beq u.b o.b)=some o
 |u::t,ho,nd=>by
  rcases aW.1 ho with rfl|ho
  .rw[List.find?_cons_of_pos omc]
  .have:=(cZ.1 nd).1 o ho
   rw[List.find?_cons_of_neg (by simpa using this)];exact Pm ho (cZ.1 nd).2
def aBz{ov:List aA}{o:aA}(ho:o∈ov)(hn:G o.b=none)(nd:ov.Pairwise (fun x y=>x.b≠y.b)):tB G ov o.b=some o.cs:=by
 unfold tB;rw[hn,Pm ho nd];rfl
def bI.lendSub{ov:List aA}{w:World}(h:bI C ov G w)(b:Nat)(cs:List Value)(hb:tB G ov b=some cs): ∃ty fz,w.heap[b]? =some (.cells ⟨cs⟩ ty fz):=by
 unfold tB at hb;split at hb
 .rename_i hg;cases hb;exact h.sub _ _ hg
 .cases hf:ov.find? (fun o=>Nat.beq o.b b) with
  |none=>rw[hf] at hb;cases hb
  |some o=>
   rw[hf] at hb;cases hb;have e:o.b=b:=bX (by simpa using List.find?_some hf);subst e;exact⟨_,_,(h.hown o (List.mem_of_find?_eq_some hf)).1⟩
def bI.lent{ov:List aA}{G':Gh}{w w':World}(h:bI C ov G w)(k:bI ⟨w,tB G ov,[],[],[],none,fun _=>none⟩ [] G' w'):bI C ov G w':=by
 have same: ∀b o,w.heap[b]? =some o->w'.heap[b]? =some o:=fun b o hb=>by rw[k.keep b (i6 hb) omc];exact hb
 have hsz:w.heap.size<=w'.heap.size:=k.size;refine⟨k.os.trans h.os,k.tape.trans h.tape,k.output.trans h.output,cX h.size hsz,fun b hb hm=>?_,fun b cs hb=>?_,h.gle,h.gold,fun o ho=>?_,h.nd,cX h.dr k.dr,fun p hp=>⟨(h.ext p hp).1,same _ _ (h.ext p hp).2⟩⟩
 .have:=h.size;rw[k.keep b omN omc];exact h.keep b hb hm
 .obtain⟨ty,fz,h1⟩:=h.sub b cs hb;exact⟨ty,fz,same _ _ h1⟩
 .obtain⟨h1,h2⟩:=h.hown o ho;exact⟨same _ _ h1,h2⟩
def Xg{f:FuncId}{fo:Operand}{args:Array Operand}{tys:Array TypeId}{vs:List Value}{K:Value->Gh->Prop}(ho:aE fr fo=some (.func (.func f) #[] #[]))(hv:fI fr args.toList=some vs)
  (hF:Fn P f vs (tB G own) K)(hd:co n dst=true)(h: ∀v (G':Gh),K v G'->St C n (put fr dst v) own G Φ):Ch P C n fr own G ⟨dst, .call ⟨.value fo,args,tys⟩,ty',pos,af,gd⟩ Φ:=by
 intro a w Q rl;have h2:=Hp (c1:=[]) (c2:=[]) (P:=P) (dst:=dst) (ty':=ty') (pos:=pos) (af:=af) (gd:=gd) (tys:=tys) (w:=w) hF.able rl.fr ho hv;rw[kV,fR] at h2;simp only[Oper.wp,h2,Oper.upon];refine(hF.run w rl.h.lendSub).mono ?_;rintro e w' ⟨v,G',rfl,hh,hK⟩;exact h v G' hK _ _ ((rl.heap (rl.h.lent hh)).put _ hd)
end
def DV.np:DV->Bool
 | .v _=>true
 | .tp l=>l.all fun d=>match d with
  | .v _=>true
  |_=>false
 |_=>false
def Sg{A G:Gh}: ∀{l:List DV} {m:List Value},(l.all fun d=>match d with| .v _=>true|_=>false)=true->IsLs A l m->IsLs G l m
 |[],m,_,k=>fh.2 (fh.1 k)
 |d::t,m,h,k=>by
  obtain⟨y,n,rfl,k1,k2⟩:=bA.1 k;simp only[tW,bT] at h;refine .cons ?_ (Sg h.2 k2)
  cases d with
  |v x=>exact aP.2 (aP.1 k1)
  |_=>simp at h
def Is.np{A G:Gh}{d:DV}{y:Value}(h:d.np=true)(k:Is A d y):Is G d y:=by
 cases d with
 |v x=>exact aP.2 (aP.1 k)
 |tp l=>obtain⟨m,e,k⟩:=mm.1 k;exact mm.2 ⟨m,e,Sg h k⟩
 |_=>cases h
section
variable {GB:Gh} {C:aH} {n:Nat} {Q0:Exit->Act->World->Prop} {fr fr':aF} {own own':bh} {cf cf':Cf} {vc:List Prop} {lk:LK} {bk:BM} {ρ:NE} {G:Gh} {ov:List aA} {a:Act} {w:World}
variable {dst:Option Nat} {t t' ty':TypeId} {pos:String} {af:Array Edge} {gd:Option (Nat×Bool)} {x y:Operand} {e s by_:Nat}
def Ux:Option Bk->Option (List DV)
 |some (.b _ _ ds _)=>some ds
 |some (.c _ _ ds _)=>some ds
 |_=>none
def LM(lk:LK)(bk:BM)(x:Operand):Option DV:=match bt lk x with
 |some (.rw nm)=>match Ux (bk nm) with
  |some ds=>some (.sl ds)
  |none=>none
 |some f=>ki f
 |none=>none
def Gg(lk:LK)(bk:BM):List Operand->Option (List DV)
 |[]=>some []
 |x::t=>match LM lk bk x,Gg lk bk t with
  |some d,some l=>some (d::l)
  |_,_=>none
def aGs(r:bP GB C n lk bk ρ G ov a w){d:DV}(h:LM lk bk x=some d): ∃y,aE (cG a) x=some y/\Is (tB G ov) d y:=by
 unfold LM at h;split at h
 .rename_i nm h1
  obtain⟨y,h2,h3⟩:=r.ev h1
  cases (show y=_ from h3)
  refine⟨_,h2,?_⟩;split at h<;>cases h;rename_i ds hr;obtain⟨ty,s,vs,B,hB,hv,hs,hBo⟩: ∃ty s vs B,iI s ty (ρ nm) vs B/\IsLs G ds vs/\(∀v∈vs,(aO v).length=s)/\ ∀o∈B,o∈ov:=by
   unfold Ux at hr;split at hr<;>cases hr
   .rename_i hb;obtain⟨B,⟨vs,h4,h5,h6,_⟩,h7⟩:=r.bx _ _ hb;exact⟨_,_,vs,B,h4,h5,h6,h7⟩
   .rename_i hb;obtain⟨B,⟨vs,h4,h5,h6,_⟩,h7⟩:=r.bx _ _ hb;exact⟨_,_,vs,B,h4,h5,h6,h7⟩
  rcases hB with⟨e1,e2,e3⟩|⟨b,rest,lo',e2,e3,h5,h6,h7⟩
  .subst e1
   have ed:ds=[]:=cY (by rw[<-hv.len];rfl);subst ed;rw[e2];exact ie.2 ⟨0,⟨none,0,0⟩,[],J, .nil _ 0, .nil⟩
  .subst e3
   have ho:=hBo _ aQ;have hg:=aBz ho (r.h.hown _ ho).2.1 r.h.nd;rw[e2];exact ie.2 ⟨s,⟨some ⟨b,0,none⟩,vs.length,_⟩,vs,J,gt.of_flat hs hg h7,hv.up Iu⟩
 .rename_i h1
  obtain⟨y,h2,h3⟩:=r.ev h1;exact⟨y,h2,(mI h3 h).up Iu⟩
 .cases h
def Oq(r:bP GB C n lk bk ρ G ov a w): ∀{l:List Operand} {ds:List DV},Gg lk bk l=some ds-> ∃vs,fI (cG a) l=some vs/\IsLs (tB G ov) ds vs
 |[],ds,e=>by cases e;exact⟨[],J, .nil⟩
 |x::t,ds,e=>by
  simp only[Gg] at e;split at e<;>cases e;rename_i h1 h2;obtain⟨y,h3,h4⟩:=aGs r h1;obtain⟨vs,h5,h6⟩:=Oq r h2;exact⟨y::vs,by simp only[fI,h3,h5], .cons h4 h6⟩
def Lk(lk:LK)(bk:BM)(fo:Operand)(args:Array Operand):Option (FuncId×List DV):=match bt lk fo with
 |some (.d (.v (.func (.func f) ⟨[]⟩ ⟨[]⟩)))=>match Gg lk bk args.toList with
  |some ds=>some (f,ds)
  |none=>none
 |_=>none
def azz{fo:Operand}{args:Array Operand}{tys:Array TypeId}{f:FuncId}{ds:List DV}{rv:DV}(ha:Lk lk bk fo args=some (f,ds))(hnp:rv.np=true)(hF:PF GB prog f ds rv):b9 prog GB C n lk bk ⟨dst, .call ⟨.value fo,args,tys⟩,ty',pos,af,gd⟩ (.d rv) [] []:=by
 intro hd tl tb K' s1 s2 hf hk;refine⟨fun ρ G ov a w r Q=>?_⟩;have r1:=r.mono s1 s2;unfold Lk at ha;split at ha<;>try (cases ha;done)
 rename_i h1;split at ha<;>cases ha;rename_i h2;obtain⟨y,hy,hy'⟩:=r1.ev h1;rw[(aP (G:=G)).1 hy'] at hy;obtain⟨vs,h3,h4⟩:=Oq r1 h2;refine Xg hy h3 (hF _ vs (r.gb.trans Iu) h4) hd (fun v G' hK a' w' rl=>?_) a w Q ⟨r.h,r.sz,c7 a,r.df⟩;exact hk.run ρ G ov a' w' ⟨r.gb,rl.h,rl.sz,rl.df,(kj rl).fx (fun k g _ e=>r.fx k g e) (Is.np hnp hK),r.bx,r.dj,r.fxd⟩
def Vs(fr:aF)(own:bh)(cf:Cf):Option (FuncId×List DV):=match di fr cf with
 |some ⟨_, .call ⟨.value fo,args,_⟩,_,_,_,_⟩=>Lk (ck fr cf) (jo fr own cf) fo args
 |_=>none
def cL[fu:Fu]{f:FuncId}{ds:List DV}{rv:DV}(ha:Vs fr own cf=some (f,ds))(hF:PF GB prog f ds rv)(hnp:rv.np=true)(hgo:c6 tt n fu.n fr own cf (.d rv) [] []=⟨vc,fr',own',cf'⟩)(k:av prog GB C n Q0 fr' own' cf')
  (hv:ak vc:=by first|exact trivial|(simp only[ak];kernel_rfl)|(simp only[ak];omega)):av prog GB C n Q0 fr own cf:=by
 unfold Vs at ha;split at ha<;>try (cases ha;done)
 rename_i hh;exact us hh (azz ha hnp hF) hgo hv k
def aJK{d cap:Nat}{i:TI}{z:DV}{k k':IntKind}[hT:cE prog t e s by_](hi:fq prog e=some i)(hz:po i=some z)(hs:Nat.beq z.cells.length s=true)(hx:bt lk x=some (.d (.v (.int k 0))))(hy:bt lk y=some (.d (.v (.int k' (cap:Nat)))))(hb:by_*cap<=140737488355328)(hl:cap<=1152921504606846976):
  b9 prog GB C n lk bk ⟨some d, .makeSlice t x y,ty',pos,af,gd⟩ (.rw d) [(d,some (.c e s [] cap))] [d]:=by
 intro hd tl tb K s1 s2 hf hk;refine⟨fun ρ G ov a w r Q=>?_⟩;obtain⟨v,hz1,hz2,hz3⟩:=AB hi hz;obtain⟨q1,p1,p2⟩:=(r.mono s1 s2).ev hx;obtain⟨q2,p3,p4⟩:=(r.mono s1 s2).ev hy;rw[dl] at p2 p4;subst p2 p4;have c1:=((hz2 G).cells hz3).1.len;replace hs:=bX hs;refine aJ3 p1 p3 we (by have:((by_*cap:Nat):Int)=by_*cap:=jJ ..;omega) we (by rw[c1,hs]) hd (fun b a' w' rl=>?_) a w Q ⟨r.h,r.sz,c7 a,r.df⟩;rw[cK] at rl;have hnd:=(cZ.1 rl.h.nd).1;refine hk.run _ _ _ a' w' (r.new' (x:=⟨some ⟨b,0,none⟩,0,cap⟩) (B':= .c e s [] cap) (os:=[⟨b,dH v cap,e,true⟩]) (f:= .rw d) (y:= .slice (some ⟨b,0,none⟩) 0 cap) hf (b7.refl _) rl.h ⟨[], .inr ⟨b,dH v cap,true,omc,J,by simp[aI],?_,omc⟩, .nil,omc,fun o ho=>by rw[aT.1 ho],omc⟩
  (fun o ho=>by rw[aT.1 ho];exact aQ) (fun m B' _ _ o ho _=>⟨aJ _ ho,fun e'=>by cases e';exact hnd o ho J⟩) okV (kj rl))
 rw[pA,c1,hs];simp[aI]
def WV{d nm cap:Nat}{ds ds2:List DV}[hT:cE prog t e s by_][hN:kd prog t'](hx:bt lk x=some (.rw nm))(hb:bk nm=some (.c e s ds cap))(hy:qP lk bk s y=some ds2)(hk2:cO s ds2)(hc:ds.length+ds2.length<=cap)(hp:0<ds2.length)(hnd:Nat.beq nm d=false):
  b9 prog GB C n lk bk ⟨some d, .call ⟨.builtin .append, #[x,y], #[t,t']⟩,ty',pos,af,gd⟩ (.rw d) [(nm,none),(d,some (.c e s (ds++ds2) cap))] [d]:=by
 intro hd tl tb K s1 s2 hf hk;refine⟨fun ρ G ov a w r Q=>?_⟩;have r1:=r.mono s1 s2;have hne:nm≠d:=fun e=>by subst e;simp at hnd
 obtain⟨u,hx',hx2⟩:=r1.ev hx
 cases hx2
 obtain⟨B,⟨vs,hB,hv,hvs,hlo,hcap⟩,hBo⟩:=r1.bx _ _ hb;obtain⟨w2,us,hy',h2,h3,h4,h5,h6⟩:=C8 (P:=prog) (C:=C) r1 hy hk2;have hus:(aI us).length=us.length*s:=fp us h4;have hl1:=hv.len;have hl2:=h3.len;have rd:=r.dropB nm;have hf':kE [d] (some d) tl (Sx.upB tb [(nm,none)]):=fun m hm=>by
  obtain⟨g1,g2⟩:=hf m hm;refine⟨g1,fun k B' hk e=>g2 k B' hk ?_⟩;simp only[Sx.upB] at e;split at e
  .cases e
  .exact e
 rcases hB with⟨e1,e2,e3⟩|⟨b,rest,lo',k3,k4,k5,k6,k7⟩
 .rw[e2] at hcap;simp at hcap;omega
 subst k4;have hl':=hlo _ aQ;simp only at hl';subst hl';have ha:(ρ nm).a=some ⟨b,0,none⟩:=by rw[k3]
 have hn:(ρ nm).n=vs.length:=by rw[k3]
 rw[ha,hn] at hx';rw[h2] at hy' h6;have hin:=hBo _ aQ;obtain⟨l1,l2,e5⟩:=mL hin;have hperm:ov.Perm (⟨b,aI vs++rest,e,true⟩::(l1++l2)):=by rw[e5];exact pQ
 have hall: ∀v∈vs++us,(aO v).length=s:=fun v hv=>by
  rcases bZ.1 hv with hv|hv
  .exact hvs v hv
  .exact h4 v hv
 have hcs:(aI vs++rest).length=(ρ nm).c*s:=by rw[aY];exact k6
 have hroom:vs.length+us.length<=(ρ nm).c:=by omega
 have hmul:(vs.length+us.length)*s<=(ρ nm).c*s:=bW _ hroom;rw[dS] at hmul;have hrest:us.length*s<=rest.length:=by rw[k5] at k6;omega
 have hovw:cH (aI vs++rest) (vs.length*s) (aI us)=aI (vs++us)++rest.drop (us.length*s):=by
  rw[rO _ _ _ (by rw[hus,aY];omega),pq,<-k5];simp[hus,nU,dT]
 refine Qm (P:=prog) (own:=⟨b,aI vs++rest,e,true⟩::(l1++l2)) (m:=us.length) (ys:=aI us) hx' hy' (.hd ..) hcs (fun w hh=>h6 w (hh.perm hperm.symm)) hus h5 hroom hd (fun a' w' rl=>?_) a w Q ⟨r.h.perm hperm,r.sz,c7 a,r.df⟩;rw[hovw] at rl;have hnd':=(cZ.1 rl.h.nd).1;refine hk.run _ _ _ a' w' (rd.new' (x:=⟨some ⟨b,0,none⟩,vs.length+us.length,(ρ nm).c⟩) (B':= .c e s (ds++ds2) cap) (os:=[⟨b,aI (vs++us)++rest.drop (us.length*s),e,true⟩]) (f:= .rw d) (y:= .slice (some ⟨b,0,none⟩) (vs.length+us.length) (ρ nm).c) hf' (b7.refl _) rl.h
  ⟨vs++us, .inr ⟨b,rest.drop (us.length*s),true,omc,J,fp _ hall,?_,by simpa using hroom⟩,hv.app h3,hall,fun o ho=>by rw[aT.1 ho],by simpa using hcap⟩ (fun o ho=>by rw[aT.1 ho];exact aQ)
  (fun m B' hm e' o ho hmo=>?_) okV (kj rl))
 .rw[fp _ hall,aY,gM,dS]
  simp only[if_true];rw[k5] at k6;omega
 .have hmn:m≠nm/\tb m=some B':=by
   simp only[Sx.upB] at e';split at e'
   .cases e'
   .exact⟨ome,e'⟩
  have hob:o.b≠b:=fun e6=>r.dj m nm B' _ hmn.2 (s2 _ _ hb) hmn.1 b (by rw[hmo,e6]) ha;refine⟨?_,fun e6=>by cases e6;exact hob J⟩;rcases aW.1 (hperm.mem_iff.1 ho) with rfl|ho
  .exact absurd J hob
  .exact aJ _ ho
end
end Go.Sx
end
