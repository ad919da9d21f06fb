import Derived.Test.YtmhfhhiaecjhiaaGreatDoorBr5
set_option linter.all false
set_option maxRecDepth 100000
section
namespace Go.Sx
open Go Go.Proofs Tryz
section
variable {GB:Gh} {C:aC} {n:Nat} {Q0:Exit->Act->World->Prop} {fr fr':av} {own own':aF} {cf cf':Cf} {vc:List Prop} {ops:Array Oper} {o:Oper} {K:List Kt} {r:List Oper}
def b8(fr:av)(cf:Cf):Option Oper:=match GZ cf with
 |some (ops,o)=>bif ua ops (bw fr cf) o.guard then some o else none
 |none=>none
def Gw(h:b8 fr cf=some o): ∃ops,GZ cf=some (ops,o)/\ua ops (bw fr cf) o.guard=true:=by
 unfold b8 at h;split at h<;>try (cases h;done)
 rename_i ops o' hh
 cases hg:ua ops (bw fr cf) o'.guard with
 |false=>rw[hg] at h;cases h
 |true=>rw[hg] at h;cases h;exact⟨ops,hh,hg⟩
def us{q:Nat}{f:FX}{bl:List (Nat×Option Bk)}{nw:List Nat}(hh:b8 fr cf=some o)(h:b7 prog GB C n (bw fr cf) (fE fr own cf) o f bl nw)
  (hgo:cv tt n q fr own cf f bl nw=⟨vc,fr',own',cf'⟩)(hv:aj vc)(k:ak prog GB C n Q0 fr' own' cf'):ak prog GB C n Q0 fr own cf:=by
 obtain⟨ops,h1,h2⟩:=Gw hh;exact uo h1 h2 h hgo hv k
def wD(fr:av)(cf:Cf):Option (FuncId×List DV):=match b8 fr cf with
 |some ⟨_, .call ⟨.value fo,args,_⟩,_,_,_,_⟩=>qt (bw fr cf) fo args
 |_=>none
def cl[fu:Fu]{f:FuncId}{ds:List DV}{rv:DV}(ha:wD fr cf=some (f,ds))(hF:PF GB prog f ds rv)(hgo:cv tt n fu.n fr own cf (.d rv) [] []=⟨vc,fr',own',cf'⟩)(k:ak prog GB C n Q0 fr' own' cf')
  (hv:autoParam (aj vc) fn._auto_1):ak prog GB C n Q0 fr own cf:=by
 unfold wD at ha;split at ha<;>try (cases ha;done)
 rename_i hh;exact us hh (Jl ha hF) hgo hv k
def O6(fr:av)(cf:Cf):Option (List DV×Int×Nat):=match b8 fr cf with
 |some ⟨_, .indexAddr t x y,_,_,_,_⟩=>match evD (bw fr cf) x with
  |some (.sl l)=>match aI (bw fr cf) y with
   |some (.d (.v (.int _ i)))=>match de tt t with
    |some ⟨.sl _ s _,_,_,_⟩=>some (l,i,s)
    |_=>none
   |_=>none
  |_=>none
 |_=>none
def Qf(n q:Nat)(fr:av)(own:aF)(cf:Cf)(d:DV)(s:Nat):vM:=bif d.okc&&Nat.beq d.cells.length s then jE d.cells fun cs=>cv tt n q fr own cf (.ep cs) [] [] else l9
def ix[fu:Fu](d:DV){l:List DV}{i:Int}{s:Nat}(h:O6 fr cf=some (l,i,s))(he:l[i.toNat]? =some d)(hgo:Qf n fu.n fr own cf d s=⟨vc,fr',own',cf'⟩)(k:ak prog GB C n Q0 fr' own' cf')(h0:0<=i:=by omega)
  (hv:autoParam (aj vc) fn._auto_1):ak prog GB C n Q0 fr own cf:=by
 unfold O6 at h;split at h<;>try (cases h;done)
 rename_i hh;split at h<;>try (cases h;done)
 rename_i hx;split at h<;>try (cases h;done)
 rename_i hy;split at h<;>cases h;rename_i hT;have:=lg (e8 _ _ hT) J;unfold Qf at hgo
 cases hc:(d.okc&&Nat.beq d.cells.length s) with
 |false=>simp only[hc,cond_false,l9] at hgo;cases hgo;exact absurd hv (fun x=>x)
 |true=>
  simp only[hc,cond_true,rC] at hgo;exact us hh (TV hx hy h0 he hc) hgo hv k
structure LbA where
 ds:List DV
 k:Nat
 j:Nat
 ag:Option Nat
def N5(fr:av)(own:aF)(cf:Cf):Option LbA:=match b8 fr cf with
 |some ⟨_, .load t x,_,_,_,_⟩=>match aI (bw fr cf) x with
  |some (.be nm sz k j)=>match fE fr own cf nm with
   |some (.b _ s ds _)=>bif Nat.beq s sz then(match de tt t with
    |some i=>match i.ag with
     |some ag=>some ⟨ds,k,j,ag⟩
     |none=>none
    |none=>none) else none
   |_=>none
  |_=>none
 |_=>none
def L8(n q:Nat)(fr:av)(own:aF)(cf:Cf)(d:DV)(ag:Option Nat)(j:Nat):vM:=bif d.okc then(match zH ag d.cells j with
 |some c=>cv tt n q fr own cf (.d c) [] []
 |none=>l9) else l9
def lb[fu:Fu](d:DV){ds:List DV}{k' j:Nat}{ag:Option Nat}(h:N5 fr own cf=some ⟨ds,k',j,ag⟩)(he:ds[k']? =some d)(hgo:L8 n fu.n fr own cf d ag j=⟨vc,fr',own',cf'⟩)(k:ak prog GB C n Q0 fr' own' cf')
  (hv:autoParam (aj vc) fn._auto_1):ak prog GB C n Q0 fr own cf:=by
 unfold N5 at h;split at h<;>try (cases h;done)
 rename_i hh;split at h<;>try (cases h;done)
 rename_i hx;split at h<;>try (cases h;done)
 rename_i ty s ds' lo hb;rw[cond_eq_ite] at h;split at h<;>try (cases h;done)
 rename_i hs
 cases aS hs
 split at h<;>try (cases h;done)
 rename_i hT;split at h<;>cases h;rename_i ha;unfold L8 at hgo
 cases hc:d.okc with
 |false=>simp only[hc,cond_false,l9] at hgo;cases hgo;exact absurd hv (fun x=>x)
 |true=>
  simp only[hc,cond_true] at hgo
  cases hl:zH ag d.cells j with
  |none=>simp only[hl,l9] at hgo;cases hgo;exact absurd hv (fun x=>x)
  |some c=>simp only[hl] at hgo;exact us hh (VH (e8 _ _ hT) ha hx hb he hc hl) hgo hv k
structure T5 where
 nm:Nat
 ty:TypeId
 s:Nat
 ds:List DV
 lo:Bool
 k:Nat
 j:Nat
 ag:Option Nat
 u:DV
def Ml(fr:av)(own:aF)(cf:Cf):Option T5:=match b8 fr cf with
 |some ⟨_, .store t x y,_,_,_,_⟩=>match aI (bw fr cf) x with
  |some (.be nm sz k j)=>match fE fr own cf nm with
   |some (.b ty s ds lo)=>bif Nat.beq s sz then(match de tt t with
    |some i=>match i.ag with
     |some ag=>match evD (bw fr cf) y with
      |some u=>some ⟨nm,ty,s,ds,lo,k,j,ag,u⟩
      |none=>none
     |none=>none
    |none=>none) else none
   |_=>none
  |_=>none
 |_=>none
def sb[fu:Fu](d:DV){nm:Nat}{ty:TypeId}{s:Nat}{ds:List DV}{lo:Bool}{k' j:Nat}{ag:Option Nat}{u d':DV}(ds':List DV)(h:Ml fr own cf=some ⟨nm,ty,s,ds,lo,k',j,ag,u⟩)(he:ds[k']? =some d)(hl:Ag ag d j u=some d')(hds:ds.set k' d'=ds')
  (hgo:cv tt n fu.n fr own cf .un [(nm,some (.b ty s ds' lo))] []=⟨vc,fr',own',cf'⟩)(k:ak prog GB C n Q0 fr' own' cf')
  (hv:autoParam (aj vc) fn._auto_1):ak prog GB C n Q0 fr own cf:=by
 unfold Ml at h;split at h<;>try (cases h;done)
 rename_i hh;split at h<;>try (cases h;done)
 rename_i hx;split at h<;>try (cases h;done)
 rename_i hb;rw[cond_eq_ite] at h;split at h<;>try (cases h;done)
 rename_i hs
 cases aS hs
 split at h<;>try (cases h;done)
 rename_i hT;split at h<;>try (cases h;done)
 rename_i ha;split at h<;>cases h;rename_i hy;exact us hh (ZE (e8 _ _ hT) ha hx hb hy he hl hds) hgo hv k
structure Uh where
 d:Nat
 e:Nat
 s:Nat
 b:Nat
 z:DV
 l:Int
def BR(fr:av)(cf:Cf):Option Uh:=match b8 fr cf with
 |some ⟨some d, .makeSlice t x y,_,_,_,_⟩=>match aI (bw fr cf) x with
  |some (.d (.v (.int _ l)))=>match de tt t with
   |some ⟨.sl e s b,_,_,_⟩=>match de tt e with
    |some i=>match ol i with
     |some z=>bif Nat.beq z.cells.length s then some ⟨d,e,s,b,z,l⟩ else none
     |none=>none
    |none=>none
   |_=>none
  |_=>none
 |_=>none
def mk[fu:Fu]{d e s b:Nat}{z:DV}{l:Int}{k':IntKind}(ds:List DV)(h:BR fr cf=some ⟨d,e,s,b,z,l⟩)(hy:(match b8 fr cf with|some ⟨_, .makeSlice _ _ y,_,_,_,_⟩=>aI (bw fr cf) y|_=>none)=some (.d (.v (.int k' l))))(hds:List.replicate l.toNat z=ds)
  (hgo:cv tt n fu.n fr own cf (.rw d) [(d,some (.b e s ds true))] [d]=⟨vc,fr',own',cf'⟩)(k:ak prog GB C n Q0 fr' own' cf')(h0:0<=l:=by omega)(hb:b*l<=140737488355328:=by omega)(hl:l<=1152921504606846976:=by omega)
  (hv:autoParam (aj vc) fn._auto_1):ak prog GB C n Q0 fr own cf:=by
 unfold BR at h;split at h<;>try (cases h;done)
 rename_i hh;split at h<;>try (cases h;done)
 rename_i hx;split at h<;>try (cases h;done)
 rename_i hT;split at h<;>try (cases h;done)
 rename_i hi;split at h<;>try (cases h;done)
 rename_i hz;rw[cond_eq_ite] at h;split at h<;>cases h;rename_i hs;rw[hh] at hy;have:=lg (e8 _ _ hT) J;exact us hh (Sm (e8 _ _ hi) hz hs hx hy h0 hb hl hds) hgo hv k
structure Mn where
 d:Nat
 e:Nat
 s:Nat
 ds:List DV
def Ay(fr:av)(cf:Cf):Option Mn:=match b8 fr cf with
 |some ⟨some d, .buildSlice t len parts,_,_,_,_⟩=>match de tt t with
  |some ⟨.sl e s _,_,_,_⟩=>match de tt e with
   |some i=>match ol i with
    |some z=>match tM (bw fr cf) 0 parts.toList with
     |some ds=>bif Nat.beq z.cells.length s&&(Aa s ds&&(Nat.beq parts.toList.length len&&(Nat.ble (len*s) 1000&&Nat.blt 0 (len*s)))) then some ⟨d,e,s,ds⟩ else none
     |none=>none
    |none=>none
   |none=>none
  |_=>none
 |_=>none
def K9{d e s:Nat}{ds:List DV}(h:Ay fr cf=some ⟨d,e,s,ds⟩): ∃o,b8 fr cf=some o/\o.dst=some d/\b7 prog GB C n (bw fr cf) (fE fr own cf) o (.rw d) [(d,some (.b e s ds true))] [d]:=by
 unfold Ay at h;split at h<;>try (cases h;done)
 rename_i hh;split at h<;>try (cases h;done)
 rename_i hT;split at h<;>try (cases h;done)
 rename_i hi;split at h<;>try (cases h;done)
 rename_i hz;split at h<;>try (cases h;done)
 rename_i hr;rw[cond_eq_ite] at h;split at h<;>cases h;rename_i hc;simp only[aM] at hc;have:=lg (e8 _ _ hT) J;exact⟨_,hh,J,Zl (e8 _ _ hi) hz hc.1 hr hc.2.1 hc.2.2.1 hc.2.2.2.1 hc.2.2.2.2⟩
def ro[fu:Fu]{d e s:Nat}{ds:List DV}(h:Ay fr cf=some ⟨d,e,s,ds⟩)(hgo:cv tt n fu.n fr own cf (.rw d) [(d,some (.b e s ds true))] [d]=⟨vc,fr',own',cf'⟩)(k:ak prog GB C n Q0 fr' own' cf')
  (hv:autoParam (aj vc) fn._auto_1):ak prog GB C n Q0 fr own cf:=by
 obtain⟨o,h1,_,h3⟩:=K9 (GB:=GB) (C:=C) (n:=n) (own:=own) h;exact us h1 h3 hgo hv k
def rf[fu:Fu]{d e s:Nat}{ds:List DV}(h:Ay fr cf=some ⟨d,e,s,ds⟩)(hgo:cv tt n fu.n fr own cf (.d (.sl ds)) [(d,none)] [d]=⟨vc,fr',own',cf'⟩)(k:ak prog GB C n Q0 fr' own' cf')
  (hv:autoParam (aj vc) fn._auto_1):ak prog GB C n Q0 fr own cf:=by
 obtain⟨o,h1,h2,h3⟩:=K9 (GB:=GB) (C:=C) (n:=n) (own:=own) h;exact us h1 (h3.frzRow h2) hgo hv k
def K6(fr:av)(cf:Cf):Option (Nat×Nat×Nat):=match b8 fr cf with
 |some ⟨some d, .buildSlice t 0 ⟨[]⟩,_,_,_,_⟩=>match de tt t with
  |some ⟨.sl e s _,_,_,_⟩=>some (d,e,s)
  |_=>none
 |_=>none
def uh[fu:Fu]{d e s:Nat}(h:K6 fr cf=some (d,e,s))(hgo:cv tt n fu.n fr own cf (.rw d) [(d,some (.b e s [] true))] [d]=⟨vc,fr',own',cf'⟩)(k:ak prog GB C n Q0 fr' own' cf')
  (hv:autoParam (aj vc) fn._auto_1):ak prog GB C n Q0 fr own cf:=by
 unfold K6 at h;split at h<;>try (cases h;done)
 rename_i hh;split at h<;>cases h;rename_i hT;have:=lg (e8 _ _ hT) J;exact us hh Z3 hgo hv k
structure ApA where
 d:Nat
 nm:Option Nat
 e:Nat
 s:Nat
 b:Nat
 ds:List DV
 ds2:List DV
def Cz(fr:av)(own:aF)(cf:Cf):Option ApA:=match b8 fr cf with
 |some ⟨some d, .call ⟨.builtin .append,⟨[x,y]⟩,⟨[t,t']⟩⟩,_,_,_,_⟩=>match de tt t with
  |some ⟨.sl e s b,_,_,_⟩=>match de tt t' with
   |some ⟨.sl _ _ _,_,_,_⟩=>match de tt e with
    |some i=>match ol i with
     |some z=>bif Nat.beq z.cells.length s&&Nat.blt 0 b then(match pu (bw fr cf) (fE fr own cf) s y with
      |some ds2=>match aI (bw fr cf) x with
       |some (.rw nm)=>match fE fr own cf nm with
        |some (.b e' s' ds true)=>bif (Nat.beq e' e&&Nat.beq s' s)&&!Nat.beq nm d then some ⟨d,some nm,e,s,b,ds,ds2⟩ else none
        |_=>none
       |some (.ct ds)=>some ⟨d,none,e,s,b,ds,ds2⟩
       |some .nl=>some ⟨d,none,e,s,b,[],ds2⟩
       |_=>none
      |none=>none) else none
     |none=>none
    |none=>none
   |_=>none
  |_=>none
 |_=>none
def Qm(d:Nat)(nm:Option Nat)(B:Bk):List (Nat×Option Bk):=match nm with
 |some nm=>[(nm,none),(d,some B)]
 |none=>[(d,some B)]
def NK{d:Nat}{nm:Option Nat}{e s b:Nat}{ds ds2:List DV}(h:Cz fr own cf=some ⟨d,nm,e,s,b,ds,ds2⟩)(ds':List DV)(hds:ds++ds2=ds')(ho:nm.isNone=true->du s ds/\0<ds2.length)(ho2:du s ds2)(hbd:(ds.length+ds2.length)*b<=140737488355328):
  ∃o,b8 fr cf=some o/\o.dst=some d/\b7 prog GB C n (bw fr cf) (fE fr own cf) o (.rw d) (Qm d nm (.b e s ds' true)) [d]:=by
 unfold Cz at h;split at h<;>try (cases h;done)
 rename_i hh;split at h<;>try (cases h;done)
 rename_i hT;split at h<;>try (cases h;done)
 rename_i hT';split at h<;>try (cases h;done)
 rename_i hi;split at h<;>try (cases h;done)
 rename_i hz;rw[cond_eq_ite] at h;split at h<;>try (cases h;done)
 rename_i hc;simp only[aM] at hc;split at h<;>try (cases h;done)
 rename_i hy;have:=lg (e8 _ _ hT) J;have hN:jP prog _:=⟨_,(lg (e8 _ _ hT') J).un⟩;refine⟨_,hh,?_⟩;split at h<;>try (cases h;done)
 .rename_i hx
  split at h<;>try (cases h;done)
  rename_i hb;rw[cond_eq_ite] at h;split at h<;>cases h;rename_i hq;simp only[aM,iX] at hq
  cases aS hq.1.1
  cases aS hq.1.2
  exact⟨J,Wa (e8 _ _ hi) hz hc.1 hx hb hy ho2 hc.2 hbd hq.2 hds⟩
 .rename_i hx
  cases h
  obtain⟨h1,h2⟩:=ho rfl;exact⟨J,JO (e8 _ _ hi) hz hc.1 (.inl hx) h1 hy ho2 h2 hc.2 hbd hds⟩
 .rename_i hx
  cases h
  obtain⟨h1,h2⟩:=ho rfl;exact⟨J,JO (e8 _ _ hi) hz hc.1 (.inr ⟨hx,J⟩) h1 hy ho2 h2 hc.2 hbd hds⟩
def ap[fu:Fu]{d:Nat}{nm:Option Nat}{e s b:Nat}{ds ds2:List DV}(ds':List DV)(h:Cz fr own cf=some ⟨d,nm,e,s,b,ds,ds2⟩)(hds:ds++ds2=ds')(ho2:du s ds2)(hgo:cv tt n fu.n fr own cf (.rw d) (Qm d nm (.b e s ds' true)) [d]=⟨vc,fr',own',cf'⟩)(k:ak prog GB C n Q0 fr' own' cf')
  (ho:nm.isNone=true->du s ds/\0<ds2.length:=by intro h;first|(cases h;done)|exact⟨Ar rfl,by simp⟩)(hbd:(ds.length+ds2.length)*b<=140737488355328:=by simp;omega)
  (hv:autoParam (aj vc) fn._auto_1):ak prog GB C n Q0 fr own cf:=by
 obtain⟨o,h1,_,h3⟩:=NK (GB:=GB) (C:=C) (n:=n) h ds' hds ho ho2 hbd;exact us h1 h3 hgo hv k
def Nx(fr:av)(cf:Cf):Option (List DV×Int×Int×Nat×Bool):=match b8 fr cf with
 |some ⟨_, .slice t x lo hi mx,_,_,_,_⟩=>match evD (bw fr cf) x with
  |some (.sl l)=>match de tt t with
   |some ⟨.sl _ s _,_,_,_⟩=>match lv (bw fr cf) 0 lo,lv (bw fr cf) l.length hi with
    |some i,some j=>match mx with
     |none=>some (l,i,j,s,false)
     |some _=>none
    |_,_=>none
   |_=>none
  |_=>none
 |_=>none
def py[fu:Fu]{l:List DV}{i j:Int}{s:Nat}(nlo nhi:Nat)(ls:List DV)(h:Nx fr cf=some (l,i,j,s,false))(ei:i=nlo)(ej:j=nhi)(hls:(l.take nhi).drop nlo=ls)(ho:du s l)(h1:nlo<=nhi)(h2:nhi<=l.length)
  (hgo:cv tt n fu.n fr own cf (.d (.sl ls)) [] []=⟨vc,fr',own',cf'⟩)(k:ak prog GB C n Q0 fr' own' cf')
  (hv:autoParam (aj vc) fn._auto_1):ak prog GB C n Q0 fr own cf:=by
 unfold Nx at h;split at h<;>try (cases h;done)
 rename_i hh;split at h<;>try (cases h;done)
 rename_i hx;split at h<;>try (cases h;done)
 rename_i hT;split at h<;>try (cases h;done)
 rename_i hi hj;split at h<;>cases h;have:=lg (e8 _ _ hT) J;subst ei ej hls;exact us hh (ZH hx ho hi hj h1 h2) hgo hv k
def KG(fr:av)(cf:Cf):Option (List DV×Int×Int×Nat):=match b8 fr cf with
 |some ⟨_, .slice t x none (some hi) (some mx),_,_,_,_⟩=>match evD (bw fr cf) x with
  |some (.sl l)=>match de tt t with
   |some ⟨.sl _ s _,_,_,_⟩=>match lv (bw fr cf) 0 (some hi),lv (bw fr cf) 0 (some mx) with
    |some i,some j=>some (l,i,j,s)
    |_,_=>none
   |_=>none
  |_=>none
 |_=>none
def s3[fu:Fu]{l:List DV}{i j:Int}{s:Nat}(nhi:Nat)(ls:List DV)(h:KG fr cf=some (l,i,j,s))(ei:i=nhi)(ej:j=nhi)(hls:l.take nhi=ls)(ho:du s l)(h2:nhi<=l.length)
  (hgo:cv tt n fu.n fr own cf (.ct ls) [] []=⟨vc,fr',own',cf'⟩)(k:ak prog GB C n Q0 fr' own' cf')
  (hv:autoParam (aj vc) fn._auto_1):ak prog GB C n Q0 fr own cf:=by
 unfold KG at h;split at h<;>try (cases h;done)
 rename_i hh;split at h<;>try (cases h;done)
 rename_i hx;split at h<;>try (cases h;done)
 rename_i hT;split at h<;>cases h;rename_i hi hj;have:=lg (e8 _ _ hT) J;subst ei ej hls;exact us hh (Ru hx ho hi hj h2) hgo hv k
def Lk(fr:av)(cf:Cf):Option (Nat×List DV):=match b8 fr cf with
 |some ⟨some d, .box _ x,_,_,_,_⟩=>match aI (bw fr cf) x with
  |some f=>bif f.okc&&vP f d then(match ki f.cells with
   |some l=>some (d,l)
   |none=>none) else none
  |none=>none
 |_=>none
end
section
variable {GB:Gh} {C:aC} {n:Nat} {Q0:Exit->Act->World->Prop} {fr fr':av} {own own':aF} {cf cf':Cf} {vc:List Prop} {ops:Array Oper} {o:Oper} {K:List Kt} {r:List Oper}
def rnN(x y m:Nat)(k:Option Nat):Option Nat:=bif Nat.beq m x then some y else bif Nat.beq m y then none else k
def qo(x y:Nat):FX->FX
 | .rw m=>bif Nat.beq m x then .rw y else bif Nat.beq m y then .no else .rw m
 | .ov m o=>bif Nat.beq m x then .ov y o else bif Nat.beq m y then .no else .ov m o
 | .be m s i j=>bif Nat.beq m x then .be y s i j else bif Nat.beq m y then .no else .be m s i j
 | .rs m s i j=>bif Nat.beq m x then .rs y s i j else bif Nat.beq m y then .no else .rs m s i j
 | .bx tp pre m post=>bif Nat.beq m x then .bx tp pre y post else bif Nat.beq m y then .no else .bx tp pre m post
 |f=>f
def qg(x y:Nat):Option Bk->Option Bk
 |some (.o ty cs lo)=>some (.o ty (cs.map (qo x y)) lo)
 |B=>B
def rnK(x y k:Nat):Nat:=bif Nat.beq k x then y else bif Nat.beq k y then x else k
def Cw{α:Type}(g:FX->FX):List FX->(List FX->α)->α
 |[],k=>k []
 |f::t,k=>Cw g t fun t'=>xw (g f) fun f'=>k (f'::t')
def IH{α:Type}{g:FX->FX}: ∀{cs:List FX} {k:List FX->α},Cw g cs k=k (cs.map g)
 |[],k=>rfl
 |f::t,k=>by simp only[Cw,CP];rw[IH];rfl
def CX{α:Type}(g:FX->FX):av->(av->α)->α
 |[],k=>k []
 |(j,f)::t,k=>CX g t fun t'=>xw (g f) fun f'=>k ((j,f')::t')
def GX{α:Type}{g:FX->FX}: ∀{fr:av} {k:av->α},CX g fr k=k (fr.map fun e=>(e.1,g e.2))
 |[],k=>rfl
 |(j,f)::t,k=>by simp only[CX,CP];rw[GX];rfl
def CF{α:Type}(x y:Nat):aF->(aF->α)->α
 |[],k=>k []
 |(j,B)::t,k=>CF x y t fun t'=>bif Nat.beq j y then k ((x,none)::t') else match B with
  |some (.o ty cs lo)=>Cw (qo x y) cs fun cs'=>bif Nat.beq j x then k ((y,some (.o ty cs' lo))::t') else k ((j,some (.o ty cs' lo))::t')
  |B=>bif Nat.beq j x then k ((y,B)::t') else k ((j,B)::t')
def HD{α:Type}{x y:Nat}: ∀{own:aF} {k:aF->α},CF x y own k=k (own.map fun e=>(bif Nat.beq e.1 y then x else bif Nat.beq e.1 x then y else e.1,bif Nat.beq e.1 y then none else qg x y e.2))
 |[],k=>rfl
 |(j,B)::t,k=>by
  simp only[CF,HD (own:=t),bJ]
  cases Nat.beq j y with
  |true=>rfl
  |false=>
   cases B with
   |none=>cases Nat.beq j x<;>rfl
   |some B=>cases B<;>cases Nat.beq j x<;>simp only[cond_false,cond_true,IH,qg]
def Ic{x y:Nat}(hxy:x≠y): ∀{own:aF} {k:Nat},bu (own.map fun e=>(bif Nat.beq e.1 y then x else bif Nat.beq e.1 x then y else e.1,bif Nat.beq e.1 y then none else qg x y e.2)) k=if k=x then none else if k=y then qg x y (bu own x) else qg x y (bu own k)
 |[],k=>by simp[bu,qg]
 |(j,B)::t,k=>by
  have bq: ∀a b:Nat,Nat.beq a b=decide (a=b):=fun a b=>by
   by_cases h:a=b
   .subst h;simp
   .rw[decide_eq_false h]
    cases hb:Nat.beq a b with
    |false=>rfl
    |true=>exact absurd (aS hb) h
  simp only[bJ];rw[jg,Ic hxy (own:=t),jg,jg];by_cases h1:j=y
  .subst h1
   simp only[bq,decide_true,cond_true];by_cases h2:k=x
   .simp[h2]
   .by_cases h3:k=j
    .subst h3;simp[h2,Ne.symm h2,hxy]
    .simp[h2,h3]
  .by_cases h4:j=x
   .subst h4
    simp only[bq,h1,decide_false,cond_false,decide_true,cond_true];by_cases h2:k=y
    .subst h2;simp[Ne.symm h1]
    .by_cases h3:k=j
     .subst h3;simp[h1]
     .simp[h2,h3]
   .simp only[bq,h1,h4,decide_false,cond_false]
    by_cases h2:k=j
    .subst h2;simp[h1,h4]
    .by_cases h3:k=x
     .subst h3;simp[h2]
     .by_cases h5:k=y
      .subst h5;simp[h2,h3,Ne.symm h4]
      .simp[h2,h3,h5]
def H5{x y:Nat}(hxy:x≠y){ρ:NE}{G:Gh}{f:FX}{v:Value}(h:b6 ρ G f v):b6 (fun k=>if k=y then ρ x else ρ k) G (qo x y f) v:=by
 have key: ∀m:Nat,Nat.beq m y=false->(fun k=>if k=y then ρ x else ρ k) m=ρ m:=fun m hm=>if_neg fun e=>by subst e;simp at hm
 cases f with
 |rw m=>
  simp only[qo]
  cases hb:Nat.beq m x with
  |true=>cases aS hb;simp only[cond_true];show v=_;simp;exact h
  |false=>
   cases hb':Nat.beq m y with
   |true=>trivial
   |false=>simp only[cond_false];show v=_;rw[key m hb'];exact h
 |ov m off=>
  simp only[qo]
  cases hb:Nat.beq m x with
  |true=>cases aS hb;simp only[cond_true];obtain⟨b,h1,h2⟩:=h;exact⟨b,by simp;exact h1,h2⟩
  |false=>
   cases hb':Nat.beq m y with
   |true=>trivial
   |false=>simp only[cond_false];obtain⟨b,h1,h2⟩:=h;exact⟨b,by rw[key m hb'];exact h1,h2⟩
 |be m s i j=>
  simp only[qo]
  cases hb:Nat.beq m x with
  |true=>cases aS hb;simp only[cond_true];obtain⟨b,h1,h2⟩:=h;exact⟨b,by simp;exact h1,h2⟩
  |false=>
   cases hb':Nat.beq m y with
   |true=>trivial
   |false=>simp only[cond_false];obtain⟨b,h1,h2⟩:=h;exact⟨b,by rw[key m hb'];exact h1,h2⟩
 |rs m s i j=>
  simp only[qo]
  cases hb:Nat.beq m x with
  |true=>cases aS hb;simp only[cond_true];obtain⟨b,c,h1,h2⟩:=h;exact⟨b,c,by simp;exact h1,h2⟩
  |false=>
   cases hb':Nat.beq m y with
   |true=>trivial
   |false=>simp only[cond_false];obtain⟨b,c,h1,h2⟩:=h;exact⟨b,c,by rw[key m hb'];exact h1,h2⟩
 |bx tp pre m post=>
  simp only[qo]
  cases hb:Nat.beq m x with
  |true=>cases aS hb;simp only[cond_true];obtain⟨m1,m2,e,h1,h2⟩:=h;exact⟨m1,m2,by simpa using e,h1,h2⟩
  |false=>
   cases hb':Nat.beq m y with
   |true=>trivial
   |false=>simp only[cond_false];obtain⟨m1,m2,e,h1,h2⟩:=h;exact⟨m1,m2,by rw[key m hb'];exact e,h1,h2⟩
 |_=>exact h
def Fe{x y:Nat}(hxy:x≠y){ρ:NE}{G:Gh}: ∀{cs:List FX} {m:List Value},dt ρ G cs m->dt (fun k=>if k=y then ρ x else ρ k) G (cs.map (qo x y)) m
 |[],m,h=>h
 |f::t,m,⟨v,q,e,h1,h2⟩=>⟨v,q,e,H5 hxy h1,Fe hxy h2⟩
def wL(x y:Nat)(fr:av)(own:aF):Option xq:=bif Nat.beq x y then none else CX (qo x y) fr fun fr'=>CF x y own fun own'=>some ⟨fr',own'⟩
def X0{x y:Nat}{Φ:Act->World->Prop}{R:xq}(hy:Nat.blt y 2000000=true)(h:wL x y fr own=some R)(hk:SX GB C n (bi R.fr) (bu R.own) Φ):SX GB C n (bi fr) (bu own) Φ:=by
 unfold wL at h;rw[cond_eq_ite] at h;split at h<;>try (cases h;done)
 rename_i hb;have hxy:x≠y:=fun e=>hb (by subst e;simp);rw[GX,HD] at h;cases h;refine⟨fun ρ G ov a w r=>hk.run (fun k=>if k=y then ρ x else ρ k) G ov a w ?_⟩;have inv: ∀m B,bu (own.map fun e=>(bif Nat.beq e.1 y then x else bif Nat.beq e.1 x then y else e.1,bif Nat.beq e.1 y then none else qg x y e.2)) m=some B-> ∃m0 B0,bu own m0=some B0/\qg x y (some B0)=some B/\(m=y/\m0=x\/m≠y/\m≠x/\m0=m):=fun m B e=>by
  rw[Ic hxy] at e;split at e
  .cases e
  .rename_i hm
   split at e
   .cases hl:bu own x with
    |none=>rw[hl] at e;cases e
    |some B0=>rw[hl] at e;exact⟨x,B0,hl,e, .inl ⟨by assumption,J⟩⟩
   .cases hl:bu own m with
    |none=>rw[hl] at e;cases e
    |some B0=>rw[hl] at e;exact⟨m,B0,hl,e, .inr ⟨by assumption,hm,J⟩⟩
 have rho: ∀m m0,(m=y/\m0=x\/m≠y/\m≠x/\m0=m)->(fun k=>if k=y then ρ x else ρ k) m=ρ m0:=fun m m0 h=>by
  rcases h with⟨h1,h2⟩|⟨h1,_,h2⟩
  .subst h1 h2;simp
  .subst h2;exact if_neg h1
 refine⟨r.gb,r.h,r.sz,r.df,fun k f e=>?_,fun m B e=>?_,fun m m' B B' e e' hne=>?_,fun m p h1 h2 e=>by
  have:y<2000000:=by simpa[mX] using hy
  show(if m=y then ρ x else ρ m).a=_;rw[if_neg (by omega)];exact r.fxd m p h1 h2 e⟩
 .rw[Bu] at e
  cases hf:bi fr k with
  |none=>rw[hf] at e;cases e
  |some g=>
   rw[hf] at e;cases e;obtain⟨v,h1,h2⟩:=r.fx k g hf;exact⟨v,h1,H5 hxy h2⟩
 .obtain⟨m0,B0,h1,h2,h3⟩:=inv m B e
  obtain⟨os,h4,h5⟩:=r.bx m0 B0 h1;refine⟨os,?_,h5⟩;have hr:=rho m m0 h3
  cases B0 with
  |b=>cases h2;obtain⟨vs,q1,q2,q3,q4⟩:=h4;exact⟨vs,by rw[hr];exact q1,q2,q3,q4⟩
  |c=>cases h2;obtain⟨vs,q1,q2,q3,q4,q5⟩:=h4;exact⟨vs,by rw[hr];exact q1,q2,q3,q4,by rw[hr];exact q5⟩
  |p=>cases h2;obtain⟨q0,vs,q1,q2,q3,q4⟩:=h4;exact⟨by rw[hr];exact q0,vs,q1,q2,q3,q4⟩
  |o ty cs lo=>cases h2;obtain⟨b,q,q1,q2,q3⟩:=h4;exact⟨b,q,by rw[hr];exact q1,q2,Fe hxy q3⟩
 .obtain⟨m0,B0,h1,_,h3⟩:=inv m B e
  obtain⟨m1,B1,h4,_,h6⟩:=inv m' B' e';have q1:=rho m m0 h3;have q2:=rho m' m1 h6;simp only at q1 q2;rw[q1,q2];refine r.dj m0 m1 B0 B1 h1 h4 fun e=>?_;rcases h3 with⟨h7,h8⟩|⟨h7,h8,h9⟩<;>rcases h6 with⟨g7,g8⟩|⟨g7,g8,g9⟩
  .exact hne (h7.trans g7.symm)
  .exact g8 (by rw[<-g9,<-e,h8])
  .exact h8 (by rw[<-h9,e,g8])
  .exact hne (by rw[<-h9,e,g9])
def fD(x y:Nat){fr1:av}{own1:aF}{e:Exit}(h:wL x y fr own=some ⟨fr1,own1⟩)(k:ak prog GB C n Q0 fr1 own1 (.ex e K))(hy:Nat.blt y 2000000=true:=by rfl):ak prog GB C n Q0 fr own (.ex e K):=X0 hy h k
def ZV{d nm:Nat}(hnm:Nat.blt nm 2000000=true)(hl:bi fr d=some .nl){Φ:Act->World->Prop}{ty s:Nat}(hf:jO [nm] none (bi fr) (bu own))(h:SX GB C n (bi ((d, .rw nm)::fr)) (bu (mI own nm (some (.b ty s [] true)))) Φ):SX GB C n (bi fr) (bu own) Φ:=by
 refine⟨fun ρ G ov a w r=>?_⟩;obtain⟨f1,f2⟩:=hf nm aQ;have hset:bu (mI own nm (some (.b ty s [] true)))=upB (bu own) [(nm,some (.b ty s [] true))]:=by funext j;rw[zq];rfl
 rw[hset] at h;refine h.run (fun k=>if k=nm then⟨none,0,0⟩ else ρ k) G ov a w ⟨r.gb,r.h,r.sz,r.df,fun k f e=>?_,fun m B e=>?_,fun m m' B B' e e' hne=>?_,fun m p h1 h2 e=>by
  have:nm<2000000:=by simpa[mX] using hnm
  show(if m=nm then(⟨none,0,0⟩:SV) else ρ m).a=_;rw[if_neg (by omega)];exact r.fxd m p h1 h2 e⟩
 .rw[il] at e
  split at e
  .cases e;rename_i hk;subst hk
   obtain⟨v,h1,h2⟩:=r.fx _ _ hl;exact⟨v,h1,by rw[show v=_ from h2];show _=_;simp⟩
  .obtain⟨v,h1,h2⟩:=r.fx k f e
   exact⟨v,h1,h2.ren fun m hm=>sv _ fun hc=>f1 k f (by simp) e (by rw[hm,hc])⟩
 .simp only[upB] at e
  by_cases hm:m=nm
  .subst hm;simp only[if_true] at e;cases e
   exact⟨[],⟨[],by simp only[if_true];exact .inl ⟨J,J,J⟩, .nil,by simp,fun _ o ho=>by cases ho⟩,fun o ho=>by cases ho⟩
  .simp only[hm,if_false] at e
   obtain⟨os,h1,h2⟩:=r.bx m B e;exact⟨os,h1.ren (if_neg hm) fun q hq=>sv _ fun hc=>f2 m B hm e (by rw[<-hc];exact hq),h2⟩
 .simp only[upB] at e e'
  intro b hb hb';by_cases hm:m=nm
  .simp[hm] at hb
  .by_cases hm':m'=nm
   .simp[hm'] at hb'
   .simp only[hm,hm',if_false] at e e' hb hb'
    exact r.dj m m' B B' e e' hne b hb hb'
def nr(d nm ty s:Nat){own1:aF}{c:Code}(hl:bi fr d=some .nl)(hf:qA [nm] none fr own=true)(ho:tN own nm (some (.b ty s [] true)) id=own1)(k:ak prog GB C n Q0 ((d, .rw nm)::fr) own1 (.code c K))(hnm:Nat.blt nm 2000000=true:=by rfl):ak prog GB C n Q0 fr own (.code c K):=by
 subst ho;exact ZV hnm hl (zQ hf) k
def iw:List (Option DV)->Nat->List DV
 |[],_=>[]
 |some d::t,b=>d::iw t b
 |none::t,b=> .v (.pointer (some ⟨b,0,none⟩))::iw t b
def Cu(lk:LK):List Operand->Option (Option Nat×List (Option DV))
 |[]=>some (none,[])
 |x::t=>match aI lk x,Cu lk t with
  |some (.ov nm 0),some (none,l)=>some (some nm,none::l)
  |some f,some (q,l)=>match j' f with
   |some d=>some (q,some d::l)
   |none=>none
  |_,_=>none
def GR(lk:LK)(fo:Operand)(args:Array Operand):Option (FuncId×Nat×List (Option DV)):=match aI lk fo with
 |some (.d (.v (.func (.func f) ⟨[]⟩ ⟨[]⟩)))=>match Cu lk args.toList with
  |some (some nm,l)=>some (f,nm,l)
  |_=>none
 |_=>none
def Fy{lk:LK}{bk:BM}{ρ:NE}{G:Gh}{ov:List au}{a:Act}{w:World}(r:b5 GB C n lk bk ρ G ov a w){b:Nat}: ∀{x:List Operand} {q:Option Nat} {l:List (Option DV)},Cu lk x=some (q,l)->(∀nm,q=some nm->(ρ nm).a=some ⟨b,0,none⟩)->
  ∃y,f5 (cC a) x=some y/\IsLs G (iw l b) y
 |[],q,l,e,_=>by cases e;exact⟨[],J, .nil⟩
 |x::t,q,l,e,hb=>by
  simp only[Cu] at e;split at e
  .rename_i nm l' h1 h2
   cases e
   obtain⟨y,h3,b',h4,rfl⟩:=r.ev h1;have:=hb nm J;rw[h4] at this;cases this;obtain⟨ys,h5,h6⟩:=Fy r (b:=b) h2 (fun nm e=>by cases e);exact⟨_::ys,by simp only[f5,h3,h5], .cons ((aP (G:=G)).2 J) h6⟩
  .rename_i f q' l' _ h1 h2
   cases hd:j' f with
   |none=>rw[hd] at e;cases e
   |some d=>
   rw[hd] at e;cases e;obtain⟨y,h3,h4⟩:=r.ev h1;obtain⟨ys,h5,h6⟩:=Fy r (b:=b) h2 hb;exact⟨y::ys,by simp only[f5,h3,h5], .cons (nH h4 hd) h6⟩
  .cases e
def b5.lend{lk:LK}{bk:BM}{ρ:NE}{G:Gh}{ov:List au}{a:Act}{w:World}{nm:Nat}{ty:TypeId}{cs:List FX}{lo:Bool}{csd:List DV}(r:b5 GB C n lk bk ρ G ov a w)(hb:bk nm=some (.o ty cs lo))(hc:ki cs=some csd):
  ∃b m rest,(ρ nm).a=some ⟨b,0,none⟩/\IsLs G csd m/\ov.Perm ([⟨b,m,ty,lo⟩]++rest)/\ ∀o∈ov,o.b≠b->o∈rest:=by
 obtain⟨os,⟨b,m,h1,rfl,h2⟩,h3⟩:=r.bx _ _ hb;obtain⟨l1,l2,rfl⟩:=mK (h3 _ aQ);refine⟨b,m,l1++l2,h1,uK h2 hc,pY,fun o ho hne=>?_⟩;rcases bS.1 ho with ho|ho
 .exact cV _ ho
 .rcases aU.1 ho with rfl|ho
  .exact absurd J hne
  .exact dX _ ho
def S7{P:Program}{lk:LK}{bk:BM}{fo:Operand}{args:Array Operand}{tys:Array TypeId}{f:FuncId}{nm:Nat}{l:List (Option DV)}{rv:DV}{dst:Option Nat}{ty ty0:TypeId}{pos:String}{af:Array Edge}{gd:Option (Nat×Bool)}{cs:List FX}{csd cs':List DV}{lo:Bool}
  (ha:GR lk fo args=some (f,nm,l))(hb:bk nm=some (.o ty0 cs lo))(hc:ki cs=some csd)(hF: ∀b,PM GB P f (iw l b) b ty0 csd rv cs'){csx:List FX}(hx:cs'.map .d=csx):b7 P GB C n lk bk ⟨dst, .call ⟨.value fo,args,tys⟩,ty,pos,af,gd⟩ (.d rv) [(nm,some (.o ty0 csx lo))] []:=by
 intro hd tl tb K' s1 s2 hf hk;refine⟨fun ρ G ov a w r Q=>?_⟩;subst hx;have r1:=r.mono s1 s2;unfold GR at ha;split at ha<;>try (cases ha;done)
 rename_i h1;split at ha<;>cases ha;rename_i h2;obtain⟨y,hy,hy'⟩:=r1.ev h1;rw[(aP (G:=G)).1 hy'] at hy;obtain⟨b,m,rest,h3,h4,h5,h6⟩:=r1.lend hb hc;obtain⟨vs,h7,h8⟩:=Fy r1 (b:=b) h2 (fun nm e=>by cases e;exact h3);refine aw5 (M:=[⟨b,m,ty0,lo⟩]) (rest:=rest) hy h7 h5 (hF b G vs m lo r.gb h8 h4) hd (fun v css G' hG hl hK a' w' rl=>?_) a w Q ⟨r.h,r.sz,c6 a,r.df⟩;obtain⟨hr,m',rfl,hm'⟩:=hK;have rl':gq C n (Sx.put (cC a) dst v) (⟨b,m',ty0,lo⟩::rest) G' a' w':=rl;have r2:=r.upB (G':=G') (ov':=⟨b,m',ty0,lo⟩::rest) (w':=w') (B':= .o ty0 (cs'.map .d) lo) (os:=[⟨b,m',ty0,lo⟩]) hG.le rl'.h ⟨b,m',h3,J,uC hm'⟩ (fun o ho=>by rw[aY.1 ho];exact aQ)
  (fun o ho hne=>aJ _ (h6 o ho fun e=>hne (by rw[h3,e]))) ⟨_,s2 _ _ hb⟩
 exact hk.run ρ G' _ a' w' (r2.put (f:= .d rv) hr (jz rl'))
structure Rt where
 f:FuncId
 nm:Nat
 l:List (Option DV)
 ty:TypeId
 cs:List DV
 lo:Bool
def I5(fr:av)(own:aF)(cf:Cf):Option Rt:=match b8 fr cf with
 |some ⟨_, .call ⟨.value fo,args,_⟩,_,_,_,_⟩=>match GR (bw fr cf) fo args with
  |some (f,nm,l)=>match fE fr own cf nm with
   |some (.o ty cs lo)=>match ki cs with
    |some csd=>some ⟨f,nm,l,ty,csd,lo⟩
    |none=>none
   |_=>none
  |none=>none
 |_=>none
def w9{α:Type}:List DV->(List FX->α)->α
 |[],k=>k []
 |d::t,k=>w9 t fun t'=>k (.d d::t')
def BV{α:Type}: ∀{l:List DV} {k:List FX->α},w9 l k=k (l.map .d)
 |[],k=>rfl
 |d::t,k=>by simp only[w9];rw[BV];rfl
def cm[fu:Fu]{f:FuncId}{nm:Nat}{l:List (Option DV)}{ty:TypeId}{cs cs':List DV}{lo:Bool}{rv:DV}(ha:I5 fr own cf=some ⟨f,nm,l,ty,cs,lo⟩)(hF: ∀b,PM GB prog f (iw l b) b ty cs rv cs')
  (hgo:(w9 cs' fun csx=>cv tt n fu.n fr own cf (.d rv) [(nm,some (.o ty csx lo))] [])=⟨vc,fr',own',cf'⟩)(k:ak prog GB C n Q0 fr' own' cf')
  (hv:autoParam (aj vc) fn._auto_1):ak prog GB C n Q0 fr own cf:=by
 unfold I5 at ha;split at ha<;>try (cases ha;done)
 rename_i hh;split at ha<;>try (cases ha;done)
 rename_i h1;split at ha<;>try (cases ha;done)
 rename_i h2;split at ha<;>cases ha;rename_i h3;rw[BV] at hgo;exact us hh (S7 h1 h2 h3 hF J) hgo hv k
abbrev NM:Nat:=1000000
def wH:Nat->List (Option DV)->av
 |_,[]=>[]
 |i,some v::t=>(i, .d v)::wH (i+1) t
 |i,none::t=>(i, .ov NM 0)::wH (i+1) t
def Gy(b:Nat): ∀l:List (Option DV),(iw l b).length=l.length
 |[]=>rfl
 |some d::t=>by simp[iw,Gy b t]
 |none::t=>by simp[iw,Gy b t]
def G6{b:Nat}{ρ:NE}{G:Gh}(hρ:(ρ NM).a=some ⟨b,0,none⟩): ∀{ds:List (Option DV)} {vs:List Value} (i:Nat),IsLs G (iw ds b) vs-> ∀k f,bi (wH i ds) k=some f-> ∃y,(∃j,k=i+j/\vs[j]? =some y)/\b6 ρ G f y
 |[],vs,i,h,k,f,e=>by cases e
 |some d::t,vs,i,h,k,f,e=>by
  obtain⟨y,m,rfl,h1,h2⟩:=bm.1 h;simp only[wH] at e;rw[il] at e;split at e
  .cases e;rename_i hk;exact⟨y,⟨0,hk,rfl⟩,h1⟩
  .obtain⟨u,⟨j,hj,hu⟩,h3⟩:=G6 hρ (i+1) h2 k f e
   exact⟨u,⟨j+1,by omega,by simpa using hu⟩,h3⟩
 |none::t,vs,i,h,k,f,e=>by
  obtain⟨y,m,rfl,h1,h2⟩:=bm.1 h;simp only[wH] at e;rw[il] at e;split at e
  .cases e;rename_i hk;exact⟨y,⟨0,hk,rfl⟩,b,hρ,(aP (G:=G)).1 h1⟩
  .obtain⟨u,⟨j,hj,hu⟩,h3⟩:=G6 hρ (i+1) h2 k f e
   exact⟨u,⟨j+1,by omega,by simpa using hu⟩,h3⟩
def Ff(C:aC)(b:Nat)(m:List Value)(ty:TypeId)(lo:Bool)(rv:DV)(cs':List DV):Ending->World->Prop:=vp C [⟨b,m,ty,lo⟩] (fun v css G'=>Is G' rv v/\ ∃m',css=[m']/\IsLs G' cs' m')
def uj[fu:Fu]{b:Nat}{f:FuncId}{fb:Func}{c:Code}{k:Nat}{l:List (Option DV)}{cs cs':List DV}{ty:TypeId}{rv:DV}(hf:prog.funcs[f]? =some fb)(hb:fb.body=some c)(hn:(fb.name== "runtime.NumGoroutine")=false)(hm:fb.ntmps=k)(hlen:Nat.ble l.length k=true)
  (hgo:(w9 cs fun csx=>go tt k fu.n [] (wH 0 l) [(NM,some (.o ty csx false))] (.code c []))=⟨vc,fr,own,cf⟩)(h: ∀C b m lo,C.mb=[b]->ak prog GB C k (eH C prog fb (Ff C b m ty lo rv cs')) fr own cf)
  (hv:autoParam (aj vc) fn._auto_1):PM GB prog f (iw l b) b ty cs rv cs':=by
 intro G vs m lo hg hvs hm';refine lE.introR hf hb hn hm (by rw[hvs.len,Gy];exact hlen) fun C _ hmb hrd hfx=>?_;intro a w rl;refine tk hrd ?_;rw[BV] at hgo;have h1:=ew (GB:=GB) (C:=C) (Q0:=eH C prog fb (Ff C b m ty lo rv cs')) hgo hv (h C b m lo (by simpa using hmb));refine h1.run (fun _=>⟨some ⟨b,0,none⟩,0,0⟩) G [⟨b,m,ty,false⟩] a w ⟨hg,rl.h,rl.sz,rl.df,fun k f e=>?_,fun nm B e=>?_,fun nm nm' B B' e e' hne=>?_,fun nm p _ _ e=>by rw[hfx] at e;cases e⟩
 .obtain⟨y,⟨j,hj,hy⟩,h2⟩:=G6 (ρ:=fun _=>⟨some ⟨b,0,none⟩,0,0⟩) (b:=b) rfl 0 hvs k f e
  refine⟨y,rl.fr k y ?_,h2⟩;rw[hj];exact wu vs 0 j y hy
 .rw[jg] at e
  split at e
  .cases e;exact⟨[⟨b,m,ty,false⟩],⟨b,m,J,J,uC hm'⟩,fun o ho=>ho⟩
  .cases e
 .rw[jg] at e e'
  split at e<;>split at e'
  .rename_i h2 h3;exact absurd (h2.trans h3.symm) hne
  .cases e'
  .cases e
  .cases e
def QJ(own:aF)(nm:Nat):Option (TypeId×List DV):=match bu own nm with
 |some (.o ty cs false)=>match ki cs with
  |some l=>some (ty,l)
  |none=>none
 |_=>none
def lm{fb:Func}{b:Nat}{m:List Value}{ty:TypeId}{lo:Bool}{ds cs1 cs':List DV}{rv:DV}(hmb:C.mb=[b])(hr:mF tt fr own fb.results.toList=some ds)(ho:QJ own NM=some (ty,cs1))(hd:gm ds=rv)(hc:cs1=cs'):
  ak prog GB C n (eH C prog fb (Ff C b m ty lo rv cs')) fr own (.ex .ret []):=by
 refine⟨fun ρ G ov a w r=>?_⟩;obtain⟨vs,h1,h2⟩:=uF r hr;have hk:Is G rv (kH vs):=hd▸uY h2;unfold QJ at ho;split at ho<;>try (cases ho;done)
 rename_i hb;split at ho<;>cases ho;rename_i hl;obtain⟨b',m',rest,h3,h4,h5,h6⟩:=r.lend hb hl;have hbb:b'=b:=by
  have:=(r.h.hown _ (h5.mem_iff.2 (cV _ aQ))).2.2.2 J;rw[hmb] at this;simpa using this
 subst hbb hc;exact Ip (C:=C) (n:=n) (fr:=cC a) (own:=ov) (G:=G) (M:=[⟨b',m,ty,lo⟩]) (css:=[m']) (K:=fun v css G'=>Is G' rv v/\ ∃m',css=[m']/\IsLs G' cs1 m') h1 J ([⟨b',m',ty,false⟩]++rest) h5 (qX _ _) ⟨hk,m',J,h4⟩ a w ⟨r.h,r.sz,c6 a,r.df⟩
end
section
variable {GB:Gh} {C:aC} {n:Nat} {fr1 fr2:av} {own1 own2:aF} {cf1 cf2:Cf} {vc1 vc2:List Prop} {Q0:Exit->Act->World->Prop} {fr fr':av} {own own':aF} {cf cf':Cf} {vc:List Prop} {ops:Array Oper} {o:Oper} {K:List Kt} {r:List Oper}
def csd[fu1:Fu][fu2:Fu](d:Nat){p:Prop}{hp:Decidable p}(hl:bi fr d=some (.d (.v (.bool (@decide p hp)))))(g1:go tt n fu1.n [] ((d, .tt)::fr) own (.ops ops r K)=⟨vc1,fr1,own1,cf1⟩)(g2:go tt n fu2.n [] ((d, .ff)::fr) own (.ops ops r K)=⟨vc2,fr2,own2,cf2⟩)
  (k1:p->ak prog GB C n Q0 fr1 own1 cf1)(k2: ¬p->ak prog GB C n Q0 fr2 own2 cf2)
  (v1:p->aj vc1:=by intro;first|exact trivial|(simp only[aj];omega)|(simp only[aj,aX,aR,aW];omega))(v2: ¬p->aj vc2:=by intro;first|exact trivial|(simp only[aj];omega)|(simp only[aj,aX,aR,aW];omega)):ak prog GB C n Q0 fr own (.ops ops r K):=
 mh (fu1:=fu1) (fu2:=fu2) d hl g1 g2 (fun h=>k1 (of_decide_eq_true h)) (fun h=>k2 (of_decide_eq_false h)) (fun h=>v1 (of_decide_eq_true h)) (fun h=>v2 (of_decide_eq_false h))
def Pt(d:Nat)(hl:bi fr d=some .nl){c:Code}(h:ak prog GB C n Q0 ((d, .d (.sl []))::fr) own (.code c K)):ak prog GB C n Q0 fr own (.code c K):=
 n5 (g:= .d (.sl [])) hl (fun ρ G y hy=>(show Is G (.sl []) y from nH (ρ:=ρ) (f:= .nl) hy J)) h
def b7.to{lk:LK}{bk:BM}{o:Oper}{f g:FX}(h:b7 prog GB C n lk bk o f [] [])(e: ∀ρ G y,b6 ρ G f y->b6 ρ G g y):b7 prog GB C n lk bk o g [] []:=fun hd tl tb Q h1 h2 hf hk=>
 h hd tl tb Q h1 h2 hf ⟨fun ρ G ov a w r=>hk.run ρ G ov a w ⟨r.gb,r.h,r.sz,r.df,fun k f' e'=>by
  cases ho:o.dst with
  |none=>exact r.fx k f' (by simpa only[ho,dO] using e')
  |some d=>
   have hr:=r.fx;simp only[ho,dO] at e' hr;by_cases q:k=d
   .rw[if_pos q] at e';cases e'
    obtain⟨y,h3,h4⟩:=hr k f (by rw[if_pos q]);exact⟨y,h3,e _ _ _ h4⟩
   .rw[if_neg q] at e'
    exact hr k f' (by rw[if_neg q];exact e'),r.bx,r.dj,r.fxd⟩⟩
def vX(fr:av)(own:aF)(cf:Cf):Option (Oper×FX):=match b8 fr cf with
 |some o=>match wm tt (bw fr cf) (fE fr own cf) o.dst o.op with
  |some ⟨none,f,[],[]⟩=>some (o,f)
  |_=>none
 |none=>none
def ru[fu1:Fu][fu2:Fu]{f:FX}{p:Prop}{hp:Decidable p}(hs:vX fr own cf=some (o,f))(hb:qD f=some (@decide p hp))(g1:cv tt n fu1.n fr own cf .tt [] []=⟨vc1,fr1,own1,cf1⟩)(g2:cv tt n fu2.n fr own cf .ff [] []=⟨vc2,fr2,own2,cf2⟩)
  (k1:p->ak prog GB C n Q0 fr1 own1 cf1)(k2: ¬p->ak prog GB C n Q0 fr2 own2 cf2)
  (v1:p->aj vc1:=by intro;first|exact trivial|(simp only[aj];kernel_rfl)|(simp only[aj];omega)|(simp only[aj,aX,aR,aW];omega))(v2: ¬p->aj vc2:=by intro;first|exact trivial|(simp only[aj];kernel_rfl)|(simp only[aj];omega)|(simp only[aj,aX,aR,aW];omega)):ak prog GB C n Q0 fr own cf:=by
 unfold vX at hs;split at hs<;>try (cases hs;done)
 rename_i o' hh;split at hs<;>cases hs;rename_i hc;obtain⟨dst,op,ty,pos,af,gd⟩:=o;have h0:=wM (P:=prog) (GB:=GB) (C:=C) (n:=n) (ty':=ty) (pos:=pos) (af:=af) (gd:=gd) e8 hc (fun p e=>by cases e);by_cases h:p
 .exact us hh (b7.to h0 fun ρ G y hy=>by rw[uZ hy hb,decide_eq_true h];exact J) g1 (v1 h) (k1 h)
 .exact us hh (b7.to h0 fun ρ G y hy=>by rw[uZ hy hb,decide_eq_false h];exact J) g2 (v2 h) (k2 h)
def Rx{tl:LK}{tb:BM}{Ψ:Act->World->Prop}{d:Nat}{B:Bk}{f:FX}{v:DV}
  (hz: ∀lk bk ρ G ov a w,b5 GB C n lk bk ρ G ov a w->bk d=some B-> ∃G' ov',bD G G'/\bF C ov' G' w/\(∀o∈ov,(ρ d).a≠some ⟨o.b,0,none⟩->o∈ov')/\ ∀y,b6 ρ G f y->Is G' v y)(hk:SX GB C n (dO tl (some d) (.d v)) (Sx.upB tb [(d,none)]) Ψ):SX GB C n (dO tl (some d) f) (Sx.upB tb [(d,some B)]) Ψ:=by
 refine⟨fun ρ G ov a w r=>?_⟩;have hbd:Sx.upB tb [(d,some B)] d=some B:=by simp[Sx.upB]
 obtain⟨G',ov',h1,h2,h3,h4⟩:=hz _ _ ρ G ov a w r hbd;refine hk.run ρ G' ov' a w ⟨r.gb.trans h1,h2,r.sz,r.df,fun k g e=>?_,fun m B' e=>?_,fun m m' B1 B2 e e'=>?_,r.fxd⟩
 .by_cases hk:k=d
  .subst hk
   simp only[dO,if_true] at e;cases e;obtain⟨y,g1,g2⟩:=r.fx k f (by simp[dO]);exact⟨y,g1,h4 y g2⟩
  .simp only[dO,hk,if_false] at e
   obtain⟨y,g1,g2⟩:=r.fx k g (by simp[dO,hk,e]);exact⟨y,g1,g2.up h1⟩
 .simp only[Sx.upB] at e
  split at e
  .cases e
  .rename_i hm
   have e':Sx.upB tb [(d,some B)] m=some B':=by simp[Sx.upB,hm,e]
   obtain⟨os,g1,g2⟩:=r.bx m B' e';exact⟨os,g1.up h1,fun o ho=>h3 o (g2 o ho) fun hc=>r.dj m d B' B e' hbd hm _ (g1.blk ho) hc⟩
 .simp only[Sx.upB] at e e'
  split at e
  .cases e
  .rename_i hm
   split at e'
   .cases e'
   .rename_i hm'
    exact r.dj m m' B1 B2 (by simp[Sx.upB,hm,e]) (by simp[Sx.upB,hm',e'])
def b7.frz2{lk:LK}{bk:BM}{o:Oper}{d nm:Nat}{B:Bk}{f:FX}{v:DV}(hd:o.dst=some d)(h:b7 prog GB C n lk bk o f [(nm,none),(d,some B)] [d])
  (hz: ∀lk bk ρ G ov a w,b5 GB C n lk bk ρ G ov a w->bk d=some B-> ∃G' ov',bD G G'/\bF C ov' G' w/\(∀o∈ov,(ρ d).a≠some ⟨o.b,0,none⟩->o∈ov')/\ ∀y,b6 ρ G f y->Is G' v y):b7 prog GB C n lk bk o (.d v) [(nm,none),(d,none)] [d]:=by
 intro hd' tl tb K s1 s2 hf hk;refine h hd' tl tb K s1 s2 hf ?_;rw[hd] at hk⊢;exact Rx (tb:=Sx.upB tb [(nm,none)]) hz hk
def X7(d:Nat)(nm:Option Nat):List (Nat×Option Bk):=match nm with
 |some nm=>[(nm,none),(d,none)]
 |none=>[(d,none)]
def Qb[fu:Fu]{d:Nat}{nm:Option Nat}{e s b:Nat}{ds ds2:List DV}(ds':List DV)(h:Cz fr own cf=some ⟨d,nm,e,s,b,ds,ds2⟩)(hds:ds++ds2=ds')(ho2:du s ds2)(hgo:cv tt n fu.n fr own cf (.d (.sl ds')) (X7 d nm) [d]=⟨vc,fr',own',cf'⟩)(k:ak prog GB C n Q0 fr' own' cf')
  (ho:nm.isNone=true->du s ds/\0<ds2.length:=by intro h;first|(cases h;done)|exact⟨Ar rfl,by simp⟩)(hbd:(ds.length+ds2.length)*b<=140737488355328:=by simp;omega)
  (hv:autoParam (aj vc) fn._auto_1):ak prog GB C n Q0 fr own cf:=by
 obtain⟨o,h1,h2,h3⟩:=NK (GB:=GB) (C:=C) (n:=n) h ds' hds ho ho2 hbd
 cases nm with
 |none=>exact us h1 (h3.frzRow h2) hgo hv k
 |some nm=>exact us h1 (b7.frz2 h2 h3 fun _ _ _ _ _ _ _ r hb=>r.frzRow hb) hgo hv k
def dh[fu:Fu]{f:FX}(hs:vX fr own cf=some (o,f))(hb:qD f=some true)(hgo:cv tt n fu.n fr own cf .tt [] []=⟨vc,fr',own',cf'⟩)(k:ak prog GB C n Q0 fr' own' cf')
  (hv:autoParam (aj vc) fn._auto_1):ak prog GB C n Q0 fr own cf:=by
 unfold vX at hs;split at hs<;>try (cases hs;done)
 rename_i o' hh;split at hs<;>cases hs;rename_i hc;obtain⟨dst,op,ty,pos,af,gd⟩:=o;have h0:=wM (P:=prog) (GB:=GB) (C:=C) (n:=n) (ty':=ty) (pos:=pos) (af:=af) (gd:=gd) e8 hc (fun p e=>by cases e);exact us hh (b7.to h0 fun ρ G y hy=>by rw[uZ hy hb];exact J) hgo hv k
def b9[fu:Fu]{f:FX}(hs:vX fr own cf=some (o,f))(hb:qD f=some false)(hgo:cv tt n fu.n fr own cf .ff [] []=⟨vc,fr',own',cf'⟩)(k:ak prog GB C n Q0 fr' own' cf')
  (hv:autoParam (aj vc) fn._auto_1):ak prog GB C n Q0 fr own cf:=by
 unfold vX at hs;split at hs<;>try (cases hs;done)
 rename_i o' hh;split at hs<;>cases hs;rename_i hc;obtain⟨dst,op,ty,pos,af,gd⟩:=o;have h0:=wM (P:=prog) (GB:=GB) (C:=C) (n:=n) (ty':=ty) (pos:=pos) (af:=af) (gd:=gd) e8 hc (fun p e=>by cases e);exact us hh (b7.to h0 fun ρ G y hy=>by rw[uZ hy hb];exact J) hgo hv k
end
section
variable {GB:Gh} {C:aC} {n:Nat} {Q0:Exit->Act->World->Prop} {fr fr':av} {own own':aF} {cf cf':Cf} {vc:List Prop} {ops:Array Oper} {o:Oper} {K:List Kt} {r:List Oper}
def IM(GB:Gh)(C:aC)(n:Nat)(lk:LK)(bk:BM)(o:Oper)(ι:Type)(f:ι->FX)(bl:ι->List (Nat×Option Bk))(nw:List Nat):Prop:=
 cg n o.dst=true-> ∀(tl:LK) (tb:BM) (K:Act->World->Prop),iO lk tl->iO bk tb->jO nw o.dst tl tb->(∀x,SX GB C n (dO tl o.dst (f x)) (Sx.upB tb (bl x)) K)->SX GB C n tl tb (fun a w=> ∀Q,o.wp prog a w K Q)
def hdO:Cf->Option (Array Oper×Oper×List Oper×List Kt)
 | .ops ops (o::r) K=>some (ops,o,r,K)
 |_=>none
def F4(n q:Nat)(fr:av)(own:aF)(cf:Cf)(f:FX)(bl:List (Nat×Option Bk)):vM:=match cf with
 | .ops ops (o::r) K=>oO own bl fun own'=>wj fr o.dst f fun fr'=>go tt n q [] fr' own' (.ops ops r K)
 |_=>l9
def Hv(n:Nat)(fr:av)(own:aF)(cf:Cf)(nw:List Nat):Bool:=match cf with
 | .ops ops (o::_) _=>qA nw o.dst fr own&&cg n o.dst&&ua ops (bi fr) o.guard
 |_=>false
def Wd{q:Nat}{ι:Type}{f:ι->FX}{bl:ι->List (Nat×Option Bk)}{nw:List Nat}{vc:ι->List Prop}{fr':ι->av}{own':ι->aF}{cf':ι->Cf}(hh:b8 fr cf=some o)(ho:Hv n fr own cf nw=true)(h:IM GB C n (bw fr cf) (fE fr own cf) o ι f bl nw)
  (hgo: ∀x,F4 n q fr own cf (f x) (bl x)=⟨vc x,fr' x,own' x,cf' x⟩)(hv: ∀x,aj (vc x))(k: ∀x,ak prog GB C n Q0 (fr' x) (own' x) (cf' x)):ak prog GB C n Q0 fr own cf:=by
 obtain⟨ops,h1,h2⟩:=Gw hh
 cases cf with
 |ops ops' r K=>
  cases r with
  |nil=>cases h1
  |cons o' r=>
   cases h1
   simp only[Hv,aM] at ho;refine⟨fun ρ G ov a w rl=>?_⟩;show wpListIn _ _ _ _ _ (o::r) a w;unfold wpListIn;rw[if_pos (An ho.2 ρ G ov a w rl)];refine Aj ((h ho.1.2 _ _ (fun a w=>a.defers=C.mks/\wpListIn (FW C.rd) 0 prog ops (cQ C.rd prog Q0 K) r a w) (iO.refl _) (iO.refl _) (zQ ho.1.1) (fun x=>?_)).run ρ G ov a w rl) fun a' w' k=>⟨k.1.trans rl.df.symm,k.2⟩;refine⟨fun ρ G ov a w r0=>⟨r0.df,SX.run (GB:=GB) (C:=C) (n:=n) ?_ ρ G ov a w r0⟩⟩;have hx:=hgo x;unfold F4 at hx;simp only[ur,wz] at hx;have:=ew (GB:=GB) (C:=C) (Q0:=Q0) hx (hv x) (k x);show SX GB C n (dO (bi fr) o.dst (f x)) (Sx.upB (bu own) (bl x)) _;rw[<-AS,<-CY];exact this
 |_=>cases ho
def avN{lk:LK}{bk:BM}{fo:Operand}{args:Array Operand}{tys:Array TypeId}{f:FuncId}{d:Nat}{ds:List DV}{ι:Type}{ty ty0:TypeId}{pos:String}{af:Array Edge}{gd:Option (Nat×Bool)}{cs':ι->List DV}
  (ha:qt lk fo args=some (f,ds))(hF:PN GB prog f ds ty0 ι cs'):IM GB C n lk bk ⟨some d, .call ⟨.value fo,args,tys⟩,ty,pos,af,gd⟩ ι (fun _=> .ov d 0) (fun x=>[(d,some (.o ty0 ((cs' x).map .d) true))]) [d]:=by
 intro hd tl tb K' s1 s2 hf hk;refine⟨fun ρ G ov a w r Q=>?_⟩;have r1:=r.mono s1 s2;obtain⟨h1,h2⟩:=yB ha;obtain⟨y,hy,hy'⟩:=r1.ev h1;rw[(aP (G:=G)).1 hy'] at hy;obtain⟨vs,h3,h4⟩:=r1.evDs h2;refine AV (M:=[]) (rest:=ov) hy h3 (List.Perm.refl _) (hF G vs r.gb h4) hd (fun v own1 G' hG hK a' w' rl=>?_) a w Q ⟨r.h,r.sz,c6 a,r.df⟩;obtain⟨x,b,m,rfl,rfl,hm⟩:=hK;have rl':gq C n (Sx.put (cC a) (some d) (.pointer (some ⟨b,0,none⟩))) (⟨b,m,ty0,true⟩::ov) G' a' w':=by simpa[relo,ju] using rl
 have hnd:=(bZ.1 rl'.h.nd).1;exact(hk x).run _ G' _ a' w' (r.new (x:=⟨some ⟨b,0,none⟩,0,0⟩) (B':= .o ty0 ((cs' x).map .d) true) (os:=[⟨b,m,ty0,true⟩]) hf hG.le rl'.h ⟨b,m,by simp,J,uC hm⟩ (fun o ho=>by rw[aY.1 ho];exact aQ)
  (fun o ho=>aJ _ ho) (fun o ho e=>by cases e;exact hnd o ho J) (f:= .ov d 0) (y:= .pointer (some ⟨b,0,none⟩)) ⟨b,by simp,J⟩ (jz rl'))
def IZ(fr:av)(cf:Cf):Option (FuncId×List DV×Nat):=match b8 fr cf with
 |some ⟨some d, .call ⟨.value fo,args,_⟩,_,_,_,_⟩=>match qt (bw fr cf) fo args with
  |some (f,ds)=>some (f,ds,d)
  |none=>none
 |_=>none
def cn[fu:Fu]{f:FuncId}{d:Nat}{ds:List DV}{ty:TypeId}{ι:Type}{cs':ι->List DV}{vc:ι->List Prop}{fr':ι->av}{own':ι->aF}{cf':ι->Cf}(ha:IZ fr cf=some (f,ds,d))(hF:PN GB prog f ds ty ι cs')
  (hgo: ∀x,(w9 (cs' x) fun csx=>F4 n fu.n fr own cf (.ov d 0) [(d,some (.o ty csx true))])=⟨vc x,fr' x,own' x,cf' x⟩)(k: ∀x,ak prog GB C n Q0 (fr' x) (own' x) (cf' x))(ho:Hv n fr own cf [d]=true:=by rfl)
  (hv: ∀x,aj (vc x):=by intro;first|exact trivial|(simp only[aj];kernel_rfl)|(simp only[aj];omega)|(simp only[aj,aX,aR,aW];omega)):ak prog GB C n Q0 fr own cf:=by
 unfold IZ at ha;split at ha<;>try (cases ha;done)
 rename_i hh;split at ha<;>cases ha;rename_i h1;simp only[BV] at hgo;exact Wd hh ho (avN h1 hF) hgo hv k
def aGn(C:aC)(b:Nat)(m:List Value)(ty:TypeId)(lo:Bool)(ι:Type)(rv:ι->DV)(cs':ι->List DV):Ending->World->Prop:=vp C [⟨b,m,ty,lo⟩] (fun v css G'=> ∃x,Is G' (rv x) v/\ ∃m',css=[m']/\IsLs G' (cs' x) m')
end
section
variable {GB:Gh} {C:aC} {n:Nat} {Q0:Exit->Act->World->Prop} {fr fr':av} {own own':aF} {cf cf':Cf} {vc:List Prop} {ops:Array Oper} {o:Oper} {K:List Kt} {r:List Oper}
def aLl(fr:av)(cf:Cf):Option Nat:=match b8 fr cf with
 |some o=>o.dst
 |none=>none
def aGS(C:aC)(b:Nat)(ty:TypeId)(s:Nat)(ty2:TypeId)(ι:Type)(rows cs':ι->List DV):Ending->World->Prop:=qr C (fun v own' G'=> ∃x w m' B,v= .slice w.a w.n w.c/\own'=⟨b,m',ty,false⟩::B/\IsLs G' (cs' x) m'/\dq G' ⟨w,s,ty2,rows x,true⟩ B/\ ∀o∈B,b≠o.b)
end
section
variable {GB:Gh} {C:aC} {n:Nat} {Q0:Exit->Act->World->Prop} {fr fr':av} {own own':aF} {cf cf':Cf} {vc:List Prop} {ops:Array Oper} {o:Oper} {K:List Kt} {r:List Oper}
def GS(C:aC)(ty:TypeId)(ι:Type)(cs:ι->List DV):Ending->World->Prop:=qr C (fun v own' G'=> ∃x b m,v= .pointer (some ⟨b,0,none⟩)/\own'=[⟨b,m,ty,true⟩]/\IsLs G' (cs x) m)
def fnN[fu:Fu]{f:FuncId}{fb:Func}{c:Code}{m:Nat}{ds:List DV}{ty:TypeId}{ι:Type}{cs:ι->List DV}(hf:prog.funcs[f]? =some fb)(hb:fb.body=some c)(hn:(fb.name== "runtime.NumGoroutine")=false)(hm:fb.ntmps=m)(hlen:Nat.ble ds.length m=true)
  (hgo:go tt m fu.n [] (mP 0 ds) [] (.code c [])=⟨vc,fr,own,cf⟩)(k: ∀C:aC,C.mb=[]->ak prog GB C m (eH C prog fb (GS C ty ι cs)) fr own cf)
  (hv:autoParam (aj vc) fn._auto_1):PN GB prog f ds ty ι cs:=by
 intro G vs hg hvs;refine gE.introR hf hb hn hm (by rw[hvs.len];exact hlen) fun C _ hmb hrd hfx=>?_;intro a w rl;refine tk hrd ?_;have h:=ew (GB:=GB) (C:=C) (Q0:=eH C prog fb (GS C ty ι cs)) hgo hv (k C (by simpa using hmb));exact h.run (fun _=>⟨none,0,0⟩) G [] a w ⟨hg,rl.h,rl.sz,rl.df,(fun k f e=>rp hvs rl.fr k f e),(fun nm B e=>by cases e),(fun nm nm' B B' e=>by cases e),fun nm p _ _ e=>by rw[hfx] at e;cases e⟩
def rzN{fb:Func}{t d:Nat}{ty:TypeId}{ι:Type}{cs:ι->List DV}{cs1:List FX}{l:List DV}(x:ι)(hr:fb.results.toList=[.tmp t])(hl:bi fr t=some (.ov d 0))(hw:bu own d=some (.o ty cs1 true))(hc:ki cs1=some l)(hd:l=cs x):
  ak prog GB C n (eH C prog fb (GS C ty ι cs)) fr own (.ex .ret []):=by
 refine⟨fun ρ G ov a w r=>?_⟩;subst hd;obtain⟨b,m,rest,h3,h4,h5,h6⟩:=r.lend hw hc;obtain⟨y,hy,b',hb',hy'⟩:=r.ev (x:= .tmp t) (f:= .ov d 0) hl;rw[h3] at hb';cases hb';subst hy';exact ZM (C:=C) (n:=n) (fr:=cC a) (own:=ov) (G:=G) (vs:=[.pointer (some ⟨b,0,none⟩)]) (by rw[hr];exact .tmp hy .nil) (⟨b,m,ty,true⟩::rest) [⟨b,m,ty,true⟩] (by simpa using h5) (.cons_cons _ (kQ _)) (fun _=>⟨x,b,m,J,J,h4⟩) a w ⟨r.h,r.sz,c6 a,r.df⟩
def zo[fu:Fu]{d:Nat}{l:List DV}(h:Lk fr cf=some (d,l))(hgo:cv tt n fu.n fr own cf (.d (.pt l)) [(d,none)] [d]=⟨vc,fr',own',cf'⟩)(k:ak prog GB C n Q0 fr' own' cf')
  (hv:autoParam (aj vc) fn._auto_1):ak prog GB C n Q0 fr own cf:=by
 unfold Lk at h;split at h<;>try (cases h;done)
 rename_i hh;split at h<;>try (cases h;done)
 rename_i g hx;rw[cond_eq_ite] at h;split at h<;>try (cases h;done)
 rename_i hc;simp only[aM] at hc;split at h<;>cases h;rename_i hl;exact us hh (WU hx hc.1 hc.2 hl) hgo hv k
end
section
variable {GB:Gh} {C:aC} {n:Nat} {Q0:Exit->Act->World->Prop} {fr fr':av} {own own':aF} {cf cf':Cf} {vc:List Prop} {ops:Array Oper} {o:Oper} {K:List Kt} {r:List Oper}
def mA:List (Option DV)->SV->List DV
 |[],_=>[]
 |some d::t,w=>d::mA t w
 |none::t,w=> .v (.slice w.a w.n w.c)::mA t w
def Am(lk:LK):List Operand->Option (Option Nat×List (Option DV))
 |[]=>some (none,[])
 |x::t=>match aI lk x,Am lk t with
  |some (.rw nm),some (none,l)=>some (some nm,none::l)
  |some f,some (q,l)=>match j' f with
   |some d=>some (q,some d::l)
   |none=>none
  |_,_=>none
def Ai(lk:LK)(fo:Operand)(args:Array Operand):Option (FuncId×Nat×List (Option DV)):=match aI lk fo with
 |some (.d (.v (.func (.func f) ⟨[]⟩ ⟨[]⟩)))=>match Am lk args.toList with
  |some (some nm,l)=>some (f,nm,l)
  |_=>none
 |_=>none
def Dy{lk:LK}{bk:BM}{ρ:NE}{G:Gh}{ov:List au}{a:Act}{w:World}(r:b5 GB C n lk bk ρ G ov a w){z:SV}: ∀{x:List Operand} {q:Option Nat} {l:List (Option DV)},Am lk x=some (q,l)->(∀nm,q=some nm->ρ nm=z)->
  ∃y,f5 (cC a) x=some y/\IsLs G (mA l z) y
 |[],q,l,e,_=>by cases e;exact⟨[],J, .nil⟩
 |x::t,q,l,e,hb=>by
  simp only[Am] at e;split at e
  .rename_i nm l' h1 h2
   cases e
   obtain⟨y,h3,h4⟩:=r.ev h1
   cases (show y=_ from h4)
   obtain⟨ys,h5,h6⟩:=Dy r (z:=z) h2 (fun nm e=>by cases e);have hz:=hb nm J;subst hz;exact⟨Value.slice (ρ nm).a (ρ nm).n (ρ nm).c::ys,by simp only[f5,h3,h5], .cons ((aP (G:=G)).2 J) h6⟩
  .rename_i f q' l' _ h1 h2
   cases hd:j' f with
   |none=>rw[hd] at e;cases e
   |some d=>
   rw[hd] at e;cases e;obtain⟨y,h3,h4⟩:=r.ev h1;obtain⟨ys,h5,h6⟩:=Dy r (z:=z) h2 hb;exact⟨y::ys,by simp only[f5,h3,h5], .cons (nH h4 hd) h6⟩
  .cases e
structure WG where
 f:FuncId
 nm:Nat
 l:List (Option DV)
 ty:TypeId
 s:Nat
 ds:List DV
 lo:Bool
 d:Nat
def Q6(fr:av)(own:aF)(cf:Cf):Option WG:=match b8 fr cf with
 |some ⟨some d, .call ⟨.value fo,args,_⟩,_,_,_,_⟩=>match Ai (bw fr cf) fo args with
  |some (f,nm,l)=>match fE fr own cf nm with
   |some (.b ty s ds lo)=>bif Nat.beq nm d then none else some ⟨f,nm,l,ty,s,ds,lo,d⟩
   |_=>none
  |none=>none
 |_=>none
def wn:Nat->List (Option DV)->av
 |_,[]=>[]
 |i,some v::t=>(i, .d v)::wn (i+1) t
 |i,none::t=>(i, .rw NM)::wn (i+1) t
def FA(w:SV): ∀l:List (Option DV),(mA l w).length=l.length
 |[]=>rfl
 |some d::t=>by simp[mA,FA w t]
 |none::t=>by simp[mA,FA w t]
def EU{w:SV}{ρ:NE}{G:Gh}(hρ:ρ NM=w): ∀{ds:List (Option DV)} {vs:List Value} (i:Nat),IsLs G (mA ds w) vs-> ∀k f,bi (wn i ds) k=some f-> ∃y,(∃j,k=i+j/\vs[j]? =some y)/\b6 ρ G f y
 |[],vs,i,h,k,f,e=>by cases e
 |some d::t,vs,i,h,k,f,e=>by
  obtain⟨y,m,rfl,h1,h2⟩:=bm.1 h;simp only[wn] at e;rw[il] at e;split at e
  .cases e;rename_i hk;exact⟨y,⟨0,hk,rfl⟩,h1⟩
  .obtain⟨u,⟨j,hj,hu⟩,h3⟩:=EU hρ (i+1) h2 k f e
   exact⟨u,⟨j+1,by omega,by simpa using hu⟩,h3⟩
 |none::t,vs,i,h,k,f,e=>by
  obtain⟨y,m,rfl,h1,h2⟩:=bm.1 h;simp only[wn] at e;rw[il] at e;split at e
  .cases e;rename_i hk;exact⟨y,⟨0,hk,rfl⟩,by show y=_;rw[hρ];exact aP.1 h1⟩
  .obtain⟨u,⟨j,hj,hu⟩,h3⟩:=EU hρ (i+1) h2 k f e
   exact⟨u,⟨j+1,by omega,by simpa using hu⟩,h3⟩
def aHR(C:aC)(s:Nat)(ty:TypeId)(pre post dso:List DV):Ending->World->Prop:=qr C (fun v own' G'=> ∃w',Is G' (.tp (pre++ .v (.slice w'.a w'.n w'.c)::post)) v/\dq G' ⟨w',s,ty,dso,false⟩ own')
def Pv{B:List au}{G:Gh}{w:SV}{s:Nat}{ty:TypeId}{ds:List DV}{lo:Bool}{ov:List au}(h:dq G ⟨w,s,ty,ds,lo⟩ B)(g: ∀o∈B,o∈ov): ∃rest,ov.Perm (B++rest):=by
 rcases h with⟨vs',⟨_,_,e⟩|⟨b0,r0,lo0,_,e,_⟩,_⟩
 .rw[e];exact⟨ov,List.Perm.refl _⟩
 .rw[e] at g⊢
  obtain⟨l1,l2,e2⟩:=mK (g _ aQ);rw[e2];exact⟨l1++l2,pY⟩
def LE(lk:LK):List Operand->Option (List (Option DV))
 |[]=>some []
 |x::t=>match aI lk x,LE lk t with
  |some .nl,some l=>some (none::l)
  |some f,some l=>match j' f with
   |some d=>some (some d::l)
   |none=>none
  |_,_=>none
def R8(lk:LK)(fo:Operand)(args:Array Operand):Option (FuncId×List (Option DV)):=match aI lk fo with
 |some (.d (.v (.func (.func f) ⟨[]⟩ ⟨[]⟩)))=>match LE lk args.toList with
  |some l=>some (f,l)
  |_=>none
 |_=>none
def aIP(fr:av)(cf:Cf):Option (FuncId×List (Option DV)×Nat):=match b8 fr cf with
 |some ⟨some d, .call ⟨.value fo,args,_⟩,_,_,_,_⟩=>match R8 (bw fr cf) fo args with
  |some (f,l)=>some (f,l,d)
  |none=>none
 |_=>none
end
section
variable {P:Program} {C:aC} {n:Nat} {fr:Fr} {own own':List au} {G:Gh} {Φ:Act->World->Prop}
variable {dst:Option Nat} {t t' ty':TypeId} {pos:String} {af:Array Edge} {gd:Option (Nat×Bool)} {x y:Operand} {e s by_:Nat}
def Vv[hT:cB P t e s by_]{z:Value}[hz:gk P e z]{k k':IntKind}{l:Int}(hx:aD fr x=some (.int k 0))(hy:aD fr y=some (.int k' l))(h0:0<=l)(hb:by_*l<=2^47)(hl:l<=2^60)(hs:(aE z).length=s)(hd:cg n dst=true)
  (h: ∀b,St C n (put fr dst (.slice (some ⟨b,0,none⟩) 0 l.toNat)) (⟨b,dG z l.toNat,e,true⟩::own) G Φ):
  Ch P C n fr own G ⟨dst, .makeSlice t x y,ty',pos,af,gd⟩ Φ:=by
 intro a w Q rl;have h1:(Instr.makeSlice t (a.eval x) (a.eval y)).run P w= .ok (.slice (some ⟨w.heap.size,0,none⟩) 0 l.toNat) (w.alloc (.cells ⟨dG z l.toNat⟩ e)):=by
  obtain⟨i,hi,hib⟩:=IR (P:=P) (t:=t) (e:=e) (s:=s) (by_:=by_) w;rw[bz rl.fr hx,bz rl.fr hy];unfold Instr.makeSlice;rw[bh (hT.u w)];simp only[asInt,asIntOf];rw[bh (a:=0) (w':=w) J,bh (a:=l) (w':=w) J,bh hi,hib];have hw:IntKind.i64.wrap l=l:=qO (by simp[IntKind.min,IntKind.max,IntKind.signed,IntKind.bits];omega);have hw0:IntKind.i64.wrap 0=0:=J;simp only[hw,hw0];have c1: ¬((by_:Int)*l>2^48):=by
   have:(2:Int)^47<=2^48:=by decide
   omega
  have c5:decide ((by_:Int)*l>2^48)=false:=decide_eq_false c1;have c2:decide (l<0)=false:=decide_eq_false (by omega);have c4:decide ((0:Int)>l)=false:=by simp;omega
  simp only[c2,c4,c5,Bool.false_or,Int.lt_irrefl,decide_false,Bool.or_false,cM,if_false];have hr: ¬(l.toNat*by_>roomBytes):=by
   unfold roomBytes;have:((l.toNat*by_:Nat):Int)=by_*l:=by rw[iJ,pM h0,qN]
   have h47:((2^47:Nat):Int)=2^47:=by decide
   omega
  unfold askRoom;simp only[hr,if_false];rw[bh (run_pure _ _ _),bh (hT.siz w)];have hn:l.toNat*s=l.toNat*(aE z).length:=by rw[hs]
  by_cases h00:l.toNat*s=0
  .rw[if_pos h00,bh (run_pure _ _ _)]
   have e0:dG z l.toNat=[]:=bL (by rw[pd,hs];exact h00);rw[h00,e0,show(Array.range 0)= #[] from J,Array.map_empty];rfl
  .rw[if_neg h00,bh (hz.zero w),om]
   rw[bh (run_pure _ _ _),xo hn];rfl
 refine jv (v:= .slice (some ⟨w.heap.size,0,none⟩) 0 l.toNat) (cI h1) (h w.heap.size _ _ ((rl.heap (rl.h.alloc _ _)).put _ hd))
def qq(G:Gh)(ov:List au):Gh:=fun b=>match G b with
 |some cs=>some cs
 |none=>(ov.find? fun o=>Nat.beq o.b b).map (·.cs)
def Gf{ov:List au}:bD G (qq G ov):=fun b cs h=>by unfold qq;rw[h]
def JC{o:au}: ∀{ov:List au},o∈ov->ov.Pairwise (fun x y=>x.b≠y.b)->ov.find? (fun u=>Nat.beq u.b o.b)=some o
 |u::t,ho,nd=>by
  rcases aU.1 ho with rfl|ho
  .rw[List.find?_cons_of_pos (by simp)]
  .have:=(bZ.1 nd).1 o ho
   rw[List.find?_cons_of_neg (by simpa using this)];exact JC ho (bZ.1 nd).2
def Se{ov:List au}{o:au}(ho:o∈ov)(hn:G o.b=none)(nd:ov.Pairwise (fun x y=>x.b≠y.b)):qq G ov o.b=some o.cs:=by
 unfold qq;rw[hn,JC ho nd];rfl
def bF.lendSub{ov:List au}{w:World}(h:bF C ov G w)(b:Nat)(cs:List Value)(hb:qq G ov b=some cs): ∃ty fz,w.heap[b]? =some (.cells ⟨cs⟩ ty fz):=by
 unfold qq at hb;split at hb
 .rename_i hg;cases hb;exact h.sub _ _ hg
 .cases hf:ov.find? (fun o=>Nat.beq o.b b) with
  |none=>rw[hf] at hb;cases hb
  |some o=>
   rw[hf] at hb;cases hb;have e:o.b=b:=aS (by simpa using List.find?_some hf);subst e;exact⟨_,_,(h.hown o (List.mem_of_find?_eq_some hf)).1⟩
def bF.lent{ov:List au}{G':Gh}{w w':World}(h:bF C ov G w)(k:bF ⟨w,qq G ov,[],[],[],none,fun _=>none⟩ [] G' w'):bF C ov G w':=by
 have same: ∀b o,w.heap[b]? =some o->w'.heap[b]? =some o:=fun b o hb=>by rw[k.keep b (gp hb) (by simp)];exact hb
 have hsz:w.heap.size<=w'.heap.size:=k.size;refine⟨k.os.trans h.os,k.tape.trans h.tape,k.output.trans h.output,dJ h.size hsz,fun b hb hm=>?_,fun b cs hb=>?_,h.gle,h.gold,fun o ho=>?_,h.nd,dJ h.dr k.dr,fun p hp=>⟨(h.ext p hp).1,same _ _ (h.ext p hp).2⟩⟩
 .have:=h.size;rw[k.keep b (by show b<w.heap.size;omega) (by simp)];exact h.keep b hb hm
 .obtain⟨ty,fz,h1⟩:=h.sub b cs hb;exact⟨ty,fz,same _ _ h1⟩
 .obtain⟨h1,h2⟩:=h.hown o ho;exact⟨same _ _ h1,h2⟩
def V6{f:FuncId}{fo:Operand}{args:Array Operand}{tys:Array TypeId}{vs:List Value}{K:Value->Gh->Prop}(ho:aD fr fo=some (.func (.func f) #[] #[]))(hv:f5 fr args.toList=some vs)
  (hF:Fn P f vs (qq G own) K)(hd:cg n dst=true)(h: ∀v (G':Gh),K v G'->St C n (put fr dst v) own G Φ):Ch P C n fr own G ⟨dst, .call ⟨.value fo,args,tys⟩,ty',pos,af,gd⟩ Φ:=by
 intro a w Q rl;have h2:=CA (c1:=[]) (c2:=[]) (P:=P) (dst:=dst) (ty':=ty') (pos:=pos) (af:=af) (gd:=gd) (tys:=tys) (w:=w) hF.able rl.fr ho hv;rw[cZ,iN] at h2;simp only[Oper.wp,h2,Oper.upon];refine(hF.run w rl.h.lendSub).mono ?_;rintro e w' ⟨v,G',rfl,hh,hK⟩;exact h v G' hK _ _ ((rl.heap (rl.h.lent hh)).put _ hd)
end
def DV.np:DV->Bool
 | .v _=>true
 | .tp l=>l.all fun d=>match d with
  | .v _=>true
  |_=>false
 |_=>false
def Jq{A G:Gh}: ∀{l:List DV} {m:List Value},(l.all fun d=>match d with| .v _=>true|_=>false)=true->IsLs A l m->IsLs G l m
 |[],m,_,k=>ck.2 (ck.1 k)
 |d::t,m,h,k=>by
  obtain⟨y,n,rfl,k1,k2⟩:=bm.1 k;simp only[rM,aM] at h;refine .cons ?_ (Jq h.2 k2)
  cases d with
  |v x=>exact aP.2 (aP.1 k1)
  |_=>simp at h
def Is.np{A G:Gh}{d:DV}{y:Value}(h:d.np=true)(k:Is A d y):Is G d y:=by
 cases d with
 |v x=>exact aP.2 (aP.1 k)
 |tp l=>obtain⟨m,e,k⟩:=rP.1 k;exact rP.2 ⟨m,e,Jq h k⟩
 |_=>cases h
section
variable {GB:Gh} {C:aC} {n:Nat} {Q0:Exit->Act->World->Prop} {fr fr':av} {own own':aF} {cf cf':Cf} {vc:List Prop} {lk:LK} {bk:BM} {ρ:NE} {G:Gh} {ov:List au} {a:Act} {w:World}
variable {dst:Option Nat} {t t' ty':TypeId} {pos:String} {af:Array Edge} {gd:Option (Nat×Bool)} {x y:Operand} {e s by_:Nat}
def MC:Option Bk->Option (List DV)
 |some (.b _ _ ds _)=>some ds
 |some (.c _ _ ds _)=>some ds
 |_=>none
def HW(lk:LK)(bk:BM)(x:Operand):Option DV:=match aI lk x with
 |some (.rw nm)=>match MC (bk nm) with
  |some ds=>some (.sl ds)
  |none=>none
 |some f=>j' f
 |none=>none
def B6(lk:LK)(bk:BM):List Operand->Option (List DV)
 |[]=>some []
 |x::t=>match HW lk bk x,B6 lk bk t with
  |some d,some l=>some (d::l)
  |_,_=>none
def X5(r:b5 GB C n lk bk ρ G ov a w){d:DV}(h:HW lk bk x=some d): ∃y,aD (cC a) x=some y/\Is (qq G ov) d y:=by
 unfold HW at h;split at h
 .rename_i nm h1
  obtain⟨y,h2,h3⟩:=r.ev h1
  cases (show y=_ from h3)
  refine⟨_,h2,?_⟩;split at h<;>cases h;rename_i ds hr;obtain⟨ty,s,vs,B,hB,hv,hs,hBo⟩: ∃ty s vs B,gj s ty (ρ nm) vs B/\IsLs G ds vs/\(∀v∈vs,(aE v).length=s)/\ ∀o∈B,o∈ov:=by
   unfold MC at hr;split at hr<;>cases hr
   .rename_i hb;obtain⟨B,⟨vs,h4,h5,h6,_⟩,h7⟩:=r.bx _ _ hb;exact⟨_,_,vs,B,h4,h5,h6,h7⟩
   .rename_i hb;obtain⟨B,⟨vs,h4,h5,h6,_⟩,h7⟩:=r.bx _ _ hb;exact⟨_,_,vs,B,h4,h5,h6,h7⟩
  rcases hB with⟨e1,e2,e3⟩|⟨b,rest,lo',e2,e3,h5,h6,h7⟩
  .subst e1
   have ed:ds=[]:=bL (by rw[<-hv.len];rfl);subst ed;rw[e2];exact ie.2 ⟨0,⟨none,0,0⟩,[],J, .nil _ 0, .nil⟩
  .subst e3
   have ho:=hBo _ aQ;have hg:=Se ho (r.h.hown _ ho).2.1 r.h.nd;rw[e2];exact ie.2 ⟨s,⟨some ⟨b,0,none⟩,vs.length,_⟩,vs,J,eB.of_flat hs hg h7,hv.up Gf⟩
 .rename_i h1
  obtain⟨y,h2,h3⟩:=r.ev h1;exact⟨y,h2,(nH h3 h).up Gf⟩
 .cases h
def QU(r:b5 GB C n lk bk ρ G ov a w): ∀{l:List Operand} {ds:List DV},B6 lk bk l=some ds-> ∃vs,f5 (cC a) l=some vs/\IsLs (qq G ov) ds vs
 |[],ds,e=>by cases e;exact⟨[],J, .nil⟩
 |x::t,ds,e=>by
  simp only[B6] at e;split at e<;>cases e;rename_i h1 h2;obtain⟨y,h3,h4⟩:=X5 r h1;obtain⟨vs,h5,h6⟩:=QU r h2;exact⟨y::vs,by simp only[f5,h3,h5], .cons h4 h6⟩
def FZ(lk:LK)(bk:BM)(fo:Operand)(args:Array Operand):Option (FuncId×List DV):=match aI lk fo with
 |some (.d (.v (.func (.func f) ⟨[]⟩ ⟨[]⟩)))=>match B6 lk bk args.toList with
  |some ds=>some (f,ds)
  |none=>none
 |_=>none
def VG{fo:Operand}{args:Array Operand}{tys:Array TypeId}{f:FuncId}{ds:List DV}{rv:DV}(ha:FZ lk bk fo args=some (f,ds))(hnp:rv.np=true)(hF:PF GB prog f ds rv):b7 prog GB C n lk bk ⟨dst, .call ⟨.value fo,args,tys⟩,ty',pos,af,gd⟩ (.d rv) [] []:=by
 intro hd tl tb K' s1 s2 hf hk;refine⟨fun ρ G ov a w r Q=>?_⟩;have r1:=r.mono s1 s2;unfold FZ at ha;split at ha<;>try (cases ha;done)
 rename_i h1;split at ha<;>cases ha;rename_i h2;obtain⟨y,hy,hy'⟩:=r1.ev h1;rw[(aP (G:=G)).1 hy'] at hy;obtain⟨vs,h3,h4⟩:=QU r1 h2;refine V6 hy h3 (hF _ vs (r.gb.trans Gf) h4) hd (fun v G' hK a' w' rl=>?_) a w Q ⟨r.h,r.sz,c6 a,r.df⟩;exact hk.run ρ G ov a' w' ⟨r.gb,rl.h,rl.sz,rl.df,(jz rl).fx (fun k g _ e=>r.fx k g e) (Is.np hnp hK),r.bx,r.dj,r.fxd⟩
def KY(fr:av)(own:aF)(cf:Cf):Option (FuncId×List DV):=match b8 fr cf with
 |some ⟨_, .call ⟨.value fo,args,_⟩,_,_,_,_⟩=>FZ (bw fr cf) (fE fr own cf) fo args
 |_=>none
def cL[fu:Fu]{f:FuncId}{ds:List DV}{rv:DV}(ha:KY fr own cf=some (f,ds))(hF:PF GB prog f ds rv)(hnp:rv.np=true)(hgo:cv tt n fu.n fr own cf (.d rv) [] []=⟨vc,fr',own',cf'⟩)(k:ak prog GB C n Q0 fr' own' cf')
  (hv:aj vc:=by first|exact trivial|(simp only[aj];kernel_rfl)|(simp only[aj];omega)):ak prog GB C n Q0 fr own cf:=by
 unfold KY at ha;split at ha<;>try (cases ha;done)
 rename_i hh;exact us hh (VG ha hnp hF) hgo hv k
def UZ{d cap:Nat}{i:TI}{z:DV}{k k':IntKind}[hT:cB prog t e s by_](hi:e7 prog e=some i)(hz:ol i=some z)(hs:Nat.beq z.cells.length s=true)(hx:aI lk x=some (.d (.v (.int k 0))))(hy:aI lk y=some (.d (.v (.int k' (cap:Nat)))))(hb:by_*cap<=140737488355328)(hl:cap<=1152921504606846976):
  b7 prog GB C n lk bk ⟨some d, .makeSlice t x y,ty',pos,af,gd⟩ (.rw d) [(d,some (.c e s [] cap))] [d]:=by
 intro hd tl tb K s1 s2 hf hk;refine⟨fun ρ G ov a w r Q=>?_⟩;obtain⟨v,hz1,hz2,hz3⟩:=zR hi hz;obtain⟨q1,p1,p2⟩:=(r.mono s1 s2).ev hx;obtain⟨q2,p3,p4⟩:=(r.mono s1 s2).ev hy;rw[c8] at p2 p4;subst p2 p4;have c1:=((hz2 G).cells hz3).1.len;replace hs:=aS hs;refine Vv p1 p3 (by omega) (by have:((by_*cap:Nat):Int)=by_*cap:=iJ ..;omega) (by omega) (by rw[c1,hs]) hd (fun b a' w' rl=>?_) a w Q ⟨r.h,r.sz,c6 a,r.df⟩;rw[eY] at rl;have hnd:=(bZ.1 rl.h.nd).1;refine hk.run _ _ _ a' w' (r.new' (x:=⟨some ⟨b,0,none⟩,0,cap⟩) (B':= .c e s [] cap) (os:=[⟨b,dG v cap,e,true⟩]) (f:= .rw d) (y:= .slice (some ⟨b,0,none⟩) 0 cap) hf (bD.refl _) rl.h ⟨[], .inr ⟨b,dG v cap,true,by simp,J,by simp[aG],?_,by simp⟩, .nil,by simp,fun o ho=>by rw[aY.1 ho],by simp⟩
  (fun o ho=>by rw[aY.1 ho];exact aQ) (fun m B' _ _ o ho _=>⟨aJ _ ho,fun e'=>by cases e';exact hnd o ho J⟩) (by show _=_;simp) (jz rl))
 rw[pd,c1,hs];simp[aG]
def aB9{d nm cap:Nat}{ds ds2:List DV}[hT:cB prog t e s by_][hN:jP prog t'](hx:aI lk x=some (.rw nm))(hb:bk nm=some (.c e s ds cap))(hy:pu lk bk s y=some ds2)(hk2:du s ds2)(hc:ds.length+ds2.length<=cap)(hp:0<ds2.length)(hnd:Nat.beq nm d=false):
  b7 prog GB C n lk bk ⟨some d, .call ⟨.builtin .append, #[x,y], #[t,t']⟩,ty',pos,af,gd⟩ (.rw d) [(nm,none),(d,some (.c e s (ds++ds2) cap))] [d]:=by
 intro hd tl tb K s1 s2 hf hk;refine⟨fun ρ G ov a w r Q=>?_⟩;have r1:=r.mono s1 s2;have hne:nm≠d:=fun e=>by subst e;simp at hnd
 obtain⟨u,hx',hx2⟩:=r1.ev hx
 cases hx2
 obtain⟨B,⟨vs,hB,hv,hvs,hlo,hcap⟩,hBo⟩:=r1.bx _ _ hb;obtain⟨w2,us,hy',h2,h3,h4,h5,h6⟩:=B9 (P:=prog) (C:=C) r1 hy hk2;have hus:(aG us).length=us.length*s:=ez us h4;have hl1:=hv.len;have hl2:=h3.len;have rd:=r.dropB nm;have hf':jO [d] (some d) tl (Sx.upB tb [(nm,none)]):=fun m hm=>by
  obtain⟨g1,g2⟩:=hf m hm;refine⟨g1,fun k B' hk e=>g2 k B' hk ?_⟩;simp only[Sx.upB] at e;split at e
  .cases e
  .exact e
 rcases hB with⟨e1,e2,e3⟩|⟨b,rest,lo',k3,k4,k5,k6,k7⟩
 .rw[e2] at hcap;simp at hcap;omega
 subst k4;have hl':=hlo _ aQ;simp only at hl';subst hl';have ha:(ρ nm).a=some ⟨b,0,none⟩:=by rw[k3]
 have hn:(ρ nm).n=vs.length:=by rw[k3]
 rw[ha,hn] at hx';rw[h2] at hy' h6;have hin:=hBo _ aQ;obtain⟨l1,l2,e5⟩:=mK hin;have hperm:ov.Perm (⟨b,aG vs++rest,e,true⟩::(l1++l2)):=by rw[e5];exact pY
 have hall: ∀v∈vs++us,(aE v).length=s:=fun v hv=>by
  rcases bS.1 hv with hv|hv
  .exact hvs v hv
  .exact h4 v hv
 have hcs:(aG vs++rest).length=(ρ nm).c*s:=by rw[aL];exact k6
 have hroom:vs.length+us.length<=(ρ nm).c:=by omega
 have hmul:(vs.length+us.length)*s<=(ρ nm).c*s:=bV _ hroom;rw[dZ] at hmul;have hrest:us.length*s<=rest.length:=by rw[k5] at k6;omega
 have hovw:cp (aG vs++rest) (vs.length*s) (aG us)=aG (vs++us)++rest.drop (us.length*s):=by
  rw[oF _ _ _ (by rw[hus,aL];omega),oc,<-k5];simp[hus,lN,cN]
 refine NA (P:=prog) (own:=⟨b,aG vs++rest,e,true⟩::(l1++l2)) (m:=us.length) (ys:=aG us) hx' hy' (.hd ..) hcs (fun w hh=>h6 w (hh.perm hperm.symm)) hus h5 hroom hd (fun a' w' rl=>?_) a w Q ⟨r.h.perm hperm,r.sz,c6 a,r.df⟩;rw[hovw] at rl;have hnd':=(bZ.1 rl.h.nd).1;refine hk.run _ _ _ a' w' (rd.new' (x:=⟨some ⟨b,0,none⟩,vs.length+us.length,(ρ nm).c⟩) (B':= .c e s (ds++ds2) cap) (os:=[⟨b,aG (vs++us)++rest.drop (us.length*s),e,true⟩]) (f:= .rw d) (y:= .slice (some ⟨b,0,none⟩) (vs.length+us.length) (ρ nm).c) hf' (bD.refl _) rl.h
  ⟨vs++us, .inr ⟨b,rest.drop (us.length*s),true,by simp,J,ez _ hall,?_,by simpa using hroom⟩,hv.app h3,hall,fun o ho=>by rw[aY.1 ho],by simpa using hcap⟩ (fun o ho=>by rw[aY.1 ho];exact aQ)
  (fun m B' hm e' o ho hmo=>?_) (by show _=_;simp) (jz rl))
 .rw[ez _ hall,aL,fN,dZ]
  simp only[if_true];rw[k5] at k6;omega
 .have hmn:m≠nm/\tb m=some B':=by
   simp only[Sx.upB] at e';split at e'
   .cases e'
   .exact⟨by assumption,e'⟩
  have hob:o.b≠b:=fun e6=>r.dj m nm B' _ hmn.2 (s2 _ _ hb) hmn.1 b (by rw[hmo,e6]) ha;refine⟨?_,fun e6=>by cases e6;exact hob J⟩;rcases aU.1 (hperm.mem_iff.1 ho) with rfl|ho
  .exact absurd J hob
  .exact aJ _ ho
end
section
variable {GB:Gh} {C:aC} {n:Nat} {Q0:Exit->Act->World->Prop} {fr fr':av} {own own':aF} {cf cf':Cf} {vc:List Prop}
def mkc[fu:Fu]{d e s b:Nat}{z:DV}{k':IntKind}(cap:Nat)(h:BR fr cf=some ⟨d,e,s,b,z,0⟩)(hy:(match b8 fr cf with|some ⟨_, .makeSlice _ _ y,_,_,_,_⟩=>aI (bw fr cf) y|_=>none)=some (.d (.v (.int k' (cap:Nat)))))
  (hgo:cv tt n fu.n fr own cf (.rw d) [(d,some (.c e s [] cap))] [d]=⟨vc,fr',own',cf'⟩)(k:ak prog GB C n Q0 fr' own' cf')(hb:b*cap<=140737488355328:=by omega)(hl:cap<=1152921504606846976:=by omega)
  (hv:autoParam (aj vc) cL._auto_1):ak prog GB C n Q0 fr own cf:=by
 unfold BR at h;split at h<;>try (cases h;done)
 rename_i hh;split at h<;>try (cases h;done)
 rename_i hx;split at h<;>try (cases h;done)
 rename_i hT;split at h<;>try (cases h;done)
 rename_i hi;split at h<;>try (cases h;done)
 rename_i hz;rw[cond_eq_ite] at h;split at h<;>cases h;rename_i hs;rw[hh] at hy;have:=lg (e8 _ _ hT) J;exact us hh (UZ (e8 _ _ hi) hz hs hx hy hb hl) hgo hv k
structure SK where
 d:Nat
 nm:Nat
 e:Nat
 s:Nat
 ds:List DV
 ds2:List DV
 cap:Nat
def NL(fr:av)(own:aF)(cf:Cf):Option SK:=match b8 fr cf with
 |some ⟨some d, .call ⟨.builtin .append,⟨[x,y]⟩,⟨[t,t']⟩⟩,_,_,_,_⟩=>match de tt t,de tt t' with
  |some ⟨.sl e s _,_,_,_⟩,some ⟨.sl _ _ _,_,_,_⟩=>match aI (bw fr cf) x with
   |some (.rw nm)=>match fE fr own cf nm,pu (bw fr cf) (fE fr own cf) s y with
    |some (.c e' s' ds cap),some ds2=>bif (Nat.beq e' e&&Nat.beq s' s)&&!Nat.beq nm d then some ⟨d,nm,e,s,ds,ds2,cap⟩ else none
    |_,_=>none
   |_=>none
  |_,_=>none
 |_=>none
def Zv[fu:Fu]{d nm e s cap:Nat}{ds ds2:List DV}(ds':List DV)(h:NL fr own cf=some ⟨d,nm,e,s,ds,ds2,cap⟩)(hds:ds++ds2=ds')(ho2:du s ds2)(hc:ds.length+ds2.length<=cap)(hgo:cv tt n fu.n fr own cf (.rw d) [(nm,none),(d,some (.c e s ds' cap))] [d]=⟨vc,fr',own',cf'⟩)(k:ak prog GB C n Q0 fr' own' cf')
  (hp:0<ds2.length:=by simp)(hv:autoParam (aj vc) cL._auto_1):ak prog GB C n Q0 fr own cf:=by
 subst hds;unfold NL at h;split at h<;>try (cases h;done)
 rename_i hh;split at h<;>try (cases h;done)
 rename_i hT hT';split at h<;>try (cases h;done)
 rename_i hx;split at h<;>try (cases h;done)
 rename_i hb hy;rw[cond_eq_ite] at h;split at h<;>cases h;rename_i h2;simp only[aM,iX] at h2
 cases aS h2.1.1
 cases aS h2.1.2
 have:=lg (e8 _ _ hT) J;have hN:jP prog _:=⟨_,(lg (e8 _ _ hT') J).un⟩;exact us hh (aB9 hx hb hy ho2 hc hp h2.2) hgo hv k
def PI(GB:Gh)(P:Program)(f:FuncId)(i:Int)(s:Nat)(ty ty2:TypeId)(ds:List DV)(x:DV)(cap:Nat)(dso:List DV):Prop:=
 ∀G w w2 B B2,bD GB G->dq G ⟨w,s,ty,ds,false⟩ B->cap<=w.c->dq G ⟨w2,s,ty2,[x],false⟩ B2->gE P f [.slice w.a w.n w.c, .int .i64 i, .slice w2.a w2.n w2.c] (B++B2) G fun v own' G'=> ∃w',v= .slice w'.a w'.n w'.c/\dq G' ⟨w',s,ty,dso,false⟩ own'
structure Xt where
 f:FuncId
 nm:Nat
 nm2:Nat
 i:Int
 ty:TypeId
 ty2:TypeId
 s:Nat
 ds:List DV
 x:DV
 cap:Nat
 d:Nat
def Ki(fr:av)(own:aF)(cf:Cf):Option Xt:=match b8 fr cf with
 |some ⟨some d, .call ⟨.value fo,⟨[x1,x2,x3]⟩,_⟩,_,_,_,_⟩=>match aI (bw fr cf) fo,aI (bw fr cf) x1 with
  |some (.d (.v (.func (.func f) ⟨[]⟩ ⟨[]⟩))),some (.rw nm)=>match aI (bw fr cf) x2,aI (bw fr cf) x3 with
   |some (.d (.v (.int .i64 i))),some (.rw nm2)=>match fE fr own cf nm,fE fr own cf nm2 with
    |some (.c ty s ds cap),some (.b ty2 s2 [x] true)=>bif (!Nat.beq nm d&&!Nat.beq nm2 d)&&(!Nat.beq nm nm2&&(Nat.beq s2 s&&Nat.blt 0 cap)) then some ⟨f,nm,nm2,i,ty,ty2,s,ds,x,cap,d⟩ else none
    |_,_=>none
   |_,_=>none
  |_,_=>none
 |_=>none
def avd{lk:LK}{bk:BM}{fo x1 x2 x3:Operand}{tys:Array TypeId}{f:FuncId}{nm nm2 d cap s:Nat}{i:Int}{ty0 ty2:TypeId}{ty:TypeId}{pos:String}{af:Array Edge}{gd:Option (Nat×Bool)}{ds dso:List DV}{x:DV}(hne:Nat.beq nm d=false)(hne2:Nat.beq nm2 d=false)(hn2:Nat.beq nm nm2=false)(hcp:0<cap)
  (h0:aI lk fo=some (.d (.v (.func (.func f) ⟨[]⟩ ⟨[]⟩))))(h1:aI lk x1=some (.rw nm))(h2:aI lk x2=some (.d (.v (.int .i64 i))))(h3:aI lk x3=some (.rw nm2))(hb:bk nm=some (.c ty0 s ds cap))(hb2:bk nm2=some (.b ty2 s [x] true))(hF:PI GB prog f i s ty0 ty2 ds x cap dso):
  b7 prog GB C n lk bk ⟨some d, .call ⟨.value fo,⟨[x1,x2,x3]⟩,tys⟩,ty,pos,af,gd⟩ (.rw d) [(nm,none),(nm2,none),(d,some (.b ty0 s dso true))] [d]:=by
 intro hd tl tb K' s1 s2 hf hk;refine⟨fun ρ G ov a w r Q=>?_⟩;have r1:=r.mono s1 s2;obtain⟨y,hy,hy'⟩:=r1.ev h0;rw[(aP (G:=G)).1 hy'] at hy;obtain⟨y1,p1,p1'⟩:=r1.ev h1
 cases (show y1=_ from p1')
 obtain⟨y2,p2,p2'⟩:=r1.ev h2;rw[c8] at p2';subst p2';obtain⟨y3,p3,p3'⟩:=r1.ev h3
 cases (show y3=_ from p3')
 have hnn:nm≠d:=fun e=>by subst e;rw[pV] at hne;cases hne
 have hnn2:nm2≠d:=fun e=>by subst e;rw[pV] at hne2;cases hne2
 have hnm:nm≠nm2:=fun e=>by subst e;rw[pV] at hn2;cases hn2
 obtain⟨B,g1,g2⟩:=r1.bx _ _ hb;obtain⟨B2,k1,k2⟩:=r1.bx _ _ hb2;obtain⟨vs,q1,q2,q3,q4,q5⟩:=g1;have hB:dq G ⟨ρ nm,s,ty0,ds,false⟩ B:=⟨vs,q1,q2,q3,fun h=>by cases h⟩;have hB2:dq G ⟨ρ nm2,s,ty2,[x],false⟩ B2:=dq.weak (lo:=true) k1;have e1: ∃o,B=[o]/\(ρ nm).a=some ⟨o.b,0,none⟩:=by
  rcases q1 with⟨_,e,_⟩|⟨b,rest,lo',e,rfl,_⟩
  .rw[e] at q5;simp at q5;omega
  .exact⟨_,J,by rw[e]⟩
 have e2: ∃o,B2=[o]/\(ρ nm2).a=some ⟨o.b,0,none⟩:=by
  obtain⟨vs2,c1,c2,_⟩:=k1;rcases c1 with⟨e,_,_⟩|⟨b,rest,lo',e,rfl,_⟩
  .subst e;have:=c2.len;simp at this
  .exact⟨_,J,by rw[e]⟩
 obtain⟨o1,rfl,a1⟩:=e1;obtain⟨o2,rfl,a2⟩:=e2;have hob:o1.b≠o2.b:=fun e=>r.dj nm nm2 _ _ (s2 _ _ hb) (s2 _ _ hb2) hnm _ a1 (by rw[a2,e]);have hp: ∃rest,ov.Perm ([o1]++[o2]++rest):=by
  obtain⟨l1,l2,e3⟩:=mK (g2 _ aQ);have hm:=k2 _ aQ;rw[e3] at hm⊢;have hm2:o2∈l1++l2:=by
   rcases bS.1 hm with h|h
   .exact cV _ h
   .rcases aU.1 h with h|h
    .exact absurd (by rw[h]) hob
    .exact dX _ h
  obtain⟨l3,l4,e4⟩:=mK hm2;refine⟨l3++l4,List.perm_middle.trans ?_⟩;rw[e4];exact(pY (l₁:=l3) (l₂:=l4) (a:=o2)).cons o1
 obtain⟨rest,h5⟩:=hp;have h6: ∀o∈ov,o.b≠o1.b->o.b≠o2.b->o∈rest:=fun o ho n1 n2=>by
  have:=h5.mem_iff.1 ho;simp only[cX,cZ,aU] at this;rcases this with rfl|rfl|h
  .exact absurd J n1
  .exact absurd J n2
  .exact h
 have hlo2: ∀o∈[o2],o.lo=true:=by obtain⟨_,_,_,_,h⟩:=k1;exact h rfl
 have hall: ∀o∈[o1]++[o2],o.lo=true:=fun o ho=>by
  rcases bS.1 ho with h|h
  .exact q4 o h
  .exact hlo2 o h
 refine AV (M:=[o1]++[o2]) (rest:=rest) (vs:=[.slice (ρ nm).a (ρ nm).n (ρ nm).c, .int .i64 i, .slice (ρ nm2).a (ρ nm2).n (ρ nm2).c]) hy (by simp only[f5,p1,p2,p3]) h5 (hF G (ρ nm) (ρ nm2) [o1] [o2] r.gb hB q5 hB2) hd (fun v own1 G' hG hK a' w' rl=>?_) a w Q ⟨r.h,r.sz,c6 a,r.df⟩;obtain⟨z,rfl,vs',k1',k2',k3',k4'⟩:=hK;have hs1:=k1'.relo (ju ([o1]++[o2]));have e3: ∀o∈own1.map (relo (ju ([o1]++[o2]))),o.lo=true:=fun o ho=>by
  obtain⟨o',_,rfl⟩:=bX.1 ho;exact F7 _ hall
 generalize own1.map (relo (ju ([o1]++[o2])))=B' at rl e3 hs1;have rl':gq C n (Sx.put (cC a) (some d) (.slice z.a z.n z.c)) (B'++rest) G' a' w':=rl;have hdis:=(iY.1 rl'.h.nd).2.2;have rd:=(r.dropB nm).dropB nm2;have hin: ∀q B0,Sx.upB (Sx.upB tb [(nm,none)]) [(nm2,none)] q=some B0->q≠nm/\q≠nm2/\tb q=some B0:=fun q B0 e=>by
  simp only[Sx.upB] at e;split at e
  .cases e
  .split at e
   .cases e
   .exact⟨by assumption,by assumption,e⟩
 have hf2:jO [d] (some d) tl (Sx.upB (Sx.upB tb [(nm,none)]) [(nm2,none)]):=fun q hq=>by
  obtain⟨f1,f2⟩:=hf q hq;exact⟨f1,fun k B e1 e=>f2 k B e1 (hin k B e).2.2⟩
 have hsep: ∀q B0,Sx.upB (Sx.upB tb [(nm,none)]) [(nm2,none)] q=some B0-> ∀o∈ov,(ρ q).a=some ⟨o.b,0,none⟩->o∈rest:=fun q B0 e o ho hbq=>by
  obtain⟨n1,n2,n3⟩:=hin q B0 e;exact h6 o ho (fun e'=>r.dj nm q _ _ (s2 _ _ hb) n3 (Ne.symm n1) _ a1 (by rw[hbq,e'])) (fun e'=>r.dj nm2 q _ _ (s2 _ _ hb2) n3 (Ne.symm n2) _ a2 (by rw[hbq,e']))
 have r3:=rd.new' (x:=z) (B':= .b ty0 s dso true) (os:=B') (ov':=B'++rest) (f:= .rw d) (y:= .slice z.a z.n z.c) hf2 hG.le rl'.h ⟨vs',by simpa using hs1,k2',k3',fun _=>e3⟩ (fun o ho=>cV _ ho)
  (fun q B0 hq e o ho hbq=>⟨dX _ (hsep q B0 e o ho hbq),fun hc=>by
   have hx: ∃o1∈B',o1.b=o.b:=by
    rcases hs1 with⟨_,h,_⟩|⟨b0,rest0,lo0,h,hB,_⟩
    .rw[show z=_ from h] at hc;cases hc
    .rw[show z=_ from h] at hc;cases hc;exact⟨⟨_,aG vs'++rest0,_,lo0⟩,by rw[hB];exact aQ,J⟩
   obtain⟨o3,ho3,he3⟩:=hx;exact hdis o3 ho3 o (hsep q B0 e o ho hbq) he3⟩) (by show _=_;simp) (jz rl')
 exact hk.run _ G' _ a' w' r3
def ci[fu:Fu]{f:FuncId}{nm nm2 d cap s:Nat}{i:Int}{ty ty2:TypeId}{ds dso:List DV}{x:DV}(dso':List DV)(ha:Ki fr own cf=some ⟨f,nm,nm2,i,ty,ty2,s,ds,x,cap,d⟩)(hF:PI GB prog f i s ty ty2 ds x cap dso)(he:dso=dso')
  (hgo:cv tt n fu.n fr own cf (.rw d) [(nm,none),(nm2,none),(d,some (.b ty s dso' true))] [d]=⟨vc,fr',own',cf'⟩)(k:ak prog GB C n Q0 fr' own' cf')
  (hv:autoParam (aj vc) cL._auto_1):ak prog GB C n Q0 fr own cf:=by
 subst he;unfold Ki at ha;split at ha<;>try (cases ha;done)
 rename_i hh;split at ha<;>try (cases ha;done)
 rename_i h0 h1;split at ha<;>try (cases ha;done)
 rename_i h2 h3;split at ha<;>try (cases ha;done)
 rename_i hb hb2;rw[cond_eq_ite] at ha;split at ha<;>cases ha;rename_i hc;simp only[aM,iX,mX] at hc;obtain⟨⟨c1,c2⟩,c3,c4,c5⟩:=hc
 cases aS c4
 exact us hh (avd c1 c2 c3 c5 h0 h1 h2 h3 hb hb2 hF) hgo hv k
def fi(d:Nat){ops:Array Oper}{r:List Oper}{K:List Kt}(hl:bi fr d=some (.d (.v (.bool true))))(k:ak prog GB C n Q0 ((d, .tt)::fr) own (.ops ops r K)):ak prog GB C n Q0 fr own (.ops ops r K):=n5 (g:= .tt) hl (fun _ G _ e=>(aP (G:=G)).1 e) k
def jH(d:Nat){ops:Array Oper}{r:List Oper}{K:List Kt}(hl:bi fr d=some (.d (.v (.bool false))))(k:ak prog GB C n Q0 ((d, .ff)::fr) own (.ops ops r K)):ak prog GB C n Q0 fr own (.ops ops r K):=n5 (g:= .ff) hl (fun _ G _ e=>(aP (G:=G)).1 e) k
end
end Go.Sx
end
