import Derived.Test.YtmdgdhokaffbkaaGreatDoorTf5
set_option linter.all false
set_option maxRecDepth 100000
section
namespace Go.Sx
open Go Go.Proofs Tryz
variable {GB G G' A:Gh}{C:aD}{n q by_ cap:Nat}{Q0:Exit->Act->World->Prop}{fr fr' fr1 fr2:aA}{own' own1 own2:aF}{cf cf' cf1 cf2:Cf}{vc vc1 vc2:List Prop}{ops:Array Oper}{o:Oper}{K:List Kt}{r:List Oper}{nw:List Nat}{rv d' v v':DV}{i:Int}{k':IntKind}{x y fo:Operand}{ρ:NE}{Φ Ψ:Act->World->Prop}{c:Code}{lk tl:LK}{bk tb:BM}{ov:List av}{a:Act}{w w':World}{P:Program}{args:Array Operand}{tys:Array TypeId}{dst:Option Nat}{ty0 t t' ty':TypeId}{pos:String}{af:Array Edge}{cs' dsi dso pre post:List DV}{csx cs1:List FX}{fb:Func}{m vs:List Value}{p:Prop}{B:Bk}{ι:Type}
section
variable {own:aF}
def cO(fr:aA)(cf:Cf):Option Oper:=match GT cf with
 |some (ops,o)=>bif uC ops (bH fr cf) o.guard then some o else none
 |none=>none
def FJ(h:cO fr cf=some o): ∃ops,GT cf=some (ops,o)/\uC ops (bH fr cf) o.guard=true:=by
 unfold cO at h;split at h<;>try (cases h;done)
 rename_i ops o' hh
 cases hg:uC ops (bH fr cf) o'.guard with
 |false=>rw[hg] at h;cases h
 |true=>rw[hg] at h;cases h;exact⟨ops,hh,hg⟩
def us{f:FX}{bl:List (Nat×Option Bk)}(hh:cO fr cf=some o)(h:bD prog GB C n (bH fr cf) (gp fr own cf) o f bl nw)
  (hgo:cv tt n q fr own cf f bl nw=⟨vc,fr',own',cf'⟩)(hv:aj vc)(k:ao prog GB C n Q0 fr' own' cf'):ao prog GB C n Q0 fr own cf:=by
 obtain⟨ops,h1,h2⟩:=FJ hh;exact uo h1 h2 h hgo hv k
def Dh(fr:aA)(cf:Cf):Option (FuncId×List DV):=match cO fr cf with
 |some ⟨_, .call ⟨.value fo,args,_⟩,_,_,_,_⟩=>n9 (bH fr cf) fo args
 |_=>none
def cl[fu:Fu]{f:FuncId}{ds:List DV}(ha:Dh fr cf=some (f,ds))(hF:PF GB prog f ds rv)(hgo:cv tt n fu.n fr own cf (.d rv) [] []=⟨vc,fr',own',cf'⟩)(k:ao prog GB C n Q0 fr' own' cf')
  (hv:autoParam (aj vc) fn._auto_1):ao prog GB C n Q0 fr own cf:=by
 unfold Dh at ha;split at ha<;>try (cases ha;done)
 rename_i hh;exact us hh (Xv ha hF) hgo hv k
def MR(fr:aA)(cf:Cf):Option (List DV×Int×Nat):=match cO fr cf with
 |some ⟨_, .indexAddr t x y,_,_,_,_⟩=>match evD (bH fr cf) x with
  |some (.sl l)=>match ba (bH fr cf) y with
   |some (.d (.v (.int _ i)))=>match di tt t with
    |some ⟨.sl _ s _,_,_,_⟩=>some (l,i,s)
    |_=>none
   |_=>none
  |_=>none
 |_=>none
def La(n q:Nat)(fr:aA)(own:aF)(cf:Cf)(d:DV)(s:Nat):vC:=bif d.okc&&Nat.beq d.cells.length s then kb d.cells fun cs=>cv tt n q fr own cf (.ep cs) [] [] else nF
def ix[fu:Fu](d:DV){l:List DV}{s:Nat}(h:MR fr cf=some (l,i,s))(he:l[i.toNat]? =some d)(hgo:La n fu.n fr own cf d s=⟨vc,fr',own',cf'⟩)(k:ao prog GB C n Q0 fr' own' cf')(h0:0<=i:=by omega)
  (hv:autoParam (aj vc) fn._auto_1):ao prog GB C n Q0 fr own cf:=by
 unfold MR at h;split at h<;>try (cases h;done)
 rename_i hh;split at h<;>try (cases h;done)
 rename_i hx;split at h<;>try (cases h;done)
 rename_i hy;split at h<;>cases h;rename_i hT;have:=ji (dw _ _ hT) J;unfold La at hgo
 cases hc:(d.okc&&Nat.beq d.cells.length s) with
 |false=>simp only[hc,cond_false,nF] at hgo;cases hgo;exact absurd hv (fun x=>x)
 |true=>
  simp only[hc,cond_true,re] at hgo;exact us hh (Zx hx hy h0 he hc) hgo hv k
structure QZ where
 ds:List DV
 k:Nat
 j:Nat
 ag:Option Nat
def Cz(fr:aA)(own:aF)(cf:Cf):Option QZ:=match cO fr cf with
 |some ⟨_, .load t x,_,_,_,_⟩=>match ba (bH fr cf) x with
  |some (.be nm sz k j)=>match gp fr own cf nm with
   |some (.b _ s ds _)=>bif Nat.beq s sz then(match di tt t with
    |some i=>match i.ag with
     |some ag=>some ⟨ds,k,j,ag⟩
     |none=>none
    |none=>none) else none
   |_=>none
  |_=>none
 |_=>none
def LA(n q:Nat)(fr:aA)(own:aF)(cf:Cf)(d:DV)(ag:Option Nat)(j:Nat):vC:=bif d.okc then(match vg ag d.cells j with
 |some c=>cv tt n q fr own cf (.d c) [] []
 |none=>nF) else nF
def lb[fu:Fu](d:DV){ds:List DV}{k' j:Nat}{ag:Option Nat}(h:Cz fr own cf=some ⟨ds,k',j,ag⟩)(he:ds[k']? =some d)(hgo:LA n fu.n fr own cf d ag j=⟨vc,fr',own',cf'⟩)(k:ao prog GB C n Q0 fr' own' cf')
  (hv:autoParam (aj vc) fn._auto_1):ao prog GB C n Q0 fr own cf:=by
 unfold Cz at h;split at h<;>try (cases h;done)
 rename_i hh;split at h<;>try (cases h;done)
 rename_i hx;split at h<;>try (cases h;done)
 rename_i ty s ds' lo hb;rw[cond_eq_ite] at h;split at h<;>try (cases h;done)
 rename_i hs
 cases aR hs
 split at h<;>try (cases h;done)
 rename_i hT;split at h<;>cases h;rename_i ha;unfold LA at hgo
 cases hc:d.okc with
 |false=>simp only[hc,cond_false,nF] at hgo;cases hgo;exact absurd hv (fun x=>x)
 |true=>
  simp only[hc,cond_true] at hgo
  cases hl:vg ag d.cells j with
  |none=>simp only[hl,nF] at hgo;cases hgo;exact absurd hv (fun x=>x)
  |some c=>simp only[hl] at hgo;exact us hh (JX (dw _ _ hT) ha hx hb he hc hl) hgo hv k
structure XI where
 nm:Nat
 ty:TypeId
 s:Nat
 ds:List DV
 lo:Bool
 k:Nat
 j:Nat
 ag:Option Nat
 u:DV
def H'(fr:aA)(own:aF)(cf:Cf):Option XI:=match cO fr cf with
 |some ⟨_, .store t x y,_,_,_,_⟩=>match ba (bH fr cf) x with
  |some (.be nm sz k j)=>match gp fr own cf nm with
   |some (.b ty s ds lo)=>bif Nat.beq s sz then(match di tt t with
    |some i=>match i.ag with
     |some ag=>match evD (bH fr cf) y with
      |some u=>some ⟨nm,ty,s,ds,lo,k,j,ag,u⟩
      |none=>none
     |none=>none
    |none=>none) else none
   |_=>none
  |_=>none
 |_=>none
def sb[fu:Fu](d:DV){nm:Nat}{ty:TypeId}{s:Nat}{ds:List DV}{lo:Bool}{k' j:Nat}{ag:Option Nat}{u:DV}(ds':List DV)(h:H' fr own cf=some ⟨nm,ty,s,ds,lo,k',j,ag,u⟩)(he:ds[k']? =some d)(hl:Bj ag d j u=some d')(hds:ds.set k' d'=ds')
  (hgo:cv tt n fu.n fr own cf .un [(nm,some (.b ty s ds' lo))] []=⟨vc,fr',own',cf'⟩)(k:ao prog GB C n Q0 fr' own' cf')
  (hv:autoParam (aj vc) fn._auto_1):ao prog GB C n Q0 fr own cf:=by
 unfold H' at h;split at h<;>try (cases h;done)
 rename_i hh;split at h<;>try (cases h;done)
 rename_i hx;split at h<;>try (cases h;done)
 rename_i hb;rw[cond_eq_ite] at h;split at h<;>try (cases h;done)
 rename_i hs
 cases aR hs
 split at h<;>try (cases h;done)
 rename_i hT;split at h<;>try (cases h;done)
 rename_i ha;split at h<;>cases h;rename_i hy;exact us hh (Sc (dw _ _ hT) ha hx hb hy he hl hds) hgo hv k
structure UM where
 d:Nat
 e:Nat
 s:Nat
 b:Nat
 z:DV
 l:Int
def Be(fr:aA)(cf:Cf):Option UM:=match cO fr cf with
 |some ⟨some d, .makeSlice t x y,_,_,_,_⟩=>match ba (bH fr cf) x with
  |some (.d (.v (.int _ l)))=>match di tt t with
   |some ⟨.sl e s b,_,_,_⟩=>match di tt e with
    |some i=>match lv i with
     |some z=>bif Nat.beq z.cells.length s then some ⟨d,e,s,b,z,l⟩ else none
     |none=>none
    |none=>none
   |_=>none
  |_=>none
 |_=>none
def mk[fu:Fu]{d e s b:Nat}{z:DV}{l:Int}(ds:List DV)(h:Be fr cf=some ⟨d,e,s,b,z,l⟩)(hy:(match cO fr cf with|some ⟨_, .makeSlice _ _ y,_,_,_,_⟩=>ba (bH fr cf) y|_=>none)=some (.d (.v (.int k' l))))(hds:List.replicate l.toNat z=ds)
  (hgo:cv tt n fu.n fr own cf (.rw d) [(d,some (.b e s ds true))] [d]=⟨vc,fr',own',cf'⟩)(k:ao prog GB C n Q0 fr' own' cf')(h0:0<=l:=by omega)(hb:b*l<=140737488355328:=by omega)(hl:l<=1152921504606846976:=by omega)
  (hv:autoParam (aj vc) fn._auto_1):ao prog GB C n Q0 fr own cf:=by
 unfold Be at h;split at h<;>try (cases h;done)
 rename_i hh;split at h<;>try (cases h;done)
 rename_i hx;split at h<;>try (cases h;done)
 rename_i hT;split at h<;>try (cases h;done)
 rename_i hi;split at h<;>try (cases h;done)
 rename_i hz;rw[cond_eq_ite] at h;split at h<;>cases h;rename_i hs;rw[hh] at hy;have:=ji (dw _ _ hT) J;exact us hh (R7 (dw _ _ hi) hz hs hx hy h0 hb hl hds) hgo hv k
structure PL where
 d:Nat
 e:Nat
 s:Nat
 ds:List DV
def AH(fr:aA)(cf:Cf):Option PL:=match cO fr cf with
 |some ⟨some d, .buildSlice t len parts,_,_,_,_⟩=>match di tt t with
  |some ⟨.sl e s _,_,_,_⟩=>match di tt e with
   |some i=>match lv i with
    |some z=>match vu (bH fr cf) 0 parts.toList with
     |some ds=>bif Nat.beq z.cells.length s&&(Fi s ds&&(Nat.beq parts.toList.length len&&(Nat.ble (len*s) 1000&&Nat.blt 0 (len*s)))) then some ⟨d,e,s,ds⟩ else none
     |none=>none
    |none=>none
   |none=>none
  |_=>none
 |_=>none
def JB{d e s:Nat}{ds:List DV}(h:AH fr cf=some ⟨d,e,s,ds⟩): ∃o,cO fr cf=some o/\o.dst=some d/\bD prog GB C n (bH fr cf) (gp fr own cf) o (.rw d) [(d,some (.b e s ds true))] [d]:=by
 unfold AH at h;split at h<;>try (cases h;done)
 rename_i hh;split at h<;>try (cases h;done)
 rename_i hT;split at h<;>try (cases h;done)
 rename_i hi;split at h<;>try (cases h;done)
 rename_i hz;split at h<;>try (cases h;done)
 rename_i hr;rw[cond_eq_ite] at h;split at h<;>cases h;rename_i hc;simp only[bV] at hc;have:=ji (dw _ _ hT) J;exact⟨_,hh,J,SI (dw _ _ hi) hz hc.1 hr hc.2.1 hc.2.2.1 hc.2.2.2.1 hc.2.2.2.2⟩
def ro[fu:Fu]{d e s:Nat}{ds:List DV}(h:AH fr cf=some ⟨d,e,s,ds⟩)(hgo:cv tt n fu.n fr own cf (.rw d) [(d,some (.b e s ds true))] [d]=⟨vc,fr',own',cf'⟩)(k:ao prog GB C n Q0 fr' own' cf')
  (hv:autoParam (aj vc) fn._auto_1):ao prog GB C n Q0 fr own cf:=by
 obtain⟨o,h1,_,h3⟩:=JB (GB:=GB) (C:=C) (n:=n) (own:=own) h;exact us h1 h3 hgo hv k
def rf[fu:Fu]{d e s:Nat}{ds:List DV}(h:AH fr cf=some ⟨d,e,s,ds⟩)(hgo:cv tt n fu.n fr own cf (.d (.sl ds)) [(d,none)] [d]=⟨vc,fr',own',cf'⟩)(k:ao prog GB C n Q0 fr' own' cf')
  (hv:autoParam (aj vc) fn._auto_1):ao prog GB C n Q0 fr own cf:=by
 obtain⟨o,h1,h2,h3⟩:=JB (GB:=GB) (C:=C) (n:=n) (own:=own) h;exact us h1 (h3.frzRow h2) hgo hv k
def JY(fr:aA)(cf:Cf):Option (Nat×Nat×Nat):=match cO fr cf with
 |some ⟨some d, .buildSlice t 0 ⟨[]⟩,_,_,_,_⟩=>match di tt t with
  |some ⟨.sl e s _,_,_,_⟩=>some (d,e,s)
  |_=>none
 |_=>none
def nD[fu:Fu]{d e s:Nat}(h:JY fr cf=some (d,e,s))(hgo:cv tt n fu.n fr own cf (.rw d) [(d,some (.b e s [] true))] [d]=⟨vc,fr',own',cf'⟩)(k:ao prog GB C n Q0 fr' own' cf')
  (hv:autoParam (aj vc) fn._auto_1):ao prog GB C n Q0 fr own cf:=by
 unfold JY at h;split at h<;>try (cases h;done)
 rename_i hh;split at h<;>cases h;rename_i hT;have:=ji (dw _ _ hT) J;exact us hh YJ hgo hv k
structure PP where
 d:Nat
 nm:Option Nat
 e:Nat
 s:Nat
 b:Nat
 ds:List DV
 ds2:List DV
def Dd(fr:aA)(own:aF)(cf:Cf):Option PP:=match cO fr cf with
 |some ⟨some d, .call ⟨.builtin .append,⟨[x,y]⟩,⟨[t,t']⟩⟩,_,_,_,_⟩=>match di tt t with
  |some ⟨.sl e s b,_,_,_⟩=>match di tt t' with
   |some ⟨.sl _ _ _,_,_,_⟩=>match di tt e with
    |some i=>match lv i with
     |some z=>bif Nat.beq z.cells.length s&&Nat.blt 0 b then(match mH (bH fr cf) (gp fr own cf) s y with
      |some ds2=>match ba (bH fr cf) x with
       |some (.rw nm)=>match gp fr own cf nm with
        |some (.b e' s' ds true)=>bif (Nat.beq e' e&&Nat.beq s' s)&&!Nat.beq nm d then some ⟨d,some nm,e,s,b,ds,ds2⟩ else none
        |_=>none
       |some (.ct ds)=>some ⟨d,none,e,s,b,ds,ds2⟩
       |some .nl=>some ⟨d,none,e,s,b,[],ds2⟩
       |_=>none
      |none=>none) else none
     |none=>none
    |none=>none
   |_=>none
  |_=>none
 |_=>none
def KQ(d:Nat)(nm:Option Nat)(B:Bk):List (Nat×Option Bk):=match nm with
 |some nm=>[(nm,none),(d,some B)]
 |none=>[(d,some B)]
def Pv{d:Nat}{nm:Option Nat}{e s b:Nat}{ds ds2:List DV}(h:Dd fr own cf=some ⟨d,nm,e,s,b,ds,ds2⟩)(ds':List DV)(hds:ds++ds2=ds')(ho:nm.isNone=true->cd s ds/\0<ds2.length)(ho2:cd s ds2)(hbd:(ds.length+ds2.length)*b<=140737488355328):
  ∃o,cO fr cf=some o/\o.dst=some d/\bD prog GB C n (bH fr cf) (gp fr own cf) o (.rw d) (KQ d nm (.b e s ds' true)) [d]:=by
 unfold Dd at h;split at h<;>try (cases h;done)
 rename_i hh;split at h<;>try (cases h;done)
 rename_i hT;split at h<;>try (cases h;done)
 rename_i hT';split at h<;>try (cases h;done)
 rename_i hi;split at h<;>try (cases h;done)
 rename_i hz;rw[cond_eq_ite] at h;split at h<;>try (cases h;done)
 rename_i hc;simp only[bV] at hc;split at h<;>try (cases h;done)
 rename_i hy;have:=ji (dw _ _ hT) J;have hN:jh prog _:=⟨_,(ji (dw _ _ hT') J).un⟩;refine⟨_,hh,?_⟩;split at h<;>try (cases h;done)
 .rename_i hx
  split at h<;>try (cases h;done)
  rename_i hb;rw[cond_eq_ite] at h;split at h<;>cases h;rename_i hq;simp only[bV,fN] at hq
  cases aR hq.1.1
  cases aR hq.1.2
  exact⟨J,SQ (dw _ _ hi) hz hc.1 hx hb hy ho2 hc.2 hbd hq.2 hds⟩
 .rename_i hx
  cases h
  obtain⟨h1,h2⟩:=ho rfl;exact⟨J,Ig (dw _ _ hi) hz hc.1 (.inl hx) h1 hy ho2 h2 hc.2 hbd hds⟩
 .rename_i hx
  cases h
  obtain⟨h1,h2⟩:=ho rfl;exact⟨J,Ig (dw _ _ hi) hz hc.1 (.inr ⟨hx,J⟩) h1 hy ho2 h2 hc.2 hbd hds⟩
def ap[fu:Fu]{d:Nat}{nm:Option Nat}{e s b:Nat}{ds ds2:List DV}(ds':List DV)(h:Dd fr own cf=some ⟨d,nm,e,s,b,ds,ds2⟩)(hds:ds++ds2=ds')(ho2:cd s ds2)(hgo:cv tt n fu.n fr own cf (.rw d) (KQ d nm (.b e s ds' true)) [d]=⟨vc,fr',own',cf'⟩)(k:ao prog GB C n Q0 fr' own' cf')
  (ho:nm.isNone=true->cd s ds/\0<ds2.length:=by intro h;first|(cases h;done)|exact⟨Co rfl,v8⟩)(hbd:(ds.length+ds2.length)*b<=140737488355328:=by simp;omega)
  (hv:autoParam (aj vc) fn._auto_1):ao prog GB C n Q0 fr own cf:=by
 obtain⟨o,h1,_,h3⟩:=Pv (GB:=GB) (C:=C) (n:=n) h ds' hds ho ho2 hbd;exact us h1 h3 hgo hv k
def NW(fr:aA)(cf:Cf):Option (List DV×Int×Int×Nat×Bool):=match cO fr cf with
 |some ⟨_, .slice t x lo hi mx,_,_,_,_⟩=>match evD (bH fr cf) x with
  |some (.sl l)=>match di tt t with
   |some ⟨.sl _ s _,_,_,_⟩=>match lj (bH fr cf) 0 lo,lj (bH fr cf) l.length hi with
    |some i,some j=>match mx with
     |none=>some (l,i,j,s,false)
     |some _=>none
    |_,_=>none
   |_=>none
  |_=>none
 |_=>none
def js[fu:Fu]{l:List DV}{j:Int}{s:Nat}(nlo nhi:Nat)(ls:List DV)(h:NW fr cf=some (l,i,j,s,false))(ei:i=nlo)(ej:j=nhi)(hls:(l.take nhi).drop nlo=ls)(ho:cd s l)(h1:nlo<=nhi)(h2:nhi<=l.length)
  (hgo:cv tt n fu.n fr own cf (.d (.sl ls)) [] []=⟨vc,fr',own',cf'⟩)(k:ao prog GB C n Q0 fr' own' cf')
  (hv:autoParam (aj vc) fn._auto_1):ao prog GB C n Q0 fr own cf:=by
 unfold NW at h;split at h<;>try (cases h;done)
 rename_i hh;split at h<;>try (cases h;done)
 rename_i hx;split at h<;>try (cases h;done)
 rename_i hT;split at h<;>try (cases h;done)
 rename_i hi hj;split at h<;>cases h;have:=ji (dw _ _ hT) J;subst ei ej hls;exact us hh (Qp hx ho hi hj h1 h2) hgo hv k
def Ny(fr:aA)(cf:Cf):Option (List DV×Int×Int×Nat):=match cO fr cf with
 |some ⟨_, .slice t x none (some hi) (some mx),_,_,_,_⟩=>match evD (bH fr cf) x with
  |some (.sl l)=>match di tt t with
   |some ⟨.sl _ s _,_,_,_⟩=>match lj (bH fr cf) 0 (some hi),lj (bH fr cf) 0 (some mx) with
    |some i,some j=>some (l,i,j,s)
    |_,_=>none
   |_=>none
  |_=>none
 |_=>none
def s3[fu:Fu]{l:List DV}{j:Int}{s:Nat}(nhi:Nat)(ls:List DV)(h:Ny fr cf=some (l,i,j,s))(ei:i=nhi)(ej:j=nhi)(hls:l.take nhi=ls)(ho:cd s l)(h2:nhi<=l.length)
  (hgo:cv tt n fu.n fr own cf (.ct ls) [] []=⟨vc,fr',own',cf'⟩)(k:ao prog GB C n Q0 fr' own' cf')
  (hv:autoParam (aj vc) fn._auto_1):ao prog GB C n Q0 fr own cf:=by
 unfold Ny at h;split at h<;>try (cases h;done)
 rename_i hh;split at h<;>try (cases h;done)
 rename_i hx;split at h<;>try (cases h;done)
 rename_i hT;split at h<;>cases h;rename_i hi hj;have:=ji (dw _ _ hT) J;subst ei ej hls;exact us hh (XR hx ho hi hj h2) hgo hv k
def M'(fr:aA)(cf:Cf):Option (Nat×List DV):=match cO fr cf with
 |some ⟨some d, .box _ x,_,_,_,_⟩=>match ba (bH fr cf) x with
  |some f=>bif f.okc&&vO f d then(match gO f.cells with
   |some l=>some (d,l)
   |none=>none) else none
  |none=>none
 |_=>none
end
section
variable {own:aF}
def pO(x y:Nat):FX->FX
 | .rw m=>bif Nat.beq m x then .rw y else bif Nat.beq m y then .no else .rw m
 | .ov m o=>bif Nat.beq m x then .ov y o else bif Nat.beq m y then .no else .ov m o
 | .be m s i j=>bif Nat.beq m x then .be y s i j else bif Nat.beq m y then .no else .be m s i j
 | .rs m s i j=>bif Nat.beq m x then .rs y s i j else bif Nat.beq m y then .no else .rs m s i j
 | .bx tp pre m post=>bif Nat.beq m x then .bx tp pre y post else bif Nat.beq m y then .no else .bx tp pre m post
 |f=>f
def p9(x y:Nat):Option Bk->Option Bk
 |some (.o ty cs lo)=>some (.o ty (cs.map (pO x y)) lo)
 |B=>B
def Af{α:Type}(g:FX->FX):List FX->(List FX->α)->α
 |[],k=>k []
 |f::t,k=>Af g t fun t'=>ye (g f) fun f'=>k (f'::t')
def OA{α:Type}{g:FX->FX}: ∀{cs:List FX} {k:List FX->α},Af g cs k=k (cs.map g)
 |[],k=>rfl
 |f::t,k=>by simp only[Af,B4];rw[OA];rfl
def Bz{α:Type}(g:FX->FX):aA->(aA->α)->α
 |[],k=>k []
 |(j,f)::t,k=>Bz g t fun t'=>ye (g f) fun f'=>k ((j,f')::t')
def G5{α:Type}{g:FX->FX}: ∀{fr:aA} {k:aA->α},Bz g fr k=k (fr.map fun e=>(e.1,g e.2))
 |[],k=>rfl
 |(j,f)::t,k=>by simp only[Bz,B4];rw[G5];rfl
def BP{α:Type}(x y:Nat):aF->(aF->α)->α
 |[],k=>k []
 |(j,B)::t,k=>BP x y t fun t'=>bif Nat.beq j y then k ((x,none)::t') else match B with
  |some (.o ty cs lo)=>Af (pO x y) cs fun cs'=>bif Nat.beq j x then k ((y,some (.o ty cs' lo))::t') else k ((j,some (.o ty cs' lo))::t')
  |B=>bif Nat.beq j x then k ((y,B)::t') else k ((j,B)::t')
def Ee{α:Type}{x y:Nat}: ∀{own:aF} {k:aF->α},BP x y own k=k (own.map fun e=>(bif Nat.beq e.1 y then x else bif Nat.beq e.1 x then y else e.1,bif Nat.beq e.1 y then none else p9 x y e.2))
 |[],k=>rfl
 |(j,B)::t,k=>by
  simp only[BP,Ee (own:=t),cZ]
  cases Nat.beq j y with
  |true=>rfl
  |false=>
   cases B with
   |none=>cases Nat.beq j x<;>rfl
   |some B=>cases B<;>cases Nat.beq j x<;>simp only[cond_false,cond_true,OA,p9]
def Fa{x y:Nat}(hxy:x≠y): ∀{own:aF} {k:Nat},aO (own.map fun e=>(bif Nat.beq e.1 y then x else bif Nat.beq e.1 x then y else e.1,bif Nat.beq e.1 y then none else p9 x y e.2)) k=if k=x then none else if k=y then p9 x y (aO own x) else p9 x y (aO own k)
 |[],k=>by simp[aO,p9]
 |(j,B)::t,k=>by
  have bq: ∀a b:Nat,Nat.beq a b=decide (a=b):=fun a b=>by
   by_cases h:a=b
   .subst h;simp
   .rw[decide_eq_false h]
    cases hb:Nat.beq a b with
    |false=>rfl
    |true=>exact absurd (aR hb) h
  simp only[cZ];rw[f7,Fa hxy (own:=t),f7,f7];by_cases h1:j=y
  .subst h1
   simp only[bq,decide_true,cond_true];by_cases h2:k=x
   .simp[h2]
   .by_cases h3:k=j
    .subst h3;simp[h2,Ne.symm h2,hxy]
    .simp[h2,h3]
  .by_cases h4:j=x
   .subst h4
    simp only[bq,h1,decide_false,cond_false,decide_true,cond_true];by_cases h2:k=y
    .subst h2;simp[Ne.symm h1]
    .by_cases h3:k=j
     .subst h3;simp[h1]
     .simp[h2,h3]
   .simp only[bq,h1,h4,decide_false,cond_false]
    by_cases h2:k=j
    .subst h2;simp[h1,h4]
    .by_cases h3:k=x
     .subst h3;simp[h2]
     .by_cases h5:k=y
      .subst h5;simp[h2,h3,Ne.symm h4]
      .simp[h2,h3,h5]
def Ev{x y:Nat}(hxy:x≠y){f:FX}{v:Value}(h:bB ρ G f v):bB (fun k=>if k=y then ρ x else ρ k) G (pO x y f) v:=by
 have key: ∀m:Nat,Nat.beq m y=false->(fun k=>if k=y then ρ x else ρ k) m=ρ m:=fun m hm=>if_neg fun e=>by subst e;simp at hm
 cases f with
 |rw m=>
  simp only[pO]
  cases hb:Nat.beq m x with
  |true=>cases aR hb;simp only[cond_true];show v=_;simp;exact h
  |false=>
   cases hb':Nat.beq m y with
   |true=>trivial
   |false=>simp only[cond_false];show v=_;rw[key m hb'];exact h
 |ov m off=>
  simp only[pO]
  cases hb:Nat.beq m x with
  |true=>cases aR hb;simp only[cond_true];obtain⟨b,h1,h2⟩:=h;exact⟨b,by simp;exact h1,h2⟩
  |false=>
   cases hb':Nat.beq m y with
   |true=>trivial
   |false=>simp only[cond_false];obtain⟨b,h1,h2⟩:=h;exact⟨b,by rw[key m hb'];exact h1,h2⟩
 |be m s i j=>
  simp only[pO]
  cases hb:Nat.beq m x with
  |true=>cases aR hb;simp only[cond_true];obtain⟨b,h1,h2⟩:=h;exact⟨b,by simp;exact h1,h2⟩
  |false=>
   cases hb':Nat.beq m y with
   |true=>trivial
   |false=>simp only[cond_false];obtain⟨b,h1,h2⟩:=h;exact⟨b,by rw[key m hb'];exact h1,h2⟩
 |rs m s i j=>
  simp only[pO]
  cases hb:Nat.beq m x with
  |true=>cases aR hb;simp only[cond_true];obtain⟨b,c,h1,h2⟩:=h;exact⟨b,c,by simp;exact h1,h2⟩
  |false=>
   cases hb':Nat.beq m y with
   |true=>trivial
   |false=>simp only[cond_false];obtain⟨b,c,h1,h2⟩:=h;exact⟨b,c,by rw[key m hb'];exact h1,h2⟩
 |bx tp pre m post=>
  simp only[pO]
  cases hb:Nat.beq m x with
  |true=>cases aR hb;simp only[cond_true];obtain⟨m1,m2,e,h1,h2⟩:=h;exact⟨m1,m2,by simpa using e,h1,h2⟩
  |false=>
   cases hb':Nat.beq m y with
   |true=>trivial
   |false=>simp only[cond_false];obtain⟨m1,m2,e,h1,h2⟩:=h;exact⟨m1,m2,by rw[key m hb'];exact e,h1,h2⟩
 |_=>exact h
def DJ{x y:Nat}(hxy:x≠y){ρ:NE}{G:Gh}: ∀{cs:List FX} {m:List Value},cP ρ G cs m->cP (fun k=>if k=y then ρ x else ρ k) G (cs.map (pO x y)) m
 |[],m,h=>h
 |f::t,m,⟨v,q,e,h1,h2⟩=>⟨v,q,e,Ev hxy h1,DJ hxy h2⟩
def vV(x y:Nat)(fr:aA)(own:aF):Option yn:=bif Nat.beq x y then none else Bz (pO x y) fr fun fr'=>BP x y own fun own'=>some ⟨fr',own'⟩
def P0{x y:Nat}{R:yn}(hy:Nat.blt y 2000000=true)(h:vV x y fr own=some R)(hk:SX GB C n (aI R.fr) (aO R.own) Φ):SX GB C n (aI fr) (aO own) Φ:=by
 unfold vV at h;rw[cond_eq_ite] at h;split at h<;>try (cases h;done)
 rename_i hb;have hxy:x≠y:=fun e=>hb (by subst e;simp);rw[G5,Ee] at h;cases h;refine⟨fun ρ G ov a w r=>hk.run (fun k=>if k=y then ρ x else ρ k) G ov a w ?_⟩;have inv: ∀m B,aO (own.map fun e=>(bif Nat.beq e.1 y then x else bif Nat.beq e.1 x then y else e.1,bif Nat.beq e.1 y then none else p9 x y e.2)) m=some B-> ∃m0 B0,aO own m0=some B0/\p9 x y (some B0)=some B/\(m=y/\m0=x\/m≠y/\m≠x/\m0=m):=fun m B e=>by
  rw[Fa hxy] at e;split at e
  .cases e
  .rename_i hm
   split at e
   .cases hl:aO own x with
    |none=>rw[hl] at e;cases e
    |some B0=>rw[hl] at e;exact⟨x,B0,hl,e, .inl ⟨oma,J⟩⟩
   .cases hl:aO own m with
    |none=>rw[hl] at e;cases e
    |some B0=>rw[hl] at e;exact⟨m,B0,hl,e, .inr ⟨oma,hm,J⟩⟩
 have rho: ∀m m0,(m=y/\m0=x\/m≠y/\m≠x/\m0=m)->(fun k=>if k=y then ρ x else ρ k) m=ρ m0:=fun m m0 h=>by
  rcases h with⟨h1,h2⟩|⟨h1,_,h2⟩
  .subst h1 h2;simp
  .subst h2;exact if_neg h1
 refine⟨r.gb,r.h,r.sz,r.df,fun k f e=>?_,fun m B e=>?_,fun m m' B B' e e' hne=>?_,fun m p h1 h2 e=>by
  have:y<2000000:=by simpa[jN] using hy
  show(if m=y then ρ x else ρ m).a=_;rw[if_neg pb];exact r.fxd m p h1 h2 e⟩
 .rw[zr] at e
  cases hf:aI fr k with
  |none=>rw[hf] at e;cases e
  |some g=>
   rw[hf] at e;cases e;obtain⟨v,h1,h2⟩:=r.fx k g hf;exact⟨v,h1,Ev hxy h2⟩
 .obtain⟨m0,B0,h1,h2,h3⟩:=inv m B e
  obtain⟨os,h4,h5⟩:=r.bx m0 B0 h1;refine⟨os,?_,h5⟩;have hr:=rho m m0 h3
  cases B0 with
  |b=>cases h2;obtain⟨vs,q1,q2,q3,q4⟩:=h4;exact⟨vs,by rw[hr];exact q1,q2,q3,q4⟩
  |c=>cases h2;obtain⟨vs,q1,q2,q3,q4,q5⟩:=h4;exact⟨vs,by rw[hr];exact q1,q2,q3,q4,by rw[hr];exact q5⟩
  |p=>cases h2;obtain⟨q0,vs,q1,q2,q3,q4⟩:=h4;exact⟨by rw[hr];exact q0,vs,q1,q2,q3,q4⟩
  |o ty cs lo=>cases h2;obtain⟨b,q,q1,q2,q3⟩:=h4;exact⟨b,q,by rw[hr];exact q1,q2,DJ hxy q3⟩
 .obtain⟨m0,B0,h1,_,h3⟩:=inv m B e
  obtain⟨m1,B1,h4,_,h6⟩:=inv m' B' e';have q1:=rho m m0 h3;have q2:=rho m' m1 h6;simp only at q1 q2;rw[q1,q2];refine r.dj m0 m1 B0 B1 h1 h4 fun e=>?_;rcases h3 with⟨h7,h8⟩|⟨h7,h8,h9⟩<;>rcases h6 with⟨g7,g8⟩|⟨g7,g8,g9⟩
  .exact hne (h7.trans g7.symm)
  .exact g8 (by rw[<-g9,<-e,h8])
  .exact h8 (by rw[<-h9,e,g8])
  .exact hne (by rw[<-h9,e,g9])
def dq(x y:Nat){e:Exit}(h:vV x y fr own=some ⟨fr1,own1⟩)(k:ao prog GB C n Q0 fr1 own1 (.ex e K))(hy:Nat.blt y 2000000=true:=by rfl):ao prog GB C n Q0 fr own (.ex e K):=P0 hy h k
def Rz{d nm:Nat}(hnm:Nat.blt nm 2000000=true)(hl:aI fr d=some .nl){ty s:Nat}(hf:ir [nm] none (aI fr) (aO own))(h:SX GB C n (aI ((d, .rw nm)::fr)) (aO (jf own nm (some (.b ty s [] true)))) Φ):SX GB C n (aI fr) (aO own) Φ:=by
 refine⟨fun ρ G ov a w r=>?_⟩;obtain⟨f1,f2⟩:=hf nm aZ;have hset:aO (jf own nm (some (.b ty s [] true)))=upB (aO own) [(nm,some (.b ty s [] true))]:=by funext j;rw[ql];rfl
 rw[hset] at h;refine h.run (fun k=>if k=nm then⟨none,0,0⟩ else ρ k) G ov a w ⟨r.gb,r.h,r.sz,r.df,fun k f e=>?_,fun m B e=>?_,fun m m' B B' e e' hne=>?_,fun m p h1 h2 e=>by
  have:nm<2000000:=by simpa[jN] using hnm
  show(if m=nm then(⟨none,0,0⟩:SV) else ρ m).a=_;rw[if_neg pb];exact r.fxd m p h1 h2 e⟩
 .rw[i9] at e
  split at e
  .cases e;rename_i hk;subst hk
   obtain⟨v,h1,h2⟩:=r.fx _ _ hl;exact⟨v,h1,by rw[show v=_ from h2];show _=_;simp⟩
  .obtain⟨v,h1,h2⟩:=r.fx k f e
   exact⟨v,h1,h2.ren fun m hm=>pw _ fun hc=>f1 k f v8 e (by rw[hm,hc])⟩
 .simp only[upB] at e
  by_cases hm:m=nm
  .subst hm;simp only[if_true] at e;cases e
   exact⟨[],⟨[],by simp only[if_true];exact .inl ⟨J,J,J⟩, .nil,v8,fun _ o ho=>by cases ho⟩,fun o ho=>by cases ho⟩
  .simp only[hm,if_false] at e
   obtain⟨os,h1,h2⟩:=r.bx m B e;exact⟨os,h1.ren (if_neg hm) fun q hq=>pw _ fun hc=>f2 m B hm e okA,h2⟩
 .simp only[upB] at e e'
  intro b hb hb';by_cases hm:m=nm
  .simp[hm] at hb
  .by_cases hm':m'=nm
   .simp[hm'] at hb'
   .simp only[hm,hm',if_false] at e e' hb hb'
    exact r.dj m m' B B' e e' hne b hb hb'
def nr(d nm ty s:Nat)(hl:aI fr d=some .nl)(hf:oP [nm] none fr own=true)(ho:q8 own nm (some (.b ty s [] true)) id=own1)(k:ao prog GB C n Q0 ((d, .rw nm)::fr) own1 (.code c K))(hnm:Nat.blt nm 2000000=true:=by rfl):ao prog GB C n Q0 fr own (.code c K):=by
 subst ho;exact Rz hnm hl (t7 hf) k
def gw:List (Option DV)->Nat->List DV
 |[],_=>[]
 |some d::t,b=>d::gw t b
 |none::t,b=> .v (.pointer (some ⟨b,0,none⟩))::gw t b
def C5(lk:LK):List Operand->Option (Option Nat×List (Option DV))
 |[]=>some (none,[])
 |x::t=>match ba lk x,C5 lk t with
  |some (.ov nm 0),some (none,l)=>some (some nm,none::l)
  |some f,some (q,l)=>match ka f with
   |some d=>some (q,some d::l)
   |none=>none
  |_,_=>none
def F3(lk:LK)(fo:Operand)(args:Array Operand):Option (FuncId×Nat×List (Option DV)):=match ba lk fo with
 |some (.d (.v (.func (.func f) ⟨[]⟩ ⟨[]⟩)))=>match C5 lk args.toList with
  |some (some nm,l)=>some (f,nm,l)
  |_=>none
 |_=>none
def E5{lk:LK}{bk:BM}{ρ:NE}{G:Gh}{ov:List av}{a:Act}{w:World}(r:bz GB C n lk bk ρ G ov a w){b:Nat}: ∀{x:List Operand} {q:Option Nat} {l:List (Option DV)},C5 lk x=some (q,l)->(∀nm,q=some nm->(ρ nm).a=some ⟨b,0,none⟩)->
  ∃y,fm (b8 a) x=some y/\IsLs G (gw l b) y
 |[],q,l,e,_=>by cases e;exact⟨[],J, .nil⟩
 |x::t,q,l,e,hb=>by
  simp only[C5] at e;split at e
  .rename_i nm l' h1 h2
   cases e
   obtain⟨y,h3,b',h4,rfl⟩:=r.ev h1;have:=hb nm J;rw[h4] at this;cases this;obtain⟨ys,h5,h6⟩:=E5 r (b:=b) h2 (fun nm e=>by cases e);exact⟨_::ys,by simp only[fm,h3,h5], .cons ((bh (G:=G)).2 J) h6⟩
  .rename_i f q' l' _ h1 h2
   cases hd:ka f with
   |none=>rw[hd] at e;cases e
   |some d=>
   rw[hd] at e;cases e;obtain⟨y,h3,h4⟩:=r.ev h1;obtain⟨ys,h5,h6⟩:=E5 r (b:=b) h2 hb;exact⟨y::ys,by simp only[fm,h3,h5], .cons (mh h4 hd) h6⟩
  .cases e
def bz.lend{nm:Nat}{ty:TypeId}{cs:List FX}{lo:Bool}{csd:List DV}(r:bz GB C n lk bk ρ G ov a w)(hb:bk nm=some (.o ty cs lo))(hc:gO cs=some csd):
  ∃b m rest,(ρ nm).a=some ⟨b,0,none⟩/\IsLs G csd m/\ov.Perm ([⟨b,m,ty,lo⟩]++rest)/\ ∀o∈ov,o.b≠b->o∈rest:=by
 obtain⟨os,⟨b,m,h1,rfl,h2⟩,h3⟩:=r.bx _ _ hb;obtain⟨l1,l2,rfl⟩:=lK (h3 _ aZ);refine⟨b,m,l1++l2,h1,oq h2 hc,nS,fun o ho hne=>?_⟩;rcases bJ.1 ho with ho|ho
 .exact bS _ ho
 .rcases aT.1 ho with rfl|ho
  .exact absurd J hne
  .exact cW _ ho
def Qk{f:FuncId}{nm:Nat}{l:List (Option DV)}{ty:TypeId}{gd:Option (Nat×Bool)}{cs:List FX}{csd:List DV}{lo:Bool}
  (ha:F3 lk fo args=some (f,nm,l))(hb:bk nm=some (.o ty0 cs lo))(hc:gO cs=some csd)(hF: ∀b,PM GB P f (gw l b) b ty0 csd rv cs')(hx:cs'.map .d=csx):bD P GB C n lk bk ⟨dst, .call ⟨.value fo,args,tys⟩,ty,pos,af,gd⟩ (.d rv) [(nm,some (.o ty0 csx lo))] []:=by
 intro hd tl tb K' s1 s2 hf hk;refine⟨fun ρ G ov a w r Q=>?_⟩;subst hx;have r1:=r.mono s1 s2;unfold F3 at ha;split at ha<;>try (cases ha;done)
 rename_i h1;split at ha<;>cases ha;rename_i h2;obtain⟨y,hy,hy'⟩:=r1.ev h1;rw[(bh (G:=G)).1 hy'] at hy;obtain⟨b,m,rest,h3,h4,h5,h6⟩:=r1.lend hb hc;obtain⟨vs,h7,h8⟩:=E5 r1 (b:=b) h2 (fun nm e=>by cases e;exact h3);refine Dg (M:=[⟨b,m,ty0,lo⟩]) (rest:=rest) hy h7 h5 (hF b G vs m lo r.gb h8 h4) hd (fun v css G' hG hl hK a' w' rl=>?_) a w Q ⟨r.h,r.sz,b9 a,r.df⟩;obtain⟨hr,m',rfl,hm'⟩:=hK;have rl':gh C n (Sx.put (b8 a) dst v) (⟨b,m',ty0,lo⟩::rest) G' a' w':=rl;have r2:=r.upB (G':=G') (ov':=⟨b,m',ty0,lo⟩::rest) (w':=w') (B':= .o ty0 (cs'.map .d) lo) (os:=[⟨b,m',ty0,lo⟩]) hG.le rl'.h ⟨b,m',h3,J,px hm'⟩ (fun o ho=>by rw[aW.1 ho];exact aZ)
  (fun o ho hne=>aK _ (h6 o ho fun e=>hne (by rw[h3,e]))) ⟨_,s2 _ _ hb⟩
 exact hk.run ρ G' _ a' w' (r2.put (f:= .d rv) hr (iA rl'))
structure R1 where
 f:FuncId
 nm:Nat
 l:List (Option DV)
 ty:TypeId
 cs:List DV
 lo:Bool
def HU(fr:aA)(own:aF)(cf:Cf):Option R1:=match cO fr cf with
 |some ⟨_, .call ⟨.value fo,args,_⟩,_,_,_,_⟩=>match F3 (bH fr cf) fo args with
  |some (f,nm,l)=>match gp fr own cf nm with
   |some (.o ty cs lo)=>match gO cs with
    |some csd=>some ⟨f,nm,l,ty,csd,lo⟩
    |none=>none
   |_=>none
  |none=>none
 |_=>none
def u7{α:Type}:List DV->(List FX->α)->α
 |[],k=>k []
 |d::t,k=>u7 t fun t'=>k (.d d::t')
def CD{α:Type}: ∀{l:List DV} {k:List FX->α},u7 l k=k (l.map .d)
 |[],k=>rfl
 |d::t,k=>by simp only[u7];rw[CD];rfl
def cm[fu:Fu]{f:FuncId}{nm:Nat}{l:List (Option DV)}{ty:TypeId}{cs:List DV}{lo:Bool}(ha:HU fr own cf=some ⟨f,nm,l,ty,cs,lo⟩)(hF: ∀b,PM GB prog f (gw l b) b ty cs rv cs')
  (hgo:(u7 cs' fun csx=>cv tt n fu.n fr own cf (.d rv) [(nm,some (.o ty csx lo))] [])=⟨vc,fr',own',cf'⟩)(k:ao prog GB C n Q0 fr' own' cf')
  (hv:autoParam (aj vc) fn._auto_1):ao prog GB C n Q0 fr own cf:=by
 unfold HU at ha;split at ha<;>try (cases ha;done)
 rename_i hh;split at ha<;>try (cases ha;done)
 rename_i h1;split at ha<;>try (cases ha;done)
 rename_i h2;split at ha<;>cases ha;rename_i h3;rw[CD] at hgo;exact us hh (Qk h1 h2 h3 hF J) hgo hv k
abbrev NM:Nat:=1000000
def u6:Nat->List (Option DV)->aA
 |_,[]=>[]
 |i,some v::t=>(i, .d v)::u6 (i+1) t
 |i,none::t=>(i, .ov NM 0)::u6 (i+1) t
def ED(b:Nat): ∀l:List (Option DV),(gw l b).length=l.length
 |[]=>rfl
 |some d::t=>by simp[gw,ED b t]
 |none::t=>by simp[gw,ED b t]
def E'{b:Nat}{ρ:NE}{G:Gh}(hρ:(ρ NM).a=some ⟨b,0,none⟩): ∀{ds:List (Option DV)} {vs:List Value} (i:Nat),IsLs G (gw ds b) vs-> ∀k f,aI (u6 i ds) k=some f-> ∃y,(∃j,k=i+j/\vs[j]? =some y)/\bB ρ G f y
 |[],vs,i,h,k,f,e=>by cases e
 |some d::t,vs,i,h,k,f,e=>by
  obtain⟨y,m,rfl,h1,h2⟩:=bE.1 h;simp only[u6] at e;rw[i9] at e;split at e
  .cases e;rename_i hk;exact⟨y,⟨0,hk,rfl⟩,h1⟩
  .obtain⟨u,⟨j,hj,hu⟩,h3⟩:=E' hρ (i+1) h2 k f e
   exact⟨u,⟨j+1,pb,by simpa using hu⟩,h3⟩
 |none::t,vs,i,h,k,f,e=>by
  obtain⟨y,m,rfl,h1,h2⟩:=bE.1 h;simp only[u6] at e;rw[i9] at e;split at e
  .cases e;rename_i hk;exact⟨y,⟨0,hk,rfl⟩,b,hρ,(bh (G:=G)).1 h1⟩
  .obtain⟨u,⟨j,hj,hu⟩,h3⟩:=E' hρ (i+1) h2 k f e
   exact⟨u,⟨j+1,pb,by simpa using hu⟩,h3⟩
def HK(C:aD)(b:Nat)(m:List Value)(ty:TypeId)(lo:Bool)(rv:DV)(cs':List DV):Ending->World->Prop:=w7 C [⟨b,m,ty,lo⟩] (fun v css G'=>Is G' rv v/\ ∃m',css=[m']/\IsLs G' cs' m')
theorem ozj{p:Prop}(h:p:=by simpa using hmb):p:=h
def rg[fu:Fu]{b:Nat}{f:FuncId}{k:Nat}{l:List (Option DV)}{cs:List DV}{ty:TypeId}(hf:prog.funcs[f]? =some fb)(hb:fb.body=some c)(hn:(fb.name== "runtime.NumGoroutine")=false)(hm:fb.ntmps=k)(hlen:Nat.ble l.length k=true)
  (hgo:(u7 cs fun csx=>go tt k fu.n [] (u6 0 l) [(NM,some (.o ty csx false))] (.code c []))=⟨vc,fr,own,cf⟩)(h: ∀C b m lo,C.mb=[b]->ao prog GB C k (dx C prog fb (HK C b m ty lo rv cs')) fr own cf)
  (hv:autoParam (aj vc) fn._auto_1):PM GB prog f (gw l b) b ty cs rv cs':=by
 intro G vs m lo hg hvs hm';refine kl.introR hf hb hn hm (by rw[hvs.len,ED];exact hlen) fun C _ hmb hrd hfx=>?_;intro a w rl;refine o7 hrd ?_;rw[CD] at hgo;have h1:=eo (GB:=GB) (C:=C) (Q0:=dx C prog fb (HK C b m ty lo rv cs')) hgo hv (h C b m lo ozj);refine h1.run (fun _=>⟨some ⟨b,0,none⟩,0,0⟩) G [⟨b,m,ty,false⟩] a w ⟨hg,rl.h,rl.sz,rl.df,fun k f e=>?_,fun nm B e=>?_,fun nm nm' B B' e e' hne=>?_,fun nm p _ _ e=>by rw[hfx] at e;cases e⟩
 .obtain⟨y,⟨j,hj,hy⟩,h2⟩:=E' (ρ:=fun _=>⟨some ⟨b,0,none⟩,0,0⟩) (b:=b) rfl 0 hvs k f e
  refine⟨y,rl.fr k y ?_,h2⟩;rw[hj];exact ua vs 0 j y hy
 .rw[f7] at e
  split at e
  .cases e;exact⟨[⟨b,m,ty,false⟩],⟨b,m,J,J,px hm'⟩,fun o ho=>ho⟩
  .cases e
 .rw[f7] at e e'
  split at e<;>split at e'
  .rename_i h2 h3;exact absurd (h2.trans h3.symm) hne
  .cases e'
  .cases e
  .cases e
def LQ(own:aF)(nm:Nat):Option (TypeId×List DV):=match aO own nm with
 |some (.o ty cs false)=>match gO cs with
  |some l=>some (ty,l)
  |none=>none
 |_=>none
def iG{b:Nat}{ty:TypeId}{lo:Bool}{ds cs1:List DV}(hmb:C.mb=[b])(hr:og tt fr own fb.results.toList=some ds)(ho:LQ own NM=some (ty,cs1))(hd:ic ds=rv)(hc:cs1=cs'):
  ao prog GB C n (dx C prog fb (HK C b m ty lo rv cs')) fr own (.ex .ret []):=by
 refine⟨fun ρ G ov a w r=>?_⟩;obtain⟨vs,h1,h2⟩:=yb r hr;have hk:Is G rv (my vs):=hd▸xI h2;unfold LQ at ho;split at ho<;>try (cases ho;done)
 rename_i hb;split at ho<;>cases ho;rename_i hl;obtain⟨b',m',rest,h3,h4,h5,h6⟩:=r.lend hb hl;have hbb:b'=b:=by
  have:=(r.h.hown _ (h5.mem_iff.2 (bS _ aZ))).2.2.2 J;rw[hmb] at this;simpa using this
 subst hbb hc;exact wh (C:=C) (n:=n) (fr:=b8 a) (own:=ov) (G:=G) (M:=[⟨b',m,ty,lo⟩]) (css:=[m']) (K:=fun v css G'=>Is G' rv v/\ ∃m',css=[m']/\IsLs G' cs1 m') h1 J ([⟨b',m',ty,false⟩]++rest) h5 (lY _ _) ⟨hk,m',J,h4⟩ a w ⟨r.h,r.sz,b9 a,r.df⟩
end
section
variable {own:aF}
def csd[fu1:Fu][fu2:Fu](d:Nat){hp:Decidable p}(hl:aI fr d=some (.d (.v (.bool (@decide p hp)))))(g1:go tt n fu1.n [] ((d, .tt)::fr) own (.ops ops r K)=⟨vc1,fr1,own1,cf1⟩)(g2:go tt n fu2.n [] ((d, .ff)::fr) own (.ops ops r K)=⟨vc2,fr2,own2,cf2⟩)
  (k1:p->ao prog GB C n Q0 fr1 own1 cf1)(k2: ¬p->ao prog GB C n Q0 fr2 own2 cf2)
  (v1:p->aj vc1:=by intro;first|exact trivial|(simp only[aj];omega)|(simp only[aj,aX,aM,aY];omega))(v2: ¬p->aj vc2:=by intro;first|exact trivial|(simp only[aj];omega)|(simp only[aj,aX,aM,aY];omega)):ao prog GB C n Q0 fr own (.ops ops r K):=
 ja (fu1:=fu1) (fu2:=fu2) d hl g1 g2 (fun h=>k1 (of_decide_eq_true h)) (fun h=>k2 (of_decide_eq_false h)) (fun h=>v1 (of_decide_eq_true h)) (fun h=>v2 (of_decide_eq_false h))
def AI(d:Nat)(hl:aI fr d=some .nl)(h:ao prog GB C n Q0 ((d, .d (.sl []))::fr) own (.code c K)):ao prog GB C n Q0 fr own (.code c K):=
 ow (g:= .d (.sl [])) hl (fun ρ G y hy=>(show Is G (.sl []) y from mh (ρ:=ρ) (f:= .nl) hy J)) h
def bD.to{f g:FX}(h:bD prog GB C n lk bk o f [] [])(e: ∀ρ G y,bB ρ G f y->bB ρ G g y):bD prog GB C n lk bk o g [] []:=fun hd tl tb Q h1 h2 hf hk=>
 h hd tl tb Q h1 h2 hf ⟨fun ρ G ov a w r=>hk.run ρ G ov a w ⟨r.gb,r.h,r.sz,r.df,fun k f' e'=>by
  cases ho:o.dst with
  |none=>exact r.fx k f' (by simpa only[ho,dm] using e')
  |some d=>
   have hr:=r.fx;simp only[ho,dm] at e' hr;by_cases q:k=d
   .rw[if_pos q] at e';cases e'
    obtain⟨y,h3,h4⟩:=hr k f (by rw[if_pos q]);exact⟨y,h3,e _ _ _ h4⟩
   .rw[if_neg q] at e'
    exact hr k f' (by rw[if_neg q];exact e'),r.bx,r.dj,r.fxd⟩⟩
def vi(fr:aA)(own:aF)(cf:Cf):Option (Oper×FX):=match cO fr cf with
 |some o=>match vb tt (bH fr cf) (gp fr own cf) o.dst o.op with
  |some ⟨none,f,[],[]⟩=>some (o,f)
  |_=>none
 |none=>none
def jk[fu1:Fu][fu2:Fu]{f:FX}{hp:Decidable p}(hs:vi fr own cf=some (o,f))(hb:qH f=some (@decide p hp))(g1:cv tt n fu1.n fr own cf .tt [] []=⟨vc1,fr1,own1,cf1⟩)(g2:cv tt n fu2.n fr own cf .ff [] []=⟨vc2,fr2,own2,cf2⟩)
  (k1:p->ao prog GB C n Q0 fr1 own1 cf1)(k2: ¬p->ao prog GB C n Q0 fr2 own2 cf2)
  (v1:p->aj vc1:=by intro;first|exact trivial|(simp only[aj];kernel_rfl)|(simp only[aj];omega)|(simp only[aj,aX,aM,aY];omega))(v2: ¬p->aj vc2:=by intro;first|exact trivial|(simp only[aj];kernel_rfl)|(simp only[aj];omega)|(simp only[aj,aX,aM,aY];omega)):ao prog GB C n Q0 fr own cf:=by
 unfold vi at hs;split at hs<;>try (cases hs;done)
 rename_i o' hh;split at hs<;>cases hs;rename_i hc;obtain⟨dst,op,ty,pos,af,gd⟩:=o;have h0:=vL (P:=prog) (GB:=GB) (C:=C) (n:=n) (ty':=ty) (pos:=pos) (af:=af) (gd:=gd) dw hc (fun p e=>by cases e);by_cases h:p
 .exact us hh (bD.to h0 fun ρ G y hy=>by rw[uE hy hb,decide_eq_true h];exact J) g1 (v1 h) (k1 h)
 .exact us hh (bD.to h0 fun ρ G y hy=>by rw[uE hy hb,decide_eq_false h];exact J) g2 (v2 h) (k2 h)
def T7{d:Nat}{f:FX}
  (hz: ∀lk bk ρ G ov a w,bz GB C n lk bk ρ G ov a w->bk d=some B-> ∃G' ov',bA G G'/\bu C ov' G' w/\(∀o∈ov,(ρ d).a≠some ⟨o.b,0,none⟩->o∈ov')/\ ∀y,bB ρ G f y->Is G' v y)(hk:SX GB C n (dm tl (some d) (.d v)) (Sx.upB tb [(d,none)]) Ψ):SX GB C n (dm tl (some d) f) (Sx.upB tb [(d,some B)]) Ψ:=by
 refine⟨fun ρ G ov a w r=>?_⟩;have hbd:Sx.upB tb [(d,some B)] d=some B:=by simp[Sx.upB]
 obtain⟨G',ov',h1,h2,h3,h4⟩:=hz _ _ ρ G ov a w r hbd;refine hk.run ρ G' ov' a w ⟨r.gb.trans h1,h2,r.sz,r.df,fun k g e=>?_,fun m B' e=>?_,fun m m' B1 B2 e e'=>?_,r.fxd⟩
 .by_cases hk:k=d
  .subst hk
   simp only[dm,if_true] at e;cases e;obtain⟨y,g1,g2⟩:=r.fx k f (by simp[dm]);exact⟨y,g1,h4 y g2⟩
  .simp only[dm,hk,if_false] at e
   obtain⟨y,g1,g2⟩:=r.fx k g (by simp[dm,hk,e]);exact⟨y,g1,g2.up h1⟩
 .simp only[Sx.upB] at e
  split at e
  .cases e
  .rename_i hm
   have e':Sx.upB tb [(d,some B)] m=some B':=by simp[Sx.upB,hm,e]
   obtain⟨os,g1,g2⟩:=r.bx m B' e';exact⟨os,g1.up h1,fun o ho=>h3 o (g2 o ho) fun hc=>r.dj m d B' B e' hbd hm _ (g1.blk ho) hc⟩
 .simp only[Sx.upB] at e e'
  split at e
  .cases e
  .rename_i hm
   split at e'
   .cases e'
   .rename_i hm'
    exact r.dj m m' B1 B2 (by simp[Sx.upB,hm,e]) (by simp[Sx.upB,hm',e'])
def bD.frz2{d nm:Nat}{f:FX}(hd:o.dst=some d)(h:bD prog GB C n lk bk o f [(nm,none),(d,some B)] [d])
  (hz: ∀lk bk ρ G ov a w,bz GB C n lk bk ρ G ov a w->bk d=some B-> ∃G' ov',bA G G'/\bu C ov' G' w/\(∀o∈ov,(ρ d).a≠some ⟨o.b,0,none⟩->o∈ov')/\ ∀y,bB ρ G f y->Is G' v y):bD prog GB C n lk bk o (.d v) [(nm,none),(d,none)] [d]:=by
 intro hd' tl tb K s1 s2 hf hk;refine h hd' tl tb K s1 s2 hf ?_;rw[hd] at hk⊢;exact T7 (tb:=Sx.upB tb [(nm,none)]) hz hk
def Yn(d:Nat)(nm:Option Nat):List (Nat×Option Bk):=match nm with
 |some nm=>[(nm,none),(d,none)]
 |none=>[(d,none)]
def jo[fu:Fu]{d:Nat}{nm:Option Nat}{e s b:Nat}{ds ds2:List DV}(ds':List DV)(h:Dd fr own cf=some ⟨d,nm,e,s,b,ds,ds2⟩)(hds:ds++ds2=ds')(ho2:cd s ds2)(hgo:cv tt n fu.n fr own cf (.d (.sl ds')) (Yn d nm) [d]=⟨vc,fr',own',cf'⟩)(k:ao prog GB C n Q0 fr' own' cf')
  (ho:nm.isNone=true->cd s ds/\0<ds2.length:=by intro h;first|(cases h;done)|exact⟨Co rfl,v8⟩)(hbd:(ds.length+ds2.length)*b<=140737488355328:=by simp;omega)
  (hv:autoParam (aj vc) fn._auto_1):ao prog GB C n Q0 fr own cf:=by
 obtain⟨o,h1,h2,h3⟩:=Pv (GB:=GB) (C:=C) (n:=n) h ds' hds ho ho2 hbd
 cases nm with
 |none=>exact us h1 (h3.frzRow h2) hgo hv k
 |some nm=>exact us h1 (bD.frz2 h2 h3 fun _ _ _ _ _ _ _ r hb=>r.frzRow hb) hgo hv k
def cj[fu:Fu]{f:FX}(hs:vi fr own cf=some (o,f))(hb:qH f=some true)(hgo:cv tt n fu.n fr own cf .tt [] []=⟨vc,fr',own',cf'⟩)(k:ao prog GB C n Q0 fr' own' cf')
  (hv:autoParam (aj vc) fn._auto_1):ao prog GB C n Q0 fr own cf:=by
 unfold vi at hs;split at hs<;>try (cases hs;done)
 rename_i o' hh;split at hs<;>cases hs;rename_i hc;obtain⟨dst,op,ty,pos,af,gd⟩:=o;have h0:=vL (P:=prog) (GB:=GB) (C:=C) (n:=n) (ty':=ty) (pos:=pos) (af:=af) (gd:=gd) dw hc (fun p e=>by cases e);exact us hh (bD.to h0 fun ρ G y hy=>by rw[uE hy hb];exact J) hgo hv k
def bG[fu:Fu]{f:FX}(hs:vi fr own cf=some (o,f))(hb:qH f=some false)(hgo:cv tt n fu.n fr own cf .ff [] []=⟨vc,fr',own',cf'⟩)(k:ao prog GB C n Q0 fr' own' cf')
  (hv:autoParam (aj vc) fn._auto_1):ao prog GB C n Q0 fr own cf:=by
 unfold vi at hs;split at hs<;>try (cases hs;done)
 rename_i o' hh;split at hs<;>cases hs;rename_i hc;obtain⟨dst,op,ty,pos,af,gd⟩:=o;have h0:=vL (P:=prog) (GB:=GB) (C:=C) (n:=n) (ty':=ty) (pos:=pos) (af:=af) (gd:=gd) dw hc (fun p e=>by cases e);exact us hh (bD.to h0 fun ρ G y hy=>by rw[uE hy hb];exact J) hgo hv k
def Bt(nm:Nat){ty:TypeId}{cs:List FX}{lo:Bool}{ds:List DV}{e:Exit}(hb:aO own nm=some (.o ty cs lo))(hc:gO cs=some ds)(ho:(nm,some (.o ty (ds.map .d) lo))::own=own1)(k:ao prog GB C n Q0 fr own1 (.ex e K)):ao prog GB C n Q0 fr own (.ex e K):=by
 subst ho;have old: ∀m B,aO ((nm,some (.o ty (ds.map .d) lo))::own) m=some B-> ∃B0,aO own m=some B0:=fun m B e=>by
  rw[f7] at e;split at e
  .rename_i h;subst h;exact⟨_,hb⟩
  .exact⟨_,e⟩
 refine⟨fun ρ G ov a w r=>k.run ρ G ov a w ⟨r.gb,r.h,r.sz,r.df,r.fx,fun m B e=>?_,fun m m' B B' e e'=>?_,r.fxd⟩⟩
 .rw[f7] at e
  split at e
  .rename_i h;subst h;cases e
   obtain⟨os,⟨b,m,h1,rfl,h2⟩,h3⟩:=r.bx _ _ hb;exact⟨_,⟨b,m,h1,J,px (oq h2 hc)⟩,h3⟩
  .exact r.bx _ _ e
 .obtain⟨B0,h0⟩:=old _ _ e
  obtain⟨B1,h1⟩:=old _ _ e';exact r.dj m m' B0 B1 h0 h1
end
section
variable {own:aF}
def D7(GB:Gh)(C:aD)(n:Nat)(lk:LK)(bk:BM)(o:Oper)(ι:Type)(f:ι->FX)(bl:ι->List (Nat×Option Bk))(nw:List Nat):Prop:=
 bP n o.dst=true-> ∀(tl:LK) (tb:BM) (K:Act->World->Prop),iO lk tl->iO bk tb->ir nw o.dst tl tb->(∀x,SX GB C n (dm tl o.dst (f x)) (Sx.upB tb (bl x)) K)->SX GB C n tl tb (fun a w=> ∀Q,o.wp prog a w K Q)
def Ak(n q:Nat)(fr:aA)(own:aF)(cf:Cf)(f:FX)(bl:List (Nat×Option Bk)):vC:=match cf with
 | .ops ops (o::r) K=>oo own bl fun own'=>vq fr o.dst f fun fr'=>go tt n q [] fr' own' (.ops ops r K)
 |_=>nF
def Aj(n:Nat)(fr:aA)(own:aF)(cf:Cf)(nw:List Nat):Bool:=match cf with
 | .ops ops (o::_) _=>oP nw o.dst fr own&&bP n o.dst&&uC ops (aI fr) o.guard
 |_=>false
def Pf{f:ι->FX}{bl:ι->List (Nat×Option Bk)}{vc:ι->List Prop}{fr':ι->aA}{own':ι->aF}{cf':ι->Cf}(hh:cO fr cf=some o)(ho:Aj n fr own cf nw=true)(h:D7 GB C n (bH fr cf) (gp fr own cf) o ι f bl nw)
  (hgo: ∀x,Ak n q fr own cf (f x) (bl x)=⟨vc x,fr' x,own' x,cf' x⟩)(hv: ∀x,aj (vc x))(k: ∀x,ao prog GB C n Q0 (fr' x) (own' x) (cf' x)):ao prog GB C n Q0 fr own cf:=by
 obtain⟨ops,h1,h2⟩:=FJ hh
 cases cf with
 |ops ops' r K=>
  cases r with
  |nil=>cases h1
  |cons o' r=>
   cases h1
   simp only[Aj,bV] at ho;refine⟨fun ρ G ov a w rl=>?_⟩;show wpListIn _ _ _ _ _ (o::r) a w;unfold wpListIn;rw[if_pos (AQ ho.2 ρ G ov a w rl)];refine CQ ((h ho.1.2 _ _ (fun a w=>a.defers=C.mks/\wpListIn (FW C.rd) 0 prog ops (cQ C.rd prog Q0 K) r a w) (iO.refl _) (iO.refl _) (t7 ho.1.1) (fun x=>?_)).run ρ G ov a w rl) fun a' w' k=>⟨k.1.trans rl.df.symm,k.2⟩;refine⟨fun ρ G ov a w r0=>⟨r0.df,SX.run (GB:=GB) (C:=C) (n:=n) ?_ ρ G ov a w r0⟩⟩;have hx:=hgo x;unfold Ak at hx;simp only[tu,vM] at hx;have:=eo (GB:=GB) (C:=C) (Q0:=Q0) hx (hv x) (k x);show SX GB C n (dm (aI fr) o.dst (f x)) (Sx.upB (aO own) (bl x)) _;rw[<-BE,<-Bb];exact this
 |_=>cases ho
def Rj{f:FuncId}{d:Nat}{ds:List DV}{ty:TypeId}{gd:Option (Nat×Bool)}{cs':ι->List DV}
  (ha:n9 lk fo args=some (f,ds))(hF:PN GB prog f ds ty0 ι cs'):D7 GB C n lk bk ⟨some d, .call ⟨.value fo,args,tys⟩,ty,pos,af,gd⟩ ι (fun _=> .ov d 0) (fun x=>[(d,some (.o ty0 ((cs' x).map .d) true))]) [d]:=by
 intro hd tl tb K' s1 s2 hf hk;refine⟨fun ρ G ov a w r Q=>?_⟩;have r1:=r.mono s1 s2;obtain⟨h1,h2⟩:=vX ha;obtain⟨y,hy,hy'⟩:=r1.ev h1;rw[(bh (G:=G)).1 hy'] at hy;obtain⟨vs,h3,h4⟩:=r1.evDs h2;refine r6 (M:=[]) (rest:=ov) hy h3 (List.Perm.refl _) (hF G vs r.gb h4) hd (fun v own1 G' hG hK a' w' rl=>?_) a w Q ⟨r.h,r.sz,b9 a,r.df⟩;obtain⟨x,b,m,rfl,rfl,hm⟩:=hK;have rl':gh C n (Sx.put (b8 a) (some d) (.pointer (some ⟨b,0,none⟩))) (⟨b,m,ty0,true⟩::ov) G' a' w':=by simpa[relo,gt] using rl
 have hnd:=(bN.1 rl'.h.nd).1;exact(hk x).run _ G' _ a' w' (r.new (x:=⟨some ⟨b,0,none⟩,0,0⟩) (B':= .o ty0 ((cs' x).map .d) true) (os:=[⟨b,m,ty0,true⟩]) hf hG.le rl'.h ⟨b,m,v8,J,px hm⟩ (fun o ho=>by rw[aW.1 ho];exact aZ)
  (fun o ho=>aK _ ho) (fun o ho e=>by cases e;exact hnd o ho J) (f:= .ov d 0) (y:= .pointer (some ⟨b,0,none⟩)) ⟨b,v8,J⟩ (iA rl'))
def Jd(fr:aA)(cf:Cf):Option (FuncId×List DV×Nat):=match cO fr cf with
 |some ⟨some d, .call ⟨.value fo,args,_⟩,_,_,_,_⟩=>match n9 (bH fr cf) fo args with
  |some (f,ds)=>some (f,ds,d)
  |none=>none
 |_=>none
def cn[fu:Fu]{f:FuncId}{d:Nat}{ds:List DV}{ty:TypeId}{cs':ι->List DV}{vc:ι->List Prop}{fr':ι->aA}{own':ι->aF}{cf':ι->Cf}(ha:Jd fr cf=some (f,ds,d))(hF:PN GB prog f ds ty ι cs')
  (hgo: ∀x,(u7 (cs' x) fun csx=>Ak n fu.n fr own cf (.ov d 0) [(d,some (.o ty csx true))])=⟨vc x,fr' x,own' x,cf' x⟩)(k: ∀x,ao prog GB C n Q0 (fr' x) (own' x) (cf' x))(ho:Aj n fr own cf [d]=true:=by rfl)
  (hv: ∀x,aj (vc x):=by intro;first|exact trivial|(simp only[aj];kernel_rfl)|(simp only[aj];omega)|(simp only[aj,aX,aM,aY];omega)):ao prog GB C n Q0 fr own cf:=by
 unfold Jd at ha;split at ha<;>try (cases ha;done)
 rename_i hh;split at ha<;>cases ha;rename_i h1;simp only[CD] at hgo;exact Pf hh ho (Rj h1 hF) hgo hv k
end
section
variable {own:aF}
end
section
variable {own:aF}
def GO(C:aD)(ty:TypeId)(ι:Type)(cs:ι->List DV):Ending->World->Prop:=qj C (fun v own' G'=> ∃x b m,v= .pointer (some ⟨b,0,none⟩)/\own'=[⟨b,m,ty,true⟩]/\IsLs G' (cs x) m)
def Sd[fu:Fu]{f:FuncId}{m:Nat}{ds:List DV}{ty:TypeId}{cs:ι->List DV}(hf:prog.funcs[f]? =some fb)(hb:fb.body=some c)(hn:(fb.name== "runtime.NumGoroutine")=false)(hm:fb.ntmps=m)(hlen:Nat.ble ds.length m=true)
  (hgo:go tt m fu.n [] (nH 0 ds) [] (.code c [])=⟨vc,fr,own,cf⟩)(k: ∀C:aD,C.mb=[]->ao prog GB C m (dx C prog fb (GO C ty ι cs)) fr own cf)
  (hv:autoParam (aj vc) fn._auto_1):PN GB prog f ds ty ι cs:=by
 intro G vs hg hvs;refine lc.introR hf hb hn hm omS fun C _ hmb hrd hfx=>?_;intro a w rl;refine o7 hrd ?_;have h:=eo (GB:=GB) (C:=C) (Q0:=dx C prog fb (GO C ty ι cs)) hgo hv (k C ozj);exact h.run (fun _=>⟨none,0,0⟩) G [] a w ⟨hg,rl.h,rl.sz,rl.df,(fun k f e=>tc hvs rl.fr k f e),(fun nm B e=>by cases e),(fun nm nm' B B' e=>by cases e),fun nm p _ _ e=>by rw[hfx] at e;cases e⟩
theorem omK{p:Prop}(h:p:=by rw[hr];exact .tmp hy .nil):p:=h
def YV{t d:Nat}{ty:TypeId}{cs:ι->List DV}{l:List DV}(x:ι)(hr:fb.results.toList=[.tmp t])(hl:aI fr t=some (.ov d 0))(hw:aO own d=some (.o ty cs1 true))(hc:gO cs1=some l)(hd:l=cs x):
  ao prog GB C n (dx C prog fb (GO C ty ι cs)) fr own (.ex .ret []):=by
 refine⟨fun ρ G ov a w r=>?_⟩;subst hd;obtain⟨b,m,rest,h3,h4,h5,h6⟩:=r.lend hw hc;obtain⟨y,hy,b',hb',hy'⟩:=r.ev (x:= .tmp t) (f:= .ov d 0) hl;rw[h3] at hb';cases hb';subst hy';exact So (C:=C) (n:=n) (fr:=b8 a) (own:=ov) (G:=G) (vs:=[.pointer (some ⟨b,0,none⟩)]) omK (⟨b,m,ty,true⟩::rest) [⟨b,m,ty,true⟩] (by simpa using h5) (.cons_cons _ (kW _)) (fun _=>⟨x,b,m,J,J,h4⟩) a w ⟨r.h,r.sz,b9 a,r.df⟩
def CX[fu:Fu]{d:Nat}{l:List DV}(h:M' fr cf=some (d,l))(hgo:cv tt n fu.n fr own cf (.d (.pt l)) [(d,none)] [d]=⟨vc,fr',own',cf'⟩)(k:ao prog GB C n Q0 fr' own' cf')
  (hv:autoParam (aj vc) fn._auto_1):ao prog GB C n Q0 fr own cf:=by
 unfold M' at h;split at h<;>try (cases h;done)
 rename_i hh;split at h<;>try (cases h;done)
 rename_i g hx;rw[cond_eq_ite] at h;split at h<;>try (cases h;done)
 rename_i hc;simp only[bV] at hc;split at h<;>cases h;rename_i hl;exact us hh (XM hx hc.1 hc.2 hl) hgo hv k
end
section
variable {own:aF}
def fh:List (Option DV)->SV->List DV
 |[],_=>[]
 |some d::t,w=>d::fh t w
 |none::t,w=> .v (.slice w.a w.n w.c)::fh t w
def Bu(lk:LK):List Operand->Option (Option Nat×List (Option DV))
 |[]=>some (none,[])
 |x::t=>match ba lk x,Bu lk t with
  |some (.rw nm),some (none,l)=>some (some nm,none::l)
  |some f,some (q,l)=>match ka f with
   |some d=>some (q,some d::l)
   |none=>none
  |_,_=>none
def wR(lk:LK)(fo:Operand)(args:Array Operand):Option (FuncId×Nat×List (Option DV)):=match ba lk fo with
 |some (.d (.v (.func (.func f) ⟨[]⟩ ⟨[]⟩)))=>match Bu lk args.toList with
  |some (some nm,l)=>some (f,nm,l)
  |_=>none
 |_=>none
def AE{lk:LK}{bk:BM}{ρ:NE}{G:Gh}{ov:List av}{a:Act}{w:World}(r:bz GB C n lk bk ρ G ov a w){z:SV}: ∀{x:List Operand} {q:Option Nat} {l:List (Option DV)},Bu lk x=some (q,l)->(∀nm,q=some nm->ρ nm=z)->
  ∃y,fm (b8 a) x=some y/\IsLs G (fh l z) y
 |[],q,l,e,_=>by cases e;exact⟨[],J, .nil⟩
 |x::t,q,l,e,hb=>by
  simp only[Bu] at e;split at e
  .rename_i nm l' h1 h2
   cases e
   obtain⟨y,h3,h4⟩:=r.ev h1
   cases (show y=_ from h4)
   obtain⟨ys,h5,h6⟩:=AE r (z:=z) h2 (fun nm e=>by cases e);have hz:=hb nm J;subst hz;exact⟨Value.slice (ρ nm).a (ρ nm).n (ρ nm).c::ys,by simp only[fm,h3,h5], .cons ((bh (G:=G)).2 J) h6⟩
  .rename_i f q' l' _ h1 h2
   cases hd:ka f with
   |none=>rw[hd] at e;cases e
   |some d=>
   rw[hd] at e;cases e;obtain⟨y,h3,h4⟩:=r.ev h1;obtain⟨ys,h5,h6⟩:=AE r (z:=z) h2 hb;exact⟨y::ys,by simp only[fm,h3,h5], .cons (mh h4 hd) h6⟩
  .cases e
def TB{f:FuncId}{nm d:Nat}{l:List (Option DV)}{s:Nat}{ty:TypeId}{gd:Option (Nat×Bool)}{lo:Bool}(hne:Nat.beq nm d=false)
  (ha:wR lk fo args=some (f,nm,l))(hb:bk nm=some (.b ty0 s dsi lo))(hF:PB GB prog f (fh l) s ty0 dsi (fun w=> .tp (pre++ .v (.slice w.a w.n w.c)::post)) dso):bD prog GB C n lk bk ⟨some d, .call ⟨.value fo,args,tys⟩,ty,pos,af,gd⟩ (.bx true pre d post) [(nm,none),(d,some (.b ty0 s dso lo))] [d]:=by
 intro hd tl tb K' s1 s2 hf hk;refine⟨fun ρ G ov a w r Q=>?_⟩;have r1:=r.mono s1 s2;unfold wR at ha;split at ha<;>try (cases ha;done)
 rename_i h1;split at ha<;>cases ha;rename_i h2;obtain⟨y,hy,hy'⟩:=r1.ev h1;rw[(bh (G:=G)).1 hy'] at hy;obtain⟨B,g1,g2⟩:=r1.bx _ _ hb;have hB:cH G ⟨ρ nm,s,ty0,dsi,lo⟩ B:=g1;obtain⟨vs,h7,h8⟩:=AE r1 (z:=ρ nm) h2 (fun nm e=>by cases e;rfl);have hp: ∃rest,ov.Perm (B++rest)/\ ∀o∈ov,(∀o'∈B,o.b≠o'.b)->o∈rest:=by
  rcases hB with⟨vs',⟨_,_,e⟩|⟨b0,r0,lo0,_,e,_⟩,_⟩
  .rw[e];exact⟨ov,List.Perm.refl _,fun o ho _=>ho⟩
  .rw[e] at g2⊢
   obtain⟨l1,l2,e2⟩:=lK (g2 _ aZ);rw[e2];refine⟨l1++l2,nS,fun o ho hno=>?_⟩;rcases bJ.1 ho with ho|ho
   .exact bS _ ho
   .rcases aT.1 ho with rfl|ho
    .exact absurd J (hno _ aZ)
    .exact cW _ ho
 obtain⟨rest,h5,h6⟩:=hp;refine r6 (M:=B) (rest:=rest) hy h7 h5 (hF G (ρ nm) vs B r.gb hB.weak h8) hd (fun v own1 G' hG hK a' w' rl=>?_) a w Q ⟨r.h,r.sz,b9 a,r.df⟩;obtain⟨z,hr,vs',k1,k2,k3,k4⟩:=hK;have k1':=k1.relo (gt B);have e2:lo=true-> ∀o∈own1.map (relo (gt B)),o.lo=true:=fun hl o ho=>by
  obtain⟨o',_,rfl⟩:=aN.1 ho;obtain⟨_,_,_,_,hlo⟩:=hB;exact D2 _ (hlo hl)
 generalize own1.map (relo (gt B))=B' at rl e2 k1';have rl':gh C n (Sx.put (b8 a) (some d) v) (B'++rest) G' a' w':=rl;have hdis:=(eY.1 rl'.h.nd).2.2;have r2:=r.dropB nm;have hnn:nm≠d:=fun e=>by subst e;rw[kS] at hne;cases hne
 have hf2:ir [d] (some d) tl (Sx.upB tb [(nm,none)]):=fun q hq=>by
  obtain⟨f1,f2⟩:=hf q hq;refine⟨f1,fun k B e1 e=>?_⟩;simp only[Sx.upB] at e;split at e
  .cases e
  .exact f2 k B e1 e
 have hsep: ∀q B0,Sx.upB tb [(nm,none)] q=some B0-> ∀o∈ov,(ρ q).a=some ⟨o.b,0,none⟩->o∈rest:=fun q B0 e o ho hbq=>by
  simp only[Sx.upB] at e;split at e
  .cases e
  .rename_i hqn
   refine h6 o ho fun o' ho' he=>?_;exact r.dj nm q _ _ (s2 _ _ hb) e (Ne.symm hqn) o'.b (g1.blk ho') (by rw[hbq,he])
 obtain⟨m,rfl,hm⟩:=mj.1 hr;obtain⟨m1,m2',rfl,c1,c2⟩: ∃m1 m2',m=m1++m2'/\IsLs G' pre m1/\IsLs G' (.v (.slice z.a z.n z.c)::post) m2':=IsLs.unapp hm;obtain⟨u,m2,rfl,c3,c4⟩:=bE.1 c2;rw[bh.1 c3] at rl';have r3:=r2.new' (x:=z) (B':= .b ty0 s dso lo) (os:=B') (ov':=B'++rest) (f:= .bx true pre d post) (y:= .tuple ⟨m1++Value.slice z.a z.n z.c::m2⟩) hf2 hG.le rl'.h ⟨vs',by simpa using k1',k2,k3,e2⟩ (fun o ho=>bS _ ho)
  (fun q B0 hq e o ho hbq=>⟨cW _ (hsep q B0 e o ho hbq),fun hc=>by
   have hx: ∃o1∈B',o1.b=o.b:=by
    rcases k1' with⟨_,h,_⟩|⟨b0,rest0,lo0,h,hB,_⟩
    .rw[show z=_ from h] at hc;cases hc
    .rw[show z=_ from h] at hc;cases hc;exact⟨⟨_,aG vs'++rest0,_,lo0⟩,by rw[hB];exact aZ,J⟩
   obtain⟨o1,ho1,he1⟩:=hx;exact hdis o1 ho1 o (hsep q B0 e o ho hbq) he1⟩) ⟨m1,m2,v8,c1,c4⟩ (iA rl')
 exact hk.run _ G' _ a' w' r3
structure Y8 where
 f:FuncId
 nm:Nat
 l:List (Option DV)
 ty:TypeId
 s:Nat
 ds:List DV
 lo:Bool
 d:Nat
def Bm(fr:aA)(own:aF)(cf:Cf):Option Y8:=match cO fr cf with
 |some ⟨some d, .call ⟨.value fo,args,_⟩,_,_,_,_⟩=>match wR (bH fr cf) fo args with
  |some (f,nm,l)=>match gp fr own cf nm with
   |some (.b ty s ds lo)=>bif Nat.beq nm d then none else some ⟨f,nm,l,ty,s,ds,lo,d⟩
   |_=>none
  |none=>none
 |_=>none
theorem okM{p:Prop}(h:p:=by cases hq:Nat.beq nm d with|false=>rfl|true=>exact absurd hq h3):p:=h
def cb[fu:Fu]{f:FuncId}{nm d:Nat}{l:List (Option DV)}{ty:TypeId}{s:Nat}{lo:Bool}(dso':List DV)(ha:Bm fr own cf=some ⟨f,nm,l,ty,s,dsi,lo,d⟩)(hF:PB GB prog f (fh l) s ty dsi (fun w=> .tp (pre++ .v (.slice w.a w.n w.c)::post)) dso)(he:dso=dso')
  (hgo:cv tt n fu.n fr own cf (.bx true pre d post) [(nm,none),(d,some (.b ty s dso' lo))] [d]=⟨vc,fr',own',cf'⟩)(k:ao prog GB C n Q0 fr' own' cf')
  (hv:autoParam (aj vc) fn._auto_1):ao prog GB C n Q0 fr own cf:=by
 subst he;unfold Bm at ha;split at ha<;>try (cases ha;done)
 rename_i hh;split at ha<;>try (cases ha;done)
 rename_i h1;split at ha<;>try (cases ha;done)
 rename_i h2;rw[cond_eq_ite] at ha;split at ha<;>cases ha;rename_i h3;exact us hh (TB okM h1 h2 hF) hgo hv k
def uS:Nat->List (Option DV)->aA
 |_,[]=>[]
 |i,some v::t=>(i, .d v)::uS (i+1) t
 |i,none::t=>(i, .rw NM)::uS (i+1) t
def CS(w:SV): ∀l:List (Option DV),(fh l w).length=l.length
 |[]=>rfl
 |some d::t=>by simp[fh,CS w t]
 |none::t=>by simp[fh,CS w t]
def Bh{w:SV}{ρ:NE}{G:Gh}(hρ:ρ NM=w): ∀{ds:List (Option DV)} {vs:List Value} (i:Nat),IsLs G (fh ds w) vs-> ∀k f,aI (uS i ds) k=some f-> ∃y,(∃j,k=i+j/\vs[j]? =some y)/\bB ρ G f y
 |[],vs,i,h,k,f,e=>by cases e
 |some d::t,vs,i,h,k,f,e=>by
  obtain⟨y,m,rfl,h1,h2⟩:=bE.1 h;simp only[uS] at e;rw[i9] at e;split at e
  .cases e;rename_i hk;exact⟨y,⟨0,hk,rfl⟩,h1⟩
  .obtain⟨u,⟨j,hj,hu⟩,h3⟩:=Bh hρ (i+1) h2 k f e
   exact⟨u,⟨j+1,pb,by simpa using hu⟩,h3⟩
 |none::t,vs,i,h,k,f,e=>by
  obtain⟨y,m,rfl,h1,h2⟩:=bE.1 h;simp only[uS] at e;rw[i9] at e;split at e
  .cases e;rename_i hk;exact⟨y,⟨0,hk,rfl⟩,by show y=_;rw[hρ];exact bh.1 h1⟩
  .obtain⟨u,⟨j,hj,hu⟩,h3⟩:=Bh hρ (i+1) h2 k f e
   exact⟨u,⟨j+1,pb,by simpa using hu⟩,h3⟩
def He(C:aD)(s:Nat)(ty:TypeId)(pre post dso:List DV):Ending->World->Prop:=qj C (fun v own' G'=> ∃w',Is G' (.tp (pre++ .v (.slice w'.a w'.n w'.c)::post)) v/\cH G' ⟨w',s,ty,dso,false⟩ own')
def GN[fu:Fu]{f:FuncId}{k s:Nat}{l:List (Option DV)}{ty:TypeId}(hf:prog.funcs[f]? =some fb)(hb:fb.body=some c)(hn:(fb.name== "runtime.NumGoroutine")=false)(hm:fb.ntmps=k)(hlen:Nat.ble l.length k=true)
  (hgo:go tt k fu.n [] (uS 0 l) [(NM,some (.b ty s dsi false))] (.code c [])=⟨vc,fr,own,cf⟩)(h: ∀C,ao prog GB C k (dx C prog fb (He C s ty pre post dso)) fr own cf)
  (hv:autoParam (aj vc) fn._auto_1):PB GB prog f (fh l) s ty dsi (fun w=> .tp (pre++ .v (.slice w.a w.n w.c)::post)) dso:=by
 intro G w vs B hg hB hvs;refine lc.introR hf hb hn hm (by rw[hvs.len,CS];exact hlen) fun C _ hmb hrd hfx=>?_;intro a wd rl;refine o7 hrd ?_;have h1:=eo (GB:=GB) (C:=C) (Q0:=dx C prog fb (He C s ty pre post dso)) hgo hv (h C);refine h1.run (fun _=>w) G (Sx.asB B) a wd ⟨hg,rl.h,rl.sz,rl.df,fun k f e=>?_,fun nm B' e=>?_,fun nm nm' B' B2 e e' hne=>?_,fun nm p _ _ e=>by rw[hfx] at e;cases e⟩
 .obtain⟨y,⟨j,hj,hy⟩,h2⟩:=Bh (ρ:=fun _=>w) (w:=w) rfl 0 hvs k f e
  refine⟨y,rl.fr k y ?_,h2⟩;rw[hj];exact ua vs 0 j y hy
 .rw[f7] at e
  split at e
  .cases e;exact⟨Sx.asB B,hB.asB,fun o ho=>ho⟩
  .cases e
 .rw[f7] at e e'
  split at e<;>split at e'
  .rename_i h2 h3;exact absurd (h2.trans h3.symm) hne
  .cases e'
  .cases e
  .cases e
def xA{B:List av}{w:SV}{s:Nat}{ty:TypeId}{ds:List DV}{lo:Bool}(h:cH G ⟨w,s,ty,ds,lo⟩ B)(g: ∀o∈B,o∈ov): ∃rest,ov.Perm (B++rest):=by
 rcases h with⟨vs',⟨_,_,e⟩|⟨b0,r0,lo0,_,e,_⟩,_⟩
 .rw[e];exact⟨ov,List.Perm.refl _⟩
 .rw[e] at g⊢
  obtain⟨l1,l2,e2⟩:=lK (g _ aZ);rw[e2];exact⟨l1++l2,nS⟩
def Ex{t u d s:Nat}{ty:TypeId}{ds:List DV}{f:FX}(hr:fb.results.toList=[.tmp t, .tmp u])(hl:aI fr t=some (.rw d))(hu:aI fr u=some f)(hd:ka f=some v)(hw:aO own d=some (.b ty s ds false))(ed:ds=dso)(ev:v=v'):
  ao prog GB C n (dx C prog fb (He C s ty [] [v'] dso)) fr own (.ex .ret []):=by
 subst ed ev;refine⟨fun ρ G ov a w r=>?_⟩;obtain⟨B,g1,g2⟩:=r.bx _ _ hw;have hB:cH G ⟨ρ d,s,ty,ds,false⟩ B:=g1;obtain⟨rest,hp⟩:=xA hB g2;obtain⟨y,hy,hy'⟩:=r.ev (x:= .tmp t) (f:= .rw d) hl
 cases (show y=_ from hy')
 obtain⟨z,hz,hz'⟩:=r.ev (x:= .tmp u) (f:=f) hu;exact wK (C:=C) (n:=n) (fr:=b8 a) (own:=ov) (G:=G) (vs:=[.slice (ρ d).a (ρ d).n (ρ d).c,z]) (by rw[hr];exact .tmp hy (.tmp hz .nil)) (B++rest) B hp (lY _ _)
  ⟨ρ d,mj.2 ⟨_,J, .cons (bh.2 J) (.cons (mh hz' hd) .nil)⟩,hB⟩ a w ⟨r.h,r.sz,b9 a,r.df⟩
def AO(lk:LK):List Operand->Option (List (Option DV))
 |[]=>some []
 |x::t=>match ba lk x,AO lk t with
  |some .nl,some l=>some (none::l)
  |some f,some l=>match ka f with
   |some d=>some (some d::l)
   |none=>none
  |_,_=>none
def Fy(lk:LK)(fo:Operand)(args:Array Operand):Option (FuncId×List (Option DV)):=match ba lk fo with
 |some (.d (.v (.func (.func f) ⟨[]⟩ ⟨[]⟩)))=>match AO lk args.toList with
  |some l=>some (f,l)
  |_=>none
 |_=>none
def Et{lk:LK}{bk:BM}{ρ:NE}{G:Gh}{ov:List av}{a:Act}{w:World}(r:bz GB C n lk bk ρ G ov a w): ∀{x:List Operand} {l:List (Option DV)},AO lk x=some l-> ∃y,fm (b8 a) x=some y/\IsLs G (fh l ⟨none,0,0⟩) y
 |[],l,e=>by cases e;exact⟨[],J, .nil⟩
 |x::t,l,e=>by
  simp only[AO] at e;split at e
  .rename_i l' h1 h2
   cases e
   obtain⟨y,h3,h4⟩:=r.ev h1
   cases (show y=_ from h4)
   obtain⟨ys,h5,h6⟩:=Et r h2;exact⟨Value.slice none 0 0::ys,by simp only[fm,h3,h5], .cons ((bh (G:=G)).2 J) h6⟩
  .rename_i f l' _ h1 h2
   cases hd:ka f with
   |none=>rw[hd] at e;cases e
   |some d=>
   rw[hd] at e;cases e;obtain⟨y,h3,h4⟩:=r.ev h1;obtain⟨ys,h5,h6⟩:=Et r h2;exact⟨y::ys,by simp only[fm,h3,h5], .cons (mh h4 hd) h6⟩
  .cases e
def ZA{f:FuncId}{d:Nat}{l:List (Option DV)}{s:Nat}{ty:TypeId}{gd:Option (Nat×Bool)}
  (ha:Fy lk fo args=some (f,l))(hF:PB GB prog f (fh l) s ty0 [] (fun w=> .tp (pre++ .v (.slice w.a w.n w.c)::post)) dso):bD prog GB C n lk bk ⟨some d, .call ⟨.value fo,args,tys⟩,ty,pos,af,gd⟩ (.bx true pre d post) [(d,some (.b ty0 s dso true))] [d]:=by
 intro hd tl tb K' s1 s2 hf hk;refine⟨fun ρ G ov a w r Q=>?_⟩;have r1:=r.mono s1 s2;unfold Fy at ha;split at ha<;>try (cases ha;done)
 rename_i h1;split at ha<;>cases ha;rename_i h2;obtain⟨y,hy,hy'⟩:=r1.ev h1;rw[(bh (G:=G)).1 hy'] at hy;obtain⟨vs,h7,h8⟩:=Et r1 h2;refine r6 (M:=[]) (rest:=ov) hy h7 (List.Perm.refl _) (hF G ⟨none,0,0⟩ vs [] r.gb ⟨[], .nil _ _, .nil,v8,fun h=>by cases h⟩ h8) hd (fun v own1 G' hG hK a' w' rl=>?_) a w Q ⟨r.h,r.sz,b9 a,r.df⟩;obtain⟨z,hr,vs',k1,k2,k3,k4⟩:=hK;have k1':=k1.relo (gt []);have e2: ∀o∈own1.map (relo (gt [])),o.lo=true:=fun o ho=>by
  obtain⟨o',_,rfl⟩:=aN.1 ho;rfl
 generalize own1.map (relo (gt []))=B' at rl e2 k1';have rl':gh C n (Sx.put (b8 a) (some d) v) (B'++ov) G' a' w':=rl;have hdis:=(eY.1 rl'.h.nd).2.2;obtain⟨m,rfl,hm⟩:=mj.1 hr;obtain⟨m1,m2',rfl,c1,c2⟩: ∃m1 m2',m=m1++m2'/\IsLs G' pre m1/\IsLs G' (.v (.slice z.a z.n z.c)::post) m2':=IsLs.unapp hm;obtain⟨u,m2,rfl,c3,c4⟩:=bE.1 c2;rw[bh.1 c3] at rl';have r3:=r.new (x:=z) (B':= .b ty0 s dso true) (os:=B') (ov':=B'++ov) (f:= .bx true pre d post) (y:= .tuple ⟨m1++Value.slice z.a z.n z.c::m2⟩) hf hG.le rl'.h ⟨vs',by simpa using k1',k2,k3,fun _=>e2⟩ (fun o ho=>bS _ ho) (fun o ho=>cW _ ho)
  (fun o ho hc=>by
   have hx: ∃o1∈B',o1.b=o.b:=by
    rcases k1' with⟨_,h,_⟩|⟨b0,rest0,lo0,h,hB,_⟩
    .rw[show z=_ from h] at hc;cases hc
    .rw[show z=_ from h] at hc;cases hc;exact⟨⟨_,aG vs'++rest0,_,lo0⟩,by rw[hB];exact aZ,J⟩
   obtain⟨o1,ho1,he1⟩:=hx;exact hdis o1 ho1 o ho he1) ⟨m1,m2,v8,c1,c4⟩ (iA rl')
 exact hk.run _ G' _ a' w' r3
def Kb(fr:aA)(cf:Cf):Option (FuncId×List (Option DV)×Nat):=match cO fr cf with
 |some ⟨some d, .call ⟨.value fo,args,_⟩,_,_,_,_⟩=>match Fy (bH fr cf) fo args with
  |some (f,l)=>some (f,l,d)
  |none=>none
 |_=>none
def Vx[fu:Fu]{f:FuncId}{d:Nat}{l:List (Option DV)}{ty:TypeId}{s:Nat}(dso':List DV)(ha:Kb fr cf=some (f,l,d))(hF:PB GB prog f (fh l) s ty [] (fun w=> .tp (pre++ .v (.slice w.a w.n w.c)::post)) dso)(he:dso=dso')
  (hgo:cv tt n fu.n fr own cf (.bx true pre d post) [(d,some (.b ty s dso' true))] [d]=⟨vc,fr',own',cf'⟩)(k:ao prog GB C n Q0 fr' own' cf')
  (hv:autoParam (aj vc) fn._auto_1):ao prog GB C n Q0 fr own cf:=by
 subst he;unfold Kb at ha;split at ha<;>try (cases ha;done)
 rename_i hh;split at ha<;>cases ha;rename_i h1;exact us hh (ZA h1 hF) hgo hv k
end
section
variable {fr:Fr}{own own':List av}
variable {gd:Option (Nat×Bool)}{e s:Nat}
def Sw[hT:cg P t e s by_]{z:Value}[hz:iv P e z]{k k':IntKind}{l:Int}(hx:aB fr x=some (.int k 0))(hy:aB fr y=some (.int k' l))(h0:0<=l)(hb:by_*l<=2^47)(hl:l<=2^60)(hs:(aH z).length=s)(hd:bP n dst=true)
  (h: ∀b,St C n (put fr dst (.slice (some ⟨b,0,none⟩) 0 l.toNat)) (⟨b,dE z l.toNat,e,true⟩::own) G Φ):
  Ch P C n fr own G ⟨dst, .makeSlice t x y,ty',pos,af,gd⟩ Φ:=by
 intro a w Q rl;have h1:(Instr.makeSlice t (a.eval x) (a.eval y)).run P w= .ok (.slice (some ⟨w.heap.size,0,none⟩) 0 l.toNat) (w.alloc (.cells ⟨dE z l.toNat⟩ e)):=by
  obtain⟨i,hi,hib⟩:=JG (P:=P) (t:=t) (e:=e) (s:=s) (by_:=by_) w;rw[bg rl.fr hx,bg rl.fr hy];unfold Instr.makeSlice;rw[aP (hT.u w)];simp only[asInt,asIntOf];rw[aP (a:=0) (w':=w) J,aP (a:=l) (w':=w) J,aP hi,hib];have hw:IntKind.i64.wrap l=l:=qr okK;have hw0:IntKind.i64.wrap 0=0:=J;simp only[hw,hw0];have c1: ¬((by_:Int)*l>2^48):=by
   have:(2:Int)^47<=2^48:=by decide
   omega
  have c5:decide ((by_:Int)*l>2^48)=false:=decide_eq_false c1;have c2:decide (l<0)=false:=decide_eq_false pb;have c4:decide ((0:Int)>l)=false:=by simp;omega
  simp only[c2,c4,c5,Bool.false_or,Int.lt_irrefl,decide_false,Bool.or_false,iL,if_false];have hr: ¬(l.toNat*by_>roomBytes):=by
   unfold roomBytes;have:((l.toNat*by_:Nat):Int)=by_*l:=by rw[gM,pT h0,Int.mul_comm]
   have h47:((2^47:Nat):Int)=2^47:=by decide
   omega
  unfold askRoom;simp only[hr,if_false];rw[aP (run_pure _ _ _),aP (hT.siz w)];have hn:l.toNat*s=l.toNat*(aH z).length:=by rw[hs]
  by_cases h00:l.toNat*s=0
  .rw[if_pos h00,aP (run_pure _ _ _)]
   have e0:dE z l.toNat=[]:=cV (by rw[nA,hs];exact h00);rw[h00,e0,show(Array.range 0)= #[] from J,Array.map_empty];rfl
  .rw[if_neg h00,aP (hz.zero w),pG]
   rw[aP (run_pure _ _ _),Df hn];rfl
 refine j0 (v:= .slice (some ⟨w.heap.size,0,none⟩) 0 l.toNat) (cA h1) (h w.heap.size _ _ ((rl.heap (rl.h.alloc _ _)).put _ hd))
def pc(G:Gh)(ov:List av):Gh:=fun b=>match G b with
 |some cs=>some cs
 |none=>(ov.find? fun o=>Nat.beq o.b b).map (·.cs)
def Fe:bA G (pc G ov):=fun b cs h=>by unfold pc;rw[h]
def HR{o:av}: ∀{ov:List av},o∈ov->ov.Pairwise (fun x y=>x.b≠y.b)->ov.find? (fun u=>Nat.beq u.b o.b)=some o
 |u::t,ho,nd=>by
  rcases aT.1 ho with rfl|ho
  .rw[List.find?_cons_of_pos v8]
  .have:=(bN.1 nd).1 o ho
   rw[List.find?_cons_of_neg (by simpa using this)];exact HR ho (bN.1 nd).2
def Qx{o:av}(ho:o∈ov)(hn:G o.b=none)(nd:ov.Pairwise (fun x y=>x.b≠y.b)):pc G ov o.b=some o.cs:=by
 unfold pc;rw[hn,HR ho nd];rfl
def bu.lendSub(h:bu C ov G w)(b:Nat)(cs:List Value)(hb:pc G ov b=some cs): ∃ty fz,w.heap[b]? =some (.cells ⟨cs⟩ ty fz):=by
 unfold pc at hb;split at hb
 .rename_i hg;cases hb;exact h.sub _ _ hg
 .cases hf:ov.find? (fun o=>Nat.beq o.b b) with
  |none=>rw[hf] at hb;cases hb
  |some o=>
   rw[hf] at hb;cases hb;have e:o.b=b:=aR (by simpa using List.find?_some hf);subst e;exact⟨_,_,(h.hown o (List.mem_of_find?_eq_some hf)).1⟩
def bu.lent(h:bu C ov G w)(k:bu ⟨w,pc G ov,[],[],[],none,fun _=>none⟩ [] G' w'):bu C ov G w':=by
 have same: ∀b o,w.heap[b]? =some o->w'.heap[b]? =some o:=fun b o hb=>by rw[k.keep b (gq hb) v8];exact hb
 have hsz:w.heap.size<=w'.heap.size:=k.size;refine⟨k.os.trans h.os,k.tape.trans h.tape,k.output.trans h.output,cJ h.size hsz,fun b hb hm=>?_,fun b cs hb=>?_,h.gle,h.gold,fun o ho=>?_,h.nd,cJ h.dr k.dr,fun p hp=>⟨(h.ext p hp).1,same _ _ (h.ext p hp).2⟩⟩
 .have:=h.size;rw[k.keep b omF v8];exact h.keep b hb hm
 .obtain⟨ty,fz,h1⟩:=h.sub b cs hb;exact⟨ty,fz,same _ _ h1⟩
 .obtain⟨h1,h2⟩:=h.hown o ho;exact⟨same _ _ h1,h2⟩
def Xj{f:FuncId}{K:Value->Gh->Prop}(ho:aB fr fo=some (.func (.func f) #[] #[]))(hv:fm fr args.toList=some vs)
  (hF:Fn P f vs (pc G own) K)(hd:bP n dst=true)(h: ∀v (G':Gh),K v G'->St C n (put fr dst v) own G Φ):Ch P C n fr own G ⟨dst, .call ⟨.value fo,args,tys⟩,ty',pos,af,gd⟩ Φ:=by
 intro a w Q rl;have h2:=A8 (c1:=[]) (c2:=[]) (P:=P) (dst:=dst) (ty':=ty') (pos:=pos) (af:=af) (gd:=gd) (tys:=tys) (w:=w) hF.able rl.fr ho hv;rw[kN,oW] at h2;simp only[Oper.wp,h2,Oper.upon];refine(hF.run w rl.h.lendSub).mono ?_;rintro e w' ⟨v,G',rfl,hh,hK⟩;exact h v G' hK _ _ ((rl.heap (rl.h.lent hh)).put _ hd)
end
def DV.np:DV->Bool
 | .v _=>true
 | .tp l=>l.all fun d=>match d with
  | .v _=>true
  |_=>false
 |_=>false
def Jj{A G:Gh}: ∀{l:List DV} {m:List Value},(l.all fun d=>match d with| .v _=>true|_=>false)=true->IsLs A l m->IsLs G l m
 |[],m,_,k=>eD.2 (eD.1 k)
 |d::t,m,h,k=>by
  obtain⟨y,n,rfl,k1,k2⟩:=bE.1 k;simp only[rR,bV] at h;refine .cons ?_ (Jj h.2 k2)
  cases d with
  |v x=>exact bh.2 (bh.1 k1)
  |_=>simp at h
def Is.np{d:DV}{y:Value}(h:d.np=true)(k:Is A d y):Is G d y:=by
 cases d with
 |v x=>exact bh.2 (bh.1 k)
 |tp l=>obtain⟨m,e,k⟩:=mj.1 k;exact mj.2 ⟨m,e,Jj h k⟩
 |_=>cases h
section
variable {own:aF}
variable {gd:Option (Nat×Bool)}{e s:Nat}
def Ot:Option Bk->Option (List DV)
 |some (.b _ _ ds _)=>some ds
 |some (.c _ _ ds _)=>some ds
 |_=>none
def Dm(lk:LK)(bk:BM)(x:Operand):Option DV:=match ba lk x with
 |some (.rw nm)=>match Ot (bk nm) with
  |some ds=>some (.sl ds)
  |none=>none
 |some f=>ka f
 |none=>none
def Cn(lk:LK)(bk:BM):List Operand->Option (List DV)
 |[]=>some []
 |x::t=>match Dm lk bk x,Cn lk bk t with
  |some d,some l=>some (d::l)
  |_,_=>none
def Vj(r:bz GB C n lk bk ρ G ov a w){d:DV}(h:Dm lk bk x=some d): ∃y,aB (b8 a) x=some y/\Is (pc G ov) d y:=by
 unfold Dm at h;split at h
 .rename_i nm h1
  obtain⟨y,h2,h3⟩:=r.ev h1
  cases (show y=_ from h3)
  refine⟨_,h2,?_⟩;split at h<;>cases h;rename_i ds hr;obtain⟨ty,s,vs,B,hB,hv,hs,hBo⟩: ∃ty s vs B,i4 s ty (ρ nm) vs B/\IsLs G ds vs/\(∀v∈vs,(aH v).length=s)/\ ∀o∈B,o∈ov:=by
   unfold Ot at hr;split at hr<;>cases hr
   .rename_i hb;obtain⟨B,⟨vs,h4,h5,h6,_⟩,h7⟩:=r.bx _ _ hb;exact⟨_,_,vs,B,h4,h5,h6,h7⟩
   .rename_i hb;obtain⟨B,⟨vs,h4,h5,h6,_⟩,h7⟩:=r.bx _ _ hb;exact⟨_,_,vs,B,h4,h5,h6,h7⟩
  rcases hB with⟨e1,e2,e3⟩|⟨b,rest,lo',e2,e3,h5,h6,h7⟩
  .subst e1
   have ed:ds=[]:=cV (by rw[<-hv.len];rfl);subst ed;rw[e2];exact ie.2 ⟨0,⟨none,0,0⟩,[],J, .nil _ 0, .nil⟩
  .subst e3
   have ho:=hBo _ aZ;have hg:=Qx ho (r.h.hown _ ho).2.1 r.h.nd;rw[e2];exact ie.2 ⟨s,⟨some ⟨b,0,none⟩,vs.length,_⟩,vs,J,gy.of_flat hs hg h7,hv.up Fe⟩
 .rename_i h1
  obtain⟨y,h2,h3⟩:=r.ev h1;exact⟨y,h2,(mh h3 h).up Fe⟩
 .cases h
def NH(r:bz GB C n lk bk ρ G ov a w): ∀{l:List Operand} {ds:List DV},Cn lk bk l=some ds-> ∃vs,fm (b8 a) l=some vs/\IsLs (pc G ov) ds vs
 |[],ds,e=>by cases e;exact⟨[],J, .nil⟩
 |x::t,ds,e=>by
  simp only[Cn] at e;split at e<;>cases e;rename_i h1 h2;obtain⟨y,h3,h4⟩:=Vj r h1;obtain⟨vs,h5,h6⟩:=NH r h2;exact⟨y::vs,by simp only[fm,h3,h5], .cons h4 h6⟩
def Dx(lk:LK)(bk:BM)(fo:Operand)(args:Array Operand):Option (FuncId×List DV):=match ba lk fo with
 |some (.d (.v (.func (.func f) ⟨[]⟩ ⟨[]⟩)))=>match Cn lk bk args.toList with
  |some ds=>some (f,ds)
  |none=>none
 |_=>none
def Sl{f:FuncId}{ds:List DV}(ha:Dx lk bk fo args=some (f,ds))(hnp:rv.np=true)(hF:PF GB prog f ds rv):bD prog GB C n lk bk ⟨dst, .call ⟨.value fo,args,tys⟩,ty',pos,af,gd⟩ (.d rv) [] []:=by
 intro hd tl tb K' s1 s2 hf hk;refine⟨fun ρ G ov a w r Q=>?_⟩;have r1:=r.mono s1 s2;unfold Dx at ha;split at ha<;>try (cases ha;done)
 rename_i h1;split at ha<;>cases ha;rename_i h2;obtain⟨y,hy,hy'⟩:=r1.ev h1;rw[(bh (G:=G)).1 hy'] at hy;obtain⟨vs,h3,h4⟩:=NH r1 h2;refine Xj hy h3 (hF _ vs (r.gb.trans Fe) h4) hd (fun v G' hK a' w' rl=>?_) a w Q ⟨r.h,r.sz,b9 a,r.df⟩;exact hk.run ρ G ov a' w' ⟨r.gb,rl.h,rl.sz,rl.df,(iA rl).fx (fun k g _ e=>r.fx k g e) (Is.np hnp hK),r.bx,r.dj,r.fxd⟩
def Pa(fr:aA)(own:aF)(cf:Cf):Option (FuncId×List DV):=match cO fr cf with
 |some ⟨_, .call ⟨.value fo,args,_⟩,_,_,_,_⟩=>Dx (bH fr cf) (gp fr own cf) fo args
 |_=>none
def cL[fu:Fu]{f:FuncId}{ds:List DV}(ha:Pa fr own cf=some (f,ds))(hF:PF GB prog f ds rv)(hnp:rv.np=true)(hgo:cv tt n fu.n fr own cf (.d rv) [] []=⟨vc,fr',own',cf'⟩)(k:ao prog GB C n Q0 fr' own' cf')
  (hv:aj vc:=by first|exact trivial|(simp only[aj];kernel_rfl)|(simp only[aj];omega)):ao prog GB C n Q0 fr own cf:=by
 unfold Pa at ha;split at ha<;>try (cases ha;done)
 rename_i hh;exact us hh (Sl ha hnp hF) hgo hv k
def S5{d:Nat}{i:TI}{z:DV}{k:IntKind}[hT:cg prog t e s by_](hi:d7 prog e=some i)(hz:lv i=some z)(hs:Nat.beq z.cells.length s=true)(hx:ba lk x=some (.d (.v (.int k 0))))(hy:ba lk y=some (.d (.v (.int k' (cap:Nat)))))(hb:by_*cap<=140737488355328)(hl:cap<=1152921504606846976):
  bD prog GB C n lk bk ⟨some d, .makeSlice t x y,ty',pos,af,gd⟩ (.rw d) [(d,some (.c e s [] cap))] [d]:=by
 intro hd tl tb K s1 s2 hf hk;refine⟨fun ρ G ov a w r Q=>?_⟩;obtain⟨v,hz1,hz2,hz3⟩:=ug hi hz;obtain⟨q1,p1,p2⟩:=(r.mono s1 s2).ev hx;obtain⟨q2,p3,p4⟩:=(r.mono s1 s2).ev hy;rw[cC] at p2 p4;subst p2 p4;have c1:=((hz2 G).cells hz3).1.len;replace hs:=aR hs;refine Sw p1 p3 pb (by have:((by_*cap:Nat):Int)=by_*cap:=gM ..;omega) pb (by rw[c1,hs]) hd (fun b a' w' rl=>?_) a w Q ⟨r.h,r.sz,b9 a,r.df⟩;rw[dQ] at rl;have hnd:=(bN.1 rl.h.nd).1;refine hk.run _ _ _ a' w' (r.new' (x:=⟨some ⟨b,0,none⟩,0,cap⟩) (B':= .c e s [] cap) (os:=[⟨b,dE v cap,e,true⟩]) (f:= .rw d) (y:= .slice (some ⟨b,0,none⟩) 0 cap) hf (bA.refl _) rl.h ⟨[], .inr ⟨b,dE v cap,true,v8,J,by simp[aG],?_,v8⟩, .nil,v8,fun o ho=>by rw[aW.1 ho],v8⟩
  (fun o ho=>by rw[aW.1 ho];exact aZ) (fun m B' _ _ o ho _=>⟨aK _ ho,fun e'=>by cases e';exact hnd o ho J⟩) okV (iA rl))
 rw[nA,c1,hs];simp[aG]
def Q6{d nm:Nat}{ds ds2:List DV}[hT:cg prog t e s by_][hN:jh prog t'](hx:ba lk x=some (.rw nm))(hb:bk nm=some (.c e s ds cap))(hy:mH lk bk s y=some ds2)(hk2:cd s ds2)(hc:ds.length+ds2.length<=cap)(hp:0<ds2.length)(hnd:Nat.beq nm d=false):
  bD prog GB C n lk bk ⟨some d, .call ⟨.builtin .append, #[x,y], #[t,t']⟩,ty',pos,af,gd⟩ (.rw d) [(nm,none),(d,some (.c e s (ds++ds2) cap))] [d]:=by
 intro hd tl tb K s1 s2 hf hk;refine⟨fun ρ G ov a w r Q=>?_⟩;have r1:=r.mono s1 s2;have hne:nm≠d:=fun e=>by subst e;simp at hnd
 obtain⟨u,hx',hx2⟩:=r1.ev hx
 cases hx2
 obtain⟨B,⟨vs,hB,hv,hvs,hlo,hcap⟩,hBo⟩:=r1.bx _ _ hb;obtain⟨w2,us,hy',h2,h3,h4,h5,h6⟩:=wi (P:=prog) (C:=C) r1 hy hk2;have hus:(aG us).length=us.length*s:=d6 us h4;have hl1:=hv.len;have hl2:=h3.len;have rd:=r.dropB nm;have hf':ir [d] (some d) tl (Sx.upB tb [(nm,none)]):=fun m hm=>by
  obtain⟨g1,g2⟩:=hf m hm;refine⟨g1,fun k B' hk e=>g2 k B' hk ?_⟩;simp only[Sx.upB] at e;split at e
  .cases e
  .exact e
 rcases hB with⟨e1,e2,e3⟩|⟨b,rest,lo',k3,k4,k5,k6,k7⟩
 .rw[e2] at hcap;simp at hcap;omega
 subst k4;have hl':=hlo _ aZ;simp only at hl';subst hl';have ha:(ρ nm).a=some ⟨b,0,none⟩:=by rw[k3]
 have hn:(ρ nm).n=vs.length:=by rw[k3]
 rw[ha,hn] at hx';rw[h2] at hy' h6;have hin:=hBo _ aZ;obtain⟨l1,l2,e5⟩:=lK hin;have hperm:ov.Perm (⟨b,aG vs++rest,e,true⟩::(l1++l2)):=by rw[e5];exact nS
 have hall: ∀v∈vs++us,(aH v).length=s:=fun v hv=>by
  rcases bJ.1 hv with hv|hv
  .exact hvs v hv
  .exact h4 v hv
 have hcs:(aG vs++rest).length=(ρ nm).c*s:=by rw[aU];exact k6
 have hroom:vs.length+us.length<=(ρ nm).c:=by omega
 have hmul:(vs.length+us.length)*s<=(ρ nm).c*s:=bX _ hroom;rw[cN] at hmul;have hrest:us.length*s<=rest.length:=by rw[k5] at k6;omega
 have hovw:ck (aG vs++rest) (vs.length*s) (aG us)=aG (vs++us)++rest.drop (us.length*s):=by
  rw[n4 _ _ _ (by rw[hus,aU];omega),pg,<-k5];simp[hus,mX,fK]
 refine MJ (P:=prog) (own:=⟨b,aG vs++rest,e,true⟩::(l1++l2)) (m:=us.length) (ys:=aG us) hx' hy' (.hd ..) hcs (fun w hh=>h6 w (hh.perm hperm.symm)) hus h5 hroom hd (fun a' w' rl=>?_) a w Q ⟨r.h.perm hperm,r.sz,b9 a,r.df⟩;rw[hovw] at rl;have hnd':=(bN.1 rl.h.nd).1;refine hk.run _ _ _ a' w' (rd.new' (x:=⟨some ⟨b,0,none⟩,vs.length+us.length,(ρ nm).c⟩) (B':= .c e s (ds++ds2) cap) (os:=[⟨b,aG (vs++us)++rest.drop (us.length*s),e,true⟩]) (f:= .rw d) (y:= .slice (some ⟨b,0,none⟩) (vs.length+us.length) (ρ nm).c) hf' (bA.refl _) rl.h
  ⟨vs++us, .inr ⟨b,rest.drop (us.length*s),true,v8,J,d6 _ hall,?_,by simpa using hroom⟩,hv.app h3,hall,fun o ho=>by rw[aW.1 ho],by simpa using hcap⟩ (fun o ho=>by rw[aW.1 ho];exact aZ)
  (fun m B' hm e' o ho hmo=>?_) okV (iA rl))
 .rw[d6 _ hall,aU,gU,cN]
  simp only[if_true];rw[k5] at k6;omega
 .have hmn:m≠nm/\tb m=some B':=by
   simp only[Sx.upB] at e';split at e'
   .cases e'
   .exact⟨oma,e'⟩
  have hob:o.b≠b:=fun e6=>r.dj m nm B' _ hmn.2 (s2 _ _ hb) hmn.1 b (by rw[hmo,e6]) ha;refine⟨?_,fun e6=>by cases e6;exact hob J⟩;rcases aT.1 (hperm.mem_iff.1 ho) with rfl|ho
  .exact absurd J hob
  .exact aK _ ho
end
end Go.Sx
end
