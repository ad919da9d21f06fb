import Derived.Test.YtliglnbeohlnnaaGreatDoorMq6
set_option linter.all false
set_option maxRecDepth 100000
section
namespace Go.Sx
open Go Go.Proofs Tryz
variable {GB G G' A:Gh}{C:aF}{n q by_ cap:Nat}{Q0:Exit->Act->World->Prop}{fr fr' fr1 fr2:aC}{own' own1 own2:aO}{cf cf' cf1 cf2:Cf}{vc vc1 vc2:List Prop}{ops:Array Oper}{o:Oper}{K:List Kt}{r:List Oper}{nw:List Nat}{rv d' v v':DV}{i:Int}{k':IntKind}{x y fo:Operand}{ρ:NE}{Φ Ψ:Act->World->Prop}{c:Code}{lk tl:LK}{bk tb:BM}{ov:List aB}{a:Act}{w w':World}{P:Program}{args:Array Operand}{tys:Array TypeId}{dst:Option Nat}{ty0 t t' ty':TypeId}{pos:String}{af:Array Edge}{cs' dsi dso pre post:List DV}{csx cs1:List FX}{fb:Func}{m vs:List Value}{p:Prop}{B:Bk}{ι:Type}
section
variable {own:aO}
def c6(fr:aC)(cf:Cf):Option Oper:=match Ja cf with
 |some (ops,o)=>bif w7 ops (cd fr cf) o.guard then some o else none
 |none=>none
def IQ(h:c6 fr cf=some o): ∃ops,Ja cf=some (ops,o)/\w7 ops (cd fr cf) o.guard=true:=by
 unfold c6 at h;split at h<;>try (cases h;done)
 rename_i ops o' hh
 cases hg:w7 ops (cd fr cf) o'.guard with
 |false=>rw[hg] at h;cases h
 |true=>rw[hg] at h;cases h;exact⟨ops,hh,hg⟩
def us{f:FX}{bl:List (Nat×Option Bk)}(hh:c6 fr cf=some o)(h:b8 prog GB C n (cd fr cf) (jk fr own cf) o f bl nw)
  (hgo:cB tt n q fr own cf f bl nw=⟨vc,fr',own',cf'⟩)(hv:ak vc)(k:aA prog GB C n Q0 fr' own' cf'):aA prog GB C n Q0 fr own cf:=by
 obtain⟨ops,h1,h2⟩:=IQ hh;exact uo h1 h2 h hgo hv k
def yF(fr:aC)(cf:Cf):Option (FuncId×List DV):=match c6 fr cf with
 |some ⟨_, .call ⟨.value fo,args,_⟩,_,_,_,_⟩=>te (cd fr cf) fo args
 |_=>none
def cl[fu:Fu]{f:FuncId}{ds:List DV}(ha:yF fr cf=some (f,ds))(hF:PF GB prog f ds rv)(hgo:cB tt n fu.n fr own cf (.d rv) [] []=⟨vc,fr',own',cf'⟩)(k:aA prog GB C n Q0 fr' own' cf')
  (hv:autoParam (ak vc) fn._auto_1):aA prog GB C n Q0 fr own cf:=by
 unfold yF at ha;split at ha<;>try (cases ha;done)
 rename_i hh;exact us hh (MZ ha hF) hgo hv k
def QJ(fr:aC)(cf:Cf):Option (List DV×Int×Nat):=match c6 fr cf with
 |some ⟨_, .indexAddr t x y,_,_,_,_⟩=>match evD (cd fr cf) x with
  |some (.sl l)=>match bj (cd fr cf) y with
   |some (.d (.v (.int _ i)))=>match eo tt t with
    |some ⟨.sl _ s _,_,_,_⟩=>some (l,i,s)
    |_=>none
   |_=>none
  |_=>none
 |_=>none
def Nc(n q:Nat)(fr:aC)(own:aO)(cf:Cf)(d:DV)(s:Nat):yu:=bif d.okc&&Nat.beq d.cells.length s then mf d.cells fun cs=>cB tt n q fr own cf (.ep cs) [] [] else qo
def ix[fu:Fu](d:DV){l:List DV}{s:Nat}(h:QJ fr cf=some (l,i,s))(he:l[i.toNat]? =some d)(hgo:Nc n fu.n fr own cf d s=⟨vc,fr',own',cf'⟩)(k:aA prog GB C n Q0 fr' own' cf')(h0:0<=i:=by omega)
  (hv:autoParam (ak vc) fn._auto_1):aA prog GB C n Q0 fr own cf:=by
 unfold QJ at h;split at h<;>try (cases h;done)
 rename_i hh;split at h<;>try (cases h;done)
 rename_i hx;split at h<;>try (cases h;done)
 rename_i hy;split at h<;>cases h;rename_i hT;have:=lf (fi _ _ hT) J;unfold Nc at hgo
 cases hc:(d.okc&&Nat.beq d.cells.length s) with
 |false=>simp only[hc,cond_false,qo] at hgo;cases hgo;exact absurd hv (fun x=>x)
 |true=>
  simp only[hc,cond_true,ve] at hgo;exact us hh (YB hx hy h0 he hc) hgo hv k
structure LbA where
 ds:List DV
 k:Nat
 j:Nat
 ag:Option Nat
def PP(fr:aC)(own:aO)(cf:Cf):Option LbA:=match c6 fr cf with
 |some ⟨_, .load t x,_,_,_,_⟩=>match bj (cd fr cf) x with
  |some (.be nm sz k j)=>match jk fr own cf nm with
   |some (.b _ s ds _)=>bif Nat.beq s sz then(match eo tt t with
    |some i=>match i.ag with
     |some ag=>some ⟨ds,k,j,ag⟩
     |none=>none
    |none=>none) else none
   |_=>none
  |_=>none
 |_=>none
def NJ(n q:Nat)(fr:aC)(own:aO)(cf:Cf)(d:DV)(ag:Option Nat)(j:Nat):yu:=bif d.okc then(match As ag d.cells j with
 |some c=>cB tt n q fr own cf (.d c) [] []
 |none=>qo) else qo
def lb[fu:Fu](d:DV){ds:List DV}{k' j:Nat}{ag:Option Nat}(h:PP fr own cf=some ⟨ds,k',j,ag⟩)(he:ds[k']? =some d)(hgo:NJ n fu.n fr own cf d ag j=⟨vc,fr',own',cf'⟩)(k:aA prog GB C n Q0 fr' own' cf')
  (hv:autoParam (ak vc) fn._auto_1):aA prog GB C n Q0 fr own cf:=by
 unfold PP at h;split at h<;>try (cases h;done)
 rename_i hh;split at h<;>try (cases h;done)
 rename_i hx;split at h<;>try (cases h;done)
 rename_i ty s ds' lo hb;rw[cond_eq_ite] at h;split at h<;>try (cases h;done)
 rename_i hs
 cases aN hs
 split at h<;>try (cases h;done)
 rename_i hT;split at h<;>cases h;rename_i ha;unfold NJ at hgo
 cases hc:d.okc with
 |false=>simp only[hc,cond_false,qo] at hgo;cases hgo;exact absurd hv (fun x=>x)
 |true=>
  simp only[hc,cond_true] at hgo
  cases hl:As ag d.cells j with
  |none=>simp only[hl,qo] at hgo;cases hgo;exact absurd hv (fun x=>x)
  |some c=>simp only[hl] at hgo;exact us hh (aJD (fi _ _ hT) ha hx hb he hc hl) hgo hv k
structure SbA where
 nm:Nat
 ty:TypeId
 s:Nat
 ds:List DV
 lo:Bool
 k:Nat
 j:Nat
 ag:Option Nat
 u:DV
def Ot(fr:aC)(own:aO)(cf:Cf):Option SbA:=match c6 fr cf with
 |some ⟨_, .store t x y,_,_,_,_⟩=>match bj (cd fr cf) x with
  |some (.be nm sz k j)=>match jk fr own cf nm with
   |some (.b ty s ds lo)=>bif Nat.beq s sz then(match eo tt t with
    |some i=>match i.ag with
     |some ag=>match evD (cd fr cf) y with
      |some u=>some ⟨nm,ty,s,ds,lo,k,j,ag,u⟩
      |none=>none
     |none=>none
    |none=>none) else none
   |_=>none
  |_=>none
 |_=>none
def sb[fu:Fu](d:DV){nm:Nat}{ty:TypeId}{s:Nat}{ds:List DV}{lo:Bool}{k' j:Nat}{ag:Option Nat}{u:DV}(ds':List DV)(h:Ot fr own cf=some ⟨nm,ty,s,ds,lo,k',j,ag,u⟩)(he:ds[k']? =some d)(hl:DN ag d j u=some d')(hds:ds.set k' d'=ds')
  (hgo:cB tt n fu.n fr own cf .un [(nm,some (.b ty s ds' lo))] []=⟨vc,fr',own',cf'⟩)(k:aA prog GB C n Q0 fr' own' cf')
  (hv:autoParam (ak vc) fn._auto_1):aA prog GB C n Q0 fr own cf:=by
 unfold Ot at h;split at h<;>try (cases h;done)
 rename_i hh;split at h<;>try (cases h;done)
 rename_i hx;split at h<;>try (cases h;done)
 rename_i hb;rw[cond_eq_ite] at h;split at h<;>try (cases h;done)
 rename_i hs
 cases aN hs
 split at h<;>try (cases h;done)
 rename_i hT;split at h<;>try (cases h;done)
 rename_i ha;split at h<;>cases h;rename_i hy;exact us hh (aHJ (fi _ _ hT) ha hx hb hy he hl hds) hgo hv k
structure Xb where
 d:Nat
 e:Nat
 s:Nat
 b:Nat
 z:DV
 l:Int
def E1(fr:aC)(cf:Cf):Option Xb:=match c6 fr cf with
 |some ⟨some d, .makeSlice t x y,_,_,_,_⟩=>match bj (cd fr cf) x with
  |some (.d (.v (.int _ l)))=>match eo tt t with
   |some ⟨.sl e s b,_,_,_⟩=>match eo tt e with
    |some i=>match oD i with
     |some z=>bif Nat.beq z.cells.length s then some ⟨d,e,s,b,z,l⟩ else none
     |none=>none
    |none=>none
   |_=>none
  |_=>none
 |_=>none
def mk[fu:Fu]{d e s b:Nat}{z:DV}{l:Int}(ds:List DV)(h:E1 fr cf=some ⟨d,e,s,b,z,l⟩)(hy:(match c6 fr cf with|some ⟨_, .makeSlice _ _ y,_,_,_,_⟩=>bj (cd fr cf) y|_=>none)=some (.d (.v (.int k' l))))(hds:List.replicate l.toNat z=ds)
  (hgo:cB tt n fu.n fr own cf (.rw d) [(d,some (.b e s ds true))] [d]=⟨vc,fr',own',cf'⟩)(k:aA prog GB C n Q0 fr' own' cf')(h0:0<=l:=by omega)(hb:b*l<=140737488355328:=by omega)(hl:l<=1152921504606846976:=by omega)
  (hv:autoParam (ak vc) fn._auto_1):aA prog GB C n Q0 fr own cf:=by
 unfold E1 at h;split at h<;>try (cases h;done)
 rename_i hh;split at h<;>try (cases h;done)
 rename_i hx;split at h<;>try (cases h;done)
 rename_i hT;split at h<;>try (cases h;done)
 rename_i hi;split at h<;>try (cases h;done)
 rename_i hz;rw[cond_eq_ite] at h;split at h<;>cases h;rename_i hs;rw[hh] at hy;have:=lf (fi _ _ hT) J;exact us hh (aF4 (fi _ _ hi) hz hs hx hy h0 hb hl hds) hgo hv k
structure MT where
 d:Nat
 e:Nat
 s:Nat
 ds:List DV
def Ck(fr:aC)(cf:Cf):Option MT:=match c6 fr cf with
 |some ⟨some d, .buildSlice t len parts,_,_,_,_⟩=>match eo tt t with
  |some ⟨.sl e s _,_,_,_⟩=>match eo tt e with
   |some i=>match oD i with
    |some z=>match xK (cd fr cf) 0 parts.toList with
     |some ds=>bif Nat.beq z.cells.length s&&(Et s ds&&(Nat.beq parts.toList.length len&&(Nat.ble (len*s) 1000&&Nat.blt 0 (len*s)))) then some ⟨d,e,s,ds⟩ else none
     |none=>none
    |none=>none
   |none=>none
  |_=>none
 |_=>none
def Po{d e s:Nat}{ds:List DV}(h:Ck fr cf=some ⟨d,e,s,ds⟩): ∃o,c6 fr cf=some o/\o.dst=some d/\b8 prog GB C n (cd fr cf) (jk fr own cf) o (.rw d) [(d,some (.b e s ds true))] [d]:=by
 unfold Ck at h;split at h<;>try (cases h;done)
 rename_i hh;split at h<;>try (cases h;done)
 rename_i hT;split at h<;>try (cases h;done)
 rename_i hi;split at h<;>try (cases h;done)
 rename_i hz;split at h<;>try (cases h;done)
 rename_i hr;rw[cond_eq_ite] at h;split at h<;>cases h;rename_i hc;simp only[bW] at hc;have:=lf (fi _ _ hT) J;exact⟨_,hh,J,SW (fi _ _ hi) hz hc.1 hr hc.2.1 hc.2.2.1 hc.2.2.2.1 hc.2.2.2.2⟩
def ro[fu:Fu]{d e s:Nat}{ds:List DV}(h:Ck fr cf=some ⟨d,e,s,ds⟩)(hgo:cB tt n fu.n fr own cf (.rw d) [(d,some (.b e s ds true))] [d]=⟨vc,fr',own',cf'⟩)(k:aA prog GB C n Q0 fr' own' cf')
  (hv:autoParam (ak vc) fn._auto_1):aA prog GB C n Q0 fr own cf:=by
 obtain⟨o,h1,_,h3⟩:=Po (GB:=GB) (C:=C) (n:=n) (own:=own) h;exact us h1 h3 hgo hv k
def rf[fu:Fu]{d e s:Nat}{ds:List DV}(h:Ck fr cf=some ⟨d,e,s,ds⟩)(hgo:cB tt n fu.n fr own cf (.d (.sl ds)) [(d,none)] [d]=⟨vc,fr',own',cf'⟩)(k:aA prog GB C n Q0 fr' own' cf')
  (hv:autoParam (ak vc) fn._auto_1):aA prog GB C n Q0 fr own cf:=by
 obtain⟨o,h1,h2,h3⟩:=Po (GB:=GB) (C:=C) (n:=n) (own:=own) h;exact us h1 (h3.frzRow h2) hgo hv k
def Ru(fr:aC)(cf:Cf):Option (Nat×Nat×Nat):=match c6 fr cf with
 |some ⟨some d, .buildSlice t 0 ⟨[]⟩,_,_,_,_⟩=>match eo tt t with
  |some ⟨.sl e s _,_,_,_⟩=>some (d,e,s)
  |_=>none
 |_=>none
def sO[fu:Fu]{d e s:Nat}(h:Ru fr cf=some (d,e,s))(hgo:cB tt n fu.n fr own cf (.rw d) [(d,some (.b e s [] true))] [d]=⟨vc,fr',own',cf'⟩)(k:aA prog GB C n Q0 fr' own' cf')
  (hv:autoParam (ak vc) fn._auto_1):aA prog GB C n Q0 fr own cf:=by
 unfold Ru at h;split at h<;>try (cases h;done)
 rename_i hh;split at h<;>cases h;rename_i hT;have:=lf (fi _ _ hT) J;exact us hh aGT hgo hv k
structure YP where
 d:Nat
 nm:Option Nat
 e:Nat
 s:Nat
 b:Nat
 ds:List DV
 ds2:List DV
def DX(fr:aC)(own:aO)(cf:Cf):Option YP:=match c6 fr cf with
 |some ⟨some d, .call ⟨.builtin .append,⟨[x,y]⟩,⟨[t,t']⟩⟩,_,_,_,_⟩=>match eo tt t with
  |some ⟨.sl e s b,_,_,_⟩=>match eo tt t' with
   |some ⟨.sl _ _ _,_,_,_⟩=>match eo tt e with
    |some i=>match oD i with
     |some z=>bif Nat.beq z.cells.length s&&Nat.blt 0 b then(match rB (cd fr cf) (jk fr own cf) s y with
      |some ds2=>match bj (cd fr cf) x with
       |some (.rw nm)=>match jk fr own cf nm with
        |some (.b e' s' ds true)=>bif (Nat.beq e' e&&Nat.beq s' s)&&!Nat.beq nm d then some ⟨d,some nm,e,s,b,ds,ds2⟩ else none
        |_=>none
       |some (.ct ds)=>some ⟨d,none,e,s,b,ds,ds2⟩
       |some .nl=>some ⟨d,none,e,s,b,[],ds2⟩
       |_=>none
      |none=>none) else none
     |none=>none
    |none=>none
   |_=>none
  |_=>none
 |_=>none
def NB(d:Nat)(nm:Option Nat)(B:Bk):List (Nat×Option Bk):=match nm with
 |some nm=>[(nm,none),(d,some B)]
 |none=>[(d,some B)]
def TY{d:Nat}{nm:Option Nat}{e s b:Nat}{ds ds2:List DV}(h:DX fr own cf=some ⟨d,nm,e,s,b,ds,ds2⟩)(ds':List DV)(hds:ds++ds2=ds')(ho:nm.isNone=true->cI s ds/\0<ds2.length)(ho2:cI s ds2)(hbd:(ds.length+ds2.length)*b<=140737488355328):
  ∃o,c6 fr cf=some o/\o.dst=some d/\b8 prog GB C n (cd fr cf) (jk fr own cf) o (.rw d) (NB d nm (.b e s ds' true)) [d]:=by
 unfold DX at h;split at h<;>try (cases h;done)
 rename_i hh;split at h<;>try (cases h;done)
 rename_i hT;split at h<;>try (cases h;done)
 rename_i hT';split at h<;>try (cases h;done)
 rename_i hi;split at h<;>try (cases h;done)
 rename_i hz;rw[cond_eq_ite] at h;split at h<;>try (cases h;done)
 rename_i hc;simp only[bW] at hc;split at h<;>try (cases h;done)
 rename_i hy;have:=lf (fi _ _ hT) J;have hN:j0 prog _:=⟨_,(lf (fi _ _ hT') J).un⟩;refine⟨_,hh,?_⟩;split at h<;>try (cases h;done)
 .rename_i hx
  split at h<;>try (cases h;done)
  rename_i hb;rw[cond_eq_ite] at h;split at h<;>cases h;rename_i hq;simp only[bW,iT] at hq
  cases aN hq.1.1
  cases aN hq.1.2
  exact⟨J,aFC (fi _ _ hi) hz hc.1 hx hb hy ho2 hc.2 hbd hq.2 hds⟩
 .rename_i hx
  cases h
  obtain⟨h1,h2⟩:=ho rfl;exact⟨J,R4 (fi _ _ hi) hz hc.1 (.inl hx) h1 hy ho2 h2 hc.2 hbd hds⟩
 .rename_i hx
  cases h
  obtain⟨h1,h2⟩:=ho rfl;exact⟨J,R4 (fi _ _ hi) hz hc.1 (.inr ⟨hx,J⟩) h1 hy ho2 h2 hc.2 hbd hds⟩
def ap[fu:Fu]{d:Nat}{nm:Option Nat}{e s b:Nat}{ds ds2:List DV}(ds':List DV)(h:DX fr own cf=some ⟨d,nm,e,s,b,ds,ds2⟩)(hds:ds++ds2=ds')(ho2:cI s ds2)(hgo:cB tt n fu.n fr own cf (.rw d) (NB d nm (.b e s ds' true)) [d]=⟨vc,fr',own',cf'⟩)(k:aA prog GB C n Q0 fr' own' cf')
  (ho:nm.isNone=true->cI s ds/\0<ds2.length:=by intro h;first|(cases h;done)|exact⟨CJ rfl,omc⟩)(hbd:(ds.length+ds2.length)*b<=140737488355328:=by simp;omega)
  (hv:autoParam (ak vc) fn._auto_1):aA prog GB C n Q0 fr own cf:=by
 obtain⟨o,h1,_,h3⟩:=TY (GB:=GB) (C:=C) (n:=n) h ds' hds ho ho2 hbd;exact us h1 h3 hgo hv k
def U0(fr:aC)(cf:Cf):Option (List DV×Int×Int×Nat×Bool):=match c6 fr cf with
 |some ⟨_, .slice t x lo hi mx,_,_,_,_⟩=>match evD (cd fr cf) x with
  |some (.sl l)=>match eo tt t with
   |some ⟨.sl _ s _,_,_,_⟩=>match nk (cd fr cf) 0 lo,nk (cd fr cf) l.length hi with
    |some i,some j=>match mx with
     |none=>some (l,i,j,s,false)
     |some _=>none
    |_,_=>none
   |_=>none
  |_=>none
 |_=>none
def je[fu:Fu]{l:List DV}{j:Int}{s:Nat}(nlo nhi:Nat)(ls:List DV)(h:U0 fr cf=some (l,i,j,s,false))(ei:i=nlo)(ej:j=nhi)(hls:(l.take nhi).drop nlo=ls)(ho:cI s l)(h1:nlo<=nhi)(h2:nhi<=l.length)
  (hgo:cB tt n fu.n fr own cf (.d (.sl ls)) [] []=⟨vc,fr',own',cf'⟩)(k:aA prog GB C n Q0 fr' own' cf')
  (hv:autoParam (ak vc) fn._auto_1):aA prog GB C n Q0 fr own cf:=by
 unfold U0 at h;split at h<;>try (cases h;done)
 rename_i hh;split at h<;>try (cases h;done)
 rename_i hx;split at h<;>try (cases h;done)
 rename_i hT;split at h<;>try (cases h;done)
 rename_i hi hj;split at h<;>cases h;have:=lf (fi _ _ hT) J;subst ei ej hls;exact us hh (Xj hx ho hi hj h1 h2) hgo hv k
def TQ(fr:aC)(cf:Cf):Option (List DV×Int×Int×Nat):=match c6 fr cf with
 |some ⟨_, .slice t x none (some hi) (some mx),_,_,_,_⟩=>match evD (cd fr cf) x with
  |some (.sl l)=>match eo tt t with
   |some ⟨.sl _ s _,_,_,_⟩=>match nk (cd fr cf) 0 (some hi),nk (cd fr cf) 0 (some mx) with
    |some i,some j=>some (l,i,j,s)
    |_,_=>none
   |_=>none
  |_=>none
 |_=>none
def s3[fu:Fu]{l:List DV}{j:Int}{s:Nat}(nhi:Nat)(ls:List DV)(h:TQ fr cf=some (l,i,j,s))(ei:i=nhi)(ej:j=nhi)(hls:l.take nhi=ls)(ho:cI s l)(h2:nhi<=l.length)
  (hgo:cB tt n fu.n fr own cf (.ct ls) [] []=⟨vc,fr',own',cf'⟩)(k:aA prog GB C n Q0 fr' own' cf')
  (hv:autoParam (ak vc) fn._auto_1):aA prog GB C n Q0 fr own cf:=by
 unfold TQ at h;split at h<;>try (cases h;done)
 rename_i hh;split at h<;>try (cases h;done)
 rename_i hx;split at h<;>try (cases h;done)
 rename_i hT;split at h<;>cases h;rename_i hi hj;have:=lf (fi _ _ hT) J;subst ei ej hls;exact us hh (Vg hx ho hi hj h2) hgo hv k
def LE(fr:aC)(cf:Cf):Option (Nat×List DV):=match c6 fr cf with
 |some ⟨some d, .box _ x,_,_,_,_⟩=>match bj (cd fr cf) x with
  |some f=>bif f.okc&&yQ f d then(match jx f.cells with
   |some l=>some (d,l)
   |none=>none) else none
  |none=>none
 |_=>none
end
section
variable {own:aO}
def tF(x y:Nat):FX->FX
 | .rw m=>bif Nat.beq m x then .rw y else bif Nat.beq m y then .no else .rw m
 | .ov m o=>bif Nat.beq m x then .ov y o else bif Nat.beq m y then .no else .ov m o
 | .be m s i j=>bif Nat.beq m x then .be y s i j else bif Nat.beq m y then .no else .be m s i j
 | .rs m s i j=>bif Nat.beq m x then .rs y s i j else bif Nat.beq m y then .no else .rs m s i j
 | .bx tp pre m post=>bif Nat.beq m x then .bx tp pre y post else bif Nat.beq m y then .no else .bx tp pre m post
 |f=>f
def sF(x y:Nat):Option Bk->Option Bk
 |some (.o ty cs lo)=>some (.o ty (cs.map (tF x y)) lo)
 |B=>B
def Ex{α:Type}(g:FX->FX):List FX->(List FX->α)->α
 |[],k=>k []
 |f::t,k=>Ex g t fun t'=>Bn (g f) fun f'=>k (f'::t')
def N5{α:Type}{g:FX->FX}: ∀{cs:List FX} {k:List FX->α},Ex g cs k=k (cs.map g)
 |[],k=>rfl
 |f::t,k=>by simp only[Ex,Fv];rw[N5];rfl
def EK{α:Type}(g:FX->FX):aC->(aC->α)->α
 |[],k=>k []
 |(j,f)::t,k=>EK g t fun t'=>Bn (g f) fun f'=>k ((j,f')::t')
def I4{α:Type}{g:FX->FX}: ∀{fr:aC} {k:aC->α},EK g fr k=k (fr.map fun e=>(e.1,g e.2))
 |[],k=>rfl
 |(j,f)::t,k=>by simp only[EK,Fv];rw[I4];rfl
def ER{α:Type}(x y:Nat):aO->(aO->α)->α
 |[],k=>k []
 |(j,B)::t,k=>ER x y t fun t'=>bif Nat.beq j y then k ((x,none)::t') else match B with
  |some (.o ty cs lo)=>Ex (tF x y) cs fun cs'=>bif Nat.beq j x then k ((y,some (.o ty cs' lo))::t') else k ((j,some (.o ty cs' lo))::t')
  |B=>bif Nat.beq j x then k ((y,B)::t') else k ((j,B)::t')
def GY{α:Type}{x y:Nat}: ∀{own:aO} {k:aO->α},ER x y own k=k (own.map fun e=>(bif Nat.beq e.1 y then x else bif Nat.beq e.1 x then y else e.1,bif Nat.beq e.1 y then none else sF x y e.2))
 |[],k=>rfl
 |(j,B)::t,k=>by
  simp only[ER,GY (own:=t),bV]
  cases Nat.beq j y with
  |true=>rfl
  |false=>
   cases B with
   |none=>cases Nat.beq j x<;>rfl
   |some B=>cases B<;>cases Nat.beq j x<;>simp only[cond_false,cond_true,N5,sF]
def IG{x y:Nat}(hxy:x≠y): ∀{own:aO} {k:Nat},bu (own.map fun e=>(bif Nat.beq e.1 y then x else bif Nat.beq e.1 x then y else e.1,bif Nat.beq e.1 y then none else sF x y e.2)) k=if k=x then none else if k=y then sF x y (bu own x) else sF x y (bu own k)
 |[],k=>by simp[bu,sF]
 |(j,B)::t,k=>by
  have bq: ∀a b:Nat,Nat.beq a b=decide (a=b):=fun a b=>by
   by_cases h:a=b
   .subst h;simp
   .rw[decide_eq_false h]
    cases hb:Nat.beq a b with
    |false=>rfl
    |true=>exact absurd (aN hb) h
  simp only[bV];rw[jg,IG hxy (own:=t),jg,jg];by_cases h1:j=y
  .subst h1
   simp only[bq,decide_true,cond_true];by_cases h2:k=x
   .simp[h2]
   .by_cases h3:k=j
    .subst h3;simp[h2,Ne.symm h2,hxy]
    .simp[h2,h3]
  .by_cases h4:j=x
   .subst h4
    simp only[bq,h1,decide_false,cond_false,decide_true,cond_true];by_cases h2:k=y
    .subst h2;simp[Ne.symm h1]
    .by_cases h3:k=j
     .subst h3;simp[h1]
     .simp[h2,h3]
   .simp only[bq,h1,h4,decide_false,cond_false]
    by_cases h2:k=j
    .subst h2;simp[h1,h4]
    .by_cases h3:k=x
     .subst h3;simp[h2]
     .by_cases h5:k=y
      .subst h5;simp[h2,h3,Ne.symm h4]
      .simp[h2,h3,h5]
def GN{x y:Nat}(hxy:x≠y){f:FX}{v:Value}(h:b9 ρ G f v):b9 (fun k=>if k=y then ρ x else ρ k) G (tF x y f) v:=by
 have key: ∀m:Nat,Nat.beq m y=false->(fun k=>if k=y then ρ x else ρ k) m=ρ m:=fun m hm=>if_neg fun e=>by subst e;simp at hm
 cases f with
 |rw m=>
  simp only[tF]
  cases hb:Nat.beq m x with
  |true=>cases aN hb;simp only[cond_true];show v=_;simp;exact h
  |false=>
   cases hb':Nat.beq m y with
   |true=>trivial
   |false=>simp only[cond_false];show v=_;rw[key m hb'];exact h
 |ov m off=>
  simp only[tF]
  cases hb:Nat.beq m x with
  |true=>cases aN hb;simp only[cond_true];obtain⟨b,h1,h2⟩:=h;exact⟨b,by simp;exact h1,h2⟩
  |false=>
   cases hb':Nat.beq m y with
   |true=>trivial
   |false=>simp only[cond_false];obtain⟨b,h1,h2⟩:=h;exact⟨b,by rw[key m hb'];exact h1,h2⟩
 |be m s i j=>
  simp only[tF]
  cases hb:Nat.beq m x with
  |true=>cases aN hb;simp only[cond_true];obtain⟨b,h1,h2⟩:=h;exact⟨b,by simp;exact h1,h2⟩
  |false=>
   cases hb':Nat.beq m y with
   |true=>trivial
   |false=>simp only[cond_false];obtain⟨b,h1,h2⟩:=h;exact⟨b,by rw[key m hb'];exact h1,h2⟩
 |rs m s i j=>
  simp only[tF]
  cases hb:Nat.beq m x with
  |true=>cases aN hb;simp only[cond_true];obtain⟨b,c,h1,h2⟩:=h;exact⟨b,c,by simp;exact h1,h2⟩
  |false=>
   cases hb':Nat.beq m y with
   |true=>trivial
   |false=>simp only[cond_false];obtain⟨b,c,h1,h2⟩:=h;exact⟨b,c,by rw[key m hb'];exact h1,h2⟩
 |bx tp pre m post=>
  simp only[tF]
  cases hb:Nat.beq m x with
  |true=>cases aN hb;simp only[cond_true];obtain⟨m1,m2,e,h1,h2⟩:=h;exact⟨m1,m2,by simpa using e,h1,h2⟩
  |false=>
   cases hb':Nat.beq m y with
   |true=>trivial
   |false=>simp only[cond_false];obtain⟨m1,m2,e,h1,h2⟩:=h;exact⟨m1,m2,by rw[key m hb'];exact e,h1,h2⟩
 |_=>exact h
def H5{x y:Nat}(hxy:x≠y){ρ:NE}{G:Gh}: ∀{cs:List FX} {m:List Value},du ρ G cs m->du (fun k=>if k=y then ρ x else ρ k) G (cs.map (tF x y)) m
 |[],m,h=>h
 |f::t,m,⟨v,q,e,h1,h2⟩=>⟨v,q,e,GN hxy h1,H5 hxy h2⟩
def zo(x y:Nat)(fr:aC)(own:aO):Option Bh:=bif Nat.beq x y then none else EK (tF x y) fr fun fr'=>ER x y own fun own'=>some ⟨fr',own'⟩
def aIW{x y:Nat}{R:Bh}(hy:Nat.blt y 2000000=true)(h:zo x y fr own=some R)(hk:SX GB C n (bi R.fr) (bu R.own) Φ):SX GB C n (bi fr) (bu own) Φ:=by
 unfold zo at h;rw[cond_eq_ite] at h;split at h<;>try (cases h;done)
 rename_i hb;have hxy:x≠y:=fun e=>hb (by subst e;simp);rw[I4,GY] at h;cases h;refine⟨fun ρ G ov a w r=>hk.run (fun k=>if k=y then ρ x else ρ k) G ov a w ?_⟩;have inv: ∀m B,bu (own.map fun e=>(bif Nat.beq e.1 y then x else bif Nat.beq e.1 x then y else e.1,bif Nat.beq e.1 y then none else sF x y e.2)) m=some B-> ∃m0 B0,bu own m0=some B0/\sF x y (some B0)=some B/\(m=y/\m0=x\/m≠y/\m≠x/\m0=m):=fun m B e=>by
  rw[IG hxy] at e;split at e
  .cases e
  .rename_i hm
   split at e
   .cases hl:bu own x with
    |none=>rw[hl] at e;cases e
    |some B0=>rw[hl] at e;exact⟨x,B0,hl,e, .inl ⟨ome,J⟩⟩
   .cases hl:bu own m with
    |none=>rw[hl] at e;cases e
    |some B0=>rw[hl] at e;exact⟨m,B0,hl,e, .inr ⟨ome,hm,J⟩⟩
 have rho: ∀m m0,(m=y/\m0=x\/m≠y/\m≠x/\m0=m)->(fun k=>if k=y then ρ x else ρ k) m=ρ m0:=fun m m0 h=>by
  rcases h with⟨h1,h2⟩|⟨h1,_,h2⟩
  .subst h1 h2;simp
  .subst h2;exact if_neg h1
 refine⟨r.gb,r.h,r.sz,r.df,fun k f e=>?_,fun m B e=>?_,fun m m' B B' e e' hne=>?_,fun m p h1 h2 e=>by
  have:y<2000000:=by simpa[lU] using hy
  show(if m=y then ρ x else ρ m).a=_;rw[if_neg we];exact r.fxd m p h1 h2 e⟩
 .rw[FF] at e
  cases hf:bi fr k with
  |none=>rw[hf] at e;cases e
  |some g=>
   rw[hf] at e;cases e;obtain⟨v,h1,h2⟩:=r.fx k g hf;exact⟨v,h1,GN hxy h2⟩
 .obtain⟨m0,B0,h1,h2,h3⟩:=inv m B e
  obtain⟨os,h4,h5⟩:=r.bx m0 B0 h1;refine⟨os,?_,h5⟩;have hr:=rho m m0 h3
  cases B0 with
  |b=>cases h2;obtain⟨vs,q1,q2,q3,q4⟩:=h4;exact⟨vs,by rw[hr];exact q1,q2,q3,q4⟩
  |c=>cases h2;obtain⟨vs,q1,q2,q3,q4,q5⟩:=h4;exact⟨vs,by rw[hr];exact q1,q2,q3,q4,by rw[hr];exact q5⟩
  |p=>cases h2;obtain⟨q0,vs,q1,q2,q3,q4⟩:=h4;exact⟨by rw[hr];exact q0,vs,q1,q2,q3,q4⟩
  |o ty cs lo=>cases h2;obtain⟨b,q,q1,q2,q3⟩:=h4;exact⟨b,q,by rw[hr];exact q1,q2,H5 hxy q3⟩
 .obtain⟨m0,B0,h1,_,h3⟩:=inv m B e
  obtain⟨m1,B1,h4,_,h6⟩:=inv m' B' e';have q1:=rho m m0 h3;have q2:=rho m' m1 h6;simp only at q1 q2;rw[q1,q2];refine r.dj m0 m1 B0 B1 h1 h4 fun e=>?_;rcases h3 with⟨h7,h8⟩|⟨h7,h8,h9⟩<;>rcases h6 with⟨g7,g8⟩|⟨g7,g8,g9⟩
  .exact hne (h7.trans g7.symm)
  .exact g8 (by rw[<-g9,<-e,h8])
  .exact h8 (by rw[<-h9,e,g8])
  .exact hne (by rw[<-h9,e,g9])
def d8(x y:Nat){e:Exit}(h:zo x y fr own=some ⟨fr1,own1⟩)(k:aA prog GB C n Q0 fr1 own1 (.ex e K))(hy:Nat.blt y 2000000=true:=by rfl):aA prog GB C n Q0 fr own (.ex e K):=aIW hy h k
def aAh{d nm:Nat}(hnm:Nat.blt nm 2000000=true)(hl:bi fr d=some .nl){ty s:Nat}(hf:kE [nm] none (bi fr) (bu own))(h:SX GB C n (bi ((d, .rw nm)::fr)) (bu (oP own nm (some (.b ty s [] true)))) Φ):SX GB C n (bi fr) (bu own) Φ:=by
 refine⟨fun ρ G ov a w r=>?_⟩;obtain⟨f1,f2⟩:=hf nm aZ;have hset:bu (oP own nm (some (.b ty s [] true)))=upB (bu own) [(nm,some (.b ty s [] true))]:=by funext j;rw[Cc];rfl
 rw[hset] at h;refine h.run (fun k=>if k=nm then⟨none,0,0⟩ else ρ k) G ov a w ⟨r.gb,r.h,r.sz,r.df,fun k f e=>?_,fun m B e=>?_,fun m m' B B' e e' hne=>?_,fun m p h1 h2 e=>by
  have:nm<2000000:=by simpa[lU] using hnm
  show(if m=nm then(⟨none,0,0⟩:SV) else ρ m).a=_;rw[if_neg we];exact r.fxd m p h1 h2 e⟩
 .rw[kr] at e
  split at e
  .cases e;rename_i hk;subst hk
   obtain⟨v,h1,h2⟩:=r.fx _ _ hl;exact⟨v,h1,by rw[show v=_ from h2];show _=_;simp⟩
  .obtain⟨v,h1,h2⟩:=r.fx k f e
   exact⟨v,h1,h2.ren fun m hm=>vH _ fun hc=>f1 k f omc e (by rw[hm,hc])⟩
 .simp only[upB] at e
  by_cases hm:m=nm
  .subst hm;simp only[if_true] at e;cases e
   exact⟨[],⟨[],by simp only[if_true];exact .inl ⟨J,J,J⟩, .nil,omc,fun _ o ho=>by cases ho⟩,fun o ho=>by cases ho⟩
  .simp only[hm,if_false] at e
   obtain⟨os,h1,h2⟩:=r.bx m B e;exact⟨os,h1.ren (if_neg hm) fun q hq=>vH _ fun hc=>f2 m B hm e ozh,h2⟩
 .simp only[upB] at e e'
  intro b hb hb';by_cases hm:m=nm
  .simp[hm] at hb
  .by_cases hm':m'=nm
   .simp[hm'] at hb'
   .simp only[hm,hm',if_false] at e e' hb hb'
    exact r.dj m m' B B' e e' hne b hb hb'
def nr(d nm ty s:Nat)(hl:bi fr d=some .nl)(hf:uw [nm] none fr own=true)(ho:xw own nm (some (.b ty s [] true)) id=own1)(k:aA prog GB C n Q0 ((d, .rw nm)::fr) own1 (.code c K))(hnm:Nat.blt nm 2000000=true:=by rfl):aA prog GB C n Q0 fr own (.code c K):=by
 subst ho;exact aAh hnm hl (AF hf) k
def kw:List (Option DV)->Nat->List DV
 |[],_=>[]
 |some d::t,b=>d::kw t b
 |none::t,b=> .v (.pointer (some ⟨b,0,none⟩))::kw t b
def Cw(lk:LK):List Operand->Option (Option Nat×List (Option DV))
 |[]=>some (none,[])
 |x::t=>match bj lk x,Cw lk t with
  |some (.ov nm 0),some (none,l)=>some (some nm,none::l)
  |some f,some (q,l)=>match ke f with
   |some d=>some (q,some d::l)
   |none=>none
  |_,_=>none
def GH(lk:LK)(fo:Operand)(args:Array Operand):Option (FuncId×Nat×List (Option DV)):=match bj lk fo with
 |some (.d (.v (.func (.func f) ⟨[]⟩ ⟨[]⟩)))=>match Cw lk args.toList with
  |some (some nm,l)=>some (f,nm,l)
  |_=>none
 |_=>none
def Lz{lk:LK}{bk:BM}{ρ:NE}{G:Gh}{ov:List aB}{a:Act}{w:World}(r:bP GB C n lk bk ρ G ov a w){b:Nat}: ∀{x:List Operand} {q:Option Nat} {l:List (Option DV)},Cw lk x=some (q,l)->(∀nm,q=some nm->(ρ nm).a=some ⟨b,0,none⟩)->
  ∃y,fG (cp a) x=some y/\IsLs G (kw l b) y
 |[],q,l,e,_=>by cases e;exact⟨[],J, .nil⟩
 |x::t,q,l,e,hb=>by
  simp only[Cw] at e;split at e
  .rename_i nm l' h1 h2
   cases e
   obtain⟨y,h3,b',h4,rfl⟩:=r.ev h1;have:=hb nm J;rw[h4] at this;cases this;obtain⟨ys,h5,h6⟩:=Lz r (b:=b) h2 (fun nm e=>by cases e);exact⟨_::ys,by simp only[fG,h3,h5], .cons ((aI (G:=G)).2 J) h6⟩
  .rename_i f q' l' _ h1 h2
   cases hd:ke f with
   |none=>rw[hd] at e;cases e
   |some d=>
   rw[hd] at e;cases e;obtain⟨y,h3,h4⟩:=r.ev h1;obtain⟨ys,h5,h6⟩:=Lz r (b:=b) h2 hb;exact⟨y::ys,by simp only[fG,h3,h5], .cons (nq h4 hd) h6⟩
  .cases e
def bP.lend{nm:Nat}{ty:TypeId}{cs:List FX}{lo:Bool}{csd:List DV}(r:bP GB C n lk bk ρ G ov a w)(hb:bk nm=some (.o ty cs lo))(hc:jx cs=some csd):
  ∃b m rest,(ρ nm).a=some ⟨b,0,none⟩/\IsLs G csd m/\ov.Perm ([⟨b,m,ty,lo⟩]++rest)/\ ∀o∈ov,o.b≠b->o∈rest:=by
 obtain⟨os,⟨b,m,h1,rfl,h2⟩,h3⟩:=r.bx _ _ hb;obtain⟨l1,l2,rfl⟩:=mN (h3 _ aZ);refine⟨b,m,l1++l2,h1,tv h2 hc,pQ,fun o ho hne=>?_⟩;rcases bX.1 ho with ho|ho
 .exact bM _ ho
 .rcases aW.1 ho with rfl|ho
  .exact absurd J hne
  .exact bU _ ho
def YS{f:FuncId}{nm:Nat}{l:List (Option DV)}{ty:TypeId}{gd:Option (Nat×Bool)}{cs:List FX}{csd:List DV}{lo:Bool}
  (ha:GH lk fo args=some (f,nm,l))(hb:bk nm=some (.o ty0 cs lo))(hc:jx cs=some csd)(hF: ∀b,PM GB P f (kw l b) b ty0 csd rv cs')(hx:cs'.map .d=csx):b8 P GB C n lk bk ⟨dst, .call ⟨.value fo,args,tys⟩,ty,pos,af,gd⟩ (.d rv) [(nm,some (.o ty0 csx lo))] []:=by
 intro hd tl tb K' s1 s2 hf hk;refine⟨fun ρ G ov a w r Q=>?_⟩;subst hx;have r1:=r.mono s1 s2;unfold GH at ha;split at ha<;>try (cases ha;done)
 rename_i h1;split at ha<;>cases ha;rename_i h2;obtain⟨y,hy,hy'⟩:=r1.ev h1;rw[(aI (G:=G)).1 hy'] at hy;obtain⟨b,m,rest,h3,h4,h5,h6⟩:=r1.lend hb hc;obtain⟨vs,h7,h8⟩:=Lz r1 (b:=b) h2 (fun nm e=>by cases e;exact h3);refine xJ (M:=[⟨b,m,ty0,lo⟩]) (rest:=rest) hy h7 h5 (hF b G vs m lo r.gb h8 h4) hd (fun v css G' hG hl hK a' w' rl=>?_) a w Q ⟨r.h,r.sz,cC a,r.df⟩;obtain⟨hr,m',rfl,hm'⟩:=hK;have rl':gA C n (Sx.put (cp a) dst v) (⟨b,m',ty0,lo⟩::rest) G' a' w':=rl;have r2:=r.upB (G':=G') (ov':=⟨b,m',ty0,lo⟩::rest) (w':=w') (B':= .o ty0 (cs'.map .d) lo) (os:=[⟨b,m',ty0,lo⟩]) hG.le rl'.h ⟨b,m',h3,J,vy hm'⟩ (fun o ho=>by rw[aR.1 ho];exact aZ)
  (fun o ho hne=>aJ _ (h6 o ho fun e=>hne (by rw[h3,e]))) ⟨_,s2 _ _ hb⟩
 exact hk.run ρ G' _ a' w' (r2.put (f:= .d rv) hr (jp rl'))
structure CmA where
 f:FuncId
 nm:Nat
 l:List (Option DV)
 ty:TypeId
 cs:List DV
 lo:Bool
def TA(fr:aC)(own:aO)(cf:Cf):Option CmA:=match c6 fr cf with
 |some ⟨_, .call ⟨.value fo,args,_⟩,_,_,_,_⟩=>match GH (cd fr cf) fo args with
  |some (f,nm,l)=>match jk fr own cf nm with
   |some (.o ty cs lo)=>match jx cs with
    |some csd=>some ⟨f,nm,l,ty,csd,lo⟩
    |none=>none
   |_=>none
  |none=>none
 |_=>none
def yY{α:Type}:List DV->(List FX->α)->α
 |[],k=>k []
 |d::t,k=>yY t fun t'=>k (.d d::t')
def DA{α:Type}: ∀{l:List DV} {k:List FX->α},yY l k=k (l.map .d)
 |[],k=>rfl
 |d::t,k=>by simp only[yY];rw[DA];rfl
def cm[fu:Fu]{f:FuncId}{nm:Nat}{l:List (Option DV)}{ty:TypeId}{cs:List DV}{lo:Bool}(ha:TA fr own cf=some ⟨f,nm,l,ty,cs,lo⟩)(hF: ∀b,PM GB prog f (kw l b) b ty cs rv cs')
  (hgo:(yY cs' fun csx=>cB tt n fu.n fr own cf (.d rv) [(nm,some (.o ty csx lo))] [])=⟨vc,fr',own',cf'⟩)(k:aA prog GB C n Q0 fr' own' cf')
  (hv:autoParam (ak vc) fn._auto_1):aA prog GB C n Q0 fr own cf:=by
 unfold TA at ha;split at ha<;>try (cases ha;done)
 rename_i hh;split at ha<;>try (cases ha;done)
 rename_i h1;split at ha<;>try (cases ha;done)
 rename_i h2;split at ha<;>cases ha;rename_i h3;rw[DA] at hgo;exact us hh (YS h1 h2 h3 hF J) hgo hv k
abbrev NM:Nat:=1000000
def zl:Nat->List (Option DV)->aC
 |_,[]=>[]
 |i,some v::t=>(i, .d v)::zl (i+1) t
 |i,none::t=>(i, .ov NM 0)::zl (i+1) t
def IP(b:Nat): ∀l:List (Option DV),(kw l b).length=l.length
 |[]=>rfl
 |some d::t=>by simp[kw,IP b t]
 |none::t=>by simp[kw,IP b t]
def K3{b:Nat}{ρ:NE}{G:Gh}(hρ:(ρ NM).a=some ⟨b,0,none⟩): ∀{ds:List (Option DV)} {vs:List Value} (i:Nat),IsLs G (kw ds b) vs-> ∀k f,bi (zl i ds) k=some f-> ∃y,(∃j,k=i+j/\vs[j]? =some y)/\b9 ρ G f y
 |[],vs,i,h,k,f,e=>by cases e
 |some d::t,vs,i,h,k,f,e=>by
  obtain⟨y,m,rfl,h1,h2⟩:=bh.1 h;simp only[zl] at e;rw[kr] at e;split at e
  .cases e;rename_i hk;exact⟨y,⟨0,hk,rfl⟩,h1⟩
  .obtain⟨u,⟨j,hj,hu⟩,h3⟩:=K3 hρ (i+1) h2 k f e
   exact⟨u,⟨j+1,we,by simpa using hu⟩,h3⟩
 |none::t,vs,i,h,k,f,e=>by
  obtain⟨y,m,rfl,h1,h2⟩:=bh.1 h;simp only[zl] at e;rw[kr] at e;split at e
  .cases e;rename_i hk;exact⟨y,⟨0,hk,rfl⟩,b,hρ,(aI (G:=G)).1 h1⟩
  .obtain⟨u,⟨j,hj,hu⟩,h3⟩:=K3 hρ (i+1) h2 k f e
   exact⟨u,⟨j+1,we,by simpa using hu⟩,h3⟩
def H1(C:aF)(b:Nat)(m:List Value)(ty:TypeId)(lo:Bool)(rv:DV)(cs':List DV):Ending->World->Prop:=B4 C [⟨b,m,ty,lo⟩] (fun v css G'=>Is G' rv v/\ ∃m',css=[m']/\IsLs G' cs' m')
def vU[fu:Fu]{b:Nat}{f:FuncId}{k:Nat}{l:List (Option DV)}{cs:List DV}{ty:TypeId}(hf:prog.funcs[f]? =some fb)(hb:fb.body=some c)(hn:(fb.name== "runtime.NumGoroutine")=false)(hm:fb.ntmps=k)(hlen:Nat.ble l.length k=true)
  (hgo:(yY cs fun csx=>go tt k fu.n [] (zl 0 l) [(NM,some (.o ty csx false))] (.code c []))=⟨vc,fr,own,cf⟩)(h: ∀C b m lo,C.mb=[b]->aA prog GB C k (eH C prog fb (H1 C b m ty lo rv cs')) fr own cf)
  (hv:autoParam (ak vc) fn._auto_1):PM GB prog f (kw l b) b ty cs rv cs':=by
 intro G vs m lo hg hvs hm';refine kG.introR hf hb hn hm (by rw[hvs.len,IP];exact hlen) fun C _ hmb hrd hfx=>?_;intro a w rl;refine uO hrd ?_;rw[DA] at hgo;have h1:=fB (GB:=GB) (C:=C) (Q0:=eH C prog fb (H1 C b m ty lo rv cs')) hgo hv (h C b m lo (by simpa using hmb));refine h1.run (fun _=>⟨some ⟨b,0,none⟩,0,0⟩) G [⟨b,m,ty,false⟩] a w ⟨hg,rl.h,rl.sz,rl.df,fun k f e=>?_,fun nm B e=>?_,fun nm nm' B B' e e' hne=>?_,fun nm p _ _ e=>by rw[hfx] at e;cases e⟩
 .obtain⟨y,⟨j,hj,hy⟩,h2⟩:=K3 (ρ:=fun _=>⟨some ⟨b,0,none⟩,0,0⟩) (b:=b) rfl 0 hvs k f e
  refine⟨y,rl.fr k y ?_,h2⟩;rw[hj];exact w5 vs 0 j y hy
 .rw[jg] at e
  split at e
  .cases e;exact⟨[⟨b,m,ty,false⟩],⟨b,m,J,J,vy hm'⟩,fun o ho=>ho⟩
  .cases e
 .rw[jg] at e e'
  split at e<;>split at e'
  .rename_i h2 h3;exact absurd (h2.trans h3.symm) hne
  .cases e'
  .cases e
  .cases e
def P4(own:aO)(nm:Nat):Option (TypeId×List DV):=match bu own nm with
 |some (.o ty cs false)=>match jx cs with
  |some l=>some (ty,l)
  |none=>none
 |_=>none
def jn{b:Nat}{ty:TypeId}{lo:Bool}{ds cs1:List DV}(hmb:C.mb=[b])(hr:qh tt fr own fb.results.toList=some ds)(ho:P4 own NM=some (ty,cs1))(hd:fg ds=rv)(hc:cs1=cs'):
  aA prog GB C n (eH C prog fb (H1 C b m ty lo rv cs')) fr own (.ex .ret []):=by
 refine⟨fun ρ G ov a w r=>?_⟩;obtain⟨vs,h1,h2⟩:=yx r hr;have hk:Is G rv (m9 vs):=hd▸zF h2;unfold P4 at ho;split at ho<;>try (cases ho;done)
 rename_i hb;split at ho<;>cases ho;rename_i hl;obtain⟨b',m',rest,h3,h4,h5,h6⟩:=r.lend hb hl;have hbb:b'=b:=by
  have:=(r.h.hown _ (h5.mem_iff.2 (bM _ aZ))).2.2.2 J;rw[hmb] at this;simpa using this
 subst hbb hc;exact u6 (C:=C) (n:=n) (fr:=cp a) (own:=ov) (G:=G) (M:=[⟨b',m,ty,lo⟩]) (css:=[m']) (K:=fun v css G'=>Is G' rv v/\ ∃m',css=[m']/\IsLs G' cs1 m') h1 J ([⟨b',m',ty,false⟩]++rest) h5 (oW _ _) ⟨hk,m',J,h4⟩ a w ⟨r.h,r.sz,cC a,r.df⟩
end
section
variable {own:aO}
def csd[fu1:Fu][fu2:Fu](d:Nat){hp:Decidable p}(hl:bi fr d=some (.d (.v (.bool (@decide p hp)))))(g1:go tt n fu1.n [] ((d, .tt)::fr) own (.ops ops r K)=⟨vc1,fr1,own1,cf1⟩)(g2:go tt n fu2.n [] ((d, .ff)::fr) own (.ops ops r K)=⟨vc2,fr2,own2,cf2⟩)
  (k1:p->aA prog GB C n Q0 fr1 own1 cf1)(k2: ¬p->aA prog GB C n Q0 fr2 own2 cf2)
  (v1:p->ak vc1:=by intro;first|exact trivial|(simp only[ak];omega)|(simp only[ak,aX,bQ,aL];omega))(v2: ¬p->ak vc2:=by intro;first|exact trivial|(simp only[ak];omega)|(simp only[ak,aX,bQ,aL];omega)):aA prog GB C n Q0 fr own (.ops ops r K):=
 iE (fu1:=fu1) (fu2:=fu2) d hl g1 g2 (fun h=>k1 (of_decide_eq_true h)) (fun h=>k2 (of_decide_eq_false h)) (fun h=>v1 (of_decide_eq_true h)) (fun h=>v2 (of_decide_eq_false h))
def zi(d:Nat)(hl:bi fr d=some .nl)(h:aA prog GB C n Q0 ((d, .d (.sl []))::fr) own (.code c K)):aA prog GB C n Q0 fr own (.code c K):=
 ql (g:= .d (.sl [])) hl (fun ρ G y hy=>(show Is G (.sl []) y from nq (ρ:=ρ) (f:= .nl) hy J)) h
def b8.to{f g:FX}(h:b8 prog GB C n lk bk o f [] [])(e: ∀ρ G y,b9 ρ G f y->b9 ρ G g y):b8 prog GB C n lk bk o g [] []:=fun hd tl tb Q h1 h2 hf hk=>
 h hd tl tb Q h1 h2 hf ⟨fun ρ G ov a w r=>hk.run ρ G ov a w ⟨r.gb,r.h,r.sz,r.df,fun k f' e'=>by
  cases ho:o.dst with
  |none=>exact r.fx k f' (by simpa only[ho,eh] using e')
  |some d=>
   have hr:=r.fx;simp only[ho,eh] at e' hr;by_cases q:k=d
   .rw[if_pos q] at e';cases e'
    obtain⟨y,h3,h4⟩:=hr k f (by rw[if_pos q]);exact⟨y,h3,e _ _ _ h4⟩
   .rw[if_neg q] at e'
    exact hr k f' (by rw[if_neg q];exact e'),r.bx,r.dj,r.fxd⟩⟩
def ze(fr:aC)(own:aO)(cf:Cf):Option (Oper×FX):=match c6 fr cf with
 |some o=>match Aa tt (cd fr cf) (jk fr own cf) o.dst o.op with
  |some ⟨none,f,[],[]⟩=>some (o,f)
  |_=>none
 |none=>none
def gF[fu1:Fu][fu2:Fu]{f:FX}{hp:Decidable p}(hs:ze fr own cf=some (o,f))(hb:uG f=some (@decide p hp))(g1:cB tt n fu1.n fr own cf .tt [] []=⟨vc1,fr1,own1,cf1⟩)(g2:cB tt n fu2.n fr own cf .ff [] []=⟨vc2,fr2,own2,cf2⟩)
  (k1:p->aA prog GB C n Q0 fr1 own1 cf1)(k2: ¬p->aA prog GB C n Q0 fr2 own2 cf2)
  (v1:p->ak vc1:=by intro;first|exact trivial|(simp only[ak];kernel_rfl)|(simp only[ak];omega)|(simp only[ak,aX,bQ,aL];omega))(v2: ¬p->ak vc2:=by intro;first|exact trivial|(simp only[ak];kernel_rfl)|(simp only[ak];omega)|(simp only[ak,aX,bQ,aL];omega)):aA prog GB C n Q0 fr own cf:=by
 unfold ze at hs;split at hs<;>try (cases hs;done)
 rename_i o' hh;split at hs<;>cases hs;rename_i hc;obtain⟨dst,op,ty,pos,af,gd⟩:=o;have h0:=yW (P:=prog) (GB:=GB) (C:=C) (n:=n) (ty':=ty) (pos:=pos) (af:=af) (gd:=gd) fi hc (fun p e=>by cases e);by_cases h:p
 .exact us hh (b8.to h0 fun ρ G y hy=>by rw[x5 hy hb,decide_eq_true h];exact J) g1 (v1 h) (k1 h)
 .exact us hh (b8.to h0 fun ρ G y hy=>by rw[x5 hy hb,decide_eq_false h];exact J) g2 (v2 h) (k2 h)
def aJP{d:Nat}{f:FX}
  (hz: ∀lk bk ρ G ov a w,bP GB C n lk bk ρ G ov a w->bk d=some B-> ∃G' ov',bI G G'/\bH C ov' G' w/\(∀o∈ov,(ρ d).a≠some ⟨o.b,0,none⟩->o∈ov')/\ ∀y,b9 ρ G f y->Is G' v y)(hk:SX GB C n (eh tl (some d) (.d v)) (Sx.upB tb [(d,none)]) Ψ):SX GB C n (eh tl (some d) f) (Sx.upB tb [(d,some B)]) Ψ:=by
 refine⟨fun ρ G ov a w r=>?_⟩;have hbd:Sx.upB tb [(d,some B)] d=some B:=by simp[Sx.upB]
 obtain⟨G',ov',h1,h2,h3,h4⟩:=hz _ _ ρ G ov a w r hbd;refine hk.run ρ G' ov' a w ⟨r.gb.trans h1,h2,r.sz,r.df,fun k g e=>?_,fun m B' e=>?_,fun m m' B1 B2 e e'=>?_,r.fxd⟩
 .by_cases hk:k=d
  .subst hk
   simp only[eh,if_true] at e;cases e;obtain⟨y,g1,g2⟩:=r.fx k f (by simp[eh]);exact⟨y,g1,h4 y g2⟩
  .simp only[eh,hk,if_false] at e
   obtain⟨y,g1,g2⟩:=r.fx k g (by simp[eh,hk,e]);exact⟨y,g1,g2.up h1⟩
 .simp only[Sx.upB] at e
  split at e
  .cases e
  .rename_i hm
   have e':Sx.upB tb [(d,some B)] m=some B':=by simp[Sx.upB,hm,e]
   obtain⟨os,g1,g2⟩:=r.bx m B' e';exact⟨os,g1.up h1,fun o ho=>h3 o (g2 o ho) fun hc=>r.dj m d B' B e' hbd hm _ (g1.blk ho) hc⟩
 .simp only[Sx.upB] at e e'
  split at e
  .cases e
  .rename_i hm
   split at e'
   .cases e'
   .rename_i hm'
    exact r.dj m m' B1 B2 (by simp[Sx.upB,hm,e]) (by simp[Sx.upB,hm',e'])
def b8.frz2{d nm:Nat}{f:FX}(hd:o.dst=some d)(h:b8 prog GB C n lk bk o f [(nm,none),(d,some B)] [d])
  (hz: ∀lk bk ρ G ov a w,bP GB C n lk bk ρ G ov a w->bk d=some B-> ∃G' ov',bI G G'/\bH C ov' G' w/\(∀o∈ov,(ρ d).a≠some ⟨o.b,0,none⟩->o∈ov')/\ ∀y,b9 ρ G f y->Is G' v y):b8 prog GB C n lk bk o (.d v) [(nm,none),(d,none)] [d]:=by
 intro hd' tl tb K s1 s2 hf hk;refine h hd' tl tb K s1 s2 hf ?_;rw[hd] at hk⊢;exact aJP (tb:=Sx.upB tb [(nm,none)]) hz hk
def aNz(d:Nat)(nm:Option Nat):List (Nat×Option Bk):=match nm with
 |some nm=>[(nm,none),(d,none)]
 |none=>[(d,none)]
def kp[fu:Fu]{d:Nat}{nm:Option Nat}{e s b:Nat}{ds ds2:List DV}(ds':List DV)(h:DX fr own cf=some ⟨d,nm,e,s,b,ds,ds2⟩)(hds:ds++ds2=ds')(ho2:cI s ds2)(hgo:cB tt n fu.n fr own cf (.d (.sl ds')) (aNz d nm) [d]=⟨vc,fr',own',cf'⟩)(k:aA prog GB C n Q0 fr' own' cf')
  (ho:nm.isNone=true->cI s ds/\0<ds2.length:=by intro h;first|(cases h;done)|exact⟨CJ rfl,omc⟩)(hbd:(ds.length+ds2.length)*b<=140737488355328:=by simp;omega)
  (hv:autoParam (ak vc) fn._auto_1):aA prog GB C n Q0 fr own cf:=by
 obtain⟨o,h1,h2,h3⟩:=TY (GB:=GB) (C:=C) (n:=n) h ds' hds ho ho2 hbd
 cases nm with
 |none=>exact us h1 (h3.frzRow h2) hgo hv k
 |some nm=>exact us h1 (b8.frz2 h2 h3 fun _ _ _ _ _ _ _ r hb=>r.frzRow hb) hgo hv k
def cF[fu:Fu]{f:FX}(hs:ze fr own cf=some (o,f))(hb:uG f=some true)(hgo:cB tt n fu.n fr own cf .tt [] []=⟨vc,fr',own',cf'⟩)(k:aA prog GB C n Q0 fr' own' cf')
  (hv:autoParam (ak vc) fn._auto_1):aA prog GB C n Q0 fr own cf:=by
 unfold ze at hs;split at hs<;>try (cases hs;done)
 rename_i o' hh;split at hs<;>cases hs;rename_i hc;obtain⟨dst,op,ty,pos,af,gd⟩:=o;have h0:=yW (P:=prog) (GB:=GB) (C:=C) (n:=n) (ty':=ty) (pos:=pos) (af:=af) (gd:=gd) fi hc (fun p e=>by cases e);exact us hh (b8.to h0 fun ρ G y hy=>by rw[x5 hy hb];exact J) hgo hv k
def bO[fu:Fu]{f:FX}(hs:ze fr own cf=some (o,f))(hb:uG f=some false)(hgo:cB tt n fu.n fr own cf .ff [] []=⟨vc,fr',own',cf'⟩)(k:aA prog GB C n Q0 fr' own' cf')
  (hv:autoParam (ak vc) fn._auto_1):aA prog GB C n Q0 fr own cf:=by
 unfold ze at hs;split at hs<;>try (cases hs;done)
 rename_i o' hh;split at hs<;>cases hs;rename_i hc;obtain⟨dst,op,ty,pos,af,gd⟩:=o;have h0:=yW (P:=prog) (GB:=GB) (C:=C) (n:=n) (ty':=ty) (pos:=pos) (af:=af) (gd:=gd) fi hc (fun p e=>by cases e);exact us hh (b8.to h0 fun ρ G y hy=>by rw[x5 hy hb];exact J) hgo hv k
def CU(nm:Nat){ty:TypeId}{cs:List FX}{lo:Bool}{ds:List DV}{e:Exit}(hb:bu own nm=some (.o ty cs lo))(hc:jx cs=some ds)(ho:(nm,some (.o ty (ds.map .d) lo))::own=own1)(k:aA prog GB C n Q0 fr own1 (.ex e K)):aA prog GB C n Q0 fr own (.ex e K):=by
 subst ho;have old: ∀m B,bu ((nm,some (.o ty (ds.map .d) lo))::own) m=some B-> ∃B0,bu own m=some B0:=fun m B e=>by
  rw[jg] at e;split at e
  .rename_i h;subst h;exact⟨_,hb⟩
  .exact⟨_,e⟩
 refine⟨fun ρ G ov a w r=>k.run ρ G ov a w ⟨r.gb,r.h,r.sz,r.df,r.fx,fun m B e=>?_,fun m m' B B' e e'=>?_,r.fxd⟩⟩
 .rw[jg] at e
  split at e
  .rename_i h;subst h;cases e
   obtain⟨os,⟨b,m,h1,rfl,h2⟩,h3⟩:=r.bx _ _ hb;exact⟨_,⟨b,m,h1,J,vy (tv h2 hc)⟩,h3⟩
  .exact r.bx _ _ e
 .obtain⟨B0,h0⟩:=old _ _ e
  obtain⟨B1,h1⟩:=old _ _ e';exact r.dj m m' B0 B1 h0 h1
end
section
variable {own:aO}
def Nj(GB:Gh)(C:aF)(n:Nat)(lk:LK)(bk:BM)(o:Oper)(ι:Type)(f:ι->FX)(bl:ι->List (Nat×Option Bk))(nw:List Nat):Prop:=
 cg n o.dst=true-> ∀(tl:LK) (tb:BM) (K:Act->World->Prop),km lk tl->km bk tb->kE nw o.dst tl tb->(∀x,SX GB C n (eh tl o.dst (f x)) (Sx.upB tb (bl x)) K)->SX GB C n tl tb (fun a w=> ∀Q,o.wp prog a w K Q)
def Hf(n q:Nat)(fr:aC)(own:aO)(cf:Cf)(f:FX)(bl:List (Nat×Option Bk)):yu:=match cf with
 | .ops ops (o::r) K=>r4 own bl fun own'=>zW fr o.dst f fun fr'=>go tt n q [] fr' own' (.ops ops r K)
 |_=>qo
def Ji(n:Nat)(fr:aC)(own:aO)(cf:Cf)(nw:List Nat):Bool:=match cf with
 | .ops ops (o::_) _=>uw nw o.dst fr own&&cg n o.dst&&w7 ops (bi fr) o.guard
 |_=>false
def usF{f:ι->FX}{bl:ι->List (Nat×Option Bk)}{vc:ι->List Prop}{fr':ι->aC}{own':ι->aO}{cf':ι->Cf}(hh:c6 fr cf=some o)(ho:Ji n fr own cf nw=true)(h:Nj GB C n (cd fr cf) (jk fr own cf) o ι f bl nw)
  (hgo: ∀x,Hf n q fr own cf (f x) (bl x)=⟨vc x,fr' x,own' x,cf' x⟩)(hv: ∀x,ak (vc x))(k: ∀x,aA prog GB C n Q0 (fr' x) (own' x) (cf' x)):aA prog GB C n Q0 fr own cf:=by
 obtain⟨ops,h1,h2⟩:=IQ hh
 cases cf with
 |ops ops' r K=>
  cases r with
  |nil=>cases h1
  |cons o' r=>
   cases h1
   simp only[Ji,bW] at ho;refine⟨fun ρ G ov a w rl=>?_⟩;show wpListIn _ _ _ _ _ (o::r) a w;unfold wpListIn;rw[if_pos (Cn ho.2 ρ G ov a w rl)];refine F3 ((h ho.1.2 _ _ (fun a w=>a.defers=C.mks/\wpListIn (FW C.rd) 0 prog ops (cQ C.rd prog Q0 K) r a w) (km.refl _) (km.refl _) (AF ho.1.1) (fun x=>?_)).run ρ G ov a w rl) fun a' w' k=>⟨k.1.trans rl.df.symm,k.2⟩;refine⟨fun ρ G ov a w r0=>⟨r0.df,SX.run (GB:=GB) (C:=C) (n:=n) ?_ ρ G ov a w r0⟩⟩;have hx:=hgo x;unfold Hf at hx;simp only[wV,Ab] at hx;have:=fB (GB:=GB) (C:=C) (Q0:=Q0) hx (hv x) (k x);show SX GB C n (eh (bi fr) o.dst (f x)) (Sx.upB (bu own) (bl x)) _;rw[<-E8,<-Fq];exact this
 |_=>cases ho
def aB1{f:FuncId}{d:Nat}{ds:List DV}{ty:TypeId}{gd:Option (Nat×Bool)}{cs':ι->List DV}
  (ha:te lk fo args=some (f,ds))(hF:PN GB prog f ds ty0 ι cs'):Nj GB C n lk bk ⟨some d, .call ⟨.value fo,args,tys⟩,ty,pos,af,gd⟩ ι (fun _=> .ov d 0) (fun x=>[(d,some (.o ty0 ((cs' x).map .d) true))]) [d]:=by
 intro hd tl tb K' s1 s2 hf hk;refine⟨fun ρ G ov a w r Q=>?_⟩;have r1:=r.mono s1 s2;obtain⟨h1,h2⟩:=A1 ha;obtain⟨y,hy,hy'⟩:=r1.ev h1;rw[(aI (G:=G)).1 hy'] at hy;obtain⟨vs,h3,h4⟩:=r1.evDs h2;refine xU (M:=[]) (rest:=ov) hy h3 (List.Perm.refl _) (hF G vs r.gb h4) hd (fun v own1 G' hG hK a' w' rl=>?_) a w Q ⟨r.h,r.sz,cC a,r.df⟩;obtain⟨x,b,m,rfl,rfl,hm⟩:=hK;have rl':gA C n (Sx.put (cp a) (some d) (.pointer (some ⟨b,0,none⟩))) (⟨b,m,ty0,true⟩::ov) G' a' w':=by simpa[relo,gI] using rl
 have hnd:=(bY.1 rl'.h.nd).1;exact(hk x).run _ G' _ a' w' (r.new (x:=⟨some ⟨b,0,none⟩,0,0⟩) (B':= .o ty0 ((cs' x).map .d) true) (os:=[⟨b,m,ty0,true⟩]) hf hG.le rl'.h ⟨b,m,omc,J,vy hm⟩ (fun o ho=>by rw[aR.1 ho];exact aZ)
  (fun o ho=>aJ _ ho) (fun o ho e=>by cases e;exact hnd o ho J) (f:= .ov d 0) (y:= .pointer (some ⟨b,0,none⟩)) ⟨b,omc,J⟩ (jp rl'))
def Rp(fr:aC)(cf:Cf):Option (FuncId×List DV×Nat):=match c6 fr cf with
 |some ⟨some d, .call ⟨.value fo,args,_⟩,_,_,_,_⟩=>match te (cd fr cf) fo args with
  |some (f,ds)=>some (f,ds,d)
  |none=>none
 |_=>none
def cn[fu:Fu]{f:FuncId}{d:Nat}{ds:List DV}{ty:TypeId}{cs':ι->List DV}{vc:ι->List Prop}{fr':ι->aC}{own':ι->aO}{cf':ι->Cf}(ha:Rp fr cf=some (f,ds,d))(hF:PN GB prog f ds ty ι cs')
  (hgo: ∀x,(yY (cs' x) fun csx=>Hf n fu.n fr own cf (.ov d 0) [(d,some (.o ty csx true))])=⟨vc x,fr' x,own' x,cf' x⟩)(k: ∀x,aA prog GB C n Q0 (fr' x) (own' x) (cf' x))(ho:Ji n fr own cf [d]=true:=by rfl)
  (hv: ∀x,ak (vc x):=by intro;first|exact trivial|(simp only[ak];kernel_rfl)|(simp only[ak];omega)|(simp only[ak,aX,bQ,aL];omega)):aA prog GB C n Q0 fr own cf:=by
 unfold Rp at ha;split at ha<;>try (cases ha;done)
 rename_i hh;split at ha<;>cases ha;rename_i h1;simp only[DA] at hgo;exact usF hh ho (aB1 h1 hF) hgo hv k
end
section
variable {own:aO}
end
section
variable {own:aO}
def KX(C:aF)(ty:TypeId)(ι:Type)(cs:ι->List DV):Ending->World->Prop:=s7 C (fun v own' G'=> ∃x b m,v= .pointer (some ⟨b,0,none⟩)/\own'=[⟨b,m,ty,true⟩]/\IsLs G' (cs x) m)
def fnN[fu:Fu]{f:FuncId}{m:Nat}{ds:List DV}{ty:TypeId}{cs:ι->List DV}(hf:prog.funcs[f]? =some fb)(hb:fb.body=some c)(hn:(fb.name== "runtime.NumGoroutine")=false)(hm:fb.ntmps=m)(hlen:Nat.ble ds.length m=true)
  (hgo:go tt m fu.n [] (pD 0 ds) [] (.code c [])=⟨vc,fr,own,cf⟩)(k: ∀C:aF,C.mb=[]->aA prog GB C m (eH C prog fb (KX C ty ι cs)) fr own cf)
  (hv:autoParam (ak vc) fn._auto_1):PN GB prog f ds ty ι cs:=by
 intro G vs hg hvs;refine iu.introR hf hb hn hm okp fun C _ hmb hrd hfx=>?_;intro a w rl;refine uO hrd ?_;have h:=fB (GB:=GB) (C:=C) (Q0:=eH C prog fb (KX C ty ι cs)) hgo hv (k C (by simpa using hmb));exact h.run (fun _=>⟨none,0,0⟩) G [] a w ⟨hg,rl.h,rl.sz,rl.df,(fun k f e=>vm hvs rl.fr k f e),(fun nm B e=>by cases e),(fun nm nm' B B' e=>by cases e),fun nm p _ _ e=>by rw[hfx] at e;cases e⟩
theorem okh{p:Prop}(h:p:=by rw[hr];exact .tmp hy .nil):p:=h
def Ze{t d:Nat}{ty:TypeId}{cs:ι->List DV}{l:List DV}(x:ι)(hr:fb.results.toList=[.tmp t])(hl:bi fr t=some (.ov d 0))(hw:bu own d=some (.o ty cs1 true))(hc:jx cs1=some l)(hd:l=cs x):
  aA prog GB C n (eH C prog fb (KX C ty ι cs)) fr own (.ex .ret []):=by
 refine⟨fun ρ G ov a w r=>?_⟩;subst hd;obtain⟨b,m,rest,h3,h4,h5,h6⟩:=r.lend hw hc;obtain⟨y,hy,b',hb',hy'⟩:=r.ev (x:= .tmp t) (f:= .ov d 0) hl;rw[h3] at hb';cases hb';subst hy';exact Xa (C:=C) (n:=n) (fr:=cp a) (own:=ov) (G:=G) (vs:=[.pointer (some ⟨b,0,none⟩)]) okh (⟨b,m,ty,true⟩::rest) [⟨b,m,ty,true⟩] (by simpa using h5) (.cons_cons _ (jV _)) (fun _=>⟨x,b,m,J,J,h4⟩) a w ⟨r.h,r.sz,cC a,r.df⟩
def xb[fu:Fu]{d:Nat}{l:List DV}(h:LE fr cf=some (d,l))(hgo:cB tt n fu.n fr own cf (.d (.pt l)) [(d,none)] [d]=⟨vc,fr',own',cf'⟩)(k:aA prog GB C n Q0 fr' own' cf')
  (hv:autoParam (ak vc) fn._auto_1):aA prog GB C n Q0 fr own cf:=by
 unfold LE at h;split at h<;>try (cases h;done)
 rename_i hh;split at h<;>try (cases h;done)
 rename_i g hx;rw[cond_eq_ite] at h;split at h<;>try (cases h;done)
 rename_i hc;simp only[bW] at hc;split at h<;>cases h;rename_i hl;exact us hh (aEc hx hc.1 hc.2 hl) hgo hv k
end
section
variable {own:aO}
def f7:List (Option DV)->SV->List DV
 |[],_=>[]
 |some d::t,w=>d::f7 t w
 |none::t,w=> .v (.slice w.a w.n w.c)::f7 t w
def FO(lk:LK):List Operand->Option (Option Nat×List (Option DV))
 |[]=>some (none,[])
 |x::t=>match bj lk x,FO lk t with
  |some (.rw nm),some (none,l)=>some (some nm,none::l)
  |some f,some (q,l)=>match ke f with
   |some d=>some (q,some d::l)
   |none=>none
  |_,_=>none
def B5(lk:LK)(fo:Operand)(args:Array Operand):Option (FuncId×Nat×List (Option DV)):=match bj lk fo with
 |some (.d (.v (.func (.func f) ⟨[]⟩ ⟨[]⟩)))=>match FO lk args.toList with
  |some (some nm,l)=>some (f,nm,l)
  |_=>none
 |_=>none
def Cs{lk:LK}{bk:BM}{ρ:NE}{G:Gh}{ov:List aB}{a:Act}{w:World}(r:bP GB C n lk bk ρ G ov a w){z:SV}: ∀{x:List Operand} {q:Option Nat} {l:List (Option DV)},FO lk x=some (q,l)->(∀nm,q=some nm->ρ nm=z)->
  ∃y,fG (cp a) x=some y/\IsLs G (f7 l z) y
 |[],q,l,e,_=>by cases e;exact⟨[],J, .nil⟩
 |x::t,q,l,e,hb=>by
  simp only[FO] at e;split at e
  .rename_i nm l' h1 h2
   cases e
   obtain⟨y,h3,h4⟩:=r.ev h1
   cases (show y=_ from h4)
   obtain⟨ys,h5,h6⟩:=Cs r (z:=z) h2 (fun nm e=>by cases e);have hz:=hb nm J;subst hz;exact⟨Value.slice (ρ nm).a (ρ nm).n (ρ nm).c::ys,by simp only[fG,h3,h5], .cons ((aI (G:=G)).2 J) h6⟩
  .rename_i f q' l' _ h1 h2
   cases hd:ke f with
   |none=>rw[hd] at e;cases e
   |some d=>
   rw[hd] at e;cases e;obtain⟨y,h3,h4⟩:=r.ev h1;obtain⟨ys,h5,h6⟩:=Cs r (z:=z) h2 hb;exact⟨y::ys,by simp only[fG,h3,h5], .cons (nq h4 hd) h6⟩
  .cases e
def Xs{f:FuncId}{nm d:Nat}{l:List (Option DV)}{s:Nat}{ty:TypeId}{gd:Option (Nat×Bool)}{lo:Bool}(hne:Nat.beq nm d=false)
  (ha:B5 lk fo args=some (f,nm,l))(hb:bk nm=some (.b ty0 s dsi lo))(hF:PB GB prog f (f7 l) s ty0 dsi (fun w=> .tp (pre++ .v (.slice w.a w.n w.c)::post)) dso):b8 prog GB C n lk bk ⟨some d, .call ⟨.value fo,args,tys⟩,ty,pos,af,gd⟩ (.bx true pre d post) [(nm,none),(d,some (.b ty0 s dso lo))] [d]:=by
 intro hd tl tb K' s1 s2 hf hk;refine⟨fun ρ G ov a w r Q=>?_⟩;have r1:=r.mono s1 s2;unfold B5 at ha;split at ha<;>try (cases ha;done)
 rename_i h1;split at ha<;>cases ha;rename_i h2;obtain⟨y,hy,hy'⟩:=r1.ev h1;rw[(aI (G:=G)).1 hy'] at hy;obtain⟨B,g1,g2⟩:=r1.bx _ _ hb;have hB:d9 G ⟨ρ nm,s,ty0,dsi,lo⟩ B:=g1;obtain⟨vs,h7,h8⟩:=Cs r1 (z:=ρ nm) h2 (fun nm e=>by cases e;rfl);have hp: ∃rest,ov.Perm (B++rest)/\ ∀o∈ov,(∀o'∈B,o.b≠o'.b)->o∈rest:=by
  rcases hB with⟨vs',⟨_,_,e⟩|⟨b0,r0,lo0,_,e,_⟩,_⟩
  .rw[e];exact⟨ov,List.Perm.refl _,fun o ho _=>ho⟩
  .rw[e] at g2⊢
   obtain⟨l1,l2,e2⟩:=mN (g2 _ aZ);rw[e2];refine⟨l1++l2,pQ,fun o ho hno=>?_⟩;rcases bX.1 ho with ho|ho
   .exact bM _ ho
   .rcases aW.1 ho with rfl|ho
    .exact absurd J (hno _ aZ)
    .exact bU _ ho
 obtain⟨rest,h5,h6⟩:=hp;refine xU (M:=B) (rest:=rest) hy h7 h5 (hF G (ρ nm) vs B r.gb hB.weak h8) hd (fun v own1 G' hG hK a' w' rl=>?_) a w Q ⟨r.h,r.sz,cC a,r.df⟩;obtain⟨z,hr,vs',k1,k2,k3,k4⟩:=hK;have k1':=k1.relo (gI B);have e2:lo=true-> ∀o∈own1.map (relo (gI B)),o.lo=true:=fun hl o ho=>by
  obtain⟨o',_,rfl⟩:=aU.1 ho;obtain⟨_,_,_,_,hlo⟩:=hB;exact Dy _ (hlo hl)
 generalize own1.map (relo (gI B))=B' at rl e2 k1';have rl':gA C n (Sx.put (cp a) (some d) v) (B'++rest) G' a' w':=rl;have hdis:=(gR.1 rl'.h.nd).2.2;have r2:=r.dropB nm;have hnn:nm≠d:=fun e=>by subst e;rw[oJ] at hne;cases hne
 have hf2:kE [d] (some d) tl (Sx.upB tb [(nm,none)]):=fun q hq=>by
  obtain⟨f1,f2⟩:=hf q hq;refine⟨f1,fun k B e1 e=>?_⟩;simp only[Sx.upB] at e;split at e
  .cases e
  .exact f2 k B e1 e
 have hsep: ∀q B0,Sx.upB tb [(nm,none)] q=some B0-> ∀o∈ov,(ρ q).a=some ⟨o.b,0,none⟩->o∈rest:=fun q B0 e o ho hbq=>by
  simp only[Sx.upB] at e;split at e
  .cases e
  .rename_i hqn
   refine h6 o ho fun o' ho' he=>?_;exact r.dj nm q _ _ (s2 _ _ hb) e (Ne.symm hqn) o'.b (g1.blk ho') (by rw[hbq,he])
 obtain⟨m,rfl,hm⟩:=mo.1 hr;obtain⟨m1,m2',rfl,c1,c2⟩: ∃m1 m2',m=m1++m2'/\IsLs G' pre m1/\IsLs G' (.v (.slice z.a z.n z.c)::post) m2':=IsLs.unapp hm;obtain⟨u,m2,rfl,c3,c4⟩:=bh.1 c2;rw[aI.1 c3] at rl';have r3:=r2.new' (x:=z) (B':= .b ty0 s dso lo) (os:=B') (ov':=B'++rest) (f:= .bx true pre d post) (y:= .tuple ⟨m1++Value.slice z.a z.n z.c::m2⟩) hf2 hG.le rl'.h ⟨vs',by simpa using k1',k2,k3,e2⟩ (fun o ho=>bM _ ho)
  (fun q B0 hq e o ho hbq=>⟨bU _ (hsep q B0 e o ho hbq),fun hc=>by
   have hx: ∃o1∈B',o1.b=o.b:=by
    rcases k1' with⟨_,h,_⟩|⟨b0,rest0,lo0,h,hB,_⟩
    .rw[show z=_ from h] at hc;cases hc
    .rw[show z=_ from h] at hc;cases hc;exact⟨⟨_,aH vs'++rest0,_,lo0⟩,by rw[hB];exact aZ,J⟩
   obtain⟨o1,ho1,he1⟩:=hx;exact hdis o1 ho1 o (hsep q B0 e o ho hbq) he1⟩) ⟨m1,m2,omc,c1,c4⟩ (jp rl')
 exact hk.run _ G' _ a' w' r3
structure YK where
 f:FuncId
 nm:Nat
 l:List (Option DV)
 ty:TypeId
 s:Nat
 ds:List DV
 lo:Bool
 d:Nat
def C6(fr:aC)(own:aO)(cf:Cf):Option YK:=match c6 fr cf with
 |some ⟨some d, .call ⟨.value fo,args,_⟩,_,_,_,_⟩=>match B5 (cd fr cf) fo args with
  |some (f,nm,l)=>match jk fr own cf nm with
   |some (.b ty s ds lo)=>bif Nat.beq nm d then none else some ⟨f,nm,l,ty,s,ds,lo,d⟩
   |_=>none
  |none=>none
 |_=>none
theorem okU{p:Prop}(h:p:=by cases hq:Nat.beq nm d with|false=>rfl|true=>exact absurd hq h3):p:=h
def cb[fu:Fu]{f:FuncId}{nm d:Nat}{l:List (Option DV)}{ty:TypeId}{s:Nat}{lo:Bool}(dso':List DV)(ha:C6 fr own cf=some ⟨f,nm,l,ty,s,dsi,lo,d⟩)(hF:PB GB prog f (f7 l) s ty dsi (fun w=> .tp (pre++ .v (.slice w.a w.n w.c)::post)) dso)(he:dso=dso')
  (hgo:cB tt n fu.n fr own cf (.bx true pre d post) [(nm,none),(d,some (.b ty s dso' lo))] [d]=⟨vc,fr',own',cf'⟩)(k:aA prog GB C n Q0 fr' own' cf')
  (hv:autoParam (ak vc) fn._auto_1):aA prog GB C n Q0 fr own cf:=by
 subst he;unfold C6 at ha;split at ha<;>try (cases ha;done)
 rename_i hh;split at ha<;>try (cases ha;done)
 rename_i h1;split at ha<;>try (cases ha;done)
 rename_i h2;rw[cond_eq_ite] at ha;split at ha<;>cases ha;rename_i h3;exact us hh (Xs okU h1 h2 hF) hgo hv k
def x7:Nat->List (Option DV)->aC
 |_,[]=>[]
 |i,some v::t=>(i, .d v)::x7 (i+1) t
 |i,none::t=>(i, .rw NM)::x7 (i+1) t
def Ew(w:SV): ∀l:List (Option DV),(f7 l w).length=l.length
 |[]=>rfl
 |some d::t=>by simp[f7,Ew w t]
 |none::t=>by simp[f7,Ew w t]
def C8{w:SV}{ρ:NE}{G:Gh}(hρ:ρ NM=w): ∀{ds:List (Option DV)} {vs:List Value} (i:Nat),IsLs G (f7 ds w) vs-> ∀k f,bi (x7 i ds) k=some f-> ∃y,(∃j,k=i+j/\vs[j]? =some y)/\b9 ρ G f y
 |[],vs,i,h,k,f,e=>by cases e
 |some d::t,vs,i,h,k,f,e=>by
  obtain⟨y,m,rfl,h1,h2⟩:=bh.1 h;simp only[x7] at e;rw[kr] at e;split at e
  .cases e;rename_i hk;exact⟨y,⟨0,hk,rfl⟩,h1⟩
  .obtain⟨u,⟨j,hj,hu⟩,h3⟩:=C8 hρ (i+1) h2 k f e
   exact⟨u,⟨j+1,we,by simpa using hu⟩,h3⟩
 |none::t,vs,i,h,k,f,e=>by
  obtain⟨y,m,rfl,h1,h2⟩:=bh.1 h;simp only[x7] at e;rw[kr] at e;split at e
  .cases e;rename_i hk;exact⟨y,⟨0,hk,rfl⟩,by show y=_;rw[hρ];exact aI.1 h1⟩
  .obtain⟨u,⟨j,hj,hu⟩,h3⟩:=C8 hρ (i+1) h2 k f e
   exact⟨u,⟨j+1,we,by simpa using hu⟩,h3⟩
def LD(C:aF)(s:Nat)(ty:TypeId)(pre post dso:List DV):Ending->World->Prop:=s7 C (fun v own' G'=> ∃w',Is G' (.tp (pre++ .v (.slice w'.a w'.n w'.c)::post)) v/\d9 G' ⟨w',s,ty,dso,false⟩ own')
def Gn[fu:Fu]{f:FuncId}{k s:Nat}{l:List (Option DV)}{ty:TypeId}(hf:prog.funcs[f]? =some fb)(hb:fb.body=some c)(hn:(fb.name== "runtime.NumGoroutine")=false)(hm:fb.ntmps=k)(hlen:Nat.ble l.length k=true)
  (hgo:go tt k fu.n [] (x7 0 l) [(NM,some (.b ty s dsi false))] (.code c [])=⟨vc,fr,own,cf⟩)(h: ∀C,aA prog GB C k (eH C prog fb (LD C s ty pre post dso)) fr own cf)
  (hv:autoParam (ak vc) fn._auto_1):PB GB prog f (f7 l) s ty dsi (fun w=> .tp (pre++ .v (.slice w.a w.n w.c)::post)) dso:=by
 intro G w vs B hg hB hvs;refine iu.introR hf hb hn hm (by rw[hvs.len,Ew];exact hlen) fun C _ hmb hrd hfx=>?_;intro a wd rl;refine uO hrd ?_;have h1:=fB (GB:=GB) (C:=C) (Q0:=eH C prog fb (LD C s ty pre post dso)) hgo hv (h C);refine h1.run (fun _=>w) G (Sx.asB B) a wd ⟨hg,rl.h,rl.sz,rl.df,fun k f e=>?_,fun nm B' e=>?_,fun nm nm' B' B2 e e' hne=>?_,fun nm p _ _ e=>by rw[hfx] at e;cases e⟩
 .obtain⟨y,⟨j,hj,hy⟩,h2⟩:=C8 (ρ:=fun _=>w) (w:=w) rfl 0 hvs k f e
  refine⟨y,rl.fr k y ?_,h2⟩;rw[hj];exact w5 vs 0 j y hy
 .rw[jg] at e
  split at e
  .cases e;exact⟨Sx.asB B,hB.asB,fun o ho=>ho⟩
  .cases e
 .rw[jg] at e e'
  split at e<;>split at e'
  .rename_i h2 h3;exact absurd (h2.trans h3.symm) hne
  .cases e'
  .cases e
  .cases e
def JD{B:List aB}{w:SV}{s:Nat}{ty:TypeId}{ds:List DV}{lo:Bool}(h:d9 G ⟨w,s,ty,ds,lo⟩ B)(g: ∀o∈B,o∈ov): ∃rest,ov.Perm (B++rest):=by
 rcases h with⟨vs',⟨_,_,e⟩|⟨b0,r0,lo0,_,e,_⟩,_⟩
 .rw[e];exact⟨ov,List.Perm.refl _⟩
 .rw[e] at g⊢
  obtain⟨l1,l2,e2⟩:=mN (g _ aZ);rw[e2];exact⟨l1++l2,pQ⟩
def I6{t u d s:Nat}{ty:TypeId}{ds:List DV}{f:FX}(hr:fb.results.toList=[.tmp t, .tmp u])(hl:bi fr t=some (.rw d))(hu:bi fr u=some f)(hd:ke f=some v)(hw:bu own d=some (.b ty s ds false))(ed:ds=dso)(ev:v=v'):
  aA prog GB C n (eH C prog fb (LD C s ty [] [v'] dso)) fr own (.ex .ret []):=by
 subst ed ev;refine⟨fun ρ G ov a w r=>?_⟩;obtain⟨B,g1,g2⟩:=r.bx _ _ hw;have hB:d9 G ⟨ρ d,s,ty,ds,false⟩ B:=g1;obtain⟨rest,hp⟩:=JD hB g2;obtain⟨y,hy,hy'⟩:=r.ev (x:= .tmp t) (f:= .rw d) hl
 cases (show y=_ from hy')
 obtain⟨z,hz,hz'⟩:=r.ev (x:= .tmp u) (f:=f) hu;exact xQ (C:=C) (n:=n) (fr:=cp a) (own:=ov) (G:=G) (vs:=[.slice (ρ d).a (ρ d).n (ρ d).c,z]) (by rw[hr];exact .tmp hy (.tmp hz .nil)) (B++rest) B hp (oW _ _)
  ⟨ρ d,mo.2 ⟨_,J, .cons (aI.2 J) (.cons (nq hz' hd) .nil)⟩,hB⟩ a w ⟨r.h,r.sz,cC a,r.df⟩
def FU(lk:LK):List Operand->Option (List (Option DV))
 |[]=>some []
 |x::t=>match bj lk x,FU lk t with
  |some .nl,some l=>some (none::l)
  |some f,some l=>match ke f with
   |some d=>some (some d::l)
   |none=>none
  |_,_=>none
def KN(lk:LK)(fo:Operand)(args:Array Operand):Option (FuncId×List (Option DV)):=match bj lk fo with
 |some (.d (.v (.func (.func f) ⟨[]⟩ ⟨[]⟩)))=>match FU lk args.toList with
  |some l=>some (f,l)
  |_=>none
 |_=>none
def Hj{lk:LK}{bk:BM}{ρ:NE}{G:Gh}{ov:List aB}{a:Act}{w:World}(r:bP GB C n lk bk ρ G ov a w): ∀{x:List Operand} {l:List (Option DV)},FU lk x=some l-> ∃y,fG (cp a) x=some y/\IsLs G (f7 l ⟨none,0,0⟩) y
 |[],l,e=>by cases e;exact⟨[],J, .nil⟩
 |x::t,l,e=>by
  simp only[FU] at e;split at e
  .rename_i l' h1 h2
   cases e
   obtain⟨y,h3,h4⟩:=r.ev h1
   cases (show y=_ from h4)
   obtain⟨ys,h5,h6⟩:=Hj r h2;exact⟨Value.slice none 0 0::ys,by simp only[fG,h3,h5], .cons ((aI (G:=G)).2 J) h6⟩
  .rename_i f l' _ h1 h2
   cases hd:ke f with
   |none=>rw[hd] at e;cases e
   |some d=>
   rw[hd] at e;cases e;obtain⟨y,h3,h4⟩:=r.ev h1;obtain⟨ys,h5,h6⟩:=Hj r h2;exact⟨y::ys,by simp only[fG,h3,h5], .cons (nq h4 hd) h6⟩
  .cases e
def aws{f:FuncId}{d:Nat}{l:List (Option DV)}{s:Nat}{ty:TypeId}{gd:Option (Nat×Bool)}
  (ha:KN lk fo args=some (f,l))(hF:PB GB prog f (f7 l) s ty0 [] (fun w=> .tp (pre++ .v (.slice w.a w.n w.c)::post)) dso):b8 prog GB C n lk bk ⟨some d, .call ⟨.value fo,args,tys⟩,ty,pos,af,gd⟩ (.bx true pre d post) [(d,some (.b ty0 s dso true))] [d]:=by
 intro hd tl tb K' s1 s2 hf hk;refine⟨fun ρ G ov a w r Q=>?_⟩;have r1:=r.mono s1 s2;unfold KN at ha;split at ha<;>try (cases ha;done)
 rename_i h1;split at ha<;>cases ha;rename_i h2;obtain⟨y,hy,hy'⟩:=r1.ev h1;rw[(aI (G:=G)).1 hy'] at hy;obtain⟨vs,h7,h8⟩:=Hj r1 h2;refine xU (M:=[]) (rest:=ov) hy h7 (List.Perm.refl _) (hF G ⟨none,0,0⟩ vs [] r.gb ⟨[], .nil _ _, .nil,omc,fun h=>by cases h⟩ h8) hd (fun v own1 G' hG hK a' w' rl=>?_) a w Q ⟨r.h,r.sz,cC a,r.df⟩;obtain⟨z,hr,vs',k1,k2,k3,k4⟩:=hK;have k1':=k1.relo (gI []);have e2: ∀o∈own1.map (relo (gI [])),o.lo=true:=fun o ho=>by
  obtain⟨o',_,rfl⟩:=aU.1 ho;rfl
 generalize own1.map (relo (gI []))=B' at rl e2 k1';have rl':gA C n (Sx.put (cp a) (some d) v) (B'++ov) G' a' w':=rl;have hdis:=(gR.1 rl'.h.nd).2.2;obtain⟨m,rfl,hm⟩:=mo.1 hr;obtain⟨m1,m2',rfl,c1,c2⟩: ∃m1 m2',m=m1++m2'/\IsLs G' pre m1/\IsLs G' (.v (.slice z.a z.n z.c)::post) m2':=IsLs.unapp hm;obtain⟨u,m2,rfl,c3,c4⟩:=bh.1 c2;rw[aI.1 c3] at rl';have r3:=r.new (x:=z) (B':= .b ty0 s dso true) (os:=B') (ov':=B'++ov) (f:= .bx true pre d post) (y:= .tuple ⟨m1++Value.slice z.a z.n z.c::m2⟩) hf hG.le rl'.h ⟨vs',by simpa using k1',k2,k3,fun _=>e2⟩ (fun o ho=>bM _ ho) (fun o ho=>bU _ ho)
  (fun o ho hc=>by
   have hx: ∃o1∈B',o1.b=o.b:=by
    rcases k1' with⟨_,h,_⟩|⟨b0,rest0,lo0,h,hB,_⟩
    .rw[show z=_ from h] at hc;cases hc
    .rw[show z=_ from h] at hc;cases hc;exact⟨⟨_,aH vs'++rest0,_,lo0⟩,by rw[hB];exact aZ,J⟩
   obtain⟨o1,ho1,he1⟩:=hx;exact hdis o1 ho1 o ho he1) ⟨m1,m2,omc,c1,c4⟩ (jp rl')
 exact hk.run _ G' _ a' w' r3
def QY(fr:aC)(cf:Cf):Option (FuncId×List (Option DV)×Nat):=match c6 fr cf with
 |some ⟨some d, .call ⟨.value fo,args,_⟩,_,_,_,_⟩=>match KN (cd fr cf) fo args with
  |some (f,l)=>some (f,l,d)
  |none=>none
 |_=>none
def Wx[fu:Fu]{f:FuncId}{d:Nat}{l:List (Option DV)}{ty:TypeId}{s:Nat}(dso':List DV)(ha:QY fr cf=some (f,l,d))(hF:PB GB prog f (f7 l) s ty [] (fun w=> .tp (pre++ .v (.slice w.a w.n w.c)::post)) dso)(he:dso=dso')
  (hgo:cB tt n fu.n fr own cf (.bx true pre d post) [(d,some (.b ty s dso' true))] [d]=⟨vc,fr',own',cf'⟩)(k:aA prog GB C n Q0 fr' own' cf')
  (hv:autoParam (ak vc) fn._auto_1):aA prog GB C n Q0 fr own cf:=by
 subst he;unfold QY at ha;split at ha<;>try (cases ha;done)
 rename_i hh;split at ha<;>cases ha;rename_i h1;exact us hh (aws h1 hF) hgo hv k
end
section
variable {fr:Fr}{own own':List aB}
variable {gd:Option (Nat×Bool)}{e s:Nat}
def aIE[hT:cD P t e s by_]{z:Value}[hz:gv P e z]{k k':IntKind}{l:Int}(hx:aD fr x=some (.int k 0))(hy:aD fr y=some (.int k' l))(h0:0<=l)(hb:by_*l<=2^47)(hl:l<=2^60)(hs:(aG z).length=s)(hd:cg n dst=true)
  (h: ∀b,St C n (put fr dst (.slice (some ⟨b,0,none⟩) 0 l.toNat)) (⟨b,dH z l.toNat,e,true⟩::own) G Φ):
  Ch P C n fr own G ⟨dst, .makeSlice t x y,ty',pos,af,gd⟩ Φ:=by
 intro a w Q rl;have h1:(Instr.makeSlice t (a.eval x) (a.eval y)).run P w= .ok (.slice (some ⟨w.heap.size,0,none⟩) 0 l.toNat) (w.alloc (.cells ⟨dH z l.toNat⟩ e)):=by
  obtain⟨i,hi,hib⟩:=SC (P:=P) (t:=t) (e:=e) (s:=s) (by_:=by_) w;rw[bC rl.fr hx,bC rl.fr hy];unfold Instr.makeSlice;rw[aP (hT.u w)];simp only[asInt,asIntOf];rw[aP (a:=0) (w':=w) J,aP (a:=l) (w':=w) J,aP hi,hib];have hw:IntKind.i64.wrap l=l:=uE okS;have hw0:IntKind.i64.wrap 0=0:=J;simp only[hw,hw0];have c1: ¬((by_:Int)*l>2^48):=by
   have:(2:Int)^47<=2^48:=by decide
   omega
  have c5:decide ((by_:Int)*l>2^48)=false:=decide_eq_false c1;have c2:decide (l<0)=false:=decide_eq_false we;have c4:decide ((0:Int)>l)=false:=by simp;omega
  simp only[c2,c4,c5,Bool.false_or,Int.lt_irrefl,decide_false,Bool.or_false,lQ,if_false];have hr: ¬(l.toNat*by_>roomBytes):=by
   unfold roomBytes;have:((l.toNat*by_:Nat):Int)=by_*l:=by rw[jQ,qT h0,uV]
   have h47:((2^47:Nat):Int)=2^47:=by decide
   omega
  unfold askRoom;simp only[hr,if_false];rw[aP (run_pure _ _ _),aP (hT.siz w)];have hn:l.toNat*s=l.toNat*(aG z).length:=by rw[hs]
  by_cases h00:l.toNat*s=0
  .rw[if_pos h00,aP (run_pure _ _ _)]
   have e0:dH z l.toNat=[]:=cJ (by rw[pu,hs];exact h00);rw[h00,e0,show(Array.range 0)= #[] from J,Array.map_empty];rfl
  .rw[if_neg h00,aP (hz.zero w),pO]
   rw[aP (run_pure _ _ _),AZ hn];rfl
 refine kO (v:= .slice (some ⟨w.heap.size,0,none⟩) 0 l.toNat) (c7 h1) (h w.heap.size _ _ ((rl.heap (rl.h.alloc _ _)).put _ hd))
def sr(G:Gh)(ov:List aB):Gh:=fun b=>match G b with
 |some cs=>some cs
 |none=>(ov.find? fun o=>Nat.beq o.b b).map (·.cs)
def HL:bI G (sr G ov):=fun b cs h=>by unfold sr;rw[h]
def Q5{o:aB}: ∀{ov:List aB},o∈ov->ov.Pairwise (fun x y=>x.b≠y.b)->ov.find? (fun u=>Nat.beq u.b o.b)=some o
 |u::t,ho,nd=>by
  rcases aW.1 ho with rfl|ho
  .rw[List.find?_cons_of_pos omc]
  .have:=(bY.1 nd).1 o ho
   rw[List.find?_cons_of_neg (by simpa using this)];exact Q5 ho (bY.1 nd).2
def W4{o:aB}(ho:o∈ov)(hn:G o.b=none)(nd:ov.Pairwise (fun x y=>x.b≠y.b)):sr G ov o.b=some o.cs:=by
 unfold sr;rw[hn,Q5 ho nd];rfl
def bH.lendSub(h:bH C ov G w)(b:Nat)(cs:List Value)(hb:sr G ov b=some cs): ∃ty fz,w.heap[b]? =some (.cells ⟨cs⟩ ty fz):=by
 unfold sr at hb;split at hb
 .rename_i hg;cases hb;exact h.sub _ _ hg
 .cases hf:ov.find? (fun o=>Nat.beq o.b b) with
  |none=>rw[hf] at hb;cases hb
  |some o=>
   rw[hf] at hb;cases hb;have e:o.b=b:=aN (by simpa using List.find?_some hf);subst e;exact⟨_,_,(h.hown o (List.mem_of_find?_eq_some hf)).1⟩
def bH.lent(h:bH C ov G w)(k:bH ⟨w,sr G ov,[],[],[],none,fun _=>none⟩ [] G' w'):bH C ov G w':=by
 have same: ∀b o,w.heap[b]? =some o->w'.heap[b]? =some o:=fun b o hb=>by rw[k.keep b (iO hb) omc];exact hb
 have hsz:w.heap.size<=w'.heap.size:=k.size;refine⟨k.os.trans h.os,k.tape.trans h.tape,k.output.trans h.output,cN h.size hsz,fun b hb hm=>?_,fun b cs hb=>?_,h.gle,h.gold,fun o ho=>?_,h.nd,cN h.dr k.dr,fun p hp=>⟨(h.ext p hp).1,same _ _ (h.ext p hp).2⟩⟩
 .have:=h.size;rw[k.keep b omP omc];exact h.keep b hb hm
 .obtain⟨ty,fz,h1⟩:=h.sub b cs hb;exact⟨ty,fz,same _ _ h1⟩
 .obtain⟨h1,h2⟩:=h.hown o ho;exact⟨same _ _ h1,h2⟩
def YQ{f:FuncId}{K:Value->Gh->Prop}(ho:aD fr fo=some (.func (.func f) #[] #[]))(hv:fG fr args.toList=some vs)
  (hF:Fn P f vs (sr G own) K)(hd:cg n dst=true)(h: ∀v (G':Gh),K v G'->St C n (put fr dst v) own G Φ):Ch P C n fr own G ⟨dst, .call ⟨.value fo,args,tys⟩,ty',pos,af,gd⟩ Φ:=by
 intro a w Q rl;have h2:=D6 (c1:=[]) (c2:=[]) (P:=P) (dst:=dst) (ty':=ty') (pos:=pos) (af:=af) (gd:=gd) (tys:=tys) (w:=w) hF.able rl.fr ho hv;rw[kV,gX] at h2;simp only[Oper.wp,h2,Oper.upon];refine(hF.run w rl.h.lendSub).mono ?_;rintro e w' ⟨v,G',rfl,hh,hK⟩;exact h v G' hK _ _ ((rl.heap (rl.h.lent hh)).put _ hd)
end
def DV.np:DV->Bool
 | .v _=>true
 | .tp l=>l.all fun d=>match d with
  | .v _=>true
  |_=>false
 |_=>false
def OK{A G:Gh}: ∀{l:List DV} {m:List Value},(l.all fun d=>match d with| .v _=>true|_=>false)=true->IsLs A l m->IsLs G l m
 |[],m,_,k=>dm.2 (dm.1 k)
 |d::t,m,h,k=>by
  obtain⟨y,n,rfl,k1,k2⟩:=bh.1 k;simp only[tZ,bW] at h;refine .cons ?_ (OK h.2 k2)
  cases d with
  |v x=>exact aI.2 (aI.1 k1)
  |_=>simp at h
def Is.np{d:DV}{y:Value}(h:d.np=true)(k:Is A d y):Is G d y:=by
 cases d with
 |v x=>exact aI.2 (aI.1 k)
 |tp l=>obtain⟨m,e,k⟩:=mo.1 k;exact mo.2 ⟨m,e,OK h k⟩
 |_=>cases h
section
variable {own:aO}
variable {gd:Option (Nat×Bool)}{e s:Nat}
def OU:Option Bk->Option (List DV)
 |some (.b _ _ ds _)=>some ds
 |some (.c _ _ ds _)=>some ds
 |_=>none
def Jt(lk:LK)(bk:BM)(x:Operand):Option DV:=match bj lk x with
 |some (.rw nm)=>match OU (bk nm) with
  |some ds=>some (.sl ds)
  |none=>none
 |some f=>ke f
 |none=>none
def Dv(lk:LK)(bk:BM):List Operand->Option (List DV)
 |[]=>some []
 |x::t=>match Jt lk bk x,Dv lk bk t with
  |some d,some l=>some (d::l)
  |_,_=>none
def aEY(r:bP GB C n lk bk ρ G ov a w){d:DV}(h:Jt lk bk x=some d): ∃y,aD (cp a) x=some y/\Is (sr G ov) d y:=by
 unfold Jt at h;split at h
 .rename_i nm h1
  obtain⟨y,h2,h3⟩:=r.ev h1
  cases (show y=_ from h3)
  refine⟨_,h2,?_⟩;split at h<;>cases h;rename_i ds hr;obtain⟨ty,s,vs,B,hB,hv,hs,hBo⟩: ∃ty s vs B,io s ty (ρ nm) vs B/\IsLs G ds vs/\(∀v∈vs,(aG v).length=s)/\ ∀o∈B,o∈ov:=by
   unfold OU at hr;split at hr<;>cases hr
   .rename_i hb;obtain⟨B,⟨vs,h4,h5,h6,_⟩,h7⟩:=r.bx _ _ hb;exact⟨_,_,vs,B,h4,h5,h6,h7⟩
   .rename_i hb;obtain⟨B,⟨vs,h4,h5,h6,_⟩,h7⟩:=r.bx _ _ hb;exact⟨_,_,vs,B,h4,h5,h6,h7⟩
  rcases hB with⟨e1,e2,e3⟩|⟨b,rest,lo',e2,e3,h5,h6,h7⟩
  .subst e1
   have ed:ds=[]:=cJ (by rw[<-hv.len];rfl);subst ed;rw[e2];exact gr.2 ⟨0,⟨none,0,0⟩,[],J, .nil _ 0, .nil⟩
  .subst e3
   have ho:=hBo _ aZ;have hg:=W4 ho (r.h.hown _ ho).2.1 r.h.nd;rw[e2];exact gr.2 ⟨s,⟨some ⟨b,0,none⟩,vs.length,_⟩,vs,J,gp.of_flat hs hg h7,hv.up HL⟩
 .rename_i h1
  obtain⟨y,h2,h3⟩:=r.ev h1;exact⟨y,h2,(nq h3 h).up HL⟩
 .cases h
def Qf(r:bP GB C n lk bk ρ G ov a w): ∀{l:List Operand} {ds:List DV},Dv lk bk l=some ds-> ∃vs,fG (cp a) l=some vs/\IsLs (sr G ov) ds vs
 |[],ds,e=>by cases e;exact⟨[],J, .nil⟩
 |x::t,ds,e=>by
  simp only[Dv] at e;split at e<;>cases e;rename_i h1 h2;obtain⟨y,h3,h4⟩:=aEY r h1;obtain⟨vs,h5,h6⟩:=Qf r h2;exact⟨y::vs,by simp only[fG,h3,h5], .cons h4 h6⟩
def Lu(lk:LK)(bk:BM)(fo:Operand)(args:Array Operand):Option (FuncId×List DV):=match bj lk fo with
 |some (.d (.v (.func (.func f) ⟨[]⟩ ⟨[]⟩)))=>match Dv lk bk args.toList with
  |some ds=>some (f,ds)
  |none=>none
 |_=>none
def Yi{f:FuncId}{ds:List DV}(ha:Lu lk bk fo args=some (f,ds))(hnp:rv.np=true)(hF:PF GB prog f ds rv):b8 prog GB C n lk bk ⟨dst, .call ⟨.value fo,args,tys⟩,ty',pos,af,gd⟩ (.d rv) [] []:=by
 intro hd tl tb K' s1 s2 hf hk;refine⟨fun ρ G ov a w r Q=>?_⟩;have r1:=r.mono s1 s2;unfold Lu at ha;split at ha<;>try (cases ha;done)
 rename_i h1;split at ha<;>cases ha;rename_i h2;obtain⟨y,hy,hy'⟩:=r1.ev h1;rw[(aI (G:=G)).1 hy'] at hy;obtain⟨vs,h3,h4⟩:=Qf r1 h2;refine YQ hy h3 (hF _ vs (r.gb.trans HL) h4) hd (fun v G' hK a' w' rl=>?_) a w Q ⟨r.h,r.sz,cC a,r.df⟩;exact hk.run ρ G ov a' w' ⟨r.gb,rl.h,rl.sz,rl.df,(jp rl).fx (fun k g _ e=>r.fx k g e) (Is.np hnp hK),r.bx,r.dj,r.fxd⟩
def Qz(fr:aC)(own:aO)(cf:Cf):Option (FuncId×List DV):=match c6 fr cf with
 |some ⟨_, .call ⟨.value fo,args,_⟩,_,_,_,_⟩=>Lu (cd fr cf) (jk fr own cf) fo args
 |_=>none
def cL[fu:Fu]{f:FuncId}{ds:List DV}(ha:Qz fr own cf=some (f,ds))(hF:PF GB prog f ds rv)(hnp:rv.np=true)(hgo:cB tt n fu.n fr own cf (.d rv) [] []=⟨vc,fr',own',cf'⟩)(k:aA prog GB C n Q0 fr' own' cf')
  (hv:ak vc:=by first|exact trivial|(simp only[ak];kernel_rfl)|(simp only[ak];omega)):aA prog GB C n Q0 fr own cf:=by
 unfold Qz at ha;split at ha<;>try (cases ha;done)
 rename_i hh;exact us hh (Yi ha hnp hF) hgo hv k
def aJ1{d:Nat}{i:TI}{z:DV}{k:IntKind}[hT:cD prog t e s by_](hi:fw prog e=some i)(hz:oD i=some z)(hs:Nat.beq z.cells.length s=true)(hx:bj lk x=some (.d (.v (.int k 0))))(hy:bj lk y=some (.d (.v (.int k' (cap:Nat)))))(hb:by_*cap<=140737488355328)(hl:cap<=1152921504606846976):
  b8 prog GB C n lk bk ⟨some d, .makeSlice t x y,ty',pos,af,gd⟩ (.rw d) [(d,some (.c e s [] cap))] [d]:=by
 intro hd tl tb K s1 s2 hf hk;refine⟨fun ρ G ov a w r Q=>?_⟩;obtain⟨v,hz1,hz2,hz3⟩:=yt hi hz;obtain⟨q1,p1,p2⟩:=(r.mono s1 s2).ev hx;obtain⟨q2,p3,p4⟩:=(r.mono s1 s2).ev hy;rw[dk] at p2 p4;subst p2 p4;have c1:=((hz2 G).cells hz3).1.len;replace hs:=aN hs;refine aIE p1 p3 we (by have:((by_*cap:Nat):Int)=by_*cap:=jQ ..;omega) we (by rw[c1,hs]) hd (fun b a' w' rl=>?_) a w Q ⟨r.h,r.sz,cC a,r.df⟩;rw[cK] at rl;have hnd:=(bY.1 rl.h.nd).1;refine hk.run _ _ _ a' w' (r.new' (x:=⟨some ⟨b,0,none⟩,0,cap⟩) (B':= .c e s [] cap) (os:=[⟨b,dH v cap,e,true⟩]) (f:= .rw d) (y:= .slice (some ⟨b,0,none⟩) 0 cap) hf (bI.refl _) rl.h ⟨[], .inr ⟨b,dH v cap,true,omc,J,by simp[aH],?_,omc⟩, .nil,omc,fun o ho=>by rw[aR.1 ho],omc⟩
  (fun o ho=>by rw[aR.1 ho];exact aZ) (fun m B' _ _ o ho _=>⟨aJ _ ho,fun e'=>by cases e';exact hnd o ho J⟩) ozd (jp rl))
 rw[pu,c1,hs];simp[aH]
def aKo{d nm:Nat}{ds ds2:List DV}[hT:cD prog t e s by_][hN:j0 prog t'](hx:bj lk x=some (.rw nm))(hb:bk nm=some (.c e s ds cap))(hy:rB lk bk s y=some ds2)(hk2:cI s ds2)(hc:ds.length+ds2.length<=cap)(hp:0<ds2.length)(hnd:Nat.beq nm d=false):
  b8 prog GB C n lk bk ⟨some d, .call ⟨.builtin .append, #[x,y], #[t,t']⟩,ty',pos,af,gd⟩ (.rw d) [(nm,none),(d,some (.c e s (ds++ds2) cap))] [d]:=by
 intro hd tl tb K s1 s2 hf hk;refine⟨fun ρ G ov a w r Q=>?_⟩;have r1:=r.mono s1 s2;have hne:nm≠d:=fun e=>by subst e;simp at hnd
 obtain⟨u,hx',hx2⟩:=r1.ev hx
 cases hx2
 obtain⟨B,⟨vs,hB,hv,hvs,hlo,hcap⟩,hBo⟩:=r1.bx _ _ hb;obtain⟨w2,us,hy',h2,h3,h4,h5,h6⟩:=BG (P:=prog) (C:=C) r1 hy hk2;have hus:(aH us).length=us.length*s:=fp us h4;have hl1:=hv.len;have hl2:=h3.len;have rd:=r.dropB nm;have hf':kE [d] (some d) tl (Sx.upB tb [(nm,none)]):=fun m hm=>by
  obtain⟨g1,g2⟩:=hf m hm;refine⟨g1,fun k B' hk e=>g2 k B' hk ?_⟩;simp only[Sx.upB] at e;split at e
  .cases e
  .exact e
 rcases hB with⟨e1,e2,e3⟩|⟨b,rest,lo',k3,k4,k5,k6,k7⟩
 .rw[e2] at hcap;simp at hcap;omega
 subst k4;have hl':=hlo _ aZ;simp only at hl';subst hl';have ha:(ρ nm).a=some ⟨b,0,none⟩:=by rw[k3]
 have hn:(ρ nm).n=vs.length:=by rw[k3]
 rw[ha,hn] at hx';rw[h2] at hy' h6;have hin:=hBo _ aZ;obtain⟨l1,l2,e5⟩:=mN hin;have hperm:ov.Perm (⟨b,aH vs++rest,e,true⟩::(l1++l2)):=by rw[e5];exact pQ
 have hall: ∀v∈vs++us,(aG v).length=s:=fun v hv=>by
  rcases bX.1 hv with hv|hv
  .exact hvs v hv
  .exact h4 v hv
 have hcs:(aH vs++rest).length=(ρ nm).c*s:=by rw[aY];exact k6
 have hroom:vs.length+us.length<=(ρ nm).c:=by omega
 have hmul:(vs.length+us.length)*s<=(ρ nm).c*s:=bR _ hroom;rw[dY] at hmul;have hrest:us.length*s<=rest.length:=by rw[k5] at k6;omega
 have hovw:cH (aH vs++rest) (vs.length*s) (aH us)=aH (vs++us)++rest.drop (us.length*s):=by
  rw[rE _ _ _ (by rw[hus,aY];omega),oE,<-k5];simp[hus,nT,dV]
 refine PO (P:=prog) (own:=⟨b,aH vs++rest,e,true⟩::(l1++l2)) (m:=us.length) (ys:=aH us) hx' hy' (.hd ..) hcs (fun w hh=>h6 w (hh.perm hperm.symm)) hus h5 hroom hd (fun a' w' rl=>?_) a w Q ⟨r.h.perm hperm,r.sz,cC a,r.df⟩;rw[hovw] at rl;have hnd':=(bY.1 rl.h.nd).1;refine hk.run _ _ _ a' w' (rd.new' (x:=⟨some ⟨b,0,none⟩,vs.length+us.length,(ρ nm).c⟩) (B':= .c e s (ds++ds2) cap) (os:=[⟨b,aH (vs++us)++rest.drop (us.length*s),e,true⟩]) (f:= .rw d) (y:= .slice (some ⟨b,0,none⟩) (vs.length+us.length) (ρ nm).c) hf' (bI.refl _) rl.h
  ⟨vs++us, .inr ⟨b,rest.drop (us.length*s),true,omc,J,fp _ hall,?_,by simpa using hroom⟩,hv.app h3,hall,fun o ho=>by rw[aR.1 ho],by simpa using hcap⟩ (fun o ho=>by rw[aR.1 ho];exact aZ)
  (fun m B' hm e' o ho hmo=>?_) ozd (jp rl))
 .rw[fp _ hall,aY,gW,dY]
  simp only[if_true];rw[k5] at k6;omega
 .have hmn:m≠nm/\tb m=some B':=by
   simp only[Sx.upB] at e';split at e'
   .cases e'
   .exact⟨ome,e'⟩
  have hob:o.b≠b:=fun e6=>r.dj m nm B' _ hmn.2 (s2 _ _ hb) hmn.1 b (by rw[hmo,e6]) ha;refine⟨?_,fun e6=>by cases e6;exact hob J⟩;rcases aW.1 (hperm.mem_iff.1 ho) with rfl|ho
  .exact absurd J hob
  .exact aJ _ ho
end
end Go.Sx
end
