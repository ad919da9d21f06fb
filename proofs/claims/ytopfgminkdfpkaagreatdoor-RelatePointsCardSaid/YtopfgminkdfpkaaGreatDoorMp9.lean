/- Part 9 of a proof. -/
import Derived.Test.YtopfgminkdfpkaaGreatDoorMp8
set_option linter.unusedSimpArgs false
set_option maxRecDepth 100000
set_option linter.unusedVariables false
section
namespace Go.Sx
open Go Go.Proofs Tryz
section
variable {GB:Gh} {C:Ctx} {n:Nat} {Q0:Exit→Act→World→Prop} {fr fr':FrX} {own own':OwX} {cf cf':Cf} {vc:List Prop} {ops:Array Oper} {o:Oper} {K:List Kt} {r:List Oper}
def opC(fr:FrX)(cf:Cf):Option Oper:=match hdC cf with
 |some (ops,o)=>bif grd ops (lkC fr cf) o.guard then some o else none
 |none=>none
theorem axu(h:opC fr cf=some o): ∃ops,hdC cf=some (ops,o)∧grd ops (lkC fr cf) o.guard=true:=by
 unfold opC at h
 split at h<;>try (cases h;done)
 rename_i ops o' hh
 cases hg:grd ops (lkC fr cf) o'.guard with
 |false=>rw[hg] at h;cases h
 |true=>rw[hg] at h;cases h;exact⟨ops,hh,hg⟩
theorem us{q:Nat}{f:FX}{bl:List (Nat×Option Bk)}{nw:List Nat}(hh:opC fr cf=some o)(h:OpR prog GB C n (lkC fr cf) (bkC fr own cf) o f bl nw)
  (hgo:goA tt n q fr own cf f bl nw=⟨vc,fr',own',cf'⟩)(hv:aag vc)(k:CfS prog GB C n Q0 fr' own' cf'):CfS prog GB C n Q0 fr own cf:=by
 obtain⟨ops,h1,h2⟩:=axu hh
 exact uo h1 h2 h hgo hv k
/-! calls -/
def aFl(fr:FrX)(cf:Cf):Option (FuncId×List DV):=match opC fr cf with
 |some ⟨_, .call ⟨.value fo,args,_⟩,_,_,_,_⟩=>alf (lkC fr cf) fo args
 |_=>none
theorem cl[fu:Fu]{f:FuncId}{ds:List DV}{rv:DV}(ha:aFl fr cf=some (f,ds))(hF:PF GB prog f ds rv)(hgo:goA tt n fu.n fr own cf (.d rv) [] []=⟨vc,fr',own',cf'⟩)(k:CfS prog GB C n Q0 fr' own' cf')
  (hv:aag vc:=by first|exact trivial|(simp only[aag];kernel_rfl)|(simp only[aag];omega)|(simp only[aag,aJ,aN,aY];omega)):CfS prog GB C n Q0 fr own cf:=by
 unfold aFl at ha
 split at ha<;>try (cases ha;done)
 rename_i hh
 exact us hh (atk ha hF) hgo hv k
/-! elements of what is written no more -/
def ixA(fr:FrX)(cf:Cf):Option (List DV×Int×Nat):=match opC fr cf with
 |some ⟨_, .indexAddr t x y,_,_,_,_⟩=>match evD (lkC fr cf) x with
  |some (.sl l)=>match evX (lkC fr cf) y with
   |some (.d (.v (.int _ i)))=>match abk tt t with
    |some ⟨.sl _ s _,_,_,_⟩=>some (l,i,s)
    |_=>none
   |_=>none
  |_=>none
 |_=>none
def ixG(n q:Nat)(fr:FrX)(own:OwX)(cf:Cf)(d:DV)(s:Nat):Res:=bif d.okc&&Nat.beq d.cells.length s then fcL d.cells fun cs=>goA tt n q fr own cf (.ep cs) [] [] else bad
theorem ix[fu:Fu](d:DV){l:List DV}{i:Int}{s:Nat}(h:ixA fr cf=some (l,i,s))(he:l[i.toNat]? =some d)(hgo:ixG n fu.n fr own cf d s=⟨vc,fr',own',cf'⟩)(k:CfS prog GB C n Q0 fr' own' cf')(h0:0≤i:=by omega)
  (hv:aag vc:=by first|exact trivial|(simp only[aag];kernel_rfl)|(simp only[aag];omega)|(simp only[aag,aJ,aN,aY];omega)):CfS prog GB C n Q0 fr own cf:=by
 unfold ixA at h
 split at h<;>try (cases h;done)
 rename_i hh
 split at h<;>try (cases h;done)
 rename_i hx
 split at h<;>try (cases h;done)
 rename_i hy
 split at h<;>cases h
 rename_i hT
 have:=aef (abK _ _ hT) rfl
 unfold ixG at hgo
 cases hc:(d.okc&&Nat.beq d.cells.length s) with
 |false=>simp only[hc,cond_false,bad] at hgo;cases hgo;exact absurd hv (fun x=>x)
 |true=>
  simp only[hc,cond_true,agx] at hgo
  exact us hh (aDi hx hy h0 he hc) hgo hv k
/-! elements of rows -/
structure LbA where
 ds:List DV
 k:Nat
 j:Nat
 ag:Option Nat
def aFd(fr:FrX)(own:OwX)(cf:Cf):Option LbA:=match opC fr cf with
 |some ⟨_, .load t x,_,_,_,_⟩=>match evX (lkC fr cf) x with
  |some (.be nm sz k j)=>match bkC fr own cf nm with
   |some (.b _ s ds _)=>bif Nat.beq s sz then(match abk tt t with
    |some i=>match i.ag with
     |some ag=>some ⟨ds,k,j,ag⟩
     |none=>none
    |none=>none) else none
   |_=>none
  |_=>none
 |_=>none
def aFD(n q:Nat)(fr:FrX)(own:OwX)(cf:Cf)(d:DV)(ag:Option Nat)(j:Nat):Res:=bif d.okc then(match ldE ag d.cells j with
 |some c=>goA tt n q fr own cf (.d c) [] []
 |none=>bad) else bad
theorem lb[fu:Fu](d:DV){ds:List DV}{k' j:Nat}{ag:Option Nat}(h:aFd fr own cf=some ⟨ds,k',j,ag⟩)(he:ds[k']? =some d)(hgo:aFD n fu.n fr own cf d ag j=⟨vc,fr',own',cf'⟩)(k:CfS prog GB C n Q0 fr' own' cf')
  (hv:aag vc:=by first|exact trivial|(simp only[aag];kernel_rfl)|(simp only[aag];omega)|(simp only[aag,aJ,aN,aY];omega)):CfS prog GB C n Q0 fr own cf:=by
 unfold aFd at h
 split at h<;>try (cases h;done)
 rename_i hh
 split at h<;>try (cases h;done)
 rename_i hx
 split at h<;>try (cases h;done)
 rename_i ty s ds' lo hb
 rw[cond_eq_ite] at h
 split at h<;>try (cases h;done)
 rename_i hs
 cases aR hs
 split at h<;>try (cases h;done)
 rename_i hT
 split at h<;>cases h
 rename_i ha
 unfold aFD at hgo
 cases hc:d.okc with
 |false=>simp only[hc,cond_false,bad] at hgo;cases hgo;exact absurd hv (fun x=>x)
 |true=>
  simp only[hc,cond_true] at hgo
  cases hl:ldE ag d.cells j with
  |none=>simp only[hl,bad] at hgo;cases hgo;exact absurd hv (fun x=>x)
  |some c=>simp only[hl] at hgo;exact us hh (aCd (abK _ _ hT) ha hx hb he hc hl) hgo hv k
structure SbA where
 nm:Nat
 ty:TypeId
 s:Nat
 ds:List DV
 lo:Bool
 k:Nat
 j:Nat
 ag:Option Nat
 u:DV
def aFa(fr:FrX)(own:OwX)(cf:Cf):Option SbA:=match opC fr cf with
 |some ⟨_, .store t x y,_,_,_,_⟩=>match evX (lkC fr cf) x with
  |some (.be nm sz k j)=>match bkC fr own cf nm with
   |some (.b ty s ds lo)=>bif Nat.beq s sz then(match abk tt t with
    |some i=>match i.ag with
     |some ag=>match evD (lkC fr cf) y with
      |some u=>some ⟨nm,ty,s,ds,lo,k,j,ag,u⟩
      |none=>none
     |none=>none
    |none=>none) else none
   |_=>none
  |_=>none
 |_=>none
theorem sb[fu:Fu](d:DV){nm:Nat}{ty:TypeId}{s:Nat}{ds:List DV}{lo:Bool}{k' j:Nat}{ag:Option Nat}{u d':DV}(ds':List DV)(h:aFa fr own cf=some ⟨nm,ty,s,ds,lo,k',j,ag,u⟩)(he:ds[k']? =some d)(hl:stE ag d j u=some d')(hds:ds.set k' d'=ds')
  (hgo:goA tt n fu.n fr own cf .un [(nm,some (.b ty s ds' lo))] []=⟨vc,fr',own',cf'⟩)(k:CfS prog GB C n Q0 fr' own' cf')
  (hv:aag vc:=by first|exact trivial|(simp only[aag];kernel_rfl)|(simp only[aag];omega)|(simp only[aag,aJ,aN,aY];omega)):CfS prog GB C n Q0 fr own cf:=by
 unfold aFa at h
 split at h<;>try (cases h;done)
 rename_i hh
 split at h<;>try (cases h;done)
 rename_i hx
 split at h<;>try (cases h;done)
 rename_i hb
 rw[cond_eq_ite] at h
 split at h<;>try (cases h;done)
 rename_i hs
 cases aR hs
 split at h<;>try (cases h;done)
 rename_i hT
 split at h<;>try (cases h;done)
 rename_i ha
 split at h<;>cases h
 rename_i hy
 exact us hh (aDj (abK _ _ hT) ha hx hb hy he hl hds) hgo hv k
/-! rows made -/
structure MkA where
 d:Nat
 e:Nat
 s:Nat
 b:Nat
 z:DV
 l:Int
def mkA(fr:FrX)(cf:Cf):Option MkA:=match opC fr cf with
 |some ⟨some d, .makeSlice t x y,_,_,_,_⟩=>match evX (lkC fr cf) x with
  |some (.d (.v (.int _ l)))=>match abk tt t with
   |some ⟨.sl e s b,_,_,_⟩=>match abk tt e with
    |some i=>match zeE i with
     |some z=>bif Nat.beq z.cells.length s then some ⟨d,e,s,b,z,l⟩ else none
     |none=>none
    |none=>none
   |_=>none
  |_=>none
 |_=>none
theorem mk[fu:Fu]{d e s b:Nat}{z:DV}{l:Int}{k':IntKind}(ds:List DV)(h:mkA fr cf=some ⟨d,e,s,b,z,l⟩)(hy:(match opC fr cf with|some ⟨_, .makeSlice _ _ y,_,_,_,_⟩=>evX (lkC fr cf) y|_=>none)=some (.d (.v (.int k' l))))(hds:List.replicate l.toNat z=ds)
  (hgo:goA tt n fu.n fr own cf (.rw d) [(d,some (.b e s ds true))] [d]=⟨vc,fr',own',cf'⟩)(k:CfS prog GB C n Q0 fr' own' cf')(h0:0≤l:=by omega)(hb:b*l≤140737488355328:=by omega)(hl:l≤1152921504606846976:=by omega)
  (hv:aag vc:=by first|exact trivial|(simp only[aag];kernel_rfl)|(simp only[aag];omega)|(simp only[aag,aJ,aN,aY];omega)):CfS prog GB C n Q0 fr own cf:=by
 unfold mkA at h
 split at h<;>try (cases h;done)
 rename_i hh
 split at h<;>try (cases h;done)
 rename_i hx
 split at h<;>try (cases h;done)
 rename_i hT
 split at h<;>try (cases h;done)
 rename_i hi
 split at h<;>try (cases h;done)
 rename_i hz
 rw[cond_eq_ite] at h
 split at h<;>cases h
 rename_i hs
 rw[hh] at hy
 have:=aef (abK _ _ hT) rfl
 exact us hh (ayO (abK _ _ hi) hz hs hx hy h0 hb hl hds) hgo hv k
structure RwA where
 d:Nat
 e:Nat
 s:Nat
 ds:List DV
def aDB(fr:FrX)(cf:Cf):Option RwA:=match opC fr cf with
 |some ⟨some d, .buildSlice t len parts,_,_,_,_⟩=>match abk tt t with
  |some ⟨.sl e s _,_,_,_⟩=>match abk tt e with
   |some i=>match zeE i with
    |some z=>match aAM (lkC fr cf) 0 parts.toList with
     |some ds=>bif Nat.beq z.cells.length s&&(axh s ds&&(Nat.beq parts.toList.length len&&(Nat.ble (len*s) 1000&&Nat.blt 0 (len*s)))) then some ⟨d,e,s,ds⟩ else none
     |none=>none
    |none=>none
   |none=>none
  |_=>none
 |_=>none
theorem at7{d e s:Nat}{ds:List DV}(h:aDB fr cf=some ⟨d,e,s,ds⟩): ∃o,opC fr cf=some o∧o.dst=some d∧OpR prog GB C n (lkC fr cf) (bkC fr own cf) o (.rw d) [(d,some (.b e s ds true))] [d]:=by
 unfold aDB at h
 split at h<;>try (cases h;done)
 rename_i hh
 split at h<;>try (cases h;done)
 rename_i hT
 split at h<;>try (cases h;done)
 rename_i hi
 split at h<;>try (cases h;done)
 rename_i hz
 split at h<;>try (cases h;done)
 rename_i hr
 rw[cond_eq_ite] at h
 split at h<;>cases h
 rename_i hc
 simp only[cJ] at hc
 have:=aef (abK _ _ hT) rfl
 exact⟨_,hh,rfl,aBm (abK _ _ hi) hz hc.1 hr hc.2.1 hc.2.2.1 hc.2.2.2.1 hc.2.2.2.2⟩
theorem ro[fu:Fu]{d e s:Nat}{ds:List DV}(h:aDB fr cf=some ⟨d,e,s,ds⟩)(hgo:goA tt n fu.n fr own cf (.rw d) [(d,some (.b e s ds true))] [d]=⟨vc,fr',own',cf'⟩)(k:CfS prog GB C n Q0 fr' own' cf')
  (hv:aag vc:=by first|exact trivial|(simp only[aag];kernel_rfl)|(simp only[aag];omega)|(simp only[aag,aJ,aN,aY];omega)):CfS prog GB C n Q0 fr own cf:=by
 obtain⟨o,h1,_,h3⟩:=at7 (GB:=GB) (C:=C) (n:=n) (own:=own) h
 exact us h1 h3 hgo hv k
theorem rf[fu:Fu]{d e s:Nat}{ds:List DV}(h:aDB fr cf=some ⟨d,e,s,ds⟩)(hgo:goA tt n fu.n fr own cf (.d (.sl ds)) [(d,none)] [d]=⟨vc,fr',own',cf'⟩)(k:CfS prog GB C n Q0 fr' own' cf')
  (hv:aag vc:=by first|exact trivial|(simp only[aag];kernel_rfl)|(simp only[aag];omega)|(simp only[aag,aJ,aN,aY];omega)):CfS prog GB C n Q0 fr own cf:=by
 obtain⟨o,h1,h2,h3⟩:=at7 (GB:=GB) (C:=C) (n:=n) (own:=own) h
 exact us h1 (h3.frzRow h2) hgo hv k
def axH(fr:FrX)(cf:Cf):Option (Nat×Nat×Nat):=match opC fr cf with
 |some ⟨some d, .buildSlice t 0 ⟨[]⟩,_,_,_,_⟩=>match abk tt t with
  |some ⟨.sl e s _,_,_,_⟩=>some (d,e,s)
  |_=>none
 |_=>none
theorem ro0[fu:Fu]{d e s:Nat}(h:axH fr cf=some (d,e,s))(hgo:goA tt n fu.n fr own cf (.rw d) [(d,some (.b e s [] true))] [d]=⟨vc,fr',own',cf'⟩)(k:CfS prog GB C n Q0 fr' own' cf')
  (hv:aag vc:=by first|exact trivial|(simp only[aag];kernel_rfl)|(simp only[aag];omega)|(simp only[aag,aJ,aN,aY];omega)):CfS prog GB C n Q0 fr own cf:=by
 unfold axH at h
 split at h<;>try (cases h;done)
 rename_i hh
 split at h<;>cases h
 rename_i hT
 have:=aef (abK _ _ hT) rfl
 exact us hh aAw hgo hv k
/-! append -/
structure ApA where
 d:Nat
 nm:Option Nat
 e:Nat
 s:Nat
 b:Nat
 ds:List DV
 ds2:List DV
def aDF(fr:FrX)(own:OwX)(cf:Cf):Option ApA:=match opC fr cf with
 |some ⟨some d, .call ⟨.builtin .append,⟨[x,y]⟩,⟨[t,t']⟩⟩,_,_,_,_⟩=>match abk tt t with
  |some ⟨.sl e s b,_,_,_⟩=>match abk tt t' with
   |some ⟨.sl _ _ _,_,_,_⟩=>match abk tt e with
    |some i=>match zeE i with
     |some z=>bif Nat.beq z.cells.length s&&Nat.blt 0 b then(match at3 (lkC fr cf) (bkC fr own cf) s y with
      |some ds2=>match evX (lkC fr cf) x with
       |some (.rw nm)=>match bkC fr own cf nm with
        |some (.b e' s' ds true)=>bif (Nat.beq e' e&&Nat.beq s' s)&&!Nat.beq nm d then some ⟨d,some nm,e,s,b,ds,ds2⟩ else none
        |_=>none
       |some (.ct ds)=>some ⟨d,none,e,s,b,ds,ds2⟩
       |some .nl=>some ⟨d,none,e,s,b,[],ds2⟩
       |_=>none
      |none=>none) else none
     |none=>none
    |none=>none
   |_=>none
  |_=>none
 |_=>none
def aBl(d:Nat)(nm:Option Nat)(B:Bk):List (Nat×Option Bk):=match nm with
 |some nm=>[(nm,none),(d,some B)]
 |none=>[(d,some B)]
theorem atE{d:Nat}{nm:Option Nat}{e s b:Nat}{ds ds2:List DV}(h:aDF fr own cf=some ⟨d,nm,e,s,b,ds,ds2⟩)(ds':List DV)(hds:ds++ds2=ds')(ho:nm.isNone=true→ads s ds∧0<ds2.length)(ho2:ads s ds2)(hbd:(ds.length+ds2.length)*b≤140737488355328):
  ∃o,opC fr cf=some o∧o.dst=some d∧OpR prog GB C n (lkC fr cf) (bkC fr own cf) o (.rw d) (aBl d nm (.b e s ds' true)) [d]:=by
 unfold aDF at h
 split at h<;>try (cases h;done)
 rename_i hh
 split at h<;>try (cases h;done)
 rename_i hT
 split at h<;>try (cases h;done)
 rename_i hT'
 split at h<;>try (cases h;done)
 rename_i hi
 split at h<;>try (cases h;done)
 rename_i hz
 rw[cond_eq_ite] at h
 split at h<;>try (cases h;done)
 rename_i hc
 simp only[cJ] at hc
 split at h<;>try (cases h;done)
 rename_i hy
 have:=aef (abK _ _ hT) rfl
 have hN:TyN prog _:=⟨_,(aef (abK _ _ hT') rfl).un⟩
 refine⟨_,hh,?_⟩
 split at h<;>try (cases h;done)
 ·rename_i hx
  split at h<;>try (cases h;done)
  rename_i hb
  rw[cond_eq_ite] at h
  split at h<;>cases h
  rename_i hq
  simp only[cJ,gX] at hq
  cases aR hq.1.1
  cases aR hq.1.2
  exact⟨rfl,azC (abK _ _ hi) hz hc.1 hx hb hy ho2 hc.2 hbd hq.2 hds⟩
 ·rename_i hx
  cases h
  obtain⟨h1,h2⟩:=ho rfl
  exact⟨rfl,at9 (abK _ _ hi) hz hc.1 (.inl hx) h1 hy ho2 h2 hc.2 hbd hds⟩
 ·rename_i hx
  cases h
  obtain⟨h1,h2⟩:=ho rfl
  exact⟨rfl,at9 (abK _ _ hi) hz hc.1 (.inr ⟨hx,rfl⟩) h1 hy ho2 h2 hc.2 hbd hds⟩
theorem ap[fu:Fu]{d:Nat}{nm:Option Nat}{e s b:Nat}{ds ds2:List DV}(ds':List DV)(h:aDF fr own cf=some ⟨d,nm,e,s,b,ds,ds2⟩)(hds:ds++ds2=ds')(ho2:ads s ds2)(hgo:goA tt n fu.n fr own cf (.rw d) (aBl d nm (.b e s ds' true)) [d]=⟨vc,fr',own',cf'⟩)(k:CfS prog GB C n Q0 fr' own' cf')
  (ho:nm.isNone=true→ads s ds∧0<ds2.length:=by intro h;first|(cases h;done)|exact⟨ahK rfl,by simp⟩)(hbd:(ds.length+ds2.length)*b≤140737488355328:=by simp;omega)
  (hv:aag vc:=by first|exact trivial|(simp only[aag];kernel_rfl)|(simp only[aag];omega)|(simp only[aag,aJ,aN,aY];omega)):CfS prog GB C n Q0 fr own cf:=by
 obtain⟨o,h1,_,h3⟩:=atE (GB:=GB) (C:=C) (n:=n) h ds' hds ho ho2 hbd
 exact us h1 h3 hgo hv k
/-! slices -/
def aE9(fr:FrX)(cf:Cf):Option (List DV×Int×Int×Nat×Bool):=match opC fr cf with
 |some ⟨_, .slice t x lo hi mx,_,_,_,_⟩=>match evD (lkC fr cf) x with
  |some (.sl l)=>match abk tt t with
   |some ⟨.sl _ s _,_,_,_⟩=>match bdX (lkC fr cf) 0 lo,bdX (lkC fr cf) l.length hi with
    |some i,some j=>match mx with
     |none=>some (l,i,j,s,false)
     |some _=>none
    |_,_=>none
   |_=>none
  |_=>none
 |_=>none
theorem sc'[fu:Fu]{l:List DV}{i j:Int}{s:Nat}(nlo nhi:Nat)(ls:List DV)(h:aE9 fr cf=some (l,i,j,s,false))(ei:i=nlo)(ej:j=nhi)(hls:(l.take nhi).drop nlo=ls)(ho:ads s l)(h1:nlo≤nhi)(h2:nhi≤l.length)
  (hgo:goA tt n fu.n fr own cf (.d (.sl ls)) [] []=⟨vc,fr',own',cf'⟩)(k:CfS prog GB C n Q0 fr' own' cf')
  (hv:aag vc:=by first|exact trivial|(simp only[aag];kernel_rfl)|(simp only[aag];omega)|(simp only[aag,aJ,aN,aY];omega)):CfS prog GB C n Q0 fr own cf:=by
 unfold aE9 at h
 split at h<;>try (cases h;done)
 rename_i hh
 split at h<;>try (cases h;done)
 rename_i hx
 split at h<;>try (cases h;done)
 rename_i hT
 split at h<;>try (cases h;done)
 rename_i hi hj
 split at h<;>cases h
 have:=aef (abK _ _ hT) rfl
 subst ei ej hls
 exact us hh (aCe hx ho hi hj h1 h2) hgo hv k
def aFu(fr:FrX)(cf:Cf):Option (List DV×Int×Int×Nat):=match opC fr cf with
 |some ⟨_, .slice t x none (some hi) (some mx),_,_,_,_⟩=>match evD (lkC fr cf) x with
  |some (.sl l)=>match abk tt t with
   |some ⟨.sl _ s _,_,_,_⟩=>match bdX (lkC fr cf) 0 (some hi),bdX (lkC fr cf) 0 (some mx) with
    |some i,some j=>some (l,i,j,s)
    |_,_=>none
   |_=>none
  |_=>none
 |_=>none
theorem s3[fu:Fu]{l:List DV}{i j:Int}{s:Nat}(nhi:Nat)(ls:List DV)(h:aFu fr cf=some (l,i,j,s))(ei:i=nhi)(ej:j=nhi)(hls:l.take nhi=ls)(ho:ads s l)(h2:nhi≤l.length)
  (hgo:goA tt n fu.n fr own cf (.ct ls) [] []=⟨vc,fr',own',cf'⟩)(k:CfS prog GB C n Q0 fr' own' cf')
  (hv:aag vc:=by first|exact trivial|(simp only[aag];kernel_rfl)|(simp only[aag];omega)|(simp only[aag,aJ,aN,aY];omega)):CfS prog GB C n Q0 fr own cf:=by
 unfold aFu at h
 split at h<;>try (cases h;done)
 rename_i hh
 split at h<;>try (cases h;done)
 rename_i hx
 split at h<;>try (cases h;done)
 rename_i hT
 split at h<;>cases h
 rename_i hi hj
 have:=aef (abK _ _ hT) rfl
 subst ei ej hls
 exact us hh (azb hx ho hi hj h2) hgo hv k
def aFy(fr:FrX)(cf:Cf):Option (Nat×List DV):=match opC fr cf with
 |some ⟨some d, .box _ x,_,_,_,_⟩=>match evX (lkC fr cf) x with
  |some f=>bif f.okc&&aAT f d then(match ael f.cells with
   |some l=>some (d,l)
   |none=>none) else none
  |none=>none
 |_=>none
end
section
variable {GB:Gh} {C:Ctx} {n:Nat} {Q0:Exit→Act→World→Prop} {fr fr':FrX} {own own':OwX} {cf cf':Cf} {vc:List Prop} {ops:Array Oper} {o:Oper} {K:List Kt} {r:List Oper}
/-! ### names anew -/
def rnN(x y m:Nat)(k:Option Nat):Option Nat:=bif Nat.beq m x then some y else bif Nat.beq m y then none else k
def rnX(x y:Nat):FX→FX
 | .rw m=>bif Nat.beq m x then .rw y else bif Nat.beq m y then .no else .rw m
 | .ov m o=>bif Nat.beq m x then .ov y o else bif Nat.beq m y then .no else .ov m o
 | .be m s i j=>bif Nat.beq m x then .be y s i j else bif Nat.beq m y then .no else .be m s i j
 | .rs m s i j=>bif Nat.beq m x then .rs y s i j else bif Nat.beq m y then .no else .rs m s i j
 | .bx tp pre m post=>bif Nat.beq m x then .bx tp pre y post else bif Nat.beq m y then .no else .bx tp pre m post
 |f=>f
def rnB(x y:Nat):Option Bk→Option Bk
 |some (.o ty cs lo)=>some (.o ty (cs.map (rnX x y)) lo)
 |B=>B
def rnK(x y k:Nat):Nat:=bif Nat.beq k x then y else bif Nat.beq k y then x else k
def aDG{α:Type}(g:FX→FX):List FX→(List FX→α)→α
 |[],k=>k []
 |f::t,k=>aDG g t fun t'=>fcX (g f) fun f'=>k (f'::t')
theorem ate{α:Type}{g:FX→FX}: ∀{cs:List FX} {k:List FX→α},aDG g cs k=k (cs.map g)
 |[],k=>rfl
 |f::t,k=>by simp only[aDG,aoX];rw[ate];rfl
def aDC{α:Type}(g:FX→FX):FrX→(FrX→α)→α
 |[],k=>k []
 |(j,f)::t,k=>aDC g t fun t'=>fcX (g f) fun f'=>k ((j,f')::t')
theorem aua{α:Type}{g:FX→FX}: ∀{fr:FrX} {k:FrX→α},aDC g fr k=k (fr.map fun e=>(e.1,g e.2))
 |[],k=>rfl
 |(j,f)::t,k=>by simp only[aDC,aoX];rw[aua];rfl
def rnO{α:Type}(x y:Nat):OwX→(OwX→α)→α
 |[],k=>k []
 |(j,B)::t,k=>rnO x y t fun t'=>bif Nat.beq j y then k ((x,none)::t') else match B with
  |some (.o ty cs lo)=>aDG (rnX x y) cs fun cs'=>bif Nat.beq j x then k ((y,some (.o ty cs' lo))::t') else k ((j,some (.o ty cs' lo))::t')
  |B=>bif Nat.beq j x then k ((y,B)::t') else k ((j,B)::t')
theorem ayl{α:Type}{x y:Nat}: ∀{own:OwX} {k:OwX→α},rnO x y own k=k (own.map fun e=>(bif Nat.beq e.1 y then x else bif Nat.beq e.1 x then y else e.1,bif Nat.beq e.1 y then none else rnB x y e.2))
 |[],k=>rfl
 |(j,B)::t,k=>by
  simp only[rnO,ayl (own:=t),bM]
  cases Nat.beq j y with
  |true=>rfl
  |false=>
   cases B with
   |none=>cases Nat.beq j x<;>rfl
   |some B=>cases B<;>cases Nat.beq j x<;>simp only[cond_false,cond_true,ate,rnB]
theorem apH{x y:Nat}(hxy:x≠y): ∀{own:OwX} {k:Nat},aaB (own.map fun e=>(bif Nat.beq e.1 y then x else bif Nat.beq e.1 x then y else e.1,bif Nat.beq e.1 y then none else rnB x y e.2)) k=if k=x then none else if k=y then rnB x y (aaB own x) else rnB x y (aaB own k)
 |[],k=>by simp[aaB,rnB]
 |(j,B)::t,k=>by
  have bq: ∀a b:Nat,Nat.beq a b=decide (a=b):=fun a b=>by
   by_cases h:a=b
   ·subst h;simp
   ·rw[decide_eq_false h]
    cases hb:Nat.beq a b with
    |false=>rfl
    |true=>exact absurd (aR hb) h
  simp only[bM]
  rw[aaK,apH hxy (own:=t),aaK,aaK]
  by_cases h1:j=y
  ·subst h1
   simp only[bq,decide_true,cond_true]
   by_cases h2:k=x
   ·simp[h2]
   ·by_cases h3:k=j
    ·subst h3;simp[h2,Ne.symm h2,hxy]
    ·simp[h2,h3]
  ·by_cases h4:j=x
   ·subst h4
    simp only[bq,h1,decide_false,cond_false,decide_true,cond_true]
    by_cases h2:k=y
    ·subst h2;simp[Ne.symm h1]
    ·by_cases h3:k=j
     ·subst h3;simp[h1]
     ·simp[h2,h3]
   ·simp only[bq,h1,h4,decide_false,cond_false]
    by_cases h2:k=j
    ·subst h2;simp[h1,h4]
    ·by_cases h3:k=x
     ·subst h3;simp[h2]
     ·by_cases h5:k=y
      ·subst h5;simp[h2,h3,Ne.symm h4]
      ·simp[h2,h3,h5]
theorem axA{x y:Nat}(hxy:x≠y){ρ:NE}{G:Gh}{f:FX}{v:Value}(h:IsX ρ G f v):IsX (fun k=>if k=y then ρ x else ρ k) G (rnX x y f) v:=by
 have key: ∀m:Nat,Nat.beq m y=false→(fun k=>if k=y then ρ x else ρ k) m=ρ m:=fun m hm=>if_neg fun e=>by subst e;simp at hm
 cases f with
 |rw m=>
  simp only[rnX]
  cases hb:Nat.beq m x with
  |true=>cases aR hb;simp only[cond_true];show v=_;simp;exact h
  |false=>
   cases hb':Nat.beq m y with
   |true=>trivial
   |false=>simp only[cond_false];show v=_;rw[key m hb'];exact h
 |ov m off=>
  simp only[rnX]
  cases hb:Nat.beq m x with
  |true=>cases aR hb;simp only[cond_true];obtain⟨b,h1,h2⟩:=h;exact⟨b,by simp;exact h1,h2⟩
  |false=>
   cases hb':Nat.beq m y with
   |true=>trivial
   |false=>simp only[cond_false];obtain⟨b,h1,h2⟩:=h;exact⟨b,by rw[key m hb'];exact h1,h2⟩
 |be m s i j=>
  simp only[rnX]
  cases hb:Nat.beq m x with
  |true=>cases aR hb;simp only[cond_true];obtain⟨b,h1,h2⟩:=h;exact⟨b,by simp;exact h1,h2⟩
  |false=>
   cases hb':Nat.beq m y with
   |true=>trivial
   |false=>simp only[cond_false];obtain⟨b,h1,h2⟩:=h;exact⟨b,by rw[key m hb'];exact h1,h2⟩
 |rs m s i j=>
  simp only[rnX]
  cases hb:Nat.beq m x with
  |true=>cases aR hb;simp only[cond_true];obtain⟨b,c,h1,h2⟩:=h;exact⟨b,c,by simp;exact h1,h2⟩
  |false=>
   cases hb':Nat.beq m y with
   |true=>trivial
   |false=>simp only[cond_false];obtain⟨b,c,h1,h2⟩:=h;exact⟨b,c,by rw[key m hb'];exact h1,h2⟩
 |bx tp pre m post=>
  simp only[rnX]
  cases hb:Nat.beq m x with
  |true=>cases aR hb;simp only[cond_true];obtain⟨m1,m2,e,h1,h2⟩:=h;exact⟨m1,m2,by simpa using e,h1,h2⟩
  |false=>
   cases hb':Nat.beq m y with
   |true=>trivial
   |false=>simp only[cond_false];obtain⟨m1,m2,e,h1,h2⟩:=h;exact⟨m1,m2,by rw[key m hb'];exact e,h1,h2⟩
 |_=>exact h
theorem atx{x y:Nat}(hxy:x≠y){ρ:NE}{G:Gh}: ∀{cs:List FX} {m:List Value},adY ρ G cs m→adY (fun k=>if k=y then ρ x else ρ k) G (cs.map (rnX x y)) m
 |[],m,h=>h
 |f::t,m,⟨v,q,e,h1,h2⟩=>⟨v,q,e,axA hxy h1,atx hxy h2⟩
def rnA(x y:Nat)(fr:FrX)(own:OwX):Option FzR:=bif Nat.beq x y then none else aDC (rnX x y) fr fun fr'=>rnO x y own fun own'=>some ⟨fr',own'⟩
theorem aC7{x y:Nat}{Φ:Act→World→Prop}{R:FzR}(h:rnA x y fr own=some R)(hk:SX GB C n (aay R.fr) (aaB R.own) Φ):SX GB C n (aay fr) (aaB own) Φ:=by
 unfold rnA at h
 rw[cond_eq_ite] at h
 split at h<;>try (cases h;done)
 rename_i hb
 have hxy:x≠y:=fun e=>hb (by subst e;simp)
 rw[aua,ayl] at h;cases h
 refine⟨fun ρ G ov a w r=>hk.run (fun k=>if k=y then ρ x else ρ k) G ov a w ?_⟩
 have inv: ∀m B,aaB (own.map fun e=>(bif Nat.beq e.1 y then x else bif Nat.beq e.1 x then y else e.1,bif Nat.beq e.1 y then none else rnB x y e.2)) m=some B→ ∃m0 B0,aaB own m0=some B0∧rnB x y (some B0)=some B∧(m=y∧m0=x∨m≠y∧m≠x∧m0=m):=fun m B e=>by
  rw[apH hxy] at e
  split at e
  ·cases e
  ·rename_i hm
   split at e
   ·cases hl:aaB own x with
    |none=>rw[hl] at e;cases e
    |some B0=>rw[hl] at e;exact⟨x,B0,hl,e, .inl ⟨by assumption,rfl⟩⟩
   ·cases hl:aaB own m with
    |none=>rw[hl] at e;cases e
    |some B0=>rw[hl] at e;exact⟨m,B0,hl,e, .inr ⟨by assumption,hm,rfl⟩⟩
 have rho: ∀m m0,(m=y∧m0=x∨m≠y∧m≠x∧m0=m)→(fun k=>if k=y then ρ x else ρ k) m=ρ m0:=fun m m0 h=>by
  rcases h with⟨h1,h2⟩|⟨h1,_,h2⟩
  ·subst h1 h2;simp
  ·subst h2;exact if_neg h1
 refine⟨r.gb,r.h,r.sz,r.df,fun k f e=>?_,fun m B e=>?_,fun m m' B B' e e' hne=>?_⟩
 ·rw[aln] at e
  cases hf:aay fr k with
  |none=>rw[hf] at e;cases e
  |some g=>
   rw[hf] at e;cases e
   obtain⟨v,h1,h2⟩:=r.fx k g hf
   exact⟨v,h1,axA hxy h2⟩
 ·obtain⟨m0,B0,h1,h2,h3⟩:=inv m B e
  obtain⟨os,h4,h5⟩:=r.bx m0 B0 h1
  refine⟨os,?_,h5⟩
  have hr:=rho m m0 h3
  cases B0 with
  |b=>cases h2;obtain⟨vs,q1,q2,q3,q4⟩:=h4;exact⟨vs,by rw[hr];exact q1,q2,q3,q4⟩
  |c=>cases h2;obtain⟨vs,q1,q2,q3,q4,q5⟩:=h4;exact⟨vs,by rw[hr];exact q1,q2,q3,q4,by rw[hr];exact q5⟩
  |o ty cs lo=>cases h2;obtain⟨b,q,q1,q2,q3⟩:=h4;exact⟨b,q,by rw[hr];exact q1,q2,atx hxy q3⟩
 ·obtain⟨m0,B0,h1,_,h3⟩:=inv m B e
  obtain⟨m1,B1,h4,_,h6⟩:=inv m' B' e'
  have q1:=rho m m0 h3
  have q2:=rho m' m1 h6
  simp only at q1 q2
  rw[q1,q2]
  refine r.dj m0 m1 B0 B1 h1 h4 fun e=>?_
  rcases h3 with⟨h7,h8⟩|⟨h7,h8,h9⟩<;>rcases h6 with⟨g7,g8⟩|⟨g7,g8,g9⟩
  ·exact hne (h7.trans g7.symm)
  ·exact g8 (by rw[←g9,←e,h8])
  ·exact h8 (by rw[←h9,e,g8])
  ·exact hne (by rw[←h9,e,g9])
theorem rnE(x y:Nat){fr1:FrX}{own1:OwX}{e:Exit}(h:rnA x y fr own=some ⟨fr1,own1⟩)(k:CfS prog GB C n Q0 fr1 own1 (.ex e K)):CfS prog GB C n Q0 fr own (.ex e K):=aC7 h k
theorem awO{d nm:Nat}(hl:aay fr d=some .nl){Φ:Act→World→Prop}{ty s:Nat}(hf:acM [nm] none (aay fr) (aaB own))(h:SX GB C n (aay ((d, .rw nm)::fr)) (aaB (arf own nm (some (.b ty s [] true)))) Φ):SX GB C n (aay fr) (aaB own) Φ:=by
 refine⟨fun ρ G ov a w r=>?_⟩
 obtain⟨f1,f2⟩:=hf nm aQ
 have hset:aaB (arf own nm (some (.b ty s [] true)))=upB (aaB own) [(nm,some (.b ty s [] true))]:=by funext j;rw[aft];rfl
 rw[hset] at h
 refine h.run (fun k=>if k=nm then⟨none,0,0⟩ else ρ k) G ov a w ⟨r.gb,r.h,r.sz,r.df,fun k f e=>?_,fun m B e=>?_,fun m m' B B' e e' hne=>?_⟩
 ·rw[abd] at e
  split at e
  ·cases e;rename_i hk;subst hk
   obtain⟨v,h1,h2⟩:=r.fx _ _ hl
   exact⟨v,h1,by rw[show v=_ from h2];show _=_;simp⟩
  ·obtain⟨v,h1,h2⟩:=r.fx k f e
   exact⟨v,h1,h2.ren fun m hm=>neN _ fun hc=>f1 k f (by simp) e (by rw[hm,hc])⟩
 ·simp only[upB] at e
  by_cases hm:m=nm
  ·subst hm;simp only[if_true] at e;cases e
   exact⟨[],⟨[],by simp only[if_true];exact .inl ⟨rfl,rfl,rfl⟩, .nil,by simp,fun _ o ho=>by cases ho⟩,fun o ho=>by cases ho⟩
  ·simp only[hm,if_false] at e
   obtain⟨os,h1,h2⟩:=r.bx m B e
   exact⟨os,h1.ren (if_neg hm) fun q hq=>neN _ fun hc=>f2 m B hm e (by rw[←hc];exact hq),h2⟩
 ·simp only[upB] at e e'
  intro b hb hb'
  by_cases hm:m=nm
  ·simp[hm] at hb
  ·by_cases hm':m'=nm
   ·simp[hm'] at hb'
   ·simp only[hm,hm',if_false] at e e' hb hb'
    exact r.dj m m' B B' e e' hne b hb hb'
theorem nr(d nm ty s:Nat){own1:OwX}{c:Code}(hl:aay fr d=some .nl)(hf:ahU [nm] none fr own=true)(ho:aAb own nm (some (.b ty s [] true)) id=own1)(k:CfS prog GB C n Q0 ((d, .rw nm)::fr) own1 (.code c K)):CfS prog GB C n Q0 fr own (.code c K):=by
 subst ho
 exact awO hl (afn hf) k
/-! ### calls that borrow a variable -/
def mkP:List (Option DV)→Nat→List DV
 |[],_=>[]
 |some d::t,b=>d::mkP t b
 |none::t,b=> .v (.pointer (some ⟨b,0,none⟩))::mkP t b
def aDJ(lk:LK):List Operand→Option (Option Nat×List (Option DV))
 |[]=>some (none,[])
 |x::t=>match evX lk x,aDJ lk t with
  |some (.ov nm 0),some (none,l)=>some (some nm,none::l)
  |some f,some (q,l)=>match akh f with
   |some d=>some (q,some d::l)
   |none=>none
  |_,_=>none
def aAu(lk:LK)(fo:Operand)(args:Array Operand):Option (FuncId×Nat×List (Option DV)):=match evX lk fo with
 |some (.d (.v (.func (.func f) ⟨[]⟩ ⟨[]⟩)))=>match aDJ lk args.toList with
  |some (some nm,l)=>some (f,nm,l)
  |_=>none
 |_=>none
theorem aoz{lk:LK}{bk:BM}{ρ:NE}{G:Gh}{ov:List Own}{a:Act}{w:World}(r:RlX GB C n lk bk ρ G ov a w){b:Nat}: ∀{x:List Operand} {q:Option Nat} {l:List (Option DV)},aDJ lk x=some (q,l)→(∀nm,q=some nm→(ρ nm).a=some ⟨b,0,none⟩)→
  ∃y,af6 (frA a) x=some y∧IsLs G (mkP l b) y
 |[],q,l,e,_=>by cases e;exact⟨[],rfl, .nil⟩
 |x::t,q,l,e,hb=>by
  simp only[aDJ] at e
  split at e
  ·rename_i nm l' h1 h2
   cases e
   obtain⟨y,h3,b',h4,rfl⟩:=r.ev h1
   have:=hb nm rfl
   rw[h4] at this;cases this
   obtain⟨ys,h5,h6⟩:=aoz r (b:=b) h2 (fun nm e=>by cases e)
   exact⟨_::ys,by simp only[af6,h3,h5], .cons ((aaZ (G:=G)).2 rfl) h6⟩
  ·rename_i f q' l' _ h1 h2
   cases hd:akh f with
   |none=>rw[hd] at e;cases e
   |some d=>
   rw[hd] at e;cases e
   obtain⟨y,h3,h4⟩:=r.ev h1
   obtain⟨ys,h5,h6⟩:=aoz r (b:=b) h2 hb
   exact⟨y::ys,by simp only[af6,h3,h5], .cons (acx h4 hd) h6⟩
  ·cases e
theorem RlX.lend{lk:LK}{bk:BM}{ρ:NE}{G:Gh}{ov:List Own}{a:Act}{w:World}{nm:Nat}{ty:TypeId}{cs:List FX}{lo:Bool}{csd:List DV}(r:RlX GB C n lk bk ρ G ov a w)(hb:bk nm=some (.o ty cs lo))(hc:ael cs=some csd):
  ∃b m rest,(ρ nm).a=some ⟨b,0,none⟩∧IsLs G csd m∧ov.Perm ([⟨b,m,ty,lo⟩]++rest)∧ ∀o∈ov,o.b≠b→o∈rest:=by
 obtain⟨os,⟨b,m,h1,rfl,h2⟩,h3⟩:=r.bx _ _ hb
 obtain⟨l1,l2,rfl⟩:=kZ (h3 _ aQ)
 refine⟨b,m,l1++l2,h1,ada h2 hc,lL,fun o ho hne=>?_⟩
 rcases bK.1 ho with ho|ho
 ·exact bL _ ho
 ·rcases aW.1 ho with rfl|ho
  ·exact absurd rfl hne
  ·exact bY _ ho
theorem avi{P:Program}{lk:LK}{bk:BM}{fo:Operand}{args:Array Operand}{tys:Array TypeId}{f:FuncId}{nm:Nat}{l:List (Option DV)}{rv:DV}{dst:Option Nat}{ty ty0:TypeId}{pos:String}{af:Array Edge}{gd:Option (Nat×Bool)}{cs:List FX}{csd cs':List DV}{lo:Bool}
  (ha:aAu lk fo args=some (f,nm,l))(hb:bk nm=some (.o ty0 cs lo))(hc:ael cs=some csd)(hF: ∀b,PM GB P f (mkP l b) b ty0 csd rv cs'){csx:List FX}(hx:cs'.map .d=csx):OpR P GB C n lk bk ⟨dst, .call ⟨.value fo,args,tys⟩,ty,pos,af,gd⟩ (.d rv) [(nm,some (.o ty0 csx lo))] []:=by
 intro hd tl tb K' s1 s2 hf hk
 refine⟨fun ρ G ov a w r Q=>?_⟩
 subst hx
 have r1:=r.mono s1 s2
 unfold aAu at ha
 split at ha<;>try (cases ha;done)
 rename_i h1
 split at ha<;>cases ha
 rename_i h2
 obtain⟨y,hy,hy'⟩:=r1.ev h1
 rw[(aaZ (G:=G)).1 hy'] at hy
 obtain⟨b,m,rest,h3,h4,h5,h6⟩:=r1.lend hb hc
 obtain⟨vs,h7,h8⟩:=aoz r1 (b:=b) h2 (fun nm e=>by cases e;exact h3)
 refine aiu (M:=[⟨b,m,ty0,lo⟩]) (rest:=rest) hy h7 h5 (hF b G vs m lo r.gb h8 h4) hd (fun v css G' hG hl hK a' w' rl=>?_) a w Q ⟨r.h,r.sz,aaN a,r.df⟩
 obtain⟨hr,m',rfl,hm'⟩:=hK
 have rl':Rel C n (Sx.put (frA a) dst v) (⟨b,m',ty0,lo⟩::rest) G' a' w':=rl
 have r2:=r.upB (G':=G') (ov':=⟨b,m',ty0,lo⟩::rest) (w':=w') (B':= .o ty0 (cs'.map .d) lo) (os:=[⟨b,m',ty0,lo⟩]) hG.le rl'.h ⟨b,m',h3,rfl,ahV hm'⟩ (fun o ho=>by rw[aU.1 ho];exact aQ)
  (fun o ho hne=>aX _ (h6 o ho fun e=>hne (by rw[h3,e]))) ⟨_,s2 _ _ hb⟩
 exact hk.run ρ G' _ a' w' (r2.put (f:= .d rv) hr (abj rl'))
structure CmA where
 f:FuncId
 nm:Nat
 l:List (Option DV)
 ty:TypeId
 cs:List DV
 lo:Bool
def aFj(fr:FrX)(own:OwX)(cf:Cf):Option CmA:=match opC fr cf with
 |some ⟨_, .call ⟨.value fo,args,_⟩,_,_,_,_⟩=>match aAu (lkC fr cf) fo args with
  |some (f,nm,l)=>match bkC fr own cf nm with
   |some (.o ty cs lo)=>match ael cs with
    |some csd=>some ⟨f,nm,l,ty,csd,lo⟩
    |none=>none
   |_=>none
  |none=>none
 |_=>none
def aAR{α:Type}:List DV→(List FX→α)→α
 |[],k=>k []
 |d::t,k=>aAR t fun t'=>k (.d d::t')
theorem alj{α:Type}: ∀{l:List DV} {k:List FX→α},aAR l k=k (l.map .d)
 |[],k=>rfl
 |d::t,k=>by simp only[aAR];rw[alj];rfl
theorem cm[fu:Fu]{f:FuncId}{nm:Nat}{l:List (Option DV)}{ty:TypeId}{cs cs':List DV}{lo:Bool}{rv:DV}(ha:aFj fr own cf=some ⟨f,nm,l,ty,cs,lo⟩)(hF: ∀b,PM GB prog f (mkP l b) b ty cs rv cs')
  (hgo:(aAR cs' fun csx=>goA tt n fu.n fr own cf (.d rv) [(nm,some (.o ty csx lo))] [])=⟨vc,fr',own',cf'⟩)(k:CfS prog GB C n Q0 fr' own' cf')
  (hv:aag vc:=by first|exact trivial|(simp only[aag];kernel_rfl)|(simp only[aag];omega)|(simp only[aag,aJ,aN,aY];omega)):CfS prog GB C n Q0 fr own cf:=by
 unfold aFj at ha
 split at ha<;>try (cases ha;done)
 rename_i hh
 split at ha<;>try (cases ha;done)
 rename_i h1
 split at ha<;>try (cases ha;done)
 rename_i h2
 split at ha<;>cases ha
 rename_i h3
 rw[alj] at hgo
 exact us hh (avi h1 h2 h3 hF rfl) hgo hv k
abbrev NM:Nat:=1000000
def akd:Nat→List (Option DV)→FrX
 |_,[]=>[]
 |i,some v::t=>(i, .d v)::akd (i+1) t
 |i,none::t=>(i, .ov NM 0)::akd (i+1) t
theorem an6(b:Nat): ∀l:List (Option DV),(mkP l b).length=l.length
 |[]=>rfl
 |some d::t=>by simp[mkP,an6 b t]
 |none::t=>by simp[mkP,an6 b t]
theorem agd{b:Nat}{ρ:NE}{G:Gh}(hρ:(ρ NM).a=some ⟨b,0,none⟩): ∀{ds:List (Option DV)} {vs:List Value} (i:Nat),IsLs G (mkP ds b) vs→ ∀k f,aay (akd i ds) k=some f→ ∃y,(∃j,k=i+j∧vs[j]? =some y)∧IsX ρ G f y
 |[],vs,i,h,k,f,e=>by cases e
 |some d::t,vs,i,h,k,f,e=>by
  obtain⟨y,m,rfl,h1,h2⟩:=aac.1 h
  simp only[akd] at e
  rw[abd] at e
  split at e
  ·cases e;rename_i hk;exact⟨y,⟨0,hk,rfl⟩,h1⟩
  ·obtain⟨u,⟨j,hj,hu⟩,h3⟩:=agd hρ (i+1) h2 k f e
   exact⟨u,⟨j+1,by omega,by simpa using hu⟩,h3⟩
 |none::t,vs,i,h,k,f,e=>by
  obtain⟨y,m,rfl,h1,h2⟩:=aac.1 h
  simp only[akd] at e
  rw[abd] at e
  split at e
  ·cases e;rename_i hk;exact⟨y,⟨0,hk,rfl⟩,b,hρ,(aaZ (G:=G)).1 h1⟩
  ·obtain⟨u,⟨j,hj,hu⟩,h3⟩:=agd hρ (i+1) h2 k f e
   exact⟨u,⟨j+1,by omega,by simpa using hu⟩,h3⟩
def atn(C:Ctx)(b:Nat)(m:List Value)(ty:TypeId)(lo:Bool)(rv:DV)(cs':List DV):Ending→World→Prop:=anY C [⟨b,m,ty,lo⟩] (fun v css G'=>Is G' rv v∧ ∃m',css=[m']∧IsLs G' cs' m')
theorem fnM[fu:Fu]{b:Nat}{f:FuncId}{fb:Func}{c:Code}{k:Nat}{l:List (Option DV)}{cs cs':List DV}{ty:TypeId}{rv:DV}(hf:prog.funcs[f]? =some fb)(hb:fb.body=some c)(hn:(fb.name== "runtime.NumGoroutine")=false)(hm:fb.ntmps=k)(hlen:Nat.ble l.length k=true)
  (hgo:(aAR cs fun csx=>go tt k fu.n [] (akd 0 l) [(NM,some (.o ty csx false))] (.code c []))=⟨vc,fr,own,cf⟩)(h: ∀C b m lo,C.mb=[b]→CfS prog GB C k (bodyPost prog fb (atn C b m ty lo rv cs')) fr own cf)
  (hv:aag vc:=by first|exact trivial|(simp only[aag];kernel_rfl)|(simp only[aag];omega)|(simp only[aag,aJ,aN,aY];omega)):PM GB prog f (mkP l b) b ty cs rv cs':=by
 intro G vs m lo hg hvs hm'
 refine FnM.intro hf hb hn hm (by rw[hvs.len,an6];exact hlen) fun C _ hmb=>?_
 intro a w rl
 rw[alj] at hgo
 have h1:=gx' (GB:=GB) (C:=C) (Q0:=bodyPost prog fb (atn C b m ty lo rv cs')) hgo hv (h C b m lo (by simpa using hmb))
 refine h1.run (fun _=>⟨some ⟨b,0,none⟩,0,0⟩) G [⟨b,m,ty,false⟩] a w ⟨hg,rl.h,rl.sz,rl.df,fun k f e=>?_,fun nm B e=>?_,fun nm nm' B B' e e' hne=>?_⟩
 ·obtain⟨y,⟨j,hj,hy⟩,h2⟩:=agd (ρ:=fun _=>⟨some ⟨b,0,none⟩,0,0⟩) (b:=b) rfl 0 hvs k f e
  refine⟨y,rl.fr k y ?_,h2⟩
  rw[hj];exact acz vs 0 j y hy
 ·rw[aaK] at e
  split at e
  ·cases e;exact⟨[⟨b,m,ty,false⟩],⟨b,m,rfl,rfl,ahV hm'⟩,fun o ho=>ho⟩
  ·cases e
 ·rw[aaK] at e e'
  split at e<;>split at e'
  ·rename_i h2 h3;exact absurd (h2.trans h3.symm) hne
  ·cases e'
  ·cases e
  ·cases e
def aFh(own:OwX)(nm:Nat):Option (TypeId×List DV):=match aaB own nm with
 |some (.o ty cs false)=>match ael cs with
  |some l=>some (ty,l)
  |none=>none
 |_=>none
theorem rzM{fb:Func}{b:Nat}{m:List Value}{ty:TypeId}{lo:Bool}{ds cs1 cs':List DV}{rv:DV}(hmb:C.mb=[b])(hr:awo tt fr own fb.results.toList=some ds)(ho:aFh own NM=some (ty,cs1))(hd:afU ds=rv)(hc:cs1=cs'):
  CfS prog GB C n (bodyPost prog fb (atn C b m ty lo rv cs')) fr own (.ex .ret []):=by
 refine⟨fun ρ G ov a w r=>?_⟩
 obtain⟨vs,h1,h2⟩:=aoO r hr
 have hk:Is G rv (abT vs):=hd▸an0 h2
 unfold aFh at ho
 split at ho<;>try (cases ho;done)
 rename_i hb
 split at ho<;>cases ho
 rename_i hl
 obtain⟨b',m',rest,h3,h4,h5,h6⟩:=r.lend hb hl
 have hbb:b'=b:=by
  have:=(r.h.hown _ (h5.mem_iff.2 (bL _ aQ))).2.2.2 rfl
  rw[hmb] at this;simpa using this
 subst hbb hc
 exact ac7 (C:=C) (n:=n) (fr:=frA a) (own:=ov) (G:=G) (M:=[⟨b',m,ty,lo⟩]) (css:=[m']) (K:=fun v css G'=>Is G' rv v∧ ∃m',css=[m']∧IsLs G' cs1 m') h1 rfl ([⟨b',m',ty,false⟩]++rest) h5 (mM _ _) ⟨hk,m',rfl,h4⟩ a w ⟨r.h,r.sz,aaN a,r.df⟩
end
section
variable {GB:Gh} {C:Ctx} {n:Nat} {fr1 fr2:FrX} {own1 own2:OwX} {cf1 cf2:Cf} {vc1 vc2:List Prop} {Q0:Exit→Act→World→Prop} {fr fr':FrX} {own own':OwX} {cf cf':Cf} {vc:List Prop} {ops:Array Oper} {o:Oper} {K:List Kt} {r:List Oper}
theorem csd[fu1:Fu][fu2:Fu](d:Nat){p:Prop}{hp:Decidable p}(hl:aay fr d=some (.d (.v (.bool (@decide p hp)))))(g1:go tt n fu1.n [] ((d, .tt)::fr) own (.ops ops r K)=⟨vc1,fr1,own1,cf1⟩)(g2:go tt n fu2.n [] ((d, .ff)::fr) own (.ops ops r K)=⟨vc2,fr2,own2,cf2⟩)
  (k1:p→CfS prog GB C n Q0 fr1 own1 cf1)(k2: ¬p→CfS prog GB C n Q0 fr2 own2 cf2)
  (v1:p→aag vc1:=by intro;first|exact trivial|(simp only[aag];omega)|(simp only[aag,aJ,aN,aY];omega))(v2: ¬p→aag vc2:=by intro;first|exact trivial|(simp only[aag];omega)|(simp only[aag,aJ,aN,aY];omega)):CfS prog GB C n Q0 fr own (.ops ops r K):=
 csb (fu1:=fu1) (fu2:=fu2) d hl g1 g2 (fun h=>k1 (of_decide_eq_true h)) (fun h=>k2 (of_decide_eq_false h)) (fun h=>v1 (of_decide_eq_true h)) (fun h=>v2 (of_decide_eq_false h))
theorem nlC(d:Nat)(hl:aay fr d=some .nl){c:Code}(h:CfS prog GB C n Q0 ((d, .d (.sl []))::fr) own (.code c K)):CfS prog GB C n Q0 fr own (.code c K):=
 abH (g:= .d (.sl [])) hl (fun ρ G y hy=>(show Is G (.sl []) y from acx (ρ:=ρ) (f:= .nl) hy rfl)) h
theorem OpR.to{lk:LK}{bk:BM}{o:Oper}{f g:FX}(h:OpR prog GB C n lk bk o f [] [])(e: ∀ρ G y,IsX ρ G f y→IsX ρ G g y):OpR prog GB C n lk bk o g [] []:=fun hd tl tb Q h1 h2 hf hk=>
 h hd tl tb Q h1 h2 hf ⟨fun ρ G ov a w r=>hk.run ρ G ov a w ⟨r.gb,r.h,r.sz,r.df,fun k f' e'=>by
  cases ho:o.dst with
  |none=>exact r.fx k f' (by simpa only[ho,upL] using e')
  |some d=>
   have hr:=r.fx
   simp only[ho,upL] at e' hr
   by_cases q:k=d
   ·rw[if_pos q] at e';cases e'
    obtain⟨y,h3,h4⟩:=hr k f (by rw[if_pos q])
    exact⟨y,h3,e _ _ _ h4⟩
   ·rw[if_neg q] at e'
    exact hr k f' (by rw[if_neg q];exact e'),r.bx,r.dj⟩⟩
def opS(fr:FrX)(own:OwX)(cf:Cf):Option (Oper×FX):=match opC fr cf with
 |some o=>match aAU tt (lkC fr cf) (bkC fr own cf) o.dst o.op with
  |some ⟨none,f,[],[]⟩=>some (o,f)
  |_=>none
 |none=>none
theorem csS[fu1:Fu][fu2:Fu]{f:FX}{p:Prop}{hp:Decidable p}(hs:opS fr own cf=some (o,f))(hb:toB f=some (@decide p hp))(g1:goA tt n fu1.n fr own cf .tt [] []=⟨vc1,fr1,own1,cf1⟩)(g2:goA tt n fu2.n fr own cf .ff [] []=⟨vc2,fr2,own2,cf2⟩)
  (k1:p→CfS prog GB C n Q0 fr1 own1 cf1)(k2: ¬p→CfS prog GB C n Q0 fr2 own2 cf2)
  (v1:p→aag vc1:=by intro;first|exact trivial|(simp only[aag];kernel_rfl)|(simp only[aag];omega)|(simp only[aag,aJ,aN,aY];omega))(v2: ¬p→aag vc2:=by intro;first|exact trivial|(simp only[aag];kernel_rfl)|(simp only[aag];omega)|(simp only[aag,aJ,aN,aY];omega)):CfS prog GB C n Q0 fr own cf:=by
 unfold opS at hs
 split at hs<;>try (cases hs;done)
 rename_i o' hh
 split at hs<;>cases hs
 rename_i hc
 obtain⟨dst,op,ty,pos,af,gd⟩:=o
 have h0:=ahu (P:=prog) (GB:=GB) (C:=C) (n:=n) (ty':=ty) (pos:=pos) (af:=af) (gd:=gd) abK hc (fun p e=>by cases e)
 by_cases h:p
 ·exact us hh (OpR.to h0 fun ρ G y hy=>by rw[aje hy hb,decide_eq_true h];exact rfl) g1 (v1 h) (k1 h)
 ·exact us hh (OpR.to h0 fun ρ G y hy=>by rw[aje hy hb,decide_eq_false h];exact rfl) g2 (v2 h) (k2 h)
theorem aBB{tl:LK}{tb:BM}{Ψ:Act→World→Prop}{d:Nat}{B:Bk}{f:FX}{v:DV}
  (hz: ∀lk bk ρ G ov a w,RlX GB C n lk bk ρ G ov a w→bk d=some B→ ∃G' ov',GLe G G'∧ace C ov' G' w∧(∀o∈ov,(ρ d).a≠some ⟨o.b,0,none⟩→o∈ov')∧ ∀y,IsX ρ G f y→Is G' v y)(hk:SX GB C n (upL tl (some d) (.d v)) (Sx.upB tb [(d,none)]) Ψ):SX GB C n (upL tl (some d) f) (Sx.upB tb [(d,some B)]) Ψ:=by
 refine⟨fun ρ G ov a w r=>?_⟩
 have hbd:Sx.upB tb [(d,some B)] d=some B:=by simp[Sx.upB]
 obtain⟨G',ov',h1,h2,h3,h4⟩:=hz _ _ ρ G ov a w r hbd
 refine hk.run ρ G' ov' a w ⟨r.gb.trans h1,h2,r.sz,r.df,fun k g e=>?_,fun m B' e=>?_,fun m m' B1 B2 e e'=>?_⟩
 ·by_cases hk:k=d
  ·subst hk
   simp only[upL,if_true] at e;cases e
   obtain⟨y,g1,g2⟩:=r.fx k f (by simp[upL])
   exact⟨y,g1,h4 y g2⟩
  ·simp only[upL,hk,if_false] at e
   obtain⟨y,g1,g2⟩:=r.fx k g (by simp[upL,hk,e])
   exact⟨y,g1,g2.up h1⟩
 ·simp only[Sx.upB] at e
  split at e
  ·cases e
  ·rename_i hm
   have e':Sx.upB tb [(d,some B)] m=some B':=by simp[Sx.upB,hm,e]
   obtain⟨os,g1,g2⟩:=r.bx m B' e'
   exact⟨os,g1.up h1,fun o ho=>h3 o (g2 o ho) fun hc=>r.dj m d B' B e' hbd hm _ (g1.blk ho) hc⟩
 ·simp only[Sx.upB] at e e'
  split at e
  ·cases e
  ·rename_i hm
   split at e'
   ·cases e'
   ·rename_i hm'
    exact r.dj m m' B1 B2 (by simp[Sx.upB,hm,e]) (by simp[Sx.upB,hm',e'])
theorem OpR.frz2{lk:LK}{bk:BM}{o:Oper}{d nm:Nat}{B:Bk}{f:FX}{v:DV}(hd:o.dst=some d)(h:OpR prog GB C n lk bk o f [(nm,none),(d,some B)] [d])
  (hz: ∀lk bk ρ G ov a w,RlX GB C n lk bk ρ G ov a w→bk d=some B→ ∃G' ov',GLe G G'∧ace C ov' G' w∧(∀o∈ov,(ρ d).a≠some ⟨o.b,0,none⟩→o∈ov')∧ ∀y,IsX ρ G f y→Is G' v y):OpR prog GB C n lk bk o (.d v) [(nm,none),(d,none)] [d]:=by
 intro hd' tl tb K s1 s2 hf hk
 refine h hd' tl tb K s1 s2 hf ?_
 rw[hd] at hk⊢
 exact aBB (tb:=Sx.upB tb [(nm,none)]) hz hk
def aGl(d:Nat)(nm:Option Nat):List (Nat×Option Bk):=match nm with
 |some nm=>[(nm,none),(d,none)]
 |none=>[(d,none)]
theorem apf[fu:Fu]{d:Nat}{nm:Option Nat}{e s b:Nat}{ds ds2:List DV}(ds':List DV)(h:aDF fr own cf=some ⟨d,nm,e,s,b,ds,ds2⟩)(hds:ds++ds2=ds')(ho2:ads s ds2)(hgo:goA tt n fu.n fr own cf (.d (.sl ds')) (aGl d nm) [d]=⟨vc,fr',own',cf'⟩)(k:CfS prog GB C n Q0 fr' own' cf')
  (ho:nm.isNone=true→ads s ds∧0<ds2.length:=by intro h;first|(cases h;done)|exact⟨ahK rfl,by simp⟩)(hbd:(ds.length+ds2.length)*b≤140737488355328:=by simp;omega)
  (hv:aag vc:=by first|exact trivial|(simp only[aag];kernel_rfl)|(simp only[aag];omega)|(simp only[aag,aJ,aN,aY];omega)):CfS prog GB C n Q0 fr own cf:=by
 obtain⟨o,h1,h2,h3⟩:=atE (GB:=GB) (C:=C) (n:=n) h ds' hds ho ho2 hbd
 cases nm with
 |none=>exact us h1 (h3.frzRow h2) hgo hv k
 |some nm=>exact us h1 (OpR.frz2 h2 h3 fun _ _ _ _ _ _ _ r hb=>r.frzRow hb) hgo hv k
theorem knT[fu:Fu]{f:FX}(hs:opS fr own cf=some (o,f))(hb:toB f=some true)(hgo:goA tt n fu.n fr own cf .tt [] []=⟨vc,fr',own',cf'⟩)(k:CfS prog GB C n Q0 fr' own' cf')
  (hv:aag vc:=by first|exact trivial|(simp only[aag];kernel_rfl)|(simp only[aag];omega)|(simp only[aag,aJ,aN,aY];omega)):CfS prog GB C n Q0 fr own cf:=by
 unfold opS at hs
 split at hs<;>try (cases hs;done)
 rename_i o' hh
 split at hs<;>cases hs
 rename_i hc
 obtain⟨dst,op,ty,pos,af,gd⟩:=o
 have h0:=ahu (P:=prog) (GB:=GB) (C:=C) (n:=n) (ty':=ty) (pos:=pos) (af:=af) (gd:=gd) abK hc (fun p e=>by cases e)
 exact us hh (OpR.to h0 fun ρ G y hy=>by rw[aje hy hb];exact rfl) hgo hv k
theorem knF[fu:Fu]{f:FX}(hs:opS fr own cf=some (o,f))(hb:toB f=some false)(hgo:goA tt n fu.n fr own cf .ff [] []=⟨vc,fr',own',cf'⟩)(k:CfS prog GB C n Q0 fr' own' cf')
  (hv:aag vc:=by first|exact trivial|(simp only[aag];kernel_rfl)|(simp only[aag];omega)|(simp only[aag,aJ,aN,aY];omega)):CfS prog GB C n Q0 fr own cf:=by
 unfold opS at hs
 split at hs<;>try (cases hs;done)
 rename_i o' hh
 split at hs<;>cases hs
 rename_i hc
 obtain⟨dst,op,ty,pos,af,gd⟩:=o
 have h0:=ahu (P:=prog) (GB:=GB) (C:=C) (n:=n) (ty':=ty) (pos:=pos) (af:=af) (gd:=gd) abK hc (fun p e=>by cases e)
 exact us hh (OpR.to h0 fun ρ G y hy=>by rw[aje hy hb];exact rfl) hgo hv k
theorem dpE(nm:Nat){ty:TypeId}{cs:List FX}{lo:Bool}{ds:List DV}{own1:OwX}{e:Exit}(hb:aaB own nm=some (.o ty cs lo))(hc:ael cs=some ds)(ho:(nm,some (.o ty (ds.map .d) lo))::own=own1)(k:CfS prog GB C n Q0 fr own1 (.ex e K)):CfS prog GB C n Q0 fr own (.ex e K):=by
 subst ho
 have old: ∀m B,aaB ((nm,some (.o ty (ds.map .d) lo))::own) m=some B→ ∃B0,aaB own m=some B0:=fun m B e=>by
  rw[aaK] at e
  split at e
  ·rename_i h;subst h;exact⟨_,hb⟩
  ·exact⟨_,e⟩
 refine⟨fun ρ G ov a w r=>k.run ρ G ov a w ⟨r.gb,r.h,r.sz,r.df,r.fx,fun m B e=>?_,fun m m' B B' e e'=>?_⟩⟩
 ·rw[aaK] at e
  split at e
  ·rename_i h;subst h;cases e
   obtain⟨os,⟨b,m,h1,rfl,h2⟩,h3⟩:=r.bx _ _ hb
   exact⟨_,⟨b,m,h1,rfl,ahV (ada h2 hc)⟩,h3⟩
  ·exact r.bx _ _ e
 ·obtain⟨B0,h0⟩:=old _ _ e
  obtain⟨B1,h1⟩:=old _ _ e'
  exact r.dj m m' B0 B1 h0 h1
end
section
variable {GB:Gh} {C:Ctx} {n:Nat} {Q0:Exit→Act→World→Prop} {fr fr':FrX} {own own':OwX} {cf cf':Cf} {vc:List Prop} {ops:Array Oper} {o:Oper} {K:List Kt} {r:List Oper}
def OpF(GB:Gh)(C:Ctx)(n:Nat)(lk:LK)(bk:BM)(o:Oper)(ι:Type)(f:ι→FX)(bl:ι→List (Nat×Option Bk))(nw:List Nat):Prop:=
 aaQ n o.dst=true→ ∀(tl:LK) (tb:BM) (K:Act→World→Prop),ak8 lk tl→ak8 bk tb→acM nw o.dst tl tb→(∀x,SX GB C n (upL tl o.dst (f x)) (Sx.upB tb (bl x)) K)→SX GB C n tl tb (fun a w=> ∀Q,o.wp prog a w K Q)
def hdO:Cf→Option (Array Oper×Oper×List Oper×List Kt)
 | .ops ops (o::r) K=>some (ops,o,r,K)
 |_=>none
def goF(n q:Nat)(fr:FrX)(own:OwX)(cf:Cf)(f:FX)(bl:List (Nat×Option Bk)):Res:=match cf with
 | .ops ops (o::r) K=>aka own bl fun own'=>aAX fr o.dst f fun fr'=>go tt n q [] fr' own' (.ops ops r K)
 |_=>bad
def okF(n:Nat)(fr:FrX)(own:OwX)(cf:Cf)(nw:List Nat):Bool:=match cf with
 | .ops ops (o::_) _=>ahU nw o.dst fr own&&aaQ n o.dst&&grd ops (aay fr) o.guard
 |_=>false
theorem usF{q:Nat}{ι:Type}{f:ι→FX}{bl:ι→List (Nat×Option Bk)}{nw:List Nat}{vc:ι→List Prop}{fr':ι→FrX}{own':ι→OwX}{cf':ι→Cf}(hh:opC fr cf=some o)(ho:okF n fr own cf nw=true)(h:OpF GB C n (lkC fr cf) (bkC fr own cf) o ι f bl nw)
  (hgo: ∀x,goF n q fr own cf (f x) (bl x)=⟨vc x,fr' x,own' x,cf' x⟩)(hv: ∀x,aag (vc x))(k: ∀x,CfS prog GB C n Q0 (fr' x) (own' x) (cf' x)):CfS prog GB C n Q0 fr own cf:=by
 obtain⟨ops,h1,h2⟩:=axu hh
 cases cf with
 |ops ops' r K=>
  cases r with
  |nil=>cases h1
  |cons o' r=>
   cases h1
   simp only[okF,cJ] at ho
   refine⟨fun ρ G ov a w rl=>?_⟩
   show wpL _ _ _ (o::r) a w
   unfold wpL
   rw[if_pos (atc ho.2 ρ G ov a w rl)]
   refine(h ho.1.2 _ _ (wpL prog ops (cQ prog Q0 K) r) (ak8.refl _) (ak8.refl _) (afn ho.1.1) (fun x=>?_)).run ρ G ov a w rl _
   have hx:=hgo x
   unfold goF at hx
   simp only[aeL,ajA] at hx
   have:=gx' (GB:=GB) (C:=C) (Q0:=Q0) hx (hv x) (k x)
   show SX GB C n (upL (aay fr) o.dst (f x)) (Sx.upB (aaB own) (bl x)) _
   rw[←ai5,←afH]
   exact this
 |_=>cases ho
theorem awA{lk:LK}{bk:BM}{fo:Operand}{args:Array Operand}{tys:Array TypeId}{f:FuncId}{d:Nat}{ds:List DV}{ι:Type}{ty ty0:TypeId}{pos:String}{af:Array Edge}{gd:Option (Nat×Bool)}{cs':ι→List DV}
  (ha:alf lk fo args=some (f,ds))(hF:PN GB prog f ds ty0 ι cs'):OpF GB C n lk bk ⟨some d, .call ⟨.value fo,args,tys⟩,ty,pos,af,gd⟩ ι (fun _=> .ov d 0) (fun x=>[(d,some (.o ty0 ((cs' x).map .d) true))]) [d]:=by
 intro hd tl tb K' s1 s2 hf hk
 refine⟨fun ρ G ov a w r Q=>?_⟩
 have r1:=r.mono s1 s2
 obtain⟨h1,h2⟩:=ak4 ha
 obtain⟨y,hy,hy'⟩:=r1.ev h1
 rw[(aaZ (G:=G)).1 hy'] at hy
 obtain⟨vs,h3,h4⟩:=r1.evDs h2
 refine aec (M:=[]) (rest:=ov) hy h3 (List.Perm.refl _) (hF G vs r.gb h4) hd (fun v own1 G' hG hK a' w' rl=>?_) a w Q ⟨r.h,r.sz,aaN a,r.df⟩
 obtain⟨x,b,m,rfl,rfl,hm⟩:=hK
 have rl':Rel C n (Sx.put (frA a) (some d) (.pointer (some ⟨b,0,none⟩))) (⟨b,m,ty0,true⟩::ov) G' a' w':=by simpa[relo,flM] using rl
 have hnd:=(bR.1 rl'.h.nd).1
 exact(hk x).run _ G' _ a' w' (r.new (x:=⟨some ⟨b,0,none⟩,0,0⟩) (B':= .o ty0 ((cs' x).map .d) true) (os:=[⟨b,m,ty0,true⟩]) hf hG.le rl'.h ⟨b,m,by simp,rfl,ahV hm⟩ (fun o ho=>by rw[aU.1 ho];exact aQ)
  (fun o ho=>aX _ ho) (fun o ho e=>by cases e;exact hnd o ho rfl) (f:= .ov d 0) (y:= .pointer (some ⟨b,0,none⟩)) ⟨b,by simp,rfl⟩ (abj rl'))
def aFB(fr:FrX)(cf:Cf):Option (FuncId×List DV×Nat):=match opC fr cf with
 |some ⟨some d, .call ⟨.value fo,args,_⟩,_,_,_,_⟩=>match alf (lkC fr cf) fo args with
  |some (f,ds)=>some (f,ds,d)
  |none=>none
 |_=>none
theorem cn[fu:Fu]{f:FuncId}{d:Nat}{ds:List DV}{ty:TypeId}{ι:Type}{cs':ι→List DV}{vc:ι→List Prop}{fr':ι→FrX}{own':ι→OwX}{cf':ι→Cf}(ha:aFB fr cf=some (f,ds,d))(hF:PN GB prog f ds ty ι cs')
  (hgo: ∀x,(aAR (cs' x) fun csx=>goF n fu.n fr own cf (.ov d 0) [(d,some (.o ty csx true))])=⟨vc x,fr' x,own' x,cf' x⟩)(k: ∀x,CfS prog GB C n Q0 (fr' x) (own' x) (cf' x))(ho:okF n fr own cf [d]=true:=by rfl)
  (hv: ∀x,aag (vc x):=by intro;first|exact trivial|(simp only[aag];kernel_rfl)|(simp only[aag];omega)|(simp only[aag,aJ,aN,aY];omega)):CfS prog GB C n Q0 fr own cf:=by
 unfold aFB at ha
 split at ha<;>try (cases ha;done)
 rename_i hh
 split at ha<;>cases ha
 rename_i h1
 simp only[alj] at hgo
 exact usF hh ho (awA h1 hF) hgo hv k
def aEb(C:Ctx)(b:Nat)(m:List Value)(ty:TypeId)(lo:Bool)(ι:Type)(rv:ι→DV)(cs':ι→List DV):Ending→World→Prop:=anY C [⟨b,m,ty,lo⟩] (fun v css G'=> ∃x,Is G' (rv x) v∧ ∃m',css=[m']∧IsLs G' (cs' x) m')
end
section
variable {GB:Gh} {C:Ctx} {n:Nat} {Q0:Exit→Act→World→Prop} {fr fr':FrX} {own own':OwX} {cf cf':Cf} {vc:List Prop} {ops:Array Oper} {o:Oper} {K:List Kt} {r:List Oper}
/-! ### a row handed back beside the borrowed variable -/
def aGE(fr:FrX)(cf:Cf):Option Nat:=match opC fr cf with
 |some o=>o.dst
 |none=>none
def aDO(C:Ctx)(b:Nat)(ty:TypeId)(s:Nat)(ty2:TypeId)(ι:Type)(rows cs':ι→List DV):Ending→World→Prop:=agc C (fun v own' G'=> ∃x w m' B,v= .slice w.a w.n w.c∧own'=⟨b,m',ty,false⟩::B∧IsLs G' (cs' x) m'∧aba G' ⟨w,s,ty2,rows x,true⟩ B∧ ∀o∈B,b≠o.b)
end
section
variable {GB:Gh} {C:Ctx} {n:Nat} {Q0:Exit→Act→World→Prop} {fr fr':FrX} {own own':OwX} {cf cf':Cf} {vc:List Prop} {ops:Array Oper} {o:Oper} {K:List Kt} {r:List Oper}
def arz(C:Ctx)(ty:TypeId)(ι:Type)(cs:ι→List DV):Ending→World→Prop:=agc C (fun v own' G'=> ∃x b m,v= .pointer (some ⟨b,0,none⟩)∧own'=[⟨b,m,ty,true⟩]∧IsLs G' (cs x) m)
theorem fnN[fu:Fu]{f:FuncId}{fb:Func}{c:Code}{m:Nat}{ds:List DV}{ty:TypeId}{ι:Type}{cs:ι→List DV}(hf:prog.funcs[f]? =some fb)(hb:fb.body=some c)(hn:(fb.name== "runtime.NumGoroutine")=false)(hm:fb.ntmps=m)(hlen:Nat.ble ds.length m=true)
  (hgo:go tt m fu.n [] (ajm 0 ds) [] (.code c [])=⟨vc,fr,own,cf⟩)(k: ∀C:Ctx,C.mb=[]→CfS prog GB C m (bodyPost prog fb (arz C ty ι cs)) fr own cf)
  (hv:aag vc:=by first|exact trivial|(simp only[aag];kernel_rfl)|(simp only[aag];omega)|(simp only[aag,aJ,aN,aY];omega)):PN GB prog f ds ty ι cs:=by
 intro G vs hg hvs
 refine FnO.intro hf hb hn hm (by rw[hvs.len];exact hlen) fun C _ hmb=>?_
 intro a w rl
 have h:=gx' (GB:=GB) (C:=C) (Q0:=bodyPost prog fb (arz C ty ι cs)) hgo hv (k C (by simpa using hmb))
 exact h.run (fun _=>⟨none,0,0⟩) G [] a w ⟨hg,rl.h,rl.sz,rl.df,(fun k f e=>aoF hvs rl.fr k f e),(fun nm B e=>by cases e),(fun nm nm' B B' e=>by cases e)⟩
theorem rzN{fb:Func}{t d:Nat}{ty:TypeId}{ι:Type}{cs:ι→List DV}{cs1:List FX}{l:List DV}(x:ι)(hr:fb.results.toList=[.tmp t])(hl:aay fr t=some (.ov d 0))(hw:aaB own d=some (.o ty cs1 true))(hc:ael cs1=some l)(hd:l=cs x):
  CfS prog GB C n (bodyPost prog fb (arz C ty ι cs)) fr own (.ex .ret []):=by
 refine⟨fun ρ G ov a w r=>?_⟩
 subst hd
 obtain⟨b,m,rest,h3,h4,h5,h6⟩:=r.lend hw hc
 obtain⟨y,hy,b',hb',hy'⟩:=r.ev (x:= .tmp t) (f:= .ov d 0) hl
 rw[h3] at hb';cases hb';subst hy'
 exact ati (C:=C) (n:=n) (fr:=frA a) (own:=ov) (G:=G) (vs:=[.pointer (some ⟨b,0,none⟩)]) (by rw[hr];exact .tmp hy .nil) (⟨b,m,ty,true⟩::rest) [⟨b,m,ty,true⟩] (by simpa using h5) (.cons_cons _ (kL _)) (fun _=>⟨x,b,m,rfl,rfl,h4⟩) a w ⟨r.h,r.sz,aaN a,r.df⟩
theorem bxf[fu:Fu]{d:Nat}{l:List DV}(h:aFy fr cf=some (d,l))(hgo:goA tt n fu.n fr own cf (.d (.pt l)) [(d,none)] [d]=⟨vc,fr',own',cf'⟩)(k:CfS prog GB C n Q0 fr' own' cf')
  (hv:aag vc:=by first|exact trivial|(simp only[aag];kernel_rfl)|(simp only[aag];omega)|(simp only[aag,aJ,aN,aY];omega)):CfS prog GB C n Q0 fr own cf:=by
 unfold aFy at h
 split at h<;>try (cases h;done)
 rename_i hh
 split at h<;>try (cases h;done)
 rename_i g hx
 rw[cond_eq_ite] at h
 split at h<;>try (cases h;done)
 rename_i hc
 simp only[cJ] at hc
 split at h<;>cases h
 rename_i hl
 exact us hh (ay8 hx hc.1 hc.2 hl) hgo hv k
end
section
variable {GB:Gh} {C:Ctx} {n:Nat} {Q0:Exit→Act→World→Prop} {fr fr':FrX} {own own':OwX} {cf cf':Cf} {vc:List Prop} {ops:Array Oper} {o:Oper} {K:List Kt} {r:List Oper}
def mkB:List (Option DV)→SV→List DV
 |[],_=>[]
 |some d::t,w=>d::mkB t w
 |none::t,w=> .v (.slice w.a w.n w.c)::mkB t w
def aDE(lk:LK):List Operand→Option (Option Nat×List (Option DV))
 |[]=>some (none,[])
 |x::t=>match evX lk x,aDE lk t with
  |some (.rw nm),some (none,l)=>some (some nm,none::l)
  |some f,some (q,l)=>match akh f with
   |some d=>some (q,some d::l)
   |none=>none
  |_,_=>none
def anP(lk:LK)(fo:Operand)(args:Array Operand):Option (FuncId×Nat×List (Option DV)):=match evX lk fo with
 |some (.d (.v (.func (.func f) ⟨[]⟩ ⟨[]⟩)))=>match aDE lk args.toList with
  |some (some nm,l)=>some (f,nm,l)
  |_=>none
 |_=>none
theorem aiH{lk:LK}{bk:BM}{ρ:NE}{G:Gh}{ov:List Own}{a:Act}{w:World}(r:RlX GB C n lk bk ρ G ov a w){z:SV}: ∀{x:List Operand} {q:Option Nat} {l:List (Option DV)},aDE lk x=some (q,l)→(∀nm,q=some nm→ρ nm=z)→
  ∃y,af6 (frA a) x=some y∧IsLs G (mkB l z) y
 |[],q,l,e,_=>by cases e;exact⟨[],rfl, .nil⟩
 |x::t,q,l,e,hb=>by
  simp only[aDE] at e
  split at e
  ·rename_i nm l' h1 h2
   cases e
   obtain⟨y,h3,h4⟩:=r.ev h1
   cases (show y=_ from h4)
   obtain⟨ys,h5,h6⟩:=aiH r (z:=z) h2 (fun nm e=>by cases e)
   have hz:=hb nm rfl
   subst hz
   exact⟨Value.slice (ρ nm).a (ρ nm).n (ρ nm).c::ys,by simp only[af6,h3,h5], .cons ((aaZ (G:=G)).2 rfl) h6⟩
  ·rename_i f q' l' _ h1 h2
   cases hd:akh f with
   |none=>rw[hd] at e;cases e
   |some d=>
   rw[hd] at e;cases e
   obtain⟨y,h3,h4⟩:=r.ev h1
   obtain⟨ys,h5,h6⟩:=aiH r (z:=z) h2 hb
   exact⟨y::ys,by simp only[af6,h3,h5], .cons (acx h4 hd) h6⟩
  ·cases e
theorem au9{lk:LK}{bk:BM}{fo:Operand}{args:Array Operand}{tys:Array TypeId}{f:FuncId}{nm d:Nat}{l:List (Option DV)}{s:Nat}{ty ty0:TypeId}{pos:String}{af:Array Edge}{gd:Option (Nat×Bool)}{dsi dso pre post:List DV}{lo:Bool}(hne:Nat.beq nm d=false)
  (ha:anP lk fo args=some (f,nm,l))(hb:bk nm=some (.b ty0 s dsi lo))(hF:PB GB prog f (mkB l) s ty0 dsi (fun w=> .tp (pre++ .v (.slice w.a w.n w.c)::post)) dso):OpR prog GB C n lk bk ⟨some d, .call ⟨.value fo,args,tys⟩,ty,pos,af,gd⟩ (.bx true pre d post) [(nm,none),(d,some (.b ty0 s dso lo))] [d]:=by
 intro hd tl tb K' s1 s2 hf hk
 refine⟨fun ρ G ov a w r Q=>?_⟩
 have r1:=r.mono s1 s2
 unfold anP at ha
 split at ha<;>try (cases ha;done)
 rename_i h1
 split at ha<;>cases ha
 rename_i h2
 obtain⟨y,hy,hy'⟩:=r1.ev h1
 rw[(aaZ (G:=G)).1 hy'] at hy
 obtain⟨B,g1,g2⟩:=r1.bx _ _ hb
 have hB:aba G ⟨ρ nm,s,ty0,dsi,lo⟩ B:=g1
 obtain⟨vs,h7,h8⟩:=aiH r1 (z:=ρ nm) h2 (fun nm e=>by cases e;rfl)
 have hp: ∃rest,ov.Perm (B++rest)∧ ∀o∈ov,(∀o'∈B,o.b≠o'.b)→o∈rest:=by
  rcases hB with⟨vs',⟨_,_,e⟩|⟨b0,r0,lo0,_,e,_⟩,_⟩
  ·rw[e];exact⟨ov,List.Perm.refl _,fun o ho _=>ho⟩
  ·rw[e] at g2⊢
   obtain⟨l1,l2,e2⟩:=kZ (g2 _ aQ)
   rw[e2]
   refine⟨l1++l2,lL,fun o ho hno=>?_⟩
   rcases bK.1 ho with ho|ho
   ·exact bL _ ho
   ·rcases aW.1 ho with rfl|ho
    ·exact absurd rfl (hno _ aQ)
    ·exact bY _ ho
 obtain⟨rest,h5,h6⟩:=hp
 refine aec (M:=B) (rest:=rest) hy h7 h5 (hF G (ρ nm) vs B r.gb hB.weak h8) hd (fun v own1 G' hG hK a' w' rl=>?_) a w Q ⟨r.h,r.sz,aaN a,r.df⟩
 obtain⟨z,hr,vs',k1,k2,k3,k4⟩:=hK
 have k1':=k1.relo (flM B)
 have e2:lo=true→ ∀o∈own1.map (relo (flM B)),o.lo=true:=fun hl o ho=>by
  obtain⟨o',_,rfl⟩:=bU.1 ho
  obtain⟨_,_,_,_,hlo⟩:=hB
  exact ag4 _ (hlo hl)
 generalize own1.map (relo (flM B))=B' at rl e2 k1'
 have rl':Rel C n (Sx.put (frA a) (some d) v) (B'++rest) G' a' w':=rl
 have hdis:=(gU.1 rl'.h.nd).2.2
 have r2:=r.dropB nm
 have hnn:nm≠d:=fun e=>by subst e;rw[mS] at hne;cases hne
 have hf2:acM [d] (some d) tl (Sx.upB tb [(nm,none)]):=fun q hq=>by
  obtain⟨f1,f2⟩:=hf q hq
  refine⟨f1,fun k B e1 e=>?_⟩
  simp only[Sx.upB] at e
  split at e
  ·cases e
  ·exact f2 k B e1 e
 have hsep: ∀q B0,Sx.upB tb [(nm,none)] q=some B0→ ∀o∈ov,(ρ q).a=some ⟨o.b,0,none⟩→o∈rest:=fun q B0 e o ho hbq=>by
  simp only[Sx.upB] at e
  split at e
  ·cases e
  ·rename_i hqn
   refine h6 o ho fun o' ho' he=>?_
   exact r.dj nm q _ _ (s2 _ _ hb) e (Ne.symm hqn) o'.b (g1.blk ho') (by rw[hbq,he])
 obtain⟨m,rfl,hm⟩:=adM.1 hr
 obtain⟨m1,m2',rfl,c1,c2⟩: ∃m1 m2',m=m1++m2'∧IsLs G' pre m1∧IsLs G' (.v (.slice z.a z.n z.c)::post) m2':=hm.unapp
 obtain⟨u,m2,rfl,c3,c4⟩:=aac.1 c2
 rw[aaZ.1 c3] at rl'
 have r3:=r2.new' (x:=z) (B':= .b ty0 s dso lo) (os:=B') (ov':=B'++rest) (f:= .bx true pre d post) (y:= .tuple ⟨m1++Value.slice z.a z.n z.c::m2⟩) hf2 hG.le rl'.h ⟨vs',by simpa using k1',k2,k3,e2⟩ (fun o ho=>bL _ ho)
  (fun q B0 hq e o ho hbq=>⟨bY _ (hsep q B0 e o ho hbq),fun hc=>by
   have hx: ∃o1∈B',o1.b=o.b:=by
    rcases k1' with⟨_,h,_⟩|⟨b0,rest0,lo0,h,hB,_⟩
    ·rw[show z=_ from h] at hc;cases hc
    ·rw[show z=_ from h] at hc;cases hc;exact⟨⟨_,aah vs'++rest0,_,lo0⟩,by rw[hB];exact aQ,rfl⟩
   obtain⟨o1,ho1,he1⟩:=hx
   exact hdis o1 ho1 o (hsep q B0 e o ho hbq) he1⟩) ⟨m1,m2,by simp,c1,c4⟩ (abj rl')
 exact hk.run _ G' _ a' w' r3
structure CbA where
 f:FuncId
 nm:Nat
 l:List (Option DV)
 ty:TypeId
 s:Nat
 ds:List DV
 lo:Bool
 d:Nat
def aDD(fr:FrX)(own:OwX)(cf:Cf):Option CbA:=match opC fr cf with
 |some ⟨some d, .call ⟨.value fo,args,_⟩,_,_,_,_⟩=>match anP (lkC fr cf) fo args with
  |some (f,nm,l)=>match bkC fr own cf nm with
   |some (.b ty s ds lo)=>bif Nat.beq nm d then none else some ⟨f,nm,l,ty,s,ds,lo,d⟩
   |_=>none
  |none=>none
 |_=>none
theorem cb[fu:Fu]{f:FuncId}{nm d:Nat}{l:List (Option DV)}{ty:TypeId}{s:Nat}{dsi dso pre post:List DV}{lo:Bool}(dso':List DV)(ha:aDD fr own cf=some ⟨f,nm,l,ty,s,dsi,lo,d⟩)(hF:PB GB prog f (mkB l) s ty dsi (fun w=> .tp (pre++ .v (.slice w.a w.n w.c)::post)) dso)(he:dso=dso')
  (hgo:goA tt n fu.n fr own cf (.bx true pre d post) [(nm,none),(d,some (.b ty s dso' lo))] [d]=⟨vc,fr',own',cf'⟩)(k:CfS prog GB C n Q0 fr' own' cf')
  (hv:aag vc:=by first|exact trivial|(simp only[aag];kernel_rfl)|(simp only[aag];omega)|(simp only[aag,aJ,aN,aY];omega)):CfS prog GB C n Q0 fr own cf:=by
 subst he
 unfold aDD at ha
 split at ha<;>try (cases ha;done)
 rename_i hh
 split at ha<;>try (cases ha;done)
 rename_i h1
 split at ha<;>try (cases ha;done)
 rename_i h2
 rw[cond_eq_ite] at ha
 split at ha<;>cases ha
 rename_i h3
 exact us hh (au9 (by cases hq:Nat.beq nm d with|false=>rfl|true=>exact absurd hq h3) h1 h2 hF) hgo hv k
def ai6:Nat→List (Option DV)→FrX
 |_,[]=>[]
 |i,some v::t=>(i, .d v)::ai6 (i+1) t
 |i,none::t=>(i, .rw NM)::ai6 (i+1) t
theorem al3(w:SV): ∀l:List (Option DV),(mkB l w).length=l.length
 |[]=>rfl
 |some d::t=>by simp[mkB,al3 w t]
 |none::t=>by simp[mkB,al3 w t]
theorem aeS{w:SV}{ρ:NE}{G:Gh}(hρ:ρ NM=w): ∀{ds:List (Option DV)} {vs:List Value} (i:Nat),IsLs G (mkB ds w) vs→ ∀k f,aay (ai6 i ds) k=some f→ ∃y,(∃j,k=i+j∧vs[j]? =some y)∧IsX ρ G f y
 |[],vs,i,h,k,f,e=>by cases e
 |some d::t,vs,i,h,k,f,e=>by
  obtain⟨y,m,rfl,h1,h2⟩:=aac.1 h
  simp only[ai6] at e
  rw[abd] at e
  split at e
  ·cases e;rename_i hk;exact⟨y,⟨0,hk,rfl⟩,h1⟩
  ·obtain⟨u,⟨j,hj,hu⟩,h3⟩:=aeS hρ (i+1) h2 k f e
   exact⟨u,⟨j+1,by omega,by simpa using hu⟩,h3⟩
 |none::t,vs,i,h,k,f,e=>by
  obtain⟨y,m,rfl,h1,h2⟩:=aac.1 h
  simp only[ai6] at e
  rw[abd] at e
  split at e
  ·cases e;rename_i hk;exact⟨y,⟨0,hk,rfl⟩,by show y=_;rw[hρ];exact aaZ.1 h1⟩
  ·obtain⟨u,⟨j,hj,hu⟩,h3⟩:=aeS hρ (i+1) h2 k f e
   exact⟨u,⟨j+1,by omega,by simpa using hu⟩,h3⟩
def asR(C:Ctx)(s:Nat)(ty:TypeId)(pre post dso:List DV):Ending→World→Prop:=agc C (fun v own' G'=> ∃w',Is G' (.tp (pre++ .v (.slice w'.a w'.n w'.c)::post)) v∧aba G' ⟨w',s,ty,dso,false⟩ own')
theorem fnB[fu:Fu]{f:FuncId}{fb:Func}{c:Code}{k s:Nat}{l:List (Option DV)}{dsi dso pre post:List DV}{ty:TypeId}(hf:prog.funcs[f]? =some fb)(hb:fb.body=some c)(hn:(fb.name== "runtime.NumGoroutine")=false)(hm:fb.ntmps=k)(hlen:Nat.ble l.length k=true)
  (hgo:go tt k fu.n [] (ai6 0 l) [(NM,some (.b ty s dsi false))] (.code c [])=⟨vc,fr,own,cf⟩)(h: ∀C,CfS prog GB C k (bodyPost prog fb (asR C s ty pre post dso)) fr own cf)
  (hv:aag vc:=by first|exact trivial|(simp only[aag];kernel_rfl)|(simp only[aag];omega)|(simp only[aag,aJ,aN,aY];omega)):PB GB prog f (mkB l) s ty dsi (fun w=> .tp (pre++ .v (.slice w.a w.n w.c)::post)) dso:=by
 intro G w vs B hg hB hvs
 refine FnO.intro hf hb hn hm (by rw[hvs.len,al3];exact hlen) fun C _ hmb=>?_
 intro a wd rl
 have h1:=gx' (GB:=GB) (C:=C) (Q0:=bodyPost prog fb (asR C s ty pre post dso)) hgo hv (h C)
 refine h1.run (fun _=>w) G (Sx.asB B) a wd ⟨hg,rl.h,rl.sz,rl.df,fun k f e=>?_,fun nm B' e=>?_,fun nm nm' B' B2 e e' hne=>?_⟩
 ·obtain⟨y,⟨j,hj,hy⟩,h2⟩:=aeS (ρ:=fun _=>w) (w:=w) rfl 0 hvs k f e
  refine⟨y,rl.fr k y ?_,h2⟩
  rw[hj];exact acz vs 0 j y hy
 ·rw[aaK] at e
  split at e
  ·cases e;exact⟨Sx.asB B,hB.asB,fun o ho=>ho⟩
  ·cases e
 ·rw[aaK] at e e'
  split at e<;>split at e'
  ·rename_i h2 h3;exact absurd (h2.trans h3.symm) hne
  ·cases e'
  ·cases e
  ·cases e
theorem alx{B:List Own}{G:Gh}{w:SV}{s:Nat}{ty:TypeId}{ds:List DV}{lo:Bool}{ov:List Own}(h:aba G ⟨w,s,ty,ds,lo⟩ B)(g: ∀o∈B,o∈ov): ∃rest,ov.Perm (B++rest):=by
 rcases h with⟨vs',⟨_,_,e⟩|⟨b0,r0,lo0,_,e,_⟩,_⟩
 ·rw[e];exact⟨ov,List.Perm.refl _⟩
 ·rw[e] at g⊢
  obtain⟨l1,l2,e2⟩:=kZ (g _ aQ)
  rw[e2]
  exact⟨l1++l2,lL⟩
theorem rzB{fb:Func}{t u d s:Nat}{ty:TypeId}{ds dso:List DV}{f:FX}{v v':DV}(hr:fb.results.toList=[.tmp t, .tmp u])(hl:aay fr t=some (.rw d))(hu:aay fr u=some f)(hd:akh f=some v)(hw:aaB own d=some (.b ty s ds false))(ed:ds=dso)(ev:v=v'):
  CfS prog GB C n (bodyPost prog fb (asR C s ty [] [v'] dso)) fr own (.ex .ret []):=by
 subst ed ev
 refine⟨fun ρ G ov a w r=>?_⟩
 obtain⟨B,g1,g2⟩:=r.bx _ _ hw
 have hB:aba G ⟨ρ d,s,ty,ds,false⟩ B:=g1
 obtain⟨rest,hp⟩:=alx hB g2
 obtain⟨y,hy,hy'⟩:=r.ev (x:= .tmp t) (f:= .rw d) hl
 cases (show y=_ from hy')
 obtain⟨z,hz,hz'⟩:=r.ev (x:= .tmp u) (f:=f) hu
 exact aiq (C:=C) (n:=n) (fr:=frA a) (own:=ov) (G:=G) (vs:=[.slice (ρ d).a (ρ d).n (ρ d).c,z]) (by rw[hr];exact .tmp hy (.tmp hz .nil)) (B++rest) B hp (mM _ _)
  ⟨ρ d,adM.2 ⟨_,rfl, .cons (aaZ.2 rfl) (.cons (acx hz' hd) .nil)⟩,hB⟩ a w ⟨r.h,r.sz,aaN a,r.df⟩
/-! the same with nil as the row of nothing -/
def aDK(lk:LK):List Operand→Option (List (Option DV))
 |[]=>some []
 |x::t=>match evX lk x,aDK lk t with
  |some .nl,some l=>some (none::l)
  |some f,some l=>match akh f with
   |some d=>some (some d::l)
   |none=>none
  |_,_=>none
def aAF(lk:LK)(fo:Operand)(args:Array Operand):Option (FuncId×List (Option DV)):=match evX lk fo with
 |some (.d (.v (.func (.func f) ⟨[]⟩ ⟨[]⟩)))=>match aDK lk args.toList with
  |some l=>some (f,l)
  |_=>none
 |_=>none
theorem aod{lk:LK}{bk:BM}{ρ:NE}{G:Gh}{ov:List Own}{a:Act}{w:World}(r:RlX GB C n lk bk ρ G ov a w): ∀{x:List Operand} {l:List (Option DV)},aDK lk x=some l→ ∃y,af6 (frA a) x=some y∧IsLs G (mkB l ⟨none,0,0⟩) y
 |[],l,e=>by cases e;exact⟨[],rfl, .nil⟩
 |x::t,l,e=>by
  simp only[aDK] at e
  split at e
  ·rename_i l' h1 h2
   cases e
   obtain⟨y,h3,h4⟩:=r.ev h1
   cases (show y=_ from h4)
   obtain⟨ys,h5,h6⟩:=aod r h2
   exact⟨Value.slice none 0 0::ys,by simp only[af6,h3,h5], .cons ((aaZ (G:=G)).2 rfl) h6⟩
  ·rename_i f l' _ h1 h2
   cases hd:akh f with
   |none=>rw[hd] at e;cases e
   |some d=>
   rw[hd] at e;cases e
   obtain⟨y,h3,h4⟩:=r.ev h1
   obtain⟨ys,h5,h6⟩:=aod r h2
   exact⟨y::ys,by simp only[af6,h3,h5], .cons (acx h4 hd) h6⟩
  ·cases e
theorem as1{lk:LK}{bk:BM}{fo:Operand}{args:Array Operand}{tys:Array TypeId}{f:FuncId}{d:Nat}{l:List (Option DV)}{s:Nat}{ty ty0:TypeId}{pos:String}{af:Array Edge}{gd:Option (Nat×Bool)}{dso pre post:List DV}
  (ha:aAF lk fo args=some (f,l))(hF:PB GB prog f (mkB l) s ty0 [] (fun w=> .tp (pre++ .v (.slice w.a w.n w.c)::post)) dso):OpR prog GB C n lk bk ⟨some d, .call ⟨.value fo,args,tys⟩,ty,pos,af,gd⟩ (.bx true pre d post) [(d,some (.b ty0 s dso true))] [d]:=by
 intro hd tl tb K' s1 s2 hf hk
 refine⟨fun ρ G ov a w r Q=>?_⟩
 have r1:=r.mono s1 s2
 unfold aAF at ha
 split at ha<;>try (cases ha;done)
 rename_i h1
 split at ha<;>cases ha
 rename_i h2
 obtain⟨y,hy,hy'⟩:=r1.ev h1
 rw[(aaZ (G:=G)).1 hy'] at hy
 obtain⟨vs,h7,h8⟩:=aod r1 h2
 refine aec (M:=[]) (rest:=ov) hy h7 (List.Perm.refl _) (hF G ⟨none,0,0⟩ vs [] r.gb ⟨[], .nil _ _, .nil,by simp,fun h=>by cases h⟩ h8) hd (fun v own1 G' hG hK a' w' rl=>?_) a w Q ⟨r.h,r.sz,aaN a,r.df⟩
 obtain⟨z,hr,vs',k1,k2,k3,k4⟩:=hK
 have k1':=k1.relo (flM [])
 have e2: ∀o∈own1.map (relo (flM [])),o.lo=true:=fun o ho=>by
  obtain⟨o',_,rfl⟩:=bU.1 ho
  rfl
 generalize own1.map (relo (flM []))=B' at rl e2 k1'
 have rl':Rel C n (Sx.put (frA a) (some d) v) (B'++ov) G' a' w':=rl
 have hdis:=(gU.1 rl'.h.nd).2.2
 obtain⟨m,rfl,hm⟩:=adM.1 hr
 obtain⟨m1,m2',rfl,c1,c2⟩: ∃m1 m2',m=m1++m2'∧IsLs G' pre m1∧IsLs G' (.v (.slice z.a z.n z.c)::post) m2':=hm.unapp
 obtain⟨u,m2,rfl,c3,c4⟩:=aac.1 c2
 rw[aaZ.1 c3] at rl'
 have r3:=r.new (x:=z) (B':= .b ty0 s dso true) (os:=B') (ov':=B'++ov) (f:= .bx true pre d post) (y:= .tuple ⟨m1++Value.slice z.a z.n z.c::m2⟩) hf hG.le rl'.h ⟨vs',by simpa using k1',k2,k3,fun _=>e2⟩ (fun o ho=>bL _ ho) (fun o ho=>bY _ ho)
  (fun o ho hc=>by
   have hx: ∃o1∈B',o1.b=o.b:=by
    rcases k1' with⟨_,h,_⟩|⟨b0,rest0,lo0,h,hB,_⟩
    ·rw[show z=_ from h] at hc;cases hc
    ·rw[show z=_ from h] at hc;cases hc;exact⟨⟨_,aah vs'++rest0,_,lo0⟩,by rw[hB];exact aQ,rfl⟩
   obtain⟨o1,ho1,he1⟩:=hx
   exact hdis o1 ho1 o ho he1) ⟨m1,m2,by simp,c1,c4⟩ (abj rl')
 exact hk.run _ G' _ a' w' r3
def aAY(fr:FrX)(cf:Cf):Option (FuncId×List (Option DV)×Nat):=match opC fr cf with
 |some ⟨some d, .call ⟨.value fo,args,_⟩,_,_,_,_⟩=>match aAF (lkC fr cf) fo args with
  |some (f,l)=>some (f,l,d)
  |none=>none
 |_=>none
theorem cbn[fu:Fu]{f:FuncId}{d:Nat}{l:List (Option DV)}{ty:TypeId}{s:Nat}{dso pre post:List DV}(dso':List DV)(ha:aAY fr cf=some (f,l,d))(hF:PB GB prog f (mkB l) s ty [] (fun w=> .tp (pre++ .v (.slice w.a w.n w.c)::post)) dso)(he:dso=dso')
  (hgo:goA tt n fu.n fr own cf (.bx true pre d post) [(d,some (.b ty s dso' true))] [d]=⟨vc,fr',own',cf'⟩)(k:CfS prog GB C n Q0 fr' own' cf')
  (hv:aag vc:=by first|exact trivial|(simp only[aag];kernel_rfl)|(simp only[aag];omega)|(simp only[aag,aJ,aN,aY];omega)):CfS prog GB C n Q0 fr own cf:=by
 subst he
 unfold aAY at ha
 split at ha<;>try (cases ha;done)
 rename_i hh
 split at ha<;>cases ha
 rename_i h1
 exact us hh (as1 h1 hF) hgo hv k
end
section
variable {P:Program} {C:Ctx} {n:Nat} {fr:Fr} {own own':List Own} {G:Gh} {Φ:Act→World→Prop}
variable {dst:Option Nat} {t t' ty':TypeId} {pos:String} {af:Array Edge} {gd:Option (Nat×Bool)} {x y:Operand} {e s by_:Nat}
theorem aDq[hT:acH P t e s by_]{z:Value}[hz:TyZ P e z]{k k':IntKind}{l:Int}(hx:opv fr x=some (.int k 0))(hy:opv fr y=some (.int k' l))(h0:0≤l)(hb:by_*l≤2^47)(hl:l≤2^60)(hs:(aae z).length=s)(hd:aaQ n dst=true)
  (h: ∀b,St C n (put fr dst (.slice (some ⟨b,0,none⟩) 0 l.toNat)) (⟨b,aa7 z l.toNat,e,true⟩::own) G Φ):
  Ch P C n fr own G ⟨dst, .makeSlice t x y,ty',pos,af,gd⟩ Φ:=by
 intro a w Q rl
 have h1:(Instr.makeSlice t (a.eval x) (a.eval y)).run P w= .ok (.slice (some ⟨w.heap.size,0,none⟩) 0 l.toNat) (w.alloc (.cells ⟨aa7 z l.toNat⟩ e)):=by
  obtain⟨i,hi,hib⟩:=amM (P:=P) (t:=t) (e:=e) (s:=s) (by_:=by_) w
  rw[aad rl.fr hx,aad rl.fr hy]
  unfold Instr.makeSlice
  rw[aaa (hT.u w)]
  simp only[asInt,asIntOf]
  rw[aaa (a:=0) (w':=w) rfl,aaa (a:=l) (w':=w) rfl,aaa hi,hib]
  have hw:IntKind.i64.wrap l=l:=aeM (by simp[IntKind.min,IntKind.max,IntKind.signed,IntKind.bits];omega)
  have hw0:IntKind.i64.wrap 0=0:=rfl
  simp only[hw,hw0]
  have c1: ¬((by_:Int)*l>2^48):=by
   have:(2:Int)^47≤2^48:=by decide
   omega
  have c5:decide ((by_:Int)*l>2^48)=false:=decide_eq_false c1
  have c2:decide (l<0)=false:=decide_eq_false (by omega)
  have c4:decide ((0:Int)>l)=false:=by simp;omega
  simp only[c2,c4,c5,Bool.false_or,Int.lt_irrefl,decide_false,Bool.or_false,iN,if_false]
  have hr: ¬(l.toNat*by_>roomBytes):=by
   unfold roomBytes
   have:((l.toNat*by_:Nat):Int)=by_*l:=by rw[iW,pZ h0,Int.mul_comm]
   have h47:((2^47:Nat):Int)=2^47:=by decide
   omega
  unfold askRoom
  simp only[hr,if_false]
  rw[aaa (aao _ _ _),aaa (hT.siz w)]
  have hn:l.toNat*s=l.toNat*(aae z).length:=by rw[hs]
  by_cases h00:l.toNat*s=0
  ·rw[if_pos h00,aaa (aao _ _ _)]
   have e0:aa7 z l.toNat=[]:=bS (by rw[abG,hs];exact h00)
   rw[h00,e0,show(Array.range 0)= #[] from rfl,Array.map_empty]
   rfl
  ·rw[if_neg h00,aaa (hz.zero w),acv]
   rw[aaa (aao _ _ _),adI hn]
   rfl
 refine abb (v:= .slice (some ⟨w.heap.size,0,none⟩) 0 l.toNat) (aam h1) (h w.heap.size _ _ ((rl.heap (rl.h.alloc _ _)).put _ hd))
def aj6(G:Gh)(ov:List Own):Gh:=fun b=>match G b with
 |some cs=>some cs
 |none=>(ov.find? fun o=>Nat.beq o.b b).map (·.cs)
theorem aoP{ov:List Own}:GLe G (aj6 G ov):=fun b cs h=>by unfold aj6;rw[h]
theorem apA{o:Own}: ∀{ov:List Own},o∈ov→ov.Pairwise (fun x y=>x.b≠y.b)→ov.find? (fun u=>Nat.beq u.b o.b)=some o
 |u::t,ho,nd=>by
  rcases aW.1 ho with rfl|ho
  ·rw[List.find?_cons_of_pos (by simp)]
  ·have:=(bR.1 nd).1 o ho
   rw[List.find?_cons_of_neg (by simpa using this)]
   exact apA ho (bR.1 nd).2
theorem avg{ov:List Own}{o:Own}(ho:o∈ov)(hn:G o.b=none)(nd:ov.Pairwise (fun x y=>x.b≠y.b)):aj6 G ov o.b=some o.cs:=by
 unfold aj6;rw[hn,apA ho nd];rfl
theorem ace.lendSub{ov:List Own}{w:World}(h:ace C ov G w)(b:Nat)(cs:List Value)(hb:aj6 G ov b=some cs): ∃ty fz,w.heap[b]? =some (.cells ⟨cs⟩ ty fz):=by
 unfold aj6 at hb
 split at hb
 ·rename_i hg;cases hb;exact h.sub _ _ hg
 ·cases hf:ov.find? (fun o=>Nat.beq o.b b) with
  |none=>rw[hf] at hb;cases hb
  |some o=>
   rw[hf] at hb;cases hb
   have e:o.b=b:=aR (by simpa using List.find?_some hf)
   subst e
   exact⟨_,_,(h.hown o (List.mem_of_find?_eq_some hf)).1⟩
theorem ace.lent{ov:List Own}{G':Gh}{w w':World}(h:ace C ov G w)(k:ace ⟨w,aj6 G ov,[]⟩ [] G' w'):ace C ov G w':=by
 have same: ∀b o,w.heap[b]? =some o→w'.heap[b]? =some o:=fun b o hb=>by rw[k.keep b (acU hb) (by simp)];exact hb
 have hsz:w.heap.size≤w'.heap.size:=k.size
 refine⟨k.os.trans h.os,k.tape.trans h.tape,k.output.trans h.output,cW h.size hsz,fun b hb hm=>?_,fun b cs hb=>?_,h.gle,h.gold,fun o ho=>?_,h.nd,cW h.dr k.dr⟩
 ·have:=h.size;rw[k.keep b (by show b<w.heap.size;omega) (by simp)];exact h.keep b hb hm
 ·obtain⟨ty,fz,h1⟩:=h.sub b cs hb;exact⟨ty,fz,same _ _ h1⟩
 ·obtain⟨h1,h2⟩:=h.hown o ho;exact⟨same _ _ h1,h2⟩
theorem avl{f:FuncId}{fo:Operand}{args:Array Operand}{tys:Array TypeId}{vs:List Value}{K:Value→Gh→Prop}(ho:opv fr fo=some (.func (.func f) #[] #[]))(hv:af6 fr args.toList=some vs)
  (hF:Fn P f vs (aj6 G own) K)(hd:aaQ n dst=true)(h: ∀v (G':Gh),K v G'→St C n (put fr dst v) own G Φ):Ch P C n fr own G ⟨dst, .call ⟨.value fo,args,tys⟩,ty',pos,af,gd⟩ Φ:=by
 intro a w Q rl
 have h2:=aix (c1:=[]) (c2:=[]) (P:=P) (dst:=dst) (ty':=ty') (pos:=pos) (af:=af) (gd:=gd) (tys:=tys) (w:=w) hF.able rl.fr ho hv
 rw[jS,lJ] at h2
 simp only[Oper.wp,h2,Oper.upon]
 refine(hF.run w rl.h.lendSub).mono ?_
 rintro e w' ⟨v,G',rfl,hh,hK⟩
 exact h v G' hK _ _ ((rl.heap (rl.h.lent hh)).put _ hd)
end
def DV.np:DV→Bool
 | .v _=>true
 | .tp l=>l.all fun d=>match d with
  | .v _=>true
  |_=>false
 |_=>false
theorem ayk{A G:Gh}: ∀{l:List DV} {m:List Value},(l.all fun d=>match d with| .v _=>true|_=>false)=true→IsLs A l m→IsLs G l m
 |[],m,_,k=>aaJ.2 (aaJ.1 k)
 |d::t,m,h,k=>by
  obtain⟨y,n,rfl,k1,k2⟩:=aac.1 k
  simp only[List.all_cons,cJ] at h
  refine .cons ?_ (ayk h.2 k2)
  cases d with
  |v x=>exact aaZ.2 (aaZ.1 k1)
  |_=>simp at h
theorem Is.np{A G:Gh}{d:DV}{y:Value}(h:d.np=true)(k:Is A d y):Is G d y:=by
 cases d with
 |v x=>exact aaZ.2 (aaZ.1 k)
 |tp l=>obtain⟨m,e,k⟩:=adM.1 k;exact adM.2 ⟨m,e,ayk h k⟩
 |_=>cases h
section
variable {GB:Gh} {C:Ctx} {n:Nat} {Q0:Exit→Act→World→Prop} {fr fr':FrX} {own own':OwX} {cf cf':Cf} {vc:List Prop} {lk:LK} {bk:BM} {ρ:NE} {G:Gh} {ov:List Own} {a:Act} {w:World}
variable {dst:Option Nat} {t t' ty':TypeId} {pos:String} {af:Array Edge} {gd:Option (Nat×Bool)} {x y:Operand} {e s by_:Nat}
/-! ### rows lent -/
def aB6:Option Bk→Option (List DV)
 |some (.b _ _ ds _)=>some ds
 |some (.c _ _ ds _)=>some ds
 |_=>none
def aEJ(lk:LK)(bk:BM)(x:Operand):Option DV:=match evX lk x with
 |some (.rw nm)=>match aB6 (bk nm) with
  |some ds=>some (.sl ds)
  |none=>none
 |some f=>akh f
 |none=>none
def aDz(lk:LK)(bk:BM):List Operand→Option (List DV)
 |[]=>some []
 |x::t=>match aEJ lk bk x,aDz lk bk t with
  |some d,some l=>some (d::l)
  |_,_=>none
theorem azh(r:RlX GB C n lk bk ρ G ov a w){d:DV}(h:aEJ lk bk x=some d): ∃y,opv (frA a) x=some y∧Is (aj6 G ov) d y:=by
 unfold aEJ at h
 split at h
 ·rename_i nm h1
  obtain⟨y,h2,h3⟩:=r.ev h1
  cases (show y=_ from h3)
  refine⟨_,h2,?_⟩
  split at h<;>cases h
  rename_i ds hr
  obtain⟨ty,s,vs,B,hB,hv,hs,hBo⟩: ∃ty s vs B,Buf s ty (ρ nm) vs B∧IsLs G ds vs∧(∀v∈vs,(aae v).length=s)∧ ∀o∈B,o∈ov:=by
   unfold aB6 at hr
   split at hr<;>cases hr
   ·rename_i hb;obtain⟨B,⟨vs,h4,h5,h6,_⟩,h7⟩:=r.bx _ _ hb;exact⟨_,_,vs,B,h4,h5,h6,h7⟩
   ·rename_i hb;obtain⟨B,⟨vs,h4,h5,h6,_⟩,h7⟩:=r.bx _ _ hb;exact⟨_,_,vs,B,h4,h5,h6,h7⟩
  rcases hB with⟨e1,e2,e3⟩|⟨b,rest,lo',e2,e3,h5,h6,h7⟩
  ·subst e1
   have ed:ds=[]:=bS (by rw[←hv.len];rfl)
   subst ed
   rw[e2]
   exact adu.2 ⟨0,⟨none,0,0⟩,[],rfl, .nil _ 0, .nil⟩
  ·subst e3
   have ho:=hBo _ aQ
   have hg:=avg ho (r.h.hown _ ho).2.1 r.h.nd
   rw[e2]
   exact adu.2 ⟨s,⟨some ⟨b,0,none⟩,vs.length,_⟩,vs,rfl,afw.of_flat hs hg h7,hv.up aoP⟩
 ·rename_i h1
  obtain⟨y,h2,h3⟩:=r.ev h1
  exact⟨y,h2,(acx h3 h).up aoP⟩
 ·cases h
theorem ar4(r:RlX GB C n lk bk ρ G ov a w): ∀{l:List Operand} {ds:List DV},aDz lk bk l=some ds→ ∃vs,af6 (frA a) l=some vs∧IsLs (aj6 G ov) ds vs
 |[],ds,e=>by cases e;exact⟨[],rfl, .nil⟩
 |x::t,ds,e=>by
  simp only[aDz] at e
  split at e<;>cases e
  rename_i h1 h2
  obtain⟨y,h3,h4⟩:=azh r h1
  obtain⟨vs,h5,h6⟩:=ar4 r h2
  exact⟨y::vs,by simp only[af6,h3,h5], .cons h4 h6⟩
def azQ(lk:LK)(bk:BM)(fo:Operand)(args:Array Operand):Option (FuncId×List DV):=match evX lk fo with
 |some (.d (.v (.func (.func f) ⟨[]⟩ ⟨[]⟩)))=>match aDz lk bk args.toList with
  |some ds=>some (f,ds)
  |none=>none
 |_=>none
theorem av5{fo:Operand}{args:Array Operand}{tys:Array TypeId}{f:FuncId}{ds:List DV}{rv:DV}(ha:azQ lk bk fo args=some (f,ds))(hnp:rv.np=true)(hF:PF GB prog f ds rv):OpR prog GB C n lk bk ⟨dst, .call ⟨.value fo,args,tys⟩,ty',pos,af,gd⟩ (.d rv) [] []:=by
 intro hd tl tb K' s1 s2 hf hk
 refine⟨fun ρ G ov a w r Q=>?_⟩
 have r1:=r.mono s1 s2
 unfold azQ at ha
 split at ha<;>try (cases ha;done)
 rename_i h1
 split at ha<;>cases ha
 rename_i h2
 obtain⟨y,hy,hy'⟩:=r1.ev h1
 rw[(aaZ (G:=G)).1 hy'] at hy
 obtain⟨vs,h3,h4⟩:=ar4 r1 h2
 refine avl hy h3 (hF _ vs (r.gb.trans aoP) h4) hd (fun v G' hK a' w' rl=>?_) a w Q ⟨r.h,r.sz,aaN a,r.df⟩
 exact hk.run ρ G ov a' w' ⟨r.gb,rl.h,rl.sz,rl.df,(abj rl).fx (fun k g _ e=>r.fx k g e) (Is.np hnp hK),r.bx,r.dj⟩
def aFQ(fr:FrX)(own:OwX)(cf:Cf):Option (FuncId×List DV):=match opC fr cf with
 |some ⟨_, .call ⟨.value fo,args,_⟩,_,_,_,_⟩=>azQ (lkC fr cf) (bkC fr own cf) fo args
 |_=>none
theorem cL[fu:Fu]{f:FuncId}{ds:List DV}{rv:DV}(ha:aFQ fr own cf=some (f,ds))(hF:PF GB prog f ds rv)(hnp:rv.np=true)(hgo:goA tt n fu.n fr own cf (.d rv) [] []=⟨vc,fr',own',cf'⟩)(k:CfS prog GB C n Q0 fr' own' cf')
  (hv:aag vc:=by first|exact trivial|(simp only[aag];kernel_rfl)|(simp only[aag];omega)):CfS prog GB C n Q0 fr own cf:=by
 unfold aFQ at ha
 split at ha<;>try (cases ha;done)
 rename_i hh
 exact us hh (av5 ha hnp hF) hgo hv k
/-! ### rows with room -/
theorem aCD{d cap:Nat}{i:TI}{z:DV}{k k':IntKind}[hT:acH prog t e s by_](hi:afl prog e=some i)(hz:zeE i=some z)(hs:Nat.beq z.cells.length s=true)(hx:evX lk x=some (.d (.v (.int k 0))))(hy:evX lk y=some (.d (.v (.int k' (cap:Nat)))))(hb:by_*cap≤140737488355328)(hl:cap≤1152921504606846976):
  OpR prog GB C n lk bk ⟨some d, .makeSlice t x y,ty',pos,af,gd⟩ (.rw d) [(d,some (.c e s [] cap))] [d]:=by
 intro hd tl tb K s1 s2 hf hk
 refine⟨fun ρ G ov a w r Q=>?_⟩
 obtain⟨v,hz1,hz2,hz3⟩:=ajs hi hz
 obtain⟨q1,p1,p2⟩:=(r.mono s1 s2).ev hx
 obtain⟨q2,p3,p4⟩:=(r.mono s1 s2).ev hy
 rw[aax] at p2 p4;subst p2 p4
 have c1:=((hz2 G).cells hz3).1.len
 replace hs:=aR hs
 refine aDq p1 p3 (by omega) (by have:((by_*cap:Nat):Int)=by_*cap:=iW ..;omega) (by omega) (by rw[c1,hs]) hd (fun b a' w' rl=>?_) a w Q ⟨r.h,r.sz,aaN a,r.df⟩
 rw[bX] at rl
 have hnd:=(bR.1 rl.h.nd).1
 refine hk.run _ _ _ a' w' (r.new' (x:=⟨some ⟨b,0,none⟩,0,cap⟩) (B':= .c e s [] cap) (os:=[⟨b,aa7 v cap,e,true⟩]) (f:= .rw d) (y:= .slice (some ⟨b,0,none⟩) 0 cap) hf (GLe.refl _) rl.h ⟨[], .inr ⟨b,aa7 v cap,true,by simp,rfl,by simp[aah],?_,by simp⟩, .nil,by simp,fun o ho=>by rw[aU.1 ho],by simp⟩
  (fun o ho=>by rw[aU.1 ho];exact aQ) (fun m B' _ _ o ho _=>⟨aX _ ho,fun e'=>by cases e';exact hnd o ho rfl⟩) (by show _=_;simp) (abj rl))
 rw[abG,c1,hs];simp[aah]
theorem aCW{d nm cap:Nat}{ds ds2:List DV}[hT:acH prog t e s by_][hN:TyN prog t'](hx:evX lk x=some (.rw nm))(hb:bk nm=some (.c e s ds cap))(hy:at3 lk bk s y=some ds2)(hk2:ads s ds2)(hc:ds.length+ds2.length≤cap)(hp:0<ds2.length)(hnd:Nat.beq nm d=false):
  OpR prog GB C n lk bk ⟨some d, .call ⟨.builtin .append, #[x,y], #[t,t']⟩,ty',pos,af,gd⟩ (.rw d) [(nm,none),(d,some (.c e s (ds++ds2) cap))] [d]:=by
 intro hd tl tb K s1 s2 hf hk
 refine⟨fun ρ G ov a w r Q=>?_⟩
 have r1:=r.mono s1 s2
 have hne:nm≠d:=fun e=>by subst e;simp at hnd
 obtain⟨u,hx',hx2⟩:=r1.ev hx
 cases hx2
 obtain⟨B,⟨vs,hB,hv,hvs,hlo,hcap⟩,hBo⟩:=r1.bx _ _ hb
 obtain⟨w2,us,hy',h2,h3,h4,h5,h6⟩:=amN (P:=prog) (C:=C) r1 hy hk2
 have hus:(aah us).length=us.length*s:=aap us h4
 have hl1:=hv.len
 have hl2:=h3.len
 have rd:=r.dropB nm
 have hf':acM [d] (some d) tl (Sx.upB tb [(nm,none)]):=fun m hm=>by
  obtain⟨g1,g2⟩:=hf m hm
  refine⟨g1,fun k B' hk e=>g2 k B' hk ?_⟩
  simp only[Sx.upB] at e
  split at e
  ·cases e
  ·exact e
 rcases hB with⟨e1,e2,e3⟩|⟨b,rest,lo',k3,k4,k5,k6,k7⟩
 ·rw[e2] at hcap;simp at hcap;omega
 subst k4
 have hl':=hlo _ aQ
 simp only at hl';subst hl'
 have ha:(ρ nm).a=some ⟨b,0,none⟩:=by rw[k3]
 have hn:(ρ nm).n=vs.length:=by rw[k3]
 rw[ha,hn] at hx'
 rw[h2] at hy' h6
 have hin:=hBo _ aQ
 obtain⟨l1,l2,e5⟩:=kZ hin
 have hperm:ov.Perm (⟨b,aah vs++rest,e,true⟩::(l1++l2)):=by rw[e5];exact lL
 have hall: ∀v∈vs++us,(aae v).length=s:=fun v hv=>by
  rcases bK.1 hv with hv|hv
  ·exact hvs v hv
  ·exact h4 v hv
 have hcs:(aah vs++rest).length=(ρ nm).c*s:=by rw[aV];exact k6
 have hroom:vs.length+us.length≤(ρ nm).c:=by omega
 have hmul:(vs.length+us.length)*s≤(ρ nm).c*s:=bT _ hroom
 rw[cY] at hmul
 have hrest:us.length*s≤rest.length:=by rw[k5] at k6;omega
 have hovw:ovw (aah vs++rest) (vs.length*s) (aah us)=aah (vs++us)++rest.drop (us.length*s):=by
  rw[act _ _ _ (by rw[hus,aV];omega),ab7,←k5]
  simp[hus,lU,fQ]
 refine af9 (P:=prog) (own:=⟨b,aah vs++rest,e,true⟩::(l1++l2)) (m:=us.length) (ys:=aah us) hx' hy' (.hd ..) hcs (fun w hh=>h6 w (hh.perm hperm.symm)) hus h5 hroom hd (fun a' w' rl=>?_) a w Q ⟨r.h.perm hperm,r.sz,aaN a,r.df⟩
 rw[hovw] at rl
 have hnd':=(bR.1 rl.h.nd).1
 refine hk.run _ _ _ a' w' (rd.new' (x:=⟨some ⟨b,0,none⟩,vs.length+us.length,(ρ nm).c⟩) (B':= .c e s (ds++ds2) cap) (os:=[⟨b,aah (vs++us)++rest.drop (us.length*s),e,true⟩]) (f:= .rw d) (y:= .slice (some ⟨b,0,none⟩) (vs.length+us.length) (ρ nm).c) hf' (GLe.refl _) rl.h
  ⟨vs++us, .inr ⟨b,rest.drop (us.length*s),true,by simp,rfl,aap _ hall,?_,by simpa using hroom⟩,hv.app h3,hall,fun o ho=>by rw[aU.1 ho],by simpa using hcap⟩ (fun o ho=>by rw[aU.1 ho];exact aQ)
  (fun m B' hm e' o ho hmo=>?_) (by show _=_;simp) (abj rl))
 ·rw[aap _ hall,aV,gJ,cY]
  simp only[if_true]
  rw[k5] at k6;omega
 ·have hmn:m≠nm∧tb m=some B':=by
   simp only[Sx.upB] at e'
   split at e'
   ·cases e'
   ·exact⟨by assumption,e'⟩
  have hob:o.b≠b:=fun e6=>r.dj m nm B' _ hmn.2 (s2 _ _ hb) hmn.1 b (by rw[hmo,e6]) ha
  refine⟨?_,fun e6=>by cases e6;exact hob rfl⟩
  rcases aW.1 (hperm.mem_iff.1 ho) with rfl|ho
  ·exact absurd rfl hob
  ·exact aX _ ho
end
end Go.Sx
end
