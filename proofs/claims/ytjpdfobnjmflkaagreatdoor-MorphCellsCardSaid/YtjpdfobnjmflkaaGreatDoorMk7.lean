import Derived.Test.YtjpdfobnjmflkaaGreatDoorMk6
set_option linter.all false
set_option maxRecDepth 100000
section
namespace Go.Sx
open Go Go.Proofs Tryz
variable {GB G:Gh}{C:aF}{n q x y t:Nat}{Q0:Exit->Act->World->Prop}{fr fr' fr1 fr2:aC}{own' own1 own2:aI}{cf cf' cf1 cf2:Cf}{vc vc1 vc2:List Prop}{ops:Array Oper}{o:Oper}{K:List Kt}{r:List Oper}{nw:List Nat}{rv d' v v':DV}{i:Int}{ρ:NE}{Φ Ψ:Act->World->Prop}{c:Code}{lk tl:LK}{bk tb:BM}{ov:List aA}{fo:Operand}{args:Array Operand}{tys:Array TypeId}{ty0 ty2:TypeId}{pos:String}{af:Array Edge}{cs' cs1 rws dsi dso pre post:List DV}{fb:Func}{p:Prop}{B:Bk}{ι:Type}
section
variable {own:aI}
def cI(fr:aC)(cf:Cf):Option Oper:=match HQ cf with
 |some (ops,o)=>bif vJ ops (b9 fr cf) o.guard then some o else none
 |none=>none
def HH(h:cI fr cf=some o): ∃ops,HQ cf=some (ops,o)/\vJ ops (b9 fr cf) o.guard=true:=by
 unfold cI at h;split at h<;>try (cases h;done)
 rename_i ops o' hh
 cases hg:vJ ops (b9 fr cf) o'.guard with
 |false=>rw[hg] at h;cases h
 |true=>rw[hg] at h;cases h;exact⟨ops,hh,hg⟩
def us{f:FX}{bl:List (Nat×Option Bk)}(hh:cI fr cf=some o)(h:b7 prog GB C n (b9 fr cf) (iH fr own cf) o f bl nw)
  (hgo:cH tt n q fr own cf f bl nw=⟨vc,fr',own',cf'⟩)(hv:ak vc)(k:av prog GB C n Q0 fr' own' cf'):av prog GB C n Q0 fr own cf:=by
 obtain⟨ops,h1,h2⟩:=HH hh;exact uo h1 h2 h hgo hv k
def w9(fr:aC)(cf:Cf):Option (FuncId×List DV):=match cI fr cf with
 |some ⟨_, .call ⟨.value fo,args,_⟩,_,_,_,_⟩=>uA (b9 fr cf) fo args
 |_=>none
def cl[fu:Fu]{f:FuncId}{ds:List DV}(ha:w9 fr cf=some (f,ds))(hF:PF GB prog f ds rv)(hgo:cH tt n fu.n fr own cf (.d rv) [] []=⟨vc,fr',own',cf'⟩)(k:av prog GB C n Q0 fr' own' cf')
  (hv:autoParam (ak vc) fn._auto_1):av prog GB C n Q0 fr own cf:=by
 unfold w9 at ha;split at ha<;>try (cases ha;done)
 rename_i hh;exact us hh (Lr ha hF) hgo hv k
def Qa(fr:aC)(cf:Cf):Option (List DV×Int×Nat):=match cI fr cf with
 |some ⟨_, .indexAddr t x y,_,_,_,_⟩=>match evD (b9 fr cf) x with
  |some (.sl l)=>match bh (b9 fr cf) y with
   |some (.d (.v (.int _ i)))=>match dO tt t with
    |some ⟨.sl _ s _,_,_,_⟩=>some (l,i,s)
    |_=>none
   |_=>none
  |_=>none
 |_=>none
def Qy(n q:Nat)(fr:aC)(own:aI)(cf:Cf)(d:DV)(s:Nat):y4:=bif d.okc&&Nat.beq d.cells.length s then kP d.cells fun cs=>cH tt n q fr own cf (.ep cs) [] [] else pk
def ix[fu:Fu](d:DV){l:List DV}{s:Nat}(h:Qa fr cf=some (l,i,s))(he:l[i.toNat]? =some d)(hgo:Qy n fu.n fr own cf d s=⟨vc,fr',own',cf'⟩)(k:av prog GB C n Q0 fr' own' cf')(h0:0<=i:=by omega)
  (hv:autoParam (ak vc) fn._auto_1):av prog GB C n Q0 fr own cf:=by
 unfold Qa at h;split at h<;>try (cases h;done)
 rename_i hh;split at h<;>try (cases h;done)
 rename_i hx;split at h<;>try (cases h;done)
 rename_i hy;split at h<;>cases h;rename_i hT;have:=kt (et _ _ hT) J;unfold Qy at hgo
 cases hc:(d.okc&&Nat.beq d.cells.length s) with
 |false=>simp only[hc,cond_false,pk] at hgo;cases hgo;exact absurd hv (fun x=>x)
 |true=>
  simp only[hc,cond_true,s9] at hgo;exact us hh (WT hx hy h0 he hc) hgo hv k
structure Tt where
 ds:List DV
 k:Nat
 j:Nat
 ag:Option Nat
def Ku(fr:aC)(own:aI)(cf:Cf):Option Tt:=match cI fr cf with
 |some ⟨_, .load t x,_,_,_,_⟩=>match bh (b9 fr cf) x with
  |some (.be nm sz k j)=>match iH fr own cf nm with
   |some (.b _ s ds _)=>bif Nat.beq s sz then(match dO tt t with
    |some i=>match i.ag with
     |some ag=>some ⟨ds,k,j,ag⟩
     |none=>none
    |none=>none) else none
   |_=>none
  |_=>none
 |_=>none
def Mg(n q:Nat)(fr:aC)(own:aI)(cf:Cf)(d:DV)(ag:Option Nat)(j:Nat):y4:=bif d.okc then(match AK ag d.cells j with
 |some c=>cH tt n q fr own cf (.d c) [] []
 |none=>pk) else pk
def lb[fu:Fu](d:DV){ds:List DV}{k' j:Nat}{ag:Option Nat}(h:Ku fr own cf=some ⟨ds,k',j,ag⟩)(he:ds[k']? =some d)(hgo:Mg n fu.n fr own cf d ag j=⟨vc,fr',own',cf'⟩)(k:av prog GB C n Q0 fr' own' cf')
  (hv:autoParam (ak vc) fn._auto_1):av prog GB C n Q0 fr own cf:=by
 unfold Ku at h;split at h<;>try (cases h;done)
 rename_i hh;split at h<;>try (cases h;done)
 rename_i hx;split at h<;>try (cases h;done)
 rename_i ty s ds' lo hb;rw[cond_eq_ite] at h;split at h<;>try (cases h;done)
 rename_i hs
 cases aN hs
 split at h<;>try (cases h;done)
 rename_i hT;split at h<;>cases h;rename_i ha;unfold Mg at hgo
 cases hc:d.okc with
 |false=>simp only[hc,cond_false,pk] at hgo;cases hgo;exact absurd hv (fun x=>x)
 |true=>
  simp only[hc,cond_true] at hgo
  cases hl:AK ag d.cells j with
  |none=>simp only[hl,pk] at hgo;cases hgo;exact absurd hv (fun x=>x)
  |some c=>simp only[hl] at hgo;exact us hh (aFy (et _ _ hT) ha hx hb he hc hl) hgo hv k
structure Va where
 nm:Nat
 ty:TypeId
 s:Nat
 ds:List DV
 lo:Bool
 k:Nat
 j:Nat
 ag:Option Nat
 u:DV
def KG(fr:aC)(own:aI)(cf:Cf):Option Va:=match cI fr cf with
 |some ⟨_, .store t x y,_,_,_,_⟩=>match bh (b9 fr cf) x with
  |some (.be nm sz k j)=>match iH fr own cf nm with
   |some (.b ty s ds lo)=>bif Nat.beq s sz then(match dO tt t with
    |some i=>match i.ag with
     |some ag=>match evD (b9 fr cf) y with
      |some u=>some ⟨nm,ty,s,ds,lo,k,j,ag,u⟩
      |none=>none
     |none=>none
    |none=>none) else none
   |_=>none
  |_=>none
 |_=>none
def sb[fu:Fu](d:DV){nm:Nat}{ty:TypeId}{s:Nat}{ds:List DV}{lo:Bool}{k' j:Nat}{ag:Option Nat}{u:DV}(ds':List DV)(h:KG fr own cf=some ⟨nm,ty,s,ds,lo,k',j,ag,u⟩)(he:ds[k']? =some d)(hl:Ep ag d j u=some d')(hds:ds.set k' d'=ds')
  (hgo:cH tt n fu.n fr own cf .un [(nm,some (.b ty s ds' lo))] []=⟨vc,fr',own',cf'⟩)(k:av prog GB C n Q0 fr' own' cf')
  (hv:autoParam (ak vc) fn._auto_1):av prog GB C n Q0 fr own cf:=by
 unfold KG at h;split at h<;>try (cases h;done)
 rename_i hh;split at h<;>try (cases h;done)
 rename_i hx;split at h<;>try (cases h;done)
 rename_i hb;rw[cond_eq_ite] at h;split at h<;>try (cases h;done)
 rename_i hs
 cases aN hs
 split at h<;>try (cases h;done)
 rename_i hT;split at h<;>try (cases h;done)
 rename_i ha;split at h<;>cases h;rename_i hy;exact us hh (Xm (et _ _ hT) ha hx hb hy he hl hds) hgo hv k
structure ZM where
 d:Nat
 e:Nat
 s:Nat
 b:Nat
 z:DV
 l:Int
def B9(fr:aC)(cf:Cf):Option ZM:=match cI fr cf with
 |some ⟨some d, .makeSlice t x y,_,_,_,_⟩=>match bh (b9 fr cf) x with
  |some (.d (.v (.int _ l)))=>match dO tt t with
   |some ⟨.sl e s b,_,_,_⟩=>match dO tt e with
    |some i=>match nq i with
     |some z=>bif Nat.beq z.cells.length s then some ⟨d,e,s,b,z,l⟩ else none
     |none=>none
    |none=>none
   |_=>none
  |_=>none
 |_=>none
def mk[fu:Fu]{d e s b:Nat}{z:DV}{l:Int}{k':IntKind}(ds:List DV)(h:B9 fr cf=some ⟨d,e,s,b,z,l⟩)(hy:(match cI fr cf with|some ⟨_, .makeSlice _ _ y,_,_,_,_⟩=>bh (b9 fr cf) y|_=>none)=some (.d (.v (.int k' l))))(hds:List.replicate l.toNat z=ds)
  (hgo:cH tt n fu.n fr own cf (.rw d) [(d,some (.b e s ds true))] [d]=⟨vc,fr',own',cf'⟩)(k:av prog GB C n Q0 fr' own' cf')(h0:0<=l:=by omega)(hb:b*l<=140737488355328:=by omega)(hl:l<=1152921504606846976:=by omega)
  (hv:autoParam (ak vc) fn._auto_1):av prog GB C n Q0 fr own cf:=by
 unfold B9 at h;split at h<;>try (cases h;done)
 rename_i hh;split at h<;>try (cases h;done)
 rename_i hx;split at h<;>try (cases h;done)
 rename_i hT;split at h<;>try (cases h;done)
 rename_i hi;split at h<;>try (cases h;done)
 rename_i hz;rw[cond_eq_ite] at h;split at h<;>cases h;rename_i hs;rw[hh] at hy;have:=kt (et _ _ hT) J;exact us hh (aCP (et _ _ hi) hz hs hx hy h0 hb hl hds) hgo hv k
structure Q7 where
 d:Nat
 e:Nat
 s:Nat
 ds:List DV
def Eq(fr:aC)(cf:Cf):Option Q7:=match cI fr cf with
 |some ⟨some d, .buildSlice t len parts,_,_,_,_⟩=>match dO tt t with
  |some ⟨.sl e s _,_,_,_⟩=>match dO tt e with
   |some i=>match nq i with
    |some z=>match wn (b9 fr cf) 0 parts.toList with
     |some ds=>bif Nat.beq z.cells.length s&&(BS s ds&&(Nat.beq parts.toList.length len&&(Nat.ble (len*s) 1000&&Nat.blt 0 (len*s)))) then some ⟨d,e,s,ds⟩ else none
     |none=>none
    |none=>none
   |none=>none
  |_=>none
 |_=>none
def Kw{d e s:Nat}{ds:List DV}(h:Eq fr cf=some ⟨d,e,s,ds⟩): ∃o,cI fr cf=some o/\o.dst=some d/\b7 prog GB C n (b9 fr cf) (iH fr own cf) o (.rw d) [(d,some (.b e s ds true))] [d]:=by
 unfold Eq at h;split at h<;>try (cases h;done)
 rename_i hh;split at h<;>try (cases h;done)
 rename_i hT;split at h<;>try (cases h;done)
 rename_i hi;split at h<;>try (cases h;done)
 rename_i hz;split at h<;>try (cases h;done)
 rename_i hr;rw[cond_eq_ite] at h;split at h<;>cases h;rename_i hc;simp only[bK] at hc;have:=kt (et _ _ hT) J;exact⟨_,hh,J,PE (et _ _ hi) hz hc.1 hr hc.2.1 hc.2.2.1 hc.2.2.2.1 hc.2.2.2.2⟩
def ro[fu:Fu]{d e s:Nat}{ds:List DV}(h:Eq fr cf=some ⟨d,e,s,ds⟩)(hgo:cH tt n fu.n fr own cf (.rw d) [(d,some (.b e s ds true))] [d]=⟨vc,fr',own',cf'⟩)(k:av prog GB C n Q0 fr' own' cf')
  (hv:autoParam (ak vc) fn._auto_1):av prog GB C n Q0 fr own cf:=by
 obtain⟨o,h1,_,h3⟩:=Kw (GB:=GB) (C:=C) (n:=n) (own:=own) h;exact us h1 h3 hgo hv k
def rf[fu:Fu]{d e s:Nat}{ds:List DV}(h:Eq fr cf=some ⟨d,e,s,ds⟩)(hgo:cH tt n fu.n fr own cf (.d (.sl ds)) [(d,none)] [d]=⟨vc,fr',own',cf'⟩)(k:av prog GB C n Q0 fr' own' cf')
  (hv:autoParam (ak vc) fn._auto_1):av prog GB C n Q0 fr own cf:=by
 obtain⟨o,h1,h2,h3⟩:=Kw (GB:=GB) (C:=C) (n:=n) (own:=own) h;exact us h1 (h3.frzRow h2) hgo hv k
def Nv(fr:aC)(cf:Cf):Option (Nat×Nat×Nat):=match cI fr cf with
 |some ⟨some d, .buildSlice t 0 ⟨[]⟩,_,_,_,_⟩=>match dO tt t with
  |some ⟨.sl e s _,_,_,_⟩=>some (d,e,s)
  |_=>none
 |_=>none
def pI[fu:Fu]{d e s:Nat}(h:Nv fr cf=some (d,e,s))(hgo:cH tt n fu.n fr own cf (.rw d) [(d,some (.b e s [] true))] [d]=⟨vc,fr',own',cf'⟩)(k:av prog GB C n Q0 fr' own' cf')
  (hv:autoParam (ak vc) fn._auto_1):av prog GB C n Q0 fr own cf:=by
 unfold Nv at h;split at h<;>try (cases h;done)
 rename_i hh;split at h<;>cases h;rename_i hT;have:=kt (et _ _ hT) J;exact us hh Vo hgo hv k
structure UL where
 d:Nat
 nm:Option Nat
 e:Nat
 s:Nat
 b:Nat
 ds:List DV
 ds2:List DV
def DE(fr:aC)(own:aI)(cf:Cf):Option UL:=match cI fr cf with
 |some ⟨some d, .call ⟨.builtin .append,⟨[x,y]⟩,⟨[t,t']⟩⟩,_,_,_,_⟩=>match dO tt t with
  |some ⟨.sl e s b,_,_,_⟩=>match dO tt t' with
   |some ⟨.sl _ _ _,_,_,_⟩=>match dO tt e with
    |some i=>match nq i with
     |some z=>bif Nat.beq z.cells.length s&&Nat.blt 0 b then(match pD (b9 fr cf) (iH fr own cf) s y with
      |some ds2=>match bh (b9 fr cf) x with
       |some (.rw nm)=>match iH fr own cf nm with
        |some (.b e' s' ds true)=>bif (Nat.beq e' e&&Nat.beq s' s)&&!Nat.beq nm d then some ⟨d,some nm,e,s,b,ds,ds2⟩ else none
        |_=>none
       |some (.ct ds)=>some ⟨d,none,e,s,b,ds,ds2⟩
       |some .nl=>some ⟨d,none,e,s,b,[],ds2⟩
       |_=>none
      |none=>none) else none
     |none=>none
    |none=>none
   |_=>none
  |_=>none
 |_=>none
def PQ(d:Nat)(nm:Option Nat)(B:Bk):List (Nat×Option Bk):=match nm with
 |some nm=>[(nm,none),(d,some B)]
 |none=>[(d,some B)]
def NP{d:Nat}{nm:Option Nat}{e s b:Nat}{ds ds2:List DV}(h:DE fr own cf=some ⟨d,nm,e,s,b,ds,ds2⟩)(ds':List DV)(hds:ds++ds2=ds')(ho:nm.isNone=true->cE s ds/\0<ds2.length)(ho2:cE s ds2)(hbd:(ds.length+ds2.length)*b<=140737488355328):
  ∃o,cI fr cf=some o/\o.dst=some d/\b7 prog GB C n (b9 fr cf) (iH fr own cf) o (.rw d) (PQ d nm (.b e s ds' true)) [d]:=by
 unfold DE at h;split at h<;>try (cases h;done)
 rename_i hh;split at h<;>try (cases h;done)
 rename_i hT;split at h<;>try (cases h;done)
 rename_i hT';split at h<;>try (cases h;done)
 rename_i hi;split at h<;>try (cases h;done)
 rename_i hz;rw[cond_eq_ite] at h;split at h<;>try (cases h;done)
 rename_i hc;simp only[bK] at hc;split at h<;>try (cases h;done)
 rename_i hy;have:=kt (et _ _ hT) J;have hN:jn prog _:=⟨_,(kt (et _ _ hT') J).un⟩;refine⟨_,hh,?_⟩;split at h<;>try (cases h;done)
 .rename_i hx
  split at h<;>try (cases h;done)
  rename_i hb;rw[cond_eq_ite] at h;split at h<;>cases h;rename_i hq;simp only[bK,gM] at hq
  cases aN hq.1.1
  cases aN hq.1.2
  exact⟨J,aBi (et _ _ hi) hz hc.1 hx hb hy ho2 hc.2 hbd hq.2 hds⟩
 .rename_i hx
  cases h
  obtain⟨h1,h2⟩:=ho rfl;exact⟨J,MX (et _ _ hi) hz hc.1 (.inl hx) h1 hy ho2 h2 hc.2 hbd hds⟩
 .rename_i hx
  cases h
  obtain⟨h1,h2⟩:=ho rfl;exact⟨J,MX (et _ _ hi) hz hc.1 (.inr ⟨hx,J⟩) h1 hy ho2 h2 hc.2 hbd hds⟩
def ap[fu:Fu]{d:Nat}{nm:Option Nat}{e s b:Nat}{ds ds2:List DV}(ds':List DV)(h:DE fr own cf=some ⟨d,nm,e,s,b,ds,ds2⟩)(hds:ds++ds2=ds')(ho2:cE s ds2)(hgo:cH tt n fu.n fr own cf (.rw d) (PQ d nm (.b e s ds' true)) [d]=⟨vc,fr',own',cf'⟩)(k:av prog GB C n Q0 fr' own' cf')
  (ho:nm.isNone=true->cE s ds/\0<ds2.length:=by intro h;first|(cases h;done)|exact⟨E9 rfl,by simp⟩)(hbd:(ds.length+ds2.length)*b<=140737488355328:=by simp;omega)
  (hv:autoParam (ak vc) fn._auto_1):av prog GB C n Q0 fr own cf:=by
 obtain⟨o,h1,_,h3⟩:=NP (GB:=GB) (C:=C) (n:=n) h ds' hds ho ho2 hbd;exact us h1 h3 hgo hv k
def Ls(fr:aC)(cf:Cf):Option (List DV×Int×Int×Nat×Bool):=match cI fr cf with
 |some ⟨_, .slice t x lo hi mx,_,_,_,_⟩=>match evD (b9 fr cf) x with
  |some (.sl l)=>match dO tt t with
   |some ⟨.sl _ s _,_,_,_⟩=>match ma (b9 fr cf) 0 lo,ma (b9 fr cf) l.length hi with
    |some i,some j=>match mx with
     |none=>some (l,i,j,s,false)
     |some _=>none
    |_,_=>none
   |_=>none
  |_=>none
 |_=>none
def kn[fu:Fu]{l:List DV}{j:Int}{s:Nat}(nlo nhi:Nat)(ls:List DV)(h:Ls fr cf=some (l,i,j,s,false))(ei:i=nlo)(ej:j=nhi)(hls:(l.take nhi).drop nlo=ls)(ho:cE s l)(h1:nlo<=nhi)(h2:nhi<=l.length)
  (hgo:cH tt n fu.n fr own cf (.d (.sl ls)) [] []=⟨vc,fr',own',cf'⟩)(k:av prog GB C n Q0 fr' own' cf')
  (hv:autoParam (ak vc) fn._auto_1):av prog GB C n Q0 fr own cf:=by
 unfold Ls at h;split at h<;>try (cases h;done)
 rename_i hh;split at h<;>try (cases h;done)
 rename_i hx;split at h<;>try (cases h;done)
 rename_i hT;split at h<;>try (cases h;done)
 rename_i hi hj;split at h<;>cases h;have:=kt (et _ _ hT) J;subst ei ej hls;exact us hh (UJ hx ho hi hj h1 h2) hgo hv k
def M0(fr:aC)(cf:Cf):Option (List DV×Int×Int×Nat):=match cI fr cf with
 |some ⟨_, .slice t x none (some hi) (some mx),_,_,_,_⟩=>match evD (b9 fr cf) x with
  |some (.sl l)=>match dO tt t with
   |some ⟨.sl _ s _,_,_,_⟩=>match ma (b9 fr cf) 0 (some hi),ma (b9 fr cf) 0 (some mx) with
    |some i,some j=>some (l,i,j,s)
    |_,_=>none
   |_=>none
  |_=>none
 |_=>none
def s3[fu:Fu]{l:List DV}{j:Int}{s:Nat}(nhi:Nat)(ls:List DV)(h:M0 fr cf=some (l,i,j,s))(ei:i=nhi)(ej:j=nhi)(hls:l.take nhi=ls)(ho:cE s l)(h2:nhi<=l.length)
  (hgo:cH tt n fu.n fr own cf (.ct ls) [] []=⟨vc,fr',own',cf'⟩)(k:av prog GB C n Q0 fr' own' cf')
  (hv:autoParam (ak vc) fn._auto_1):av prog GB C n Q0 fr own cf:=by
 unfold M0 at h;split at h<;>try (cases h;done)
 rename_i hh;split at h<;>try (cases h;done)
 rename_i hx;split at h<;>try (cases h;done)
 rename_i hT;split at h<;>cases h;rename_i hi hj;have:=kt (et _ _ hT) J;subst ei ej hls;exact us hh (aDW hx ho hi hj h2) hgo hv k
def Mz(fr:aC)(cf:Cf):Option (Nat×List DV):=match cI fr cf with
 |some ⟨some d, .box _ x,_,_,_,_⟩=>match bh (b9 fr cf) x with
  |some f=>bif f.okc&&wX f d then(match iI f.cells with
   |some l=>some (d,l)
   |none=>none) else none
  |none=>none
 |_=>none
end
section
variable {own:aI}
def r6(x y:Nat):FX->FX
 | .rw m=>bif Nat.beq m x then .rw y else bif Nat.beq m y then .no else .rw m
 | .ov m o=>bif Nat.beq m x then .ov y o else bif Nat.beq m y then .no else .ov m o
 | .be m s i j=>bif Nat.beq m x then .be y s i j else bif Nat.beq m y then .no else .be m s i j
 | .rs m s i j=>bif Nat.beq m x then .rs y s i j else bif Nat.beq m y then .no else .rs m s i j
 | .bx tp pre m post=>bif Nat.beq m x then .bx tp pre y post else bif Nat.beq m y then .no else .bx tp pre m post
 |f=>f
def rm(x y:Nat):Option Bk->Option Bk
 |some (.o ty cs lo)=>some (.o ty (cs.map (r6 x y)) lo)
 |B=>B
def DJ{α:Type}(g:FX->FX):List FX->(List FX->α)->α
 |[],k=>k []
 |f::t,k=>DJ g t fun t'=>z' (g f) fun f'=>k (f'::t')
def My{α:Type}{g:FX->FX}: ∀{cs:List FX} {k:List FX->α},DJ g cs k=k (cs.map g)
 |[],k=>rfl
 |f::t,k=>by simp only[DJ,Ek];rw[My];rfl
def EL{α:Type}(g:FX->FX):aC->(aC->α)->α
 |[],k=>k []
 |(j,f)::t,k=>EL g t fun t'=>z' (g f) fun f'=>k ((j,f')::t')
def Ia{α:Type}{g:FX->FX}: ∀{fr:aC} {k:aC->α},EL g fr k=k (fr.map fun e=>(e.1,g e.2))
 |[],k=>rfl
 |(j,f)::t,k=>by simp only[EL,Ek];rw[Ia];rfl
def Dq{α:Type}(x y:Nat):aI->(aI->α)->α
 |[],k=>k []
 |(j,B)::t,k=>Dq x y t fun t'=>bif Nat.beq j y then k ((x,none)::t') else match B with
  |some (.o ty cs lo)=>DJ (r6 x y) cs fun cs'=>bif Nat.beq j x then k ((y,some (.o ty cs' lo))::t') else k ((j,some (.o ty cs' lo))::t')
  |B=>bif Nat.beq j x then k ((y,B)::t') else k ((j,B)::t')
def GX{α:Type}{x y:Nat}: ∀{own:aI} {k:aI->α},Dq x y own k=k (own.map fun e=>(bif Nat.beq e.1 y then x else bif Nat.beq e.1 x then y else e.1,bif Nat.beq e.1 y then none else rm x y e.2))
 |[],k=>rfl
 |(j,B)::t,k=>by
  simp only[Dq,GX (own:=t),bU]
  cases Nat.beq j y with
  |true=>rfl
  |false=>
   cases B with
   |none=>cases Nat.beq j x<;>rfl
   |some B=>cases B<;>cases Nat.beq j x<;>simp only[cond_false,cond_true,My,rm]
def GH{x y:Nat}(hxy:x≠y): ∀{own:aI} {k:Nat},bt (own.map fun e=>(bif Nat.beq e.1 y then x else bif Nat.beq e.1 x then y else e.1,bif Nat.beq e.1 y then none else rm x y e.2)) k=if k=x then none else if k=y then rm x y (bt own x) else rm x y (bt own k)
 |[],k=>by simp[bt,rm]
 |(j,B)::t,k=>by
  have bq: ∀a b:Nat,Nat.beq a b=decide (a=b):=fun a b=>by
   by_cases h:a=b
   .subst h;simp
   .rw[decide_eq_false h]
    cases hb:Nat.beq a b with
    |false=>rfl
    |true=>exact absurd (aN hb) h
  simp only[bU];rw[iO,GH hxy (own:=t),iO,iO];by_cases h1:j=y
  .subst h1
   simp only[bq,decide_true,cond_true];by_cases h2:k=x
   .simp[h2]
   .by_cases h3:k=j
    .subst h3;simp[h2,Ne.symm h2,hxy]
    .simp[h2,h3]
  .by_cases h4:j=x
   .subst h4
    simp only[bq,h1,decide_false,cond_false,decide_true,cond_true];by_cases h2:k=y
    .subst h2;simp[Ne.symm h1]
    .by_cases h3:k=j
     .subst h3;simp[h1]
     .simp[h2,h3]
   .simp only[bq,h1,h4,decide_false,cond_false]
    by_cases h2:k=j
    .subst h2;simp[h1,h4]
    .by_cases h3:k=x
     .subst h3;simp[h2]
     .by_cases h5:k=y
      .subst h5;simp[h2,h3,Ne.symm h4]
      .simp[h2,h3,h5]
def Hr(hxy:x≠y){f:FX}{v:Value}(h:bP ρ G f v):bP (fun k=>if k=y then ρ x else ρ k) G (r6 x y f) v:=by
 have key: ∀m:Nat,Nat.beq m y=false->(fun k=>if k=y then ρ x else ρ k) m=ρ m:=fun m hm=>if_neg fun e=>by subst e;simp at hm
 cases f with
 |rw m=>
  simp only[r6]
  cases hb:Nat.beq m x with
  |true=>cases aN hb;simp only[cond_true];show v=_;simp;exact h
  |false=>
   cases hb':Nat.beq m y with
   |true=>trivial
   |false=>simp only[cond_false];show v=_;rw[key m hb'];exact h
 |ov m off=>
  simp only[r6]
  cases hb:Nat.beq m x with
  |true=>cases aN hb;simp only[cond_true];obtain⟨b,h1,h2⟩:=h;exact⟨b,by simp;exact h1,h2⟩
  |false=>
   cases hb':Nat.beq m y with
   |true=>trivial
   |false=>simp only[cond_false];obtain⟨b,h1,h2⟩:=h;exact⟨b,by rw[key m hb'];exact h1,h2⟩
 |be m s i j=>
  simp only[r6]
  cases hb:Nat.beq m x with
  |true=>cases aN hb;simp only[cond_true];obtain⟨b,h1,h2⟩:=h;exact⟨b,by simp;exact h1,h2⟩
  |false=>
   cases hb':Nat.beq m y with
   |true=>trivial
   |false=>simp only[cond_false];obtain⟨b,h1,h2⟩:=h;exact⟨b,by rw[key m hb'];exact h1,h2⟩
 |rs m s i j=>
  simp only[r6]
  cases hb:Nat.beq m x with
  |true=>cases aN hb;simp only[cond_true];obtain⟨b,c,h1,h2⟩:=h;exact⟨b,c,by simp;exact h1,h2⟩
  |false=>
   cases hb':Nat.beq m y with
   |true=>trivial
   |false=>simp only[cond_false];obtain⟨b,c,h1,h2⟩:=h;exact⟨b,c,by rw[key m hb'];exact h1,h2⟩
 |bx tp pre m post=>
  simp only[r6]
  cases hb:Nat.beq m x with
  |true=>cases aN hb;simp only[cond_true];obtain⟨m1,m2,e,h1,h2⟩:=h;exact⟨m1,m2,by simpa using e,h1,h2⟩
  |false=>
   cases hb':Nat.beq m y with
   |true=>trivial
   |false=>simp only[cond_false];obtain⟨m1,m2,e,h1,h2⟩:=h;exact⟨m1,m2,by rw[key m hb'];exact e,h1,h2⟩
 |_=>exact h
def GD{x y:Nat}(hxy:x≠y){ρ:NE}{G:Gh}: ∀{cs:List FX} {m:List Value},de ρ G cs m->de (fun k=>if k=y then ρ x else ρ k) G (cs.map (r6 x y)) m
 |[],m,h=>h
 |f::t,m,⟨v,q,e,h1,h2⟩=>⟨v,q,e,Hr hxy h1,GD hxy h2⟩
def xi(x y:Nat)(fr:aC)(own:aI):Option As:=bif Nat.beq x y then none else EL (r6 x y) fr fun fr'=>Dq x y own fun own'=>some ⟨fr',own'⟩
def UA{R:As}(hy:Nat.blt y 2000000=true)(h:xi x y fr own=some R)(hk:SX GB C n (aO R.fr) (bt R.own) Φ):SX GB C n (aO fr) (bt own) Φ:=by
 unfold xi at h;rw[cond_eq_ite] at h;split at h<;>try (cases h;done)
 rename_i hb;have hxy:x≠y:=fun e=>hb (by subst e;simp);rw[Ia,GX] at h;cases h;refine⟨fun ρ G ov a w r=>hk.run (fun k=>if k=y then ρ x else ρ k) G ov a w ?_⟩;have inv: ∀m B,bt (own.map fun e=>(bif Nat.beq e.1 y then x else bif Nat.beq e.1 x then y else e.1,bif Nat.beq e.1 y then none else rm x y e.2)) m=some B-> ∃m0 B0,bt own m0=some B0/\rm x y (some B0)=some B/\(m=y/\m0=x\/m≠y/\m≠x/\m0=m):=fun m B e=>by
  rw[GH hxy] at e;split at e
  .cases e
  .rename_i hm
   split at e
   .cases hl:bt own x with
    |none=>rw[hl] at e;cases e
    |some B0=>rw[hl] at e;exact⟨x,B0,hl,e, .inl ⟨by assumption,J⟩⟩
   .cases hl:bt own m with
    |none=>rw[hl] at e;cases e
    |some B0=>rw[hl] at e;exact⟨m,B0,hl,e, .inr ⟨by assumption,hm,J⟩⟩
 have rho: ∀m m0,(m=y/\m0=x\/m≠y/\m≠x/\m0=m)->(fun k=>if k=y then ρ x else ρ k) m=ρ m0:=fun m m0 h=>by
  rcases h with⟨h1,h2⟩|⟨h1,_,h2⟩
  .subst h1 h2;simp
  .subst h2;exact if_neg h1
 refine⟨r.gb,r.h,r.sz,r.df,fun k f e=>?_,fun m B e=>?_,fun m m' B B' e e' hne=>?_,fun m p h1 h2 e=>by
  have:y<2000000:=by simpa[kL] using hy
  show(if m=y then ρ x else ρ m).a=_;rw[if_neg (by omega)];exact r.fxd m p h1 h2 e⟩
 .rw[B7] at e
  cases hf:aO fr k with
  |none=>rw[hf] at e;cases e
  |some g=>
   rw[hf] at e;cases e;obtain⟨v,h1,h2⟩:=r.fx k g hf;exact⟨v,h1,Hr hxy h2⟩
 .obtain⟨m0,B0,h1,h2,h3⟩:=inv m B e
  obtain⟨os,h4,h5⟩:=r.bx m0 B0 h1;refine⟨os,?_,h5⟩;have hr:=rho m m0 h3
  cases B0 with
  |b=>cases h2;obtain⟨vs,q1,q2,q3,q4⟩:=h4;exact⟨vs,by rw[hr];exact q1,q2,q3,q4⟩
  |c=>cases h2;obtain⟨vs,q1,q2,q3,q4,q5⟩:=h4;exact⟨vs,by rw[hr];exact q1,q2,q3,q4,by rw[hr];exact q5⟩
  |o ty cs lo=>cases h2;obtain⟨b,q,q1,q2,q3⟩:=h4;exact⟨b,q,by rw[hr];exact q1,q2,GD hxy q3⟩
 .obtain⟨m0,B0,h1,_,h3⟩:=inv m B e
  obtain⟨m1,B1,h4,_,h6⟩:=inv m' B' e';have q1:=rho m m0 h3;have q2:=rho m' m1 h6;simp only at q1 q2;rw[q1,q2];refine r.dj m0 m1 B0 B1 h1 h4 fun e=>?_;rcases h3 with⟨h7,h8⟩|⟨h7,h8,h9⟩<;>rcases h6 with⟨g7,g8⟩|⟨g7,g8,g9⟩
  .exact hne (h7.trans g7.symm)
  .exact g8 (by rw[<-g9,<-e,h8])
  .exact h8 (by rw[<-h9,e,g8])
  .exact hne (by rw[<-h9,e,g9])
def d6(x y:Nat){e:Exit}(h:xi x y fr own=some ⟨fr1,own1⟩)(k:av prog GB C n Q0 fr1 own1 (.ex e K))(hy:Nat.blt y 2000000=true:=by rfl):av prog GB C n Q0 fr own (.ex e K):=UA hy h k
def ayW{d nm:Nat}(hnm:Nat.blt nm 2000000=true)(hl:aO fr d=some .nl){ty s:Nat}(hf:jp [nm] none (aO fr) (bt own))(h:SX GB C n (aO ((d, .rw nm)::fr)) (bt (og own nm (some (.b ty s [] true)))) Φ):SX GB C n (aO fr) (bt own) Φ:=by
 refine⟨fun ρ G ov a w r=>?_⟩;obtain⟨f1,f2⟩:=hf nm aQ;have hset:bt (og own nm (some (.b ty s [] true)))=upB (bt own) [(nm,some (.b ty s [] true))]:=by funext j;rw[Br];rfl
 rw[hset] at h;refine h.run (fun k=>if k=nm then⟨none,0,0⟩ else ρ k) G ov a w ⟨r.gb,r.h,r.sz,r.df,fun k f e=>?_,fun m B e=>?_,fun m m' B B' e e' hne=>?_,fun m p h1 h2 e=>by
  have:nm<2000000:=by simpa[kL] using hnm
  show(if m=nm then(⟨none,0,0⟩:SV) else ρ m).a=_;rw[if_neg (by omega)];exact r.fxd m p h1 h2 e⟩
 .rw[jP] at e
  split at e
  .cases e;rename_i hk;subst hk
   obtain⟨v,h1,h2⟩:=r.fx _ _ hl;exact⟨v,h1,by rw[show v=_ from h2];show _=_;simp⟩
  .obtain⟨v,h1,h2⟩:=r.fx k f e
   exact⟨v,h1,h2.ren fun m hm=>uw _ fun hc=>f1 k f (by simp) e (by rw[hm,hc])⟩
 .simp only[upB] at e
  by_cases hm:m=nm
  .subst hm;simp only[if_true] at e;cases e
   exact⟨[],⟨[],by simp only[if_true];exact .inl ⟨J,J,J⟩, .nil,by simp,fun _ o ho=>by cases ho⟩,fun o ho=>by cases ho⟩
  .simp only[hm,if_false] at e
   obtain⟨os,h1,h2⟩:=r.bx m B e;exact⟨os,h1.ren (if_neg hm) fun q hq=>uw _ fun hc=>f2 m B hm e (by rw[<-hc];exact hq),h2⟩
 .simp only[upB] at e e'
  intro b hb hb';by_cases hm:m=nm
  .simp[hm] at hb
  .by_cases hm':m'=nm
   .simp[hm'] at hb'
   .simp only[hm,hm',if_false] at e e' hb hb'
    exact r.dj m m' B B' e e' hne b hb hb'
def nr(d nm ty s:Nat)(hl:aO fr d=some .nl)(hf:uP [nm] none fr own=true)(ho:wx own nm (some (.b ty s [] true)) id=own1)(k:av prog GB C n Q0 ((d, .rw nm)::fr) own1 (.code c K))(hnm:Nat.blt nm 2000000=true:=by rfl):av prog GB C n Q0 fr own (.code c K):=by
 subst ho;exact ayW hnm hl (AH hf) k
def i9:List (Option DV)->Nat->List DV
 |[],_=>[]
 |some d::t,b=>d::i9 t b
 |none::t,b=> .v (.pointer (some ⟨b,0,none⟩))::i9 t b
def Cv(lk:LK):List Operand->Option (Option Nat×List (Option DV))
 |[]=>some (none,[])
 |x::t=>match bh lk x,Cv lk t with
  |some (.ov nm 0),some (none,l)=>some (some nm,none::l)
  |some f,some (q,l)=>match jm f with
   |some d=>some (q,some d::l)
   |none=>none
  |_,_=>none
def AQ(lk:LK)(fo:Operand)(args:Array Operand):Option (FuncId×Nat×List (Option DV)):=match bh lk fo with
 |some (.d (.v (.func (.func f) ⟨[]⟩ ⟨[]⟩)))=>match Cv lk args.toList with
  |some (some nm,l)=>some (f,nm,l)
  |_=>none
 |_=>none
def Da{lk:LK}{bk:BM}{ρ:NE}{G:Gh}{ov:List aA}{a:Act}{w:World}(r:bH GB C n lk bk ρ G ov a w){b:Nat}: ∀{x:List Operand} {q:Option Nat} {l:List (Option DV)},Cv lk x=some (q,l)->(∀nm,q=some nm->(ρ nm).a=some ⟨b,0,none⟩)->
  ∃y,fi (co a) x=some y/\IsLs G (i9 l b) y
 |[],q,l,e,_=>by cases e;exact⟨[],J, .nil⟩
 |x::t,q,l,e,hb=>by
  simp only[Cv] at e;split at e
  .rename_i nm l' h1 h2
   cases e
   obtain⟨y,h3,b',h4,rfl⟩:=r.ev h1;have:=hb nm J;rw[h4] at this;cases this;obtain⟨ys,h5,h6⟩:=Da r (b:=b) h2 (fun nm e=>by cases e);exact⟨_::ys,by simp only[fi,h3,h5], .cons ((aH (G:=G)).2 J) h6⟩
  .rename_i f q' l' _ h1 h2
   cases hd:jm f with
   |none=>rw[hd] at e;cases e
   |some d=>
   rw[hd] at e;cases e;obtain⟨y,h3,h4⟩:=r.ev h1;obtain⟨ys,h5,h6⟩:=Da r (b:=b) h2 hb;exact⟨y::ys,by simp only[fi,h3,h5], .cons (l8 h4 hd) h6⟩
  .cases e
def bH.lend{a:Act}{w:World}{nm:Nat}{ty:TypeId}{cs:List FX}{lo:Bool}{csd:List DV}(r:bH GB C n lk bk ρ G ov a w)(hb:bk nm=some (.o ty cs lo))(hc:iI cs=some csd):
  ∃b m rest,(ρ nm).a=some ⟨b,0,none⟩/\IsLs G csd m/\ov.Perm ([⟨b,m,ty,lo⟩]++rest)/\ ∀o∈ov,o.b≠b->o∈rest:=by
 obtain⟨os,⟨b,m,h1,rfl,h2⟩,h3⟩:=r.bx _ _ hb;obtain⟨l1,l2,rfl⟩:=mV (h3 _ aQ);refine⟨b,m,l1++l2,h1,rA h2 hc,oT,fun o ho hne=>?_⟩;rcases bJ.1 ho with ho|ho
 .exact bR _ ho
 .rcases aW.1 ho with rfl|ho
  .exact absurd J hne
  .exact bV _ ho
def axK{P:Program}{f:FuncId}{nm:Nat}{l:List (Option DV)}{dst:Option Nat}{ty:TypeId}{gd:Option (Nat×Bool)}{cs:List FX}{csd:List DV}{lo:Bool}
  (ha:AQ lk fo args=some (f,nm,l))(hb:bk nm=some (.o ty0 cs lo))(hc:iI cs=some csd)(hF: ∀b,PM GB P f (i9 l b) b ty0 csd rv cs'){csx:List FX}(hx:cs'.map .d=csx):b7 P GB C n lk bk ⟨dst, .call ⟨.value fo,args,tys⟩,ty,pos,af,gd⟩ (.d rv) [(nm,some (.o ty0 csx lo))] []:=by
 intro hd tl tb K' s1 s2 hf hk;refine⟨fun ρ G ov a w r Q=>?_⟩;subst hx;have r1:=r.mono s1 s2;unfold AQ at ha;split at ha<;>try (cases ha;done)
 rename_i h1;split at ha<;>cases ha;rename_i h2;obtain⟨y,hy,hy'⟩:=r1.ev h1;rw[(aH (G:=G)).1 hy'] at hy;obtain⟨b,m,rest,h3,h4,h5,h6⟩:=r1.lend hb hc;obtain⟨vs,h7,h8⟩:=Da r1 (b:=b) h2 (fun nm e=>by cases e;exact h3);refine vT (M:=[⟨b,m,ty0,lo⟩]) (rest:=rest) hy h7 h5 (hF b G vs m lo r.gb h8 h4) hd (fun v css G' hG hl hK a' w' rl=>?_) a w Q ⟨r.h,r.sz,cB a,r.df⟩;obtain⟨hr,m',rfl,hm'⟩:=hK;have rl':gq C n (Sx.put (co a) dst v) (⟨b,m',ty0,lo⟩::rest) G' a' w':=rl;have r2:=r.upB (G':=G') (ov':=⟨b,m',ty0,lo⟩::rest) (w':=w') (B':= .o ty0 (cs'.map .d) lo) (os:=[⟨b,m',ty0,lo⟩]) hG.le rl'.h ⟨b,m',h3,J,q9 hm'⟩ (fun o ho=>by rw[aU.1 ho];exact aQ)
  (fun o ho hne=>aJ _ (h6 o ho fun e=>hne (by rw[h3,e]))) ⟨_,s2 _ _ hb⟩
 exact hk.run ρ G' _ a' w' (r2.put (f:= .d rv) hr (jb rl'))
structure Yl where
 f:FuncId
 nm:Nat
 l:List (Option DV)
 ty:TypeId
 cs:List DV
 lo:Bool
def E5(fr:aC)(own:aI)(cf:Cf):Option Yl:=match cI fr cf with
 |some ⟨_, .call ⟨.value fo,args,_⟩,_,_,_,_⟩=>match AQ (b9 fr cf) fo args with
  |some (f,nm,l)=>match iH fr own cf nm with
   |some (.o ty cs lo)=>match iI cs with
    |some csd=>some ⟨f,nm,l,ty,csd,lo⟩
    |none=>none
   |_=>none
  |none=>none
 |_=>none
def u'{α:Type}:List DV->(List FX->α)->α
 |[],k=>k []
 |d::t,k=>u' t fun t'=>k (.d d::t')
def x5{α:Type}: ∀{l:List DV} {k:List FX->α},u' l k=k (l.map .d)
 |[],k=>rfl
 |d::t,k=>by simp only[u'];rw[x5];rfl
def cm[fu:Fu]{f:FuncId}{nm:Nat}{l:List (Option DV)}{ty:TypeId}{cs:List DV}{lo:Bool}(ha:E5 fr own cf=some ⟨f,nm,l,ty,cs,lo⟩)(hF: ∀b,PM GB prog f (i9 l b) b ty cs rv cs')
  (hgo:(u' cs' fun csx=>cH tt n fu.n fr own cf (.d rv) [(nm,some (.o ty csx lo))] [])=⟨vc,fr',own',cf'⟩)(k:av prog GB C n Q0 fr' own' cf')
  (hv:autoParam (ak vc) fn._auto_1):av prog GB C n Q0 fr own cf:=by
 unfold E5 at ha;split at ha<;>try (cases ha;done)
 rename_i hh;split at ha<;>try (cases ha;done)
 rename_i h1;split at ha<;>try (cases ha;done)
 rename_i h2;split at ha<;>cases ha;rename_i h3;rw[x5] at hgo;exact us hh (axK h1 h2 h3 hF J) hgo hv k
abbrev NM:Nat:=1000000
def vC:Nat->List (Option DV)->aC
 |_,[]=>[]
 |i,some v::t=>(i, .d v)::vC (i+1) t
 |i,none::t=>(i, .ov NM 0)::vC (i+1) t
def CD(b:Nat): ∀l:List (Option DV),(i9 l b).length=l.length
 |[]=>rfl
 |some d::t=>by simp[i9,CD b t]
 |none::t=>by simp[i9,CD b t]
def BZ{b:Nat}{ρ:NE}{G:Gh}(hρ:(ρ NM).a=some ⟨b,0,none⟩): ∀{ds:List (Option DV)} {vs:List Value} (i:Nat),IsLs G (i9 ds b) vs-> ∀k f,aO (vC i ds) k=some f-> ∃y,(∃j,k=i+j/\vs[j]? =some y)/\bP ρ G f y
 |[],vs,i,h,k,f,e=>by cases e
 |some d::t,vs,i,h,k,f,e=>by
  obtain⟨y,m,rfl,h1,h2⟩:=bi.1 h;simp only[vC] at e;rw[jP] at e;split at e
  .cases e;rename_i hk;exact⟨y,⟨0,hk,rfl⟩,h1⟩
  .obtain⟨u,⟨j,hj,hu⟩,h3⟩:=BZ hρ (i+1) h2 k f e
   exact⟨u,⟨j+1,by omega,by simpa using hu⟩,h3⟩
 |none::t,vs,i,h,k,f,e=>by
  obtain⟨y,m,rfl,h1,h2⟩:=bi.1 h;simp only[vC] at e;rw[jP] at e;split at e
  .cases e;rename_i hk;exact⟨y,⟨0,hk,rfl⟩,b,hρ,(aH (G:=G)).1 h1⟩
  .obtain⟨u,⟨j,hj,hu⟩,h3⟩:=BZ hρ (i+1) h2 k f e
   exact⟨u,⟨j+1,by omega,by simpa using hu⟩,h3⟩
def Hk(C:aF)(b:Nat)(m:List Value)(ty:TypeId)(lo:Bool)(rv:DV)(cs':List DV):Ending->World->Prop:=Az C [⟨b,m,ty,lo⟩] (fun v css G'=>Is G' rv v/\ ∃m',css=[m']/\IsLs G' cs' m')
def AD[fu:Fu]{b:Nat}{f:FuncId}{k:Nat}{l:List (Option DV)}{cs:List DV}{ty:TypeId}(hf:prog.funcs[f]? =some fb)(hb:fb.body=some c)(hn:(fb.name== "runtime.NumGoroutine")=false)(hm:fb.ntmps=k)(hlen:Nat.ble l.length k=true)
  (hgo:(u' cs fun csx=>go tt k fu.n [] (vC 0 l) [(NM,some (.o ty csx false))] (.code c []))=⟨vc,fr,own,cf⟩)(h: ∀C b m lo,C.mb=[b]->av prog GB C k (eg C prog fb (Hk C b m ty lo rv cs')) fr own cf)
  (hv:autoParam (ak vc) fn._auto_1):PM GB prog f (i9 l b) b ty cs rv cs':=by
 intro G vs m lo hg hvs hm';refine jx.introR hf hb hn hm (by rw[hvs.len,CD];exact hlen) fun C _ hmb hrd hfx=>?_;intro a w rl;refine si hrd ?_;rw[x5] at hgo;have h1:=fB (GB:=GB) (C:=C) (Q0:=eg C prog fb (Hk C b m ty lo rv cs')) hgo hv (h C b m lo (by simpa using hmb));refine h1.run (fun _=>⟨some ⟨b,0,none⟩,0,0⟩) G [⟨b,m,ty,false⟩] a w ⟨hg,rl.h,rl.sz,rl.df,fun k f e=>?_,fun nm B e=>?_,fun nm nm' B B' e e' hne=>?_,fun nm p _ _ e=>by rw[hfx] at e;cases e⟩
 .obtain⟨y,⟨j,hj,hy⟩,h2⟩:=BZ (ρ:=fun _=>⟨some ⟨b,0,none⟩,0,0⟩) (b:=b) rfl 0 hvs k f e
  refine⟨y,rl.fr k y ?_,h2⟩;rw[hj];exact uY vs 0 j y hy
 .rw[iO] at e
  split at e
  .cases e;exact⟨[⟨b,m,ty,false⟩],⟨b,m,J,J,q9 hm'⟩,fun o ho=>ho⟩
  .cases e
 .rw[iO] at e e'
  split at e<;>split at e'
  .rename_i h2 h3;exact absurd (h2.trans h3.symm) hne
  .cases e'
  .cases e
  .cases e
def Cg(own:aI)(nm:Nat):Option (TypeId×List DV):=match bt own nm with
 |some (.o ty cs false)=>match iI cs with
  |some l=>some (ty,l)
  |none=>none
 |_=>none
def qr{b:Nat}{m:List Value}{ty:TypeId}{lo:Bool}{ds:List DV}(hmb:C.mb=[b])(hr:rj tt fr own fb.results.toList=some ds)(ho:Cg own NM=some (ty,cs1))(hd:eG ds=rv)(hc:cs1=cs'):
  av prog GB C n (eg C prog fb (Hk C b m ty lo rv cs')) fr own (.ex .ret []):=by
 refine⟨fun ρ G ov a w r=>?_⟩;obtain⟨vs,h1,h2⟩:=Ff r hr;have hk:Is G rv (nv vs):=hd▸EC h2;unfold Cg at ho;split at ho<;>try (cases ho;done)
 rename_i hb;split at ho<;>cases ho;rename_i hl;obtain⟨b',m',rest,h3,h4,h5,h6⟩:=r.lend hb hl;have hbb:b'=b:=by
  have:=(r.h.hown _ (h5.mem_iff.2 (bR _ aQ))).2.2.2 J;rw[hmb] at this;simpa using this
 subst hbb hc;exact sh (C:=C) (n:=n) (fr:=co a) (own:=ov) (G:=G) (M:=[⟨b',m,ty,lo⟩]) (css:=[m']) (K:=fun v css G'=>Is G' rv v/\ ∃m',css=[m']/\IsLs G' cs1 m') h1 J ([⟨b',m',ty,false⟩]++rest) h5 (oK _ _) ⟨hk,m',J,h4⟩ a w ⟨r.h,r.sz,cB a,r.df⟩
end
section
variable {own:aI}
def csd[fu1:Fu][fu2:Fu](d:Nat){hp:Decidable p}(hl:aO fr d=some (.d (.v (.bool (@decide p hp)))))(g1:go tt n fu1.n [] ((d, .tt)::fr) own (.ops ops r K)=⟨vc1,fr1,own1,cf1⟩)(g2:go tt n fu2.n [] ((d, .ff)::fr) own (.ops ops r K)=⟨vc2,fr2,own2,cf2⟩)
  (k1:p->av prog GB C n Q0 fr1 own1 cf1)(k2: ¬p->av prog GB C n Q0 fr2 own2 cf2)
  (v1:p->ak vc1:=by intro;first|exact trivial|(simp only[ak];omega)|(simp only[ak,aX,bQ,aS];omega))(v2: ¬p->ak vc2:=by intro;first|exact trivial|(simp only[ak];omega)|(simp only[ak,aX,bQ,aS];omega)):av prog GB C n Q0 fr own (.ops ops r K):=
 iF (fu1:=fu1) (fu2:=fu2) d hl g1 g2 (fun h=>k1 (of_decide_eq_true h)) (fun h=>k2 (of_decide_eq_false h)) (fun h=>v1 (of_decide_eq_true h)) (fun h=>v2 (of_decide_eq_false h))
def Av(d:Nat)(hl:aO fr d=some .nl)(h:av prog GB C n Q0 ((d, .d (.sl []))::fr) own (.code c K)):av prog GB C n Q0 fr own (.code c K):=
 mo (g:= .d (.sl [])) hl (fun ρ G y hy=>(show Is G (.sl []) y from l8 (ρ:=ρ) (f:= .nl) hy J)) h
def b7.to{f g:FX}(h:b7 prog GB C n lk bk o f [] [])(e: ∀ρ G y,bP ρ G f y->bP ρ G g y):b7 prog GB C n lk bk o g [] []:=fun hd tl tb Q h1 h2 hf hk=>
 h hd tl tb Q h1 h2 hf ⟨fun ρ G ov a w r=>hk.run ρ G ov a w ⟨r.gb,r.h,r.sz,r.df,fun k f' e'=>by
  cases ho:o.dst with
  |none=>exact r.fx k f' (by simpa only[ho,d8] using e')
  |some d=>
   have hr:=r.fx;simp only[ho,d8] at e' hr;by_cases q:k=d
   .rw[if_pos q] at e';cases e'
    obtain⟨y,h3,h4⟩:=hr k f (by rw[if_pos q]);exact⟨y,h3,e _ _ _ h4⟩
   .rw[if_neg q] at e'
    exact hr k f' (by rw[if_neg q];exact e'),r.bx,r.dj,r.fxd⟩⟩
def xm(fr:aC)(own:aI)(cf:Cf):Option (Oper×FX):=match cI fr cf with
 |some o=>match xS tt (b9 fr cf) (iH fr own cf) o.dst o.op with
  |some ⟨none,f,[],[]⟩=>some (o,f)
  |_=>none
 |none=>none
def jD[fu1:Fu][fu2:Fu]{f:FX}{hp:Decidable p}(hs:xm fr own cf=some (o,f))(hb:tC f=some (@decide p hp))(g1:cH tt n fu1.n fr own cf .tt [] []=⟨vc1,fr1,own1,cf1⟩)(g2:cH tt n fu2.n fr own cf .ff [] []=⟨vc2,fr2,own2,cf2⟩)
  (k1:p->av prog GB C n Q0 fr1 own1 cf1)(k2: ¬p->av prog GB C n Q0 fr2 own2 cf2)
  (v1:p->ak vc1:=by intro;first|exact trivial|(simp only[ak];kernel_rfl)|(simp only[ak];omega)|(simp only[ak,aX,bQ,aS];omega))(v2: ¬p->ak vc2:=by intro;first|exact trivial|(simp only[ak];kernel_rfl)|(simp only[ak];omega)|(simp only[ak,aX,bQ,aS];omega)):av prog GB C n Q0 fr own cf:=by
 unfold xm at hs;split at hs<;>try (cases hs;done)
 rename_i o' hh;split at hs<;>cases hs;rename_i hc;obtain⟨dst,op,ty,pos,af,gd⟩:=o;have h0:=x7 (P:=prog) (GB:=GB) (C:=C) (n:=n) (ty':=ty) (pos:=pos) (af:=af) (gd:=gd) et hc (fun p e=>by cases e);by_cases h:p
 .exact us hh (b7.to h0 fun ρ G y hy=>by rw[vU hy hb,decide_eq_true h];exact J) g1 (v1 h) (k1 h)
 .exact us hh (b7.to h0 fun ρ G y hy=>by rw[vU hy hb,decide_eq_false h];exact J) g2 (v2 h) (k2 h)
def aGD{d:Nat}{f:FX}
  (hz: ∀lk bk ρ G ov a w,bH GB C n lk bk ρ G ov a w->bk d=some B-> ∃G' ov',bI G G'/\bF C ov' G' w/\(∀o∈ov,(ρ d).a≠some ⟨o.b,0,none⟩->o∈ov')/\ ∀y,bP ρ G f y->Is G' v y)(hk:SX GB C n (d8 tl (some d) (.d v)) (Sx.upB tb [(d,none)]) Ψ):SX GB C n (d8 tl (some d) f) (Sx.upB tb [(d,some B)]) Ψ:=by
 refine⟨fun ρ G ov a w r=>?_⟩;have hbd:Sx.upB tb [(d,some B)] d=some B:=by simp[Sx.upB]
 obtain⟨G',ov',h1,h2,h3,h4⟩:=hz _ _ ρ G ov a w r hbd;refine hk.run ρ G' ov' a w ⟨r.gb.trans h1,h2,r.sz,r.df,fun k g e=>?_,fun m B' e=>?_,fun m m' B1 B2 e e'=>?_,r.fxd⟩
 .by_cases hk:k=d
  .subst hk
   simp only[d8,if_true] at e;cases e;obtain⟨y,g1,g2⟩:=r.fx k f (by simp[d8]);exact⟨y,g1,h4 y g2⟩
  .simp only[d8,hk,if_false] at e
   obtain⟨y,g1,g2⟩:=r.fx k g (by simp[d8,hk,e]);exact⟨y,g1,g2.up h1⟩
 .simp only[Sx.upB] at e
  split at e
  .cases e
  .rename_i hm
   have e':Sx.upB tb [(d,some B)] m=some B':=by simp[Sx.upB,hm,e]
   obtain⟨os,g1,g2⟩:=r.bx m B' e';exact⟨os,g1.up h1,fun o ho=>h3 o (g2 o ho) fun hc=>r.dj m d B' B e' hbd hm _ (g1.blk ho) hc⟩
 .simp only[Sx.upB] at e e'
  split at e
  .cases e
  .rename_i hm
   split at e'
   .cases e'
   .rename_i hm'
    exact r.dj m m' B1 B2 (by simp[Sx.upB,hm,e]) (by simp[Sx.upB,hm',e'])
def b7.frz2{d nm:Nat}{f:FX}(hd:o.dst=some d)(h:b7 prog GB C n lk bk o f [(nm,none),(d,some B)] [d])
  (hz: ∀lk bk ρ G ov a w,bH GB C n lk bk ρ G ov a w->bk d=some B-> ∃G' ov',bI G G'/\bF C ov' G' w/\(∀o∈ov,(ρ d).a≠some ⟨o.b,0,none⟩->o∈ov')/\ ∀y,bP ρ G f y->Is G' v y):b7 prog GB C n lk bk o (.d v) [(nm,none),(d,none)] [d]:=by
 intro hd' tl tb K s1 s2 hf hk;refine h hd' tl tb K s1 s2 hf ?_;rw[hd] at hk⊢;exact aGD (tb:=Sx.upB tb [(nm,none)]) hz hk
def aKt(d:Nat)(nm:Option Nat):List (Nat×Option Bk):=match nm with
 |some nm=>[(nm,none),(d,none)]
 |none=>[(d,none)]
def kD[fu:Fu]{d:Nat}{nm:Option Nat}{e s b:Nat}{ds ds2:List DV}(ds':List DV)(h:DE fr own cf=some ⟨d,nm,e,s,b,ds,ds2⟩)(hds:ds++ds2=ds')(ho2:cE s ds2)(hgo:cH tt n fu.n fr own cf (.d (.sl ds')) (aKt d nm) [d]=⟨vc,fr',own',cf'⟩)(k:av prog GB C n Q0 fr' own' cf')
  (ho:nm.isNone=true->cE s ds/\0<ds2.length:=by intro h;first|(cases h;done)|exact⟨E9 rfl,by simp⟩)(hbd:(ds.length+ds2.length)*b<=140737488355328:=by simp;omega)
  (hv:autoParam (ak vc) fn._auto_1):av prog GB C n Q0 fr own cf:=by
 obtain⟨o,h1,h2,h3⟩:=NP (GB:=GB) (C:=C) (n:=n) h ds' hds ho ho2 hbd
 cases nm with
 |none=>exact us h1 (h3.frzRow h2) hgo hv k
 |some nm=>exact us h1 (b7.frz2 h2 h3 fun _ _ _ _ _ _ _ r hb=>r.frzRow hb) hgo hv k
def dP[fu:Fu]{f:FX}(hs:xm fr own cf=some (o,f))(hb:tC f=some true)(hgo:cH tt n fu.n fr own cf .tt [] []=⟨vc,fr',own',cf'⟩)(k:av prog GB C n Q0 fr' own' cf')
  (hv:autoParam (ak vc) fn._auto_1):av prog GB C n Q0 fr own cf:=by
 unfold xm at hs;split at hs<;>try (cases hs;done)
 rename_i o' hh;split at hs<;>cases hs;rename_i hc;obtain⟨dst,op,ty,pos,af,gd⟩:=o;have h0:=x7 (P:=prog) (GB:=GB) (C:=C) (n:=n) (ty':=ty) (pos:=pos) (af:=af) (gd:=gd) et hc (fun p e=>by cases e);exact us hh (b7.to h0 fun ρ G y hy=>by rw[vU hy hb];exact J) hgo hv k
def cC[fu:Fu]{f:FX}(hs:xm fr own cf=some (o,f))(hb:tC f=some false)(hgo:cH tt n fu.n fr own cf .ff [] []=⟨vc,fr',own',cf'⟩)(k:av prog GB C n Q0 fr' own' cf')
  (hv:autoParam (ak vc) fn._auto_1):av prog GB C n Q0 fr own cf:=by
 unfold xm at hs;split at hs<;>try (cases hs;done)
 rename_i o' hh;split at hs<;>cases hs;rename_i hc;obtain⟨dst,op,ty,pos,af,gd⟩:=o;have h0:=x7 (P:=prog) (GB:=GB) (C:=C) (n:=n) (ty':=ty) (pos:=pos) (af:=af) (gd:=gd) et hc (fun p e=>by cases e);exact us hh (b7.to h0 fun ρ G y hy=>by rw[vU hy hb];exact J) hgo hv k
def Fb(nm:Nat){ty:TypeId}{cs:List FX}{lo:Bool}{ds:List DV}{e:Exit}(hb:bt own nm=some (.o ty cs lo))(hc:iI cs=some ds)(ho:(nm,some (.o ty (ds.map .d) lo))::own=own1)(k:av prog GB C n Q0 fr own1 (.ex e K)):av prog GB C n Q0 fr own (.ex e K):=by
 subst ho;have old: ∀m B,bt ((nm,some (.o ty (ds.map .d) lo))::own) m=some B-> ∃B0,bt own m=some B0:=fun m B e=>by
  rw[iO] at e;split at e
  .rename_i h;subst h;exact⟨_,hb⟩
  .exact⟨_,e⟩
 refine⟨fun ρ G ov a w r=>k.run ρ G ov a w ⟨r.gb,r.h,r.sz,r.df,r.fx,fun m B e=>?_,fun m m' B B' e e'=>?_,r.fxd⟩⟩
 .rw[iO] at e
  split at e
  .rename_i h;subst h;cases e
   obtain⟨os,⟨b,m,h1,rfl,h2⟩,h3⟩:=r.bx _ _ hb;exact⟨_,⟨b,m,h1,J,q9 (rA h2 hc)⟩,h3⟩
  .exact r.bx _ _ e
 .obtain⟨B0,h0⟩:=old _ _ e
  obtain⟨B1,h1⟩:=old _ _ e';exact r.dj m m' B0 B1 h0 h1
end
section
variable {own:aI}
def FK(GB:Gh)(C:aF)(n:Nat)(lk:LK)(bk:BM)(o:Oper)(ι:Type)(f:ι->FX)(bl:ι->List (Nat×Option Bk))(nw:List Nat):Prop:=
 ce n o.dst=true-> ∀(tl:LK) (tb:BM) (K:Act->World->Prop),jw lk tl->jw bk tb->jp nw o.dst tl tb->(∀x,SX GB C n (d8 tl o.dst (f x)) (Sx.upB tb (bl x)) K)->SX GB C n tl tb (fun a w=> ∀Q,o.wp prog a w K Q)
def Dp(n q:Nat)(fr:aC)(own:aI)(cf:Cf)(f:FX)(bl:List (Nat×Option Bk)):y4:=match cf with
 | .ops ops (o::r) K=>qH own bl fun own'=>wY fr o.dst f fun fr'=>go tt n q [] fr' own' (.ops ops r K)
 |_=>pk
def C9(n:Nat)(fr:aC)(own:aI)(cf:Cf)(nw:List Nat):Bool:=match cf with
 | .ops ops (o::_) _=>uP nw o.dst fr own&&ce n o.dst&&vJ ops (aO fr) o.guard
 |_=>false
def Rz{f:ι->FX}{bl:ι->List (Nat×Option Bk)}{vc:ι->List Prop}{fr':ι->aC}{own':ι->aI}{cf':ι->Cf}(hh:cI fr cf=some o)(ho:C9 n fr own cf nw=true)(h:FK GB C n (b9 fr cf) (iH fr own cf) o ι f bl nw)
  (hgo: ∀x,Dp n q fr own cf (f x) (bl x)=⟨vc x,fr' x,own' x,cf' x⟩)(hv: ∀x,ak (vc x))(k: ∀x,av prog GB C n Q0 (fr' x) (own' x) (cf' x)):av prog GB C n Q0 fr own cf:=by
 obtain⟨ops,h1,h2⟩:=HH hh
 cases cf with
 |ops ops' r K=>
  cases r with
  |nil=>cases h1
  |cons o' r=>
   cases h1
   simp only[C9,bK] at ho;refine⟨fun ρ G ov a w rl=>?_⟩;show wpListIn _ _ _ _ _ (o::r) a w;unfold wpListIn;rw[if_pos (CW ho.2 ρ G ov a w rl)];refine Jg ((h ho.1.2 _ _ (fun a w=>a.defers=C.mks/\wpListIn (FW C.rd) 0 prog ops (cQ C.rd prog Q0 K) r a w) (jw.refl _) (jw.refl _) (AH ho.1.1) (fun x=>?_)).run ρ G ov a w rl) fun a' w' k=>⟨k.1.trans rl.df.symm,k.2⟩;refine⟨fun ρ G ov a w r0=>⟨r0.df,SX.run (GB:=GB) (C:=C) (n:=n) ?_ ρ G ov a w r0⟩⟩;have hx:=hgo x;unfold Dp at hx;simp only[wo,Bt] at hx;have:=fB (GB:=GB) (C:=C) (Q0:=Q0) hx (hv x) (k x);show SX GB C n (d8 (aO fr) o.dst (f x)) (Sx.upB (bt own) (bl x)) _;rw[<-F8,<-EJ];exact this
 |_=>cases ho
def Ut{f:FuncId}{d:Nat}{ds:List DV}{ty:TypeId}{gd:Option (Nat×Bool)}{cs':ι->List DV}
  (ha:uA lk fo args=some (f,ds))(hF:PN GB prog f ds ty0 ι cs'):FK GB C n lk bk ⟨some d, .call ⟨.value fo,args,tys⟩,ty,pos,af,gd⟩ ι (fun _=> .ov d 0) (fun x=>[(d,some (.o ty0 ((cs' x).map .d) true))]) [d]:=by
 intro hd tl tb K' s1 s2 hf hk;refine⟨fun ρ G ov a w r Q=>?_⟩;have r1:=r.mono s1 s2;obtain⟨h1,h2⟩:=D1 ha;obtain⟨y,hy,hy'⟩:=r1.ev h1;rw[(aH (G:=G)).1 hy'] at hy;obtain⟨vs,h3,h4⟩:=r1.evDs h2;refine uu (M:=[]) (rest:=ov) hy h3 (List.Perm.refl _) (hF G vs r.gb h4) hd (fun v own1 G' hG hK a' w' rl=>?_) a w Q ⟨r.h,r.sz,cB a,r.df⟩;obtain⟨x,b,m,rfl,rfl,hm⟩:=hK;have rl':gq C n (Sx.put (co a) (some d) (.pointer (some ⟨b,0,none⟩))) (⟨b,m,ty0,true⟩::ov) G' a' w':=by simpa[relo,fC] using rl
 have hnd:=(bL.1 rl'.h.nd).1;exact(hk x).run _ G' _ a' w' (r.new (x:=⟨some ⟨b,0,none⟩,0,0⟩) (B':= .o ty0 ((cs' x).map .d) true) (os:=[⟨b,m,ty0,true⟩]) hf hG.le rl'.h ⟨b,m,by simp,J,q9 hm⟩ (fun o ho=>by rw[aU.1 ho];exact aQ)
  (fun o ho=>aJ _ ho) (fun o ho e=>by cases e;exact hnd o ho J) (f:= .ov d 0) (y:= .pointer (some ⟨b,0,none⟩)) ⟨b,by simp,J⟩ (jb rl'))
def Qq(fr:aC)(cf:Cf):Option (FuncId×List DV×Nat):=match cI fr cf with
 |some ⟨some d, .call ⟨.value fo,args,_⟩,_,_,_,_⟩=>match uA (b9 fr cf) fo args with
  |some (f,ds)=>some (f,ds,d)
  |none=>none
 |_=>none
def cn[fu:Fu]{f:FuncId}{d:Nat}{ds:List DV}{ty:TypeId}{cs':ι->List DV}{vc:ι->List Prop}{fr':ι->aC}{own':ι->aI}{cf':ι->Cf}(ha:Qq fr cf=some (f,ds,d))(hF:PN GB prog f ds ty ι cs')
  (hgo: ∀x,(u' (cs' x) fun csx=>Dp n fu.n fr own cf (.ov d 0) [(d,some (.o ty csx true))])=⟨vc x,fr' x,own' x,cf' x⟩)(k: ∀x,av prog GB C n Q0 (fr' x) (own' x) (cf' x))(ho:C9 n fr own cf [d]=true:=by rfl)
  (hv: ∀x,ak (vc x):=by intro;first|exact trivial|(simp only[ak];kernel_rfl)|(simp only[ak];omega)|(simp only[ak,aX,bQ,aS];omega)):av prog GB C n Q0 fr own cf:=by
 unfold Qq at ha;split at ha<;>try (cases ha;done)
 rename_i hh;split at ha<;>cases ha;rename_i h1;simp only[x5] at hgo;exact Rz hh ho (Ut h1 hF) hgo hv k
end
section
variable {own:aI}
def Xr{f:FuncId}{nm d:Nat}{l:List (Option DV)}{s:Nat}{rows:ι->List DV}{ty:TypeId}{gd:Option (Nat×Bool)}{cs:List FX}{csd:List DV}{cs':ι->List DV}{lo:Bool}(hne:Nat.beq nm d=false)
  (ha:AQ lk fo args=some (f,nm,l))(hb:bk nm=some (.o ty0 cs lo))(hc:iI cs=some csd)(hF: ∀b,Bx GB prog f (i9 l b) b ty0 csd s ty2 ι rows cs'):FK GB C n lk bk ⟨some d, .call ⟨.value fo,args,tys⟩,ty,pos,af,gd⟩ ι (fun _=> .rw d) (fun x=>[(nm,some (.o ty0 ((cs' x).map .d) lo)),(d,some (.b ty2 s (rows x) true))]) [d]:=by
 intro hd tl tb K' s1 s2 hf hk;refine⟨fun ρ G ov a w r Q=>?_⟩;have r1:=r.mono s1 s2;unfold AQ at ha;split at ha<;>try (cases ha;done)
 rename_i h1;split at ha<;>cases ha;rename_i h2;obtain⟨y,hy,hy'⟩:=r1.ev h1;rw[(aH (G:=G)).1 hy'] at hy;obtain⟨b,m,rest,h3,h4,h5,h6⟩:=r1.lend hb hc;obtain⟨vs,h7,h8⟩:=Da r1 (b:=b) h2 (fun nm e=>by cases e;exact h3);refine uu (M:=[⟨b,m,ty0,lo⟩]) (rest:=rest) hy h7 h5 (hF b G vs m lo r.gb h8 h4) hd (fun v own1 G' hG hK a' w' rl=>?_) a w Q ⟨r.h,r.sz,cB a,r.df⟩;obtain⟨x,z,m',B,rfl,rfl,hm',⟨vs',k1,k2,k3,k4⟩,hne'⟩:=hK;have e1:relo (fC [⟨b,m,ty0,lo⟩]) ⟨b,m',ty0,false⟩=⟨b,m',ty0,lo⟩:=by
  have hb:Nat.beq b b=true:=lM b;simp[relo,fC]
 have e2: ∀o∈B.map (relo (fC [(⟨b,m,ty0,lo⟩:aA)])),o.lo=true:=by
  intro o ho;obtain⟨o',ho',rfl⟩:=aT.1 ho;have hb:Nat.beq b o'.b=false:=by
   cases h:Nat.beq b o'.b with
   |false=>rfl
   |true=>exact absurd (aN h) (hne' o' ho')
  have hb':(b==o'.b)=false:=by simpa using hne' o' ho'
  simp[relo,fC,hb,hb',hne' o' ho']
 have k1':=k1.relo (fC [⟨b,m,ty0,lo⟩]);rw[bU,e1] at rl;generalize B.map (relo (fC [(⟨b,m,ty0,lo⟩:aA)]))=B' at rl e2 k1';have rl':gq C n (Sx.put (co a) (some d) (.slice z.a z.n z.c)) (⟨b,m',ty0,lo⟩::(B'++rest)) G' a' w':=rl;have hnn:nm≠d:=fun e=>by subst e;rw[lM] at hne;cases hne
 have r2:=r.upB (G':=G') (ov':=⟨b,m',ty0,lo⟩::(B'++rest)) (w':=w') (B':= .o ty0 ((cs' x).map .d) lo) (os:=[⟨b,m',ty0,lo⟩]) hG.le rl'.h ⟨b,m',h3,J,q9 hm'⟩ (fun o ho=>by rw[aU.1 ho];exact aQ)
  (fun o ho hne=>aJ _ (bV _ (h6 o ho fun e=>hne (by rw[h3,e])))) ⟨_,s2 _ _ hb⟩
 have hf2:jp [d] (some d) tl (Sx.upB tb [(nm,some (.o ty0 ((cs' x).map .d) lo))]):=fun q hq=>by
  obtain⟨f1,f2⟩:=hf q hq;refine⟨f1,fun k B e1 e=>?_⟩;simp only[Sx.upB] at e;split at e
  .cases e
   rintro ⟨g,hg,hg'⟩;obtain⟨u,_,rfl⟩:=aT.1 hg
   cases hg'
  .exact f2 k B e1 e
 have hdis: ∀o∈B',∀o'∈(⟨b,m',ty0,lo⟩::rest:List aA),o.b≠o'.b:=by
  intro o ho o' ho';have hp:(⟨b,m',ty0,lo⟩::(B'++rest)).Perm (B'++(⟨b,m',ty0,lo⟩::rest)):=List.perm_middle.symm;have:=(fS.1 (rl'.h.perm hp).nd).2.2;exact this o ho o' ho'
 have r3:=r2.new' (x:=z) (B':= .b ty2 s (rows x) true) (os:=B') (ov':=⟨b,m',ty0,lo⟩::(B'++rest)) (f:= .rw d) (y:= .slice z.a z.n z.c) hf2 (bI.refl _) rl'.h ⟨vs',by simpa using k1',k2,k3,fun _=>e2⟩ (fun o ho=>aJ _ (bR _ ho))
  (fun q B0 hq e o ho hbq=>⟨ho,fun hc=>by
   have hx: ∃o1∈B',o1.b=o.b:=by
    rcases k1' with⟨_,h,_⟩|⟨b0,rest0,lo0,h,hB,_⟩
    .rw[show z=_ from h] at hc;cases hc
    .rw[show z=_ from h] at hc;cases hc;exact⟨⟨_,aE vs'++rest0,_,lo0⟩,by rw[hB];exact aQ,J⟩
   obtain⟨o1,ho1,he1⟩:=hx;by_cases hqn:q=nm
   .subst hqn;rw[h3] at hbq;cases hbq;exact hdis o1 ho1 _ aQ he1
   .simp only[Sx.upB,hqn,if_false] at e
    obtain⟨os,g1,g2⟩:=r.bx q B0 e;obtain⟨o2,ho2,he2⟩:=g1.mem_of hbq;have hne2:o2.b≠b:=fun e'=>r.dj nm q _ _ (s2 _ _ hb) e (Ne.symm hqn) b h3 (by rw[hbq,<-e',he2]);exact hdis o1 ho1 o2 (aJ _ (h6 o2 (g2 o2 ho2) hne2)) (by rw[he1,he2])⟩) (by simp[bP]) (jb rl')
 exact(hk x).run _ G' _ a' w' r3
def OQ(fr:aC)(cf:Cf):Option Nat:=match cI fr cf with
 |some o=>o.dst
 |none=>none
def Yw[fu:Fu]{f:FuncId}{nm d:Nat}{l:List (Option DV)}{ty:TypeId}{cs:List DV}{s:Nat}{rows cs':ι->List DV}{lo:Bool}{vc:ι->List Prop}{fr':ι->aC}{own':ι->aI}{cf':ι->Cf}(ha:E5 fr own cf=some ⟨f,nm,l,ty,cs,lo⟩)(hd:OQ fr cf=some d)(hF: ∀b,Bx GB prog f (i9 l b) b ty cs s ty2 ι rows cs')
  (hgo: ∀x,(u' (cs' x) fun csx=>Dp n fu.n fr own cf (.rw d) [(nm,some (.o ty csx lo)),(d,some (.b ty2 s (rows x) true))])=⟨vc x,fr' x,own' x,cf' x⟩)(k: ∀x,av prog GB C n Q0 (fr' x) (own' x) (cf' x))(ho:C9 n fr own cf [d]=true:=by rfl)(hne:Nat.beq nm d=false:=by rfl)
  (hv: ∀x,ak (vc x):=by intro;first|exact trivial|(simp only[ak];kernel_rfl)|(simp only[ak];omega)|(simp only[ak,aX,bQ,aS];omega)):av prog GB C n Q0 fr own cf:=by
 unfold E5 at ha;unfold OQ at hd;split at ha<;>try (cases ha;done)
 rename_i hh;rw[hh] at hd
 cases hd
 split at ha<;>try (cases ha;done)
 rename_i h1;split at ha<;>try (cases ha;done)
 rename_i h2;split at ha<;>cases ha;rename_i h3;simp only[x5] at hgo;exact Rz hh ho (Xr hne h1 h2 h3 hF) hgo hv k
def IF(C:aF)(b:Nat)(ty:TypeId)(s:Nat)(ty2:TypeId)(ι:Type)(rows cs':ι->List DV):Ending->World->Prop:=qj C (fun v own' G'=> ∃x w m' B,v= .slice w.a w.n w.c/\own'=⟨b,m',ty,false⟩::B/\IsLs G' (cs' x) m'/\dw G' ⟨w,s,ty2,rows x,true⟩ B/\ ∀o∈B,b≠o.b)
def WV[fu:Fu]{b:Nat}{f:FuncId}{k:Nat}{l:List (Option DV)}{cs:List DV}{s:Nat}{rows cs':ι->List DV}{ty:TypeId}(hf:prog.funcs[f]? =some fb)(hb:fb.body=some c)(hn:(fb.name== "runtime.NumGoroutine")=false)(hm:fb.ntmps=k)(hlen:Nat.ble l.length k=true)
  (hgo:(u' cs fun csx=>go tt k fu.n [] (vC 0 l) [(NM,some (.o ty csx false))] (.code c []))=⟨vc,fr,own,cf⟩)(h: ∀C b,C.mb=[b]->av prog GB C k (eg C prog fb (IF C b ty s ty2 ι rows cs')) fr own cf)
  (hv:autoParam (ak vc) fn._auto_1):Bx GB prog f (i9 l b) b ty cs s ty2 ι rows cs':=by
 intro G vs m lo hg hvs hm';refine gt.introR hf hb hn hm (by rw[hvs.len,CD];exact hlen) fun C _ hmb hrd hfx=>?_;intro a w rl;refine si hrd ?_;rw[x5] at hgo;have h1:=fB (GB:=GB) (C:=C) (Q0:=eg C prog fb (IF C b ty s ty2 ι rows cs')) hgo hv (h C b (by simpa using hmb));refine h1.run (fun _=>⟨some ⟨b,0,none⟩,0,0⟩) G [⟨b,m,ty,false⟩] a w ⟨hg,rl.h,rl.sz,rl.df,fun k f e=>?_,fun nm B e=>?_,fun nm nm' B B' e e' hne=>?_,fun nm p _ _ e=>by rw[hfx] at e;cases e⟩
 .obtain⟨y,⟨j,hj,hy⟩,h2⟩:=BZ (ρ:=fun _=>⟨some ⟨b,0,none⟩,0,0⟩) (b:=b) rfl 0 hvs k f e
  refine⟨y,rl.fr k y ?_,h2⟩;rw[hj];exact uY vs 0 j y hy
 .rw[iO] at e
  split at e
  .cases e;exact⟨[⟨b,m,ty,false⟩],⟨b,m,J,J,q9 hm'⟩,fun o ho=>ho⟩
  .cases e
 .rw[iO] at e e'
  split at e<;>split at e'
  .rename_i h2 h3;exact absurd (h2.trans h3.symm) hne
  .cases e'
  .cases e
  .cases e
def WY{b d s:Nat}{ty:TypeId}{rows cs':ι->List DV}(x:ι)(hmb:C.mb=[b])(hr:fb.results.toList=[.tmp t])(hl:aO fr t=some (.rw d))(hw:bt own d=some (.b ty2 s rws true))(ho:Cg own NM=some (ty,cs1))(er:rws=rows x)(ec:cs1=cs' x)(hne:Nat.beq NM d=false:=by rfl):
  av prog GB C n (eg C prog fb (IF C b ty s ty2 ι rows cs')) fr own (.ex .ret []):=by
 refine⟨fun ρ G ov a w r=>?_⟩;have hnn:NM≠d:=fun e=>by rw[<-e,lM] at hne;cases hne
 unfold Cg at ho;split at ho<;>try (cases ho;done)
 rename_i hb;split at ho<;>cases ho;rename_i hc;obtain⟨b',m',rest,h3,h4,h5,h6⟩:=r.lend hb hc;have hbb:b'=b:=by
  have:=(r.h.hown _ (h5.mem_iff.2 (bR _ aQ))).2.2.2 J;rw[hmb] at this;simpa using this
 subst hbb er ec;obtain⟨os,g1,g2⟩:=r.bx _ _ hw;have hdis: ∀o∈os,o.b≠b':=fun o ho e=>r.dj NM d _ _ hb hw hnn b' h3 (by rw[g1.blk ho,e]);obtain⟨y,hy,hy'⟩:=r.ev (x:= .tmp t) (f:= .rw d) hl
 cases (show y= .slice (ρ d).a (ρ d).n (ρ d).c from hy')
 refine LG (C:=C) (n:=n) (fr:=co a) (own:=ov) (G:=G) (vs:=[.slice (ρ d).a (ρ d).n (ρ d).c]) (by rw[hr];exact .tmp hy .nil) (⟨b',m',ty,false⟩::rest) (⟨b',m',ty,false⟩::os) (by simpa using h5) (.cons_cons _ ?_) (fun _=>⟨x,ρ d,m',os,J,J,h4,g1,fun o ho=>(hdis o ho).symm⟩) a w ⟨r.h,r.sz,cB a,r.df⟩;obtain⟨vs,⟨_,_,h⟩|⟨b0,r0,lo0,_,h,_⟩,_⟩:=g1
 .rw[h];exact jQ _
 .rw[h];exact List.singleton_sublist.2 (h6 _ (g2 _ (by rw[h];exact aQ)) (hdis _ (by rw[h];exact aQ)))
end
section
variable {own:aI}
def FU(C:aF)(ty:TypeId)(ι:Type)(cs:ι->List DV):Ending->World->Prop:=qj C (fun v own' G'=> ∃x b m,v= .pointer (some ⟨b,0,none⟩)/\own'=[⟨b,m,ty,true⟩]/\IsLs G' (cs x) m)
def fnN[fu:Fu]{f:FuncId}{m:Nat}{ds:List DV}{ty:TypeId}{cs:ι->List DV}(hf:prog.funcs[f]? =some fb)(hb:fb.body=some c)(hn:(fb.name== "runtime.NumGoroutine")=false)(hm:fb.ntmps=m)(hlen:Nat.ble ds.length m=true)
  (hgo:go tt m fu.n [] (rx 0 ds) [] (.code c [])=⟨vc,fr,own,cf⟩)(k: ∀C:aF,C.mb=[]->av prog GB C m (eg C prog fb (FU C ty ι cs)) fr own cf)
  (hv:autoParam (ak vc) fn._auto_1):PN GB prog f ds ty ι cs:=by
 intro G vs hg hvs;refine gt.introR hf hb hn hm (by rw[hvs.len];exact hlen) fun C _ hmb hrd hfx=>?_;intro a w rl;refine si hrd ?_;have h:=fB (GB:=GB) (C:=C) (Q0:=eg C prog fb (FU C ty ι cs)) hgo hv (k C (by simpa using hmb));exact h.run (fun _=>⟨none,0,0⟩) G [] a w ⟨hg,rl.h,rl.sz,rl.df,(fun k f e=>ze hvs rl.fr k f e),(fun nm B e=>by cases e),(fun nm nm' B B' e=>by cases e),fun nm p _ _ e=>by rw[hfx] at e;cases e⟩
def UR{d:Nat}{ty:TypeId}{cs:ι->List DV}{cs1:List FX}{l:List DV}(x:ι)(hr:fb.results.toList=[.tmp t])(hl:aO fr t=some (.ov d 0))(hw:bt own d=some (.o ty cs1 true))(hc:iI cs1=some l)(hd:l=cs x):
  av prog GB C n (eg C prog fb (FU C ty ι cs)) fr own (.ex .ret []):=by
 refine⟨fun ρ G ov a w r=>?_⟩;subst hd;obtain⟨b,m,rest,h3,h4,h5,h6⟩:=r.lend hw hc;obtain⟨y,hy,b',hb',hy'⟩:=r.ev (x:= .tmp t) (f:= .ov d 0) hl;rw[h3] at hb';cases hb';subst hy';exact LG (C:=C) (n:=n) (fr:=co a) (own:=ov) (G:=G) (vs:=[.pointer (some ⟨b,0,none⟩)]) (by rw[hr];exact .tmp hy .nil) (⟨b,m,ty,true⟩::rest) [⟨b,m,ty,true⟩] (by simpa using h5) (.cons_cons _ (jQ _)) (fun _=>⟨x,b,m,J,J,h4⟩) a w ⟨r.h,r.sz,cB a,r.df⟩
def L2[fu:Fu]{d:Nat}{l:List DV}(h:Mz fr cf=some (d,l))(hgo:cH tt n fu.n fr own cf (.d (.pt l)) [(d,none)] [d]=⟨vc,fr',own',cf'⟩)(k:av prog GB C n Q0 fr' own' cf')
  (hv:autoParam (ak vc) fn._auto_1):av prog GB C n Q0 fr own cf:=by
 unfold Mz at h;split at h<;>try (cases h;done)
 rename_i hh;split at h<;>try (cases h;done)
 rename_i g hx;rw[cond_eq_ite] at h;split at h<;>try (cases h;done)
 rename_i hc;simp only[bK] at hc;split at h<;>cases h;rename_i hl;exact us hh (VM hx hc.1 hc.2 hl) hgo hv k
end
section
variable {own:aI}
def fw:List (Option DV)->SV->List DV
 |[],_=>[]
 |some d::t,w=>d::fw t w
 |none::t,w=> .v (.slice w.a w.n w.c)::fw t w
def C4(lk:LK):List Operand->Option (Option Nat×List (Option DV))
 |[]=>some (none,[])
 |x::t=>match bh lk x,C4 lk t with
  |some (.rw nm),some (none,l)=>some (some nm,none::l)
  |some f,some (q,l)=>match jm f with
   |some d=>some (q,some d::l)
   |none=>none
  |_,_=>none
def zm(lk:LK)(fo:Operand)(args:Array Operand):Option (FuncId×Nat×List (Option DV)):=match bh lk fo with
 |some (.d (.v (.func (.func f) ⟨[]⟩ ⟨[]⟩)))=>match C4 lk args.toList with
  |some (some nm,l)=>some (f,nm,l)
  |_=>none
 |_=>none
def E3{lk:LK}{bk:BM}{ρ:NE}{G:Gh}{ov:List aA}{a:Act}{w:World}(r:bH GB C n lk bk ρ G ov a w){z:SV}: ∀{x:List Operand} {q:Option Nat} {l:List (Option DV)},C4 lk x=some (q,l)->(∀nm,q=some nm->ρ nm=z)->
  ∃y,fi (co a) x=some y/\IsLs G (fw l z) y
 |[],q,l,e,_=>by cases e;exact⟨[],J, .nil⟩
 |x::t,q,l,e,hb=>by
  simp only[C4] at e;split at e
  .rename_i nm l' h1 h2
   cases e
   obtain⟨y,h3,h4⟩:=r.ev h1
   cases (show y=_ from h4)
   obtain⟨ys,h5,h6⟩:=E3 r (z:=z) h2 (fun nm e=>by cases e);have hz:=hb nm J;subst hz;exact⟨Value.slice (ρ nm).a (ρ nm).n (ρ nm).c::ys,by simp only[fi,h3,h5], .cons ((aH (G:=G)).2 J) h6⟩
  .rename_i f q' l' _ h1 h2
   cases hd:jm f with
   |none=>rw[hd] at e;cases e
   |some d=>
   rw[hd] at e;cases e;obtain⟨y,h3,h4⟩:=r.ev h1;obtain⟨ys,h5,h6⟩:=E3 r (z:=z) h2 hb;exact⟨y::ys,by simp only[fi,h3,h5], .cons (l8 h4 hd) h6⟩
  .cases e
def Ub{f:FuncId}{nm d:Nat}{l:List (Option DV)}{s:Nat}{ty:TypeId}{gd:Option (Nat×Bool)}{lo:Bool}(hne:Nat.beq nm d=false)
  (ha:zm lk fo args=some (f,nm,l))(hb:bk nm=some (.b ty0 s dsi lo))(hF:PB GB prog f (fw l) s ty0 dsi (fun w=> .tp (pre++ .v (.slice w.a w.n w.c)::post)) dso):b7 prog GB C n lk bk ⟨some d, .call ⟨.value fo,args,tys⟩,ty,pos,af,gd⟩ (.bx true pre d post) [(nm,none),(d,some (.b ty0 s dso lo))] [d]:=by
 intro hd tl tb K' s1 s2 hf hk;refine⟨fun ρ G ov a w r Q=>?_⟩;have r1:=r.mono s1 s2;unfold zm at ha;split at ha<;>try (cases ha;done)
 rename_i h1;split at ha<;>cases ha;rename_i h2;obtain⟨y,hy,hy'⟩:=r1.ev h1;rw[(aH (G:=G)).1 hy'] at hy;obtain⟨B,g1,g2⟩:=r1.bx _ _ hb;have hB:dw G ⟨ρ nm,s,ty0,dsi,lo⟩ B:=g1;obtain⟨vs,h7,h8⟩:=E3 r1 (z:=ρ nm) h2 (fun nm e=>by cases e;rfl);have hp: ∃rest,ov.Perm (B++rest)/\ ∀o∈ov,(∀o'∈B,o.b≠o'.b)->o∈rest:=by
  rcases hB with⟨vs',⟨_,_,e⟩|⟨b0,r0,lo0,_,e,_⟩,_⟩
  .rw[e];exact⟨ov,List.Perm.refl _,fun o ho _=>ho⟩
  .rw[e] at g2⊢
   obtain⟨l1,l2,e2⟩:=mV (g2 _ aQ);rw[e2];refine⟨l1++l2,oT,fun o ho hno=>?_⟩;rcases bJ.1 ho with ho|ho
   .exact bR _ ho
   .rcases aW.1 ho with rfl|ho
    .exact absurd J (hno _ aQ)
    .exact bV _ ho
 obtain⟨rest,h5,h6⟩:=hp;refine uu (M:=B) (rest:=rest) hy h7 h5 (hF G (ρ nm) vs B r.gb hB.weak h8) hd (fun v own1 G' hG hK a' w' rl=>?_) a w Q ⟨r.h,r.sz,cB a,r.df⟩;obtain⟨z,hr,vs',k1,k2,k3,k4⟩:=hK;have k1':=k1.relo (fC B);have e2:lo=true-> ∀o∈own1.map (relo (fC B)),o.lo=true:=fun hl o ho=>by
  obtain⟨o',_,rfl⟩:=aT.1 ho;obtain⟨_,_,_,_,hlo⟩:=hB;exact Ew _ (hlo hl)
 generalize own1.map (relo (fC B))=B' at rl e2 k1';have rl':gq C n (Sx.put (co a) (some d) v) (B'++rest) G' a' w':=rl;have hdis:=(fS.1 rl'.h.nd).2.2;have r2:=r.dropB nm;have hnn:nm≠d:=fun e=>by subst e;rw[lM] at hne;cases hne
 have hf2:jp [d] (some d) tl (Sx.upB tb [(nm,none)]):=fun q hq=>by
  obtain⟨f1,f2⟩:=hf q hq;refine⟨f1,fun k B e1 e=>?_⟩;simp only[Sx.upB] at e;split at e
  .cases e
  .exact f2 k B e1 e
 have hsep: ∀q B0,Sx.upB tb [(nm,none)] q=some B0-> ∀o∈ov,(ρ q).a=some ⟨o.b,0,none⟩->o∈rest:=fun q B0 e o ho hbq=>by
  simp only[Sx.upB] at e;split at e
  .cases e
  .rename_i hqn
   refine h6 o ho fun o' ho' he=>?_;exact r.dj nm q _ _ (s2 _ _ hb) e (Ne.symm hqn) o'.b (g1.blk ho') (by rw[hbq,he])
 obtain⟨m,rfl,hm⟩:=lv.1 hr;obtain⟨m1,m2',rfl,c1,c2⟩: ∃m1 m2',m=m1++m2'/\IsLs G' pre m1/\IsLs G' (.v (.slice z.a z.n z.c)::post) m2':=IsLs.unapp hm;obtain⟨u,m2,rfl,c3,c4⟩:=bi.1 c2;rw[aH.1 c3] at rl';have r3:=r2.new' (x:=z) (B':= .b ty0 s dso lo) (os:=B') (ov':=B'++rest) (f:= .bx true pre d post) (y:= .tuple ⟨m1++Value.slice z.a z.n z.c::m2⟩) hf2 hG.le rl'.h ⟨vs',by simpa using k1',k2,k3,e2⟩ (fun o ho=>bR _ ho)
  (fun q B0 hq e o ho hbq=>⟨bV _ (hsep q B0 e o ho hbq),fun hc=>by
   have hx: ∃o1∈B',o1.b=o.b:=by
    rcases k1' with⟨_,h,_⟩|⟨b0,rest0,lo0,h,hB,_⟩
    .rw[show z=_ from h] at hc;cases hc
    .rw[show z=_ from h] at hc;cases hc;exact⟨⟨_,aE vs'++rest0,_,lo0⟩,by rw[hB];exact aQ,J⟩
   obtain⟨o1,ho1,he1⟩:=hx;exact hdis o1 ho1 o (hsep q B0 e o ho hbq) he1⟩) ⟨m1,m2,by simp,c1,c4⟩ (jb rl')
 exact hk.run _ G' _ a' w' r3
structure CbA where
 f:FuncId
 nm:Nat
 l:List (Option DV)
 ty:TypeId
 s:Nat
 ds:List DV
 lo:Bool
 d:Nat
def Cd(fr:aC)(own:aI)(cf:Cf):Option CbA:=match cI fr cf with
 |some ⟨some d, .call ⟨.value fo,args,_⟩,_,_,_,_⟩=>match zm (b9 fr cf) fo args with
  |some (f,nm,l)=>match iH fr own cf nm with
   |some (.b ty s ds lo)=>bif Nat.beq nm d then none else some ⟨f,nm,l,ty,s,ds,lo,d⟩
   |_=>none
  |none=>none
 |_=>none
def cb[fu:Fu]{f:FuncId}{nm d:Nat}{l:List (Option DV)}{ty:TypeId}{s:Nat}{lo:Bool}(dso':List DV)(ha:Cd fr own cf=some ⟨f,nm,l,ty,s,dsi,lo,d⟩)(hF:PB GB prog f (fw l) s ty dsi (fun w=> .tp (pre++ .v (.slice w.a w.n w.c)::post)) dso)(he:dso=dso')
  (hgo:cH tt n fu.n fr own cf (.bx true pre d post) [(nm,none),(d,some (.b ty s dso' lo))] [d]=⟨vc,fr',own',cf'⟩)(k:av prog GB C n Q0 fr' own' cf')
  (hv:autoParam (ak vc) fn._auto_1):av prog GB C n Q0 fr own cf:=by
 subst he;unfold Cd at ha;split at ha<;>try (cases ha;done)
 rename_i hh;split at ha<;>try (cases ha;done)
 rename_i h1;split at ha<;>try (cases ha;done)
 rename_i h2;rw[cond_eq_ite] at ha;split at ha<;>cases ha;rename_i h3;exact us hh (Ub (by cases hq:Nat.beq nm d with|false=>rfl|true=>exact absurd hq h3) h1 h2 hF) hgo hv k
def vx:Nat->List (Option DV)->aC
 |_,[]=>[]
 |i,some v::t=>(i, .d v)::vx (i+1) t
 |i,none::t=>(i, .rw NM)::vx (i+1) t
def DI(w:SV): ∀l:List (Option DV),(fw l w).length=l.length
 |[]=>rfl
 |some d::t=>by simp[fw,DI w t]
 |none::t=>by simp[fw,DI w t]
def DQ{w:SV}{ρ:NE}{G:Gh}(hρ:ρ NM=w): ∀{ds:List (Option DV)} {vs:List Value} (i:Nat),IsLs G (fw ds w) vs-> ∀k f,aO (vx i ds) k=some f-> ∃y,(∃j,k=i+j/\vs[j]? =some y)/\bP ρ G f y
 |[],vs,i,h,k,f,e=>by cases e
 |some d::t,vs,i,h,k,f,e=>by
  obtain⟨y,m,rfl,h1,h2⟩:=bi.1 h;simp only[vx] at e;rw[jP] at e;split at e
  .cases e;rename_i hk;exact⟨y,⟨0,hk,rfl⟩,h1⟩
  .obtain⟨u,⟨j,hj,hu⟩,h3⟩:=DQ hρ (i+1) h2 k f e
   exact⟨u,⟨j+1,by omega,by simpa using hu⟩,h3⟩
 |none::t,vs,i,h,k,f,e=>by
  obtain⟨y,m,rfl,h1,h2⟩:=bi.1 h;simp only[vx] at e;rw[jP] at e;split at e
  .cases e;rename_i hk;exact⟨y,⟨0,hk,rfl⟩,by show y=_;rw[hρ];exact aH.1 h1⟩
  .obtain⟨u,⟨j,hj,hu⟩,h3⟩:=DQ hρ (i+1) h2 k f e
   exact⟨u,⟨j+1,by omega,by simpa using hu⟩,h3⟩
def Gw(C:aF)(s:Nat)(ty:TypeId)(pre post dso:List DV):Ending->World->Prop:=qj C (fun v own' G'=> ∃w',Is G' (.tp (pre++ .v (.slice w'.a w'.n w'.c)::post)) v/\dw G' ⟨w',s,ty,dso,false⟩ own')
def Ka[fu:Fu]{f:FuncId}{k s:Nat}{l:List (Option DV)}{ty:TypeId}(hf:prog.funcs[f]? =some fb)(hb:fb.body=some c)(hn:(fb.name== "runtime.NumGoroutine")=false)(hm:fb.ntmps=k)(hlen:Nat.ble l.length k=true)
  (hgo:go tt k fu.n [] (vx 0 l) [(NM,some (.b ty s dsi false))] (.code c [])=⟨vc,fr,own,cf⟩)(h: ∀C,av prog GB C k (eg C prog fb (Gw C s ty pre post dso)) fr own cf)
  (hv:autoParam (ak vc) fn._auto_1):PB GB prog f (fw l) s ty dsi (fun w=> .tp (pre++ .v (.slice w.a w.n w.c)::post)) dso:=by
 intro G w vs B hg hB hvs;refine gt.introR hf hb hn hm (by rw[hvs.len,DI];exact hlen) fun C _ hmb hrd hfx=>?_;intro a wd rl;refine si hrd ?_;have h1:=fB (GB:=GB) (C:=C) (Q0:=eg C prog fb (Gw C s ty pre post dso)) hgo hv (h C);refine h1.run (fun _=>w) G (Sx.asB B) a wd ⟨hg,rl.h,rl.sz,rl.df,fun k f e=>?_,fun nm B' e=>?_,fun nm nm' B' B2 e e' hne=>?_,fun nm p _ _ e=>by rw[hfx] at e;cases e⟩
 .obtain⟨y,⟨j,hj,hy⟩,h2⟩:=DQ (ρ:=fun _=>w) (w:=w) rfl 0 hvs k f e
  refine⟨y,rl.fr k y ?_,h2⟩;rw[hj];exact uY vs 0 j y hy
 .rw[iO] at e
  split at e
  .cases e;exact⟨Sx.asB B,hB.asB,fun o ho=>ho⟩
  .cases e
 .rw[iO] at e e'
  split at e<;>split at e'
  .rename_i h2 h3;exact absurd (h2.trans h3.symm) hne
  .cases e'
  .cases e
  .cases e
def HJ{B:List aA}{w:SV}{s:Nat}{ty:TypeId}{ds:List DV}{lo:Bool}(h:dw G ⟨w,s,ty,ds,lo⟩ B)(g: ∀o∈B,o∈ov): ∃rest,ov.Perm (B++rest):=by
 rcases h with⟨vs',⟨_,_,e⟩|⟨b0,r0,lo0,_,e,_⟩,_⟩
 .rw[e];exact⟨ov,List.Perm.refl _⟩
 .rw[e] at g⊢
  obtain⟨l1,l2,e2⟩:=mV (g _ aQ);rw[e2];exact⟨l1++l2,oT⟩
def Jn{u d s:Nat}{ty:TypeId}{ds:List DV}{f:FX}(hr:fb.results.toList=[.tmp t, .tmp u])(hl:aO fr t=some (.rw d))(hu:aO fr u=some f)(hd:jm f=some v)(hw:bt own d=some (.b ty s ds false))(ed:ds=dso)(ev:v=v'):
  av prog GB C n (eg C prog fb (Gw C s ty [] [v'] dso)) fr own (.ex .ret []):=by
 subst ed ev;refine⟨fun ρ G ov a w r=>?_⟩;obtain⟨B,g1,g2⟩:=r.bx _ _ hw;have hB:dw G ⟨ρ d,s,ty,ds,false⟩ B:=g1;obtain⟨rest,hp⟩:=HJ hB g2;obtain⟨y,hy,hy'⟩:=r.ev (x:= .tmp t) (f:= .rw d) hl
 cases (show y=_ from hy')
 obtain⟨z,hz,hz'⟩:=r.ev (x:= .tmp u) (f:=f) hu;exact vQ (C:=C) (n:=n) (fr:=co a) (own:=ov) (G:=G) (vs:=[.slice (ρ d).a (ρ d).n (ρ d).c,z]) (by rw[hr];exact .tmp hy (.tmp hz .nil)) (B++rest) B hp (oK _ _)
  ⟨ρ d,lv.2 ⟨_,J, .cons (aH.2 J) (.cons (l8 hz' hd) .nil)⟩,hB⟩ a w ⟨r.h,r.sz,cB a,r.df⟩
def Em(lk:LK):List Operand->Option (List (Option DV))
 |[]=>some []
 |x::t=>match bh lk x,Em lk t with
  |some .nl,some l=>some (none::l)
  |some f,some l=>match jm f with
   |some d=>some (some d::l)
   |none=>none
  |_,_=>none
def JX(lk:LK)(fo:Operand)(args:Array Operand):Option (FuncId×List (Option DV)):=match bh lk fo with
 |some (.d (.v (.func (.func f) ⟨[]⟩ ⟨[]⟩)))=>match Em lk args.toList with
  |some l=>some (f,l)
  |_=>none
 |_=>none
def GM{lk:LK}{bk:BM}{ρ:NE}{G:Gh}{ov:List aA}{a:Act}{w:World}(r:bH GB C n lk bk ρ G ov a w): ∀{x:List Operand} {l:List (Option DV)},Em lk x=some l-> ∃y,fi (co a) x=some y/\IsLs G (fw l ⟨none,0,0⟩) y
 |[],l,e=>by cases e;exact⟨[],J, .nil⟩
 |x::t,l,e=>by
  simp only[Em] at e;split at e
  .rename_i l' h1 h2
   cases e
   obtain⟨y,h3,h4⟩:=r.ev h1
   cases (show y=_ from h4)
   obtain⟨ys,h5,h6⟩:=GM r h2;exact⟨Value.slice none 0 0::ys,by simp only[fi,h3,h5], .cons ((aH (G:=G)).2 J) h6⟩
  .rename_i f l' _ h1 h2
   cases hd:jm f with
   |none=>rw[hd] at e;cases e
   |some d=>
   rw[hd] at e;cases e;obtain⟨y,h3,h4⟩:=r.ev h1;obtain⟨ys,h5,h6⟩:=GM r h2;exact⟨y::ys,by simp only[fi,h3,h5], .cons (l8 h4 hd) h6⟩
  .cases e
def X7{f:FuncId}{d:Nat}{l:List (Option DV)}{s:Nat}{ty:TypeId}{gd:Option (Nat×Bool)}
  (ha:JX lk fo args=some (f,l))(hF:PB GB prog f (fw l) s ty0 [] (fun w=> .tp (pre++ .v (.slice w.a w.n w.c)::post)) dso):b7 prog GB C n lk bk ⟨some d, .call ⟨.value fo,args,tys⟩,ty,pos,af,gd⟩ (.bx true pre d post) [(d,some (.b ty0 s dso true))] [d]:=by
 intro hd tl tb K' s1 s2 hf hk;refine⟨fun ρ G ov a w r Q=>?_⟩;have r1:=r.mono s1 s2;unfold JX at ha;split at ha<;>try (cases ha;done)
 rename_i h1;split at ha<;>cases ha;rename_i h2;obtain⟨y,hy,hy'⟩:=r1.ev h1;rw[(aH (G:=G)).1 hy'] at hy;obtain⟨vs,h7,h8⟩:=GM r1 h2;refine uu (M:=[]) (rest:=ov) hy h7 (List.Perm.refl _) (hF G ⟨none,0,0⟩ vs [] r.gb ⟨[], .nil _ _, .nil,by simp,fun h=>by cases h⟩ h8) hd (fun v own1 G' hG hK a' w' rl=>?_) a w Q ⟨r.h,r.sz,cB a,r.df⟩;obtain⟨z,hr,vs',k1,k2,k3,k4⟩:=hK;have k1':=k1.relo (fC []);have e2: ∀o∈own1.map (relo (fC [])),o.lo=true:=fun o ho=>by
  obtain⟨o',_,rfl⟩:=aT.1 ho;rfl
 generalize own1.map (relo (fC []))=B' at rl e2 k1';have rl':gq C n (Sx.put (co a) (some d) v) (B'++ov) G' a' w':=rl;have hdis:=(fS.1 rl'.h.nd).2.2;obtain⟨m,rfl,hm⟩:=lv.1 hr;obtain⟨m1,m2',rfl,c1,c2⟩: ∃m1 m2',m=m1++m2'/\IsLs G' pre m1/\IsLs G' (.v (.slice z.a z.n z.c)::post) m2':=IsLs.unapp hm;obtain⟨u,m2,rfl,c3,c4⟩:=bi.1 c2;rw[aH.1 c3] at rl';have r3:=r.new (x:=z) (B':= .b ty0 s dso true) (os:=B') (ov':=B'++ov) (f:= .bx true pre d post) (y:= .tuple ⟨m1++Value.slice z.a z.n z.c::m2⟩) hf hG.le rl'.h ⟨vs',by simpa using k1',k2,k3,fun _=>e2⟩ (fun o ho=>bR _ ho) (fun o ho=>bV _ ho)
  (fun o ho hc=>by
   have hx: ∃o1∈B',o1.b=o.b:=by
    rcases k1' with⟨_,h,_⟩|⟨b0,rest0,lo0,h,hB,_⟩
    .rw[show z=_ from h] at hc;cases hc
    .rw[show z=_ from h] at hc;cases hc;exact⟨⟨_,aE vs'++rest0,_,lo0⟩,by rw[hB];exact aQ,J⟩
   obtain⟨o1,ho1,he1⟩:=hx;exact hdis o1 ho1 o ho he1) ⟨m1,m2,by simp,c1,c4⟩ (jb rl')
 exact hk.run _ G' _ a' w' r3
def Od(fr:aC)(cf:Cf):Option (FuncId×List (Option DV)×Nat):=match cI fr cf with
 |some ⟨some d, .call ⟨.value fo,args,_⟩,_,_,_,_⟩=>match JX (b9 fr cf) fo args with
  |some (f,l)=>some (f,l,d)
  |none=>none
 |_=>none
def TL[fu:Fu]{f:FuncId}{d:Nat}{l:List (Option DV)}{ty:TypeId}{s:Nat}(dso':List DV)(ha:Od fr cf=some (f,l,d))(hF:PB GB prog f (fw l) s ty [] (fun w=> .tp (pre++ .v (.slice w.a w.n w.c)::post)) dso)(he:dso=dso')
  (hgo:cH tt n fu.n fr own cf (.bx true pre d post) [(d,some (.b ty s dso' true))] [d]=⟨vc,fr',own',cf'⟩)(k:av prog GB C n Q0 fr' own' cf')
  (hv:autoParam (ak vc) fn._auto_1):av prog GB C n Q0 fr own cf:=by
 subst he;unfold Od at ha;split at ha<;>try (cases ha;done)
 rename_i hh;split at ha<;>cases ha;rename_i h1;exact us hh (X7 h1 hF) hgo hv k
end
end Go.Sx
end
