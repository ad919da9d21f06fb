import Derived.Test.YtpiknjeceobbfaaGreatDoorMw5
set_option linter.all false
set_option maxRecDepth 100000
section
namespace Go.Sx
open Go Go.Proofs Tryz
section
variable {GB:Gh} {C:au} {n:Nat} {Q0:Exit->Act->World->Prop} {fr fr':ak} {own own':aw} {cf cf':Cf} {vc:List Prop} {ops:Array Oper} {o:Oper} {K:List Kt} {r:List Oper}
def bt(fr:ak)(cf:Cf):Option Oper:=match rP cf with
 |some (ops,o)=>bif mt ops (aH fr cf) o.guard then some o else none
 |none=>none
def vw(h:bt fr cf=some o): ∃ops,rP cf=some (ops,o)/\mt ops (aH fr cf) o.guard=true:=by
 unfold bt at h;split at h<;>try (cases h;done)
 rename_i ops o' hh
 cases hg:mt ops (aH fr cf) o'.guard with
 |false=>rw[hg] at h;cases h
 |true=>rw[hg] at h;cases h;exact⟨ops,hh,hg⟩
def us{q:Nat}{f:FX}{bl:List (Nat×Option Bk)}{nw:List Nat}(hh:bt fr cf=some o)(h:bp prog GB C n (aH fr cf) (dG fr own cf) o f bl nw)
  (hgo:b7 tt n q fr own cf f bl nw=⟨vc,fr',own',cf'⟩)(hv:ah vc)(k:aj prog GB C n Q0 fr' own' cf'):aj prog GB C n Q0 fr own cf:=by
 obtain⟨ops,h1,h2⟩:=vw hh;exact uo h1 h2 h hgo hv k
def qR(fr:ak)(cf:Cf):Option (FuncId×List DV):=match bt fr cf with
 |some ⟨_, .call ⟨.value fo,args,_⟩,_,_,_,_⟩=>jB (aH fr cf) fo args
 |_=>none
def cl[fu:Fu]{f:FuncId}{ds:List DV}{rv:DV}(ha:qR fr cf=some (f,ds))(hF:PF GB prog f ds rv)(hgo:b7 tt n fu.n fr own cf (.d rv) [] []=⟨vc,fr',own',cf'⟩)(k:aj prog GB C n Q0 fr' own' cf')
  (hv:ah vc:=by first|exact trivial|(simp only[ah];kernel_rfl)|(simp only[ah];omega)|(simp only[ah,aZ,aY,aJ];omega)):aj prog GB C n Q0 fr own cf:=by
 unfold qR at ha;split at ha<;>try (cases ha;done)
 rename_i hh;exact us hh (zc ha hF) hgo hv k
def Io{P:Program}{lk:LK}{bk:BM}{fo:Operand}{args:Array Operand}{tys:Array TypeId}{f:FuncId}{ds:List DV}{ι:Type}{rv:ι->DV}{dst:Option Nat}{ty:TypeId}{pos:String}{af:Array Edge}(ha:jB lk fo args=some (f,ds))(hF:PX GB P f ds ι rv)(hd:bD n dst=true)
  {Q:Exit->Act->World->Prop}{ops:Array Oper}(hk: ∀x,SX GB C n (c9 lk dst (.d (rv x))) bk (wpListIn (FW C.rd) 0 P ops Q r)):SX GB C n lk bk (wpListIn (FW C.rd) 0 P ops Q (⟨dst, .call ⟨.value fo,args,tys⟩,ty,pos,af,none⟩::r)):=by
 refine⟨fun ρ G ov a w rl0=>?_⟩;obtain⟨h1,h2⟩:=p6 ha;obtain⟨y,hy,hy'⟩:=rl0.ev h1;rw[(bh (G:=G)).1 hy'] at hy;obtain⟨vs,h3,h4⟩:=rl0.evDs h2;have hch:=zC (n:=n) (dst:=dst) (tys:=tys) (ty':=ty) (pos:=pos) (af:=af) (gd:=none) (Φ:=fun a w=>a.defers=C.mks/\wpListIn (FW C.rd) 0 P ops Q r a w) hy h3 (hF G vs rl0.gb h4) hd (fun v G' hG hK a' w' rl=>by
  obtain⟨x,hx⟩:=hK;exact⟨rl.df,(hk x).run ρ G' ov a' w' ⟨rl0.gb.trans hG.le,rl.h,rl.sz,rl.df,(iC rl).fx (fun k g _ e=>by obtain⟨u,h5,h6⟩:=rl0.fx k g e;exact⟨u,h5,h6.up hG.le⟩) hx,
   fun nm B e=>by obtain⟨os,h5,h6⟩:=rl0.bx nm B e;exact⟨os,h5.up hG.le,h6⟩,rl0.dj,rl0.fxd⟩⟩)
 have:=fun Q=>hch a w Q ⟨rl0.h,rl0.sz,ck a,rl0.df⟩;simp only[wpListIn,Region.wanted,if_true];exact rJ this fun a' w' k=>⟨k.1.trans rl0.df.symm,k.2⟩
def cx[fu:Fu]{fo:Operand}{args:Array Operand}{tys:Array TypeId}{dst:Option Nat}{ty:TypeId}{pos:String}{af:Array Edge}{f:FuncId}{ds:List DV}{ι:Type}{rv:ι->DV}{vc:ι->List Prop}{fr':ι->ak}{own':ι->aw}{cf':ι->Cf}(ha:jB (aA fr) fo args=some (f,ds))(hF:PX GB prog f ds ι rv)
  (hgo: ∀x,b7 tt n fu.n fr own (.ops ops (⟨dst, .call ⟨.value fo,args,tys⟩,ty,pos,af,none⟩::r) K) (.d (rv x)) [] []=⟨vc x,fr' x,own' x,cf' x⟩)(k: ∀x,aj prog GB C n Q0 (fr' x) (own' x) (cf' x))
  (hd:bD n dst=true:=by rfl)(hv: ∀x,ah (vc x):=by intro;first|exact trivial|(simp only[ah];kernel_rfl)|(simp only[ah];omega)|(simp only[ah,aZ,aY,aJ];omega)):aj prog GB C n Q0 fr own (.ops ops (⟨dst, .call ⟨.value fo,args,tys⟩,ty,pos,af,none⟩::r) K):=by
 refine Io ha hF hd fun x=>?_;have h1:=hgo x;unfold b7 at h1;simp only[lj,List.all_nil,hd,Bool.and_true,cond_true,jt,o7] at h1;have:=dw (GB:=GB) (C:=C) (Q0:=Q0) h1 (hv x) (k x);show SX GB C n _ _ _;rw[<-rM];exact this
def Bu(fr:ak)(cf:Cf):Option (List DV×Int×Nat):=match bt fr cf with
 |some ⟨_, .indexAddr t x y,_,_,_,_⟩=>match evD (aH fr cf) x with
  |some (.sl l)=>match az (aH fr cf) y with
   |some (.d (.v (.int _ i)))=>match b6 tt t with
    |some ⟨.sl _ s _,_,_,_⟩=>some (l,i,s)
    |_=>none
   |_=>none
  |_=>none
 |_=>none
def Cu(n q:Nat)(fr:ak)(own:aw)(cf:Cf)(d:DV)(s:Nat):pf:=bif d.okc&&Nat.beq d.cells.length s then fE d.cells fun cs=>b7 tt n q fr own cf (.ep cs) [] [] else ij
def ix[fu:Fu](d:DV){l:List DV}{i:Int}{s:Nat}(h:Bu fr cf=some (l,i,s))(he:l[i.toNat]? =some d)(hgo:Cu n fu.n fr own cf d s=⟨vc,fr',own',cf'⟩)(k:aj prog GB C n Q0 fr' own' cf')(h0:0<=i:=by omega)
  (hv:ah vc:=by first|exact trivial|(simp only[ah];kernel_rfl)|(simp only[ah];omega)|(simp only[ah,aZ,aY,aJ];omega)):aj prog GB C n Q0 fr own cf:=by
 unfold Bu at h;split at h<;>try (cases h;done)
 rename_i hh;split at h<;>try (cases h;done)
 rename_i hx;split at h<;>try (cases h;done)
 rename_i hy;split at h<;>cases h;rename_i hT;have:=fG (c' _ _ hT) J;unfold Cu at hgo
 cases hc:(d.okc&&Nat.beq d.cells.length s) with
 |false=>simp only[hc,cond_false,ij] at hgo;cases hgo;exact absurd hv (fun x=>x)
 |true=>
  simp only[hc,cond_true,lf] at hgo;exact us hh (E9 hx hy h0 he hc) hgo hv k
structure HU where
 ds:List DV
 k:Nat
 j:Nat
 ag:Option Nat
def Do(fr:ak)(own:aw)(cf:Cf):Option HU:=match bt fr cf with
 |some ⟨_, .load t x,_,_,_,_⟩=>match az (aH fr cf) x with
  |some (.be nm sz k j)=>match dG fr own cf nm with
   |some (.b _ s ds _)=>bif Nat.beq s sz then(match b6 tt t with
    |some i=>match i.ag with
     |some ag=>some ⟨ds,k,j,ag⟩
     |none=>none
    |none=>none) else none
   |_=>none
  |_=>none
 |_=>none
def Ev(n q:Nat)(fr:ak)(own:aw)(cf:Cf)(d:DV)(ag:Option Nat)(j:Nat):pf:=bif d.okc then(match ph ag d.cells j with
 |some c=>b7 tt n q fr own cf (.d c) [] []
 |none=>ij) else ij
def lb[fu:Fu](d:DV){ds:List DV}{k' j:Nat}{ag:Option Nat}(h:Do fr own cf=some ⟨ds,k',j,ag⟩)(he:ds[k']? =some d)(hgo:Ev n fu.n fr own cf d ag j=⟨vc,fr',own',cf'⟩)(k:aj prog GB C n Q0 fr' own' cf')
  (hv:ah vc:=by first|exact trivial|(simp only[ah];kernel_rfl)|(simp only[ah];omega)|(simp only[ah,aZ,aY,aJ];omega)):aj prog GB C n Q0 fr own cf:=by
 unfold Do at h;split at h<;>try (cases h;done)
 rename_i hh;split at h<;>try (cases h;done)
 rename_i hx;split at h<;>try (cases h;done)
 rename_i ty s ds' lo hb;rw[cond_eq_ite] at h;split at h<;>try (cases h;done)
 rename_i hs
 cases aW hs
 split at h<;>try (cases h;done)
 rename_i hT;split at h<;>cases h;rename_i ha;unfold Ev at hgo
 cases hc:d.okc with
 |false=>simp only[hc,cond_false,ij] at hgo;cases hgo;exact absurd hv (fun x=>x)
 |true=>
  simp only[hc,cond_true] at hgo
  cases hl:ph ag d.cells j with
  |none=>simp only[hl,ij] at hgo;cases hgo;exact absurd hv (fun x=>x)
  |some c=>simp only[hl] at hgo;exact us hh (MG (c' _ _ hT) ha hx hb he hc hl) hgo hv k
structure HH where
 nm:Nat
 ty:TypeId
 s:Nat
 ds:List DV
 lo:Bool
 k:Nat
 j:Nat
 ag:Option Nat
 u:DV
def x7(fr:ak)(own:aw)(cf:Cf):Option HH:=match bt fr cf with
 |some ⟨_, .store t x y,_,_,_,_⟩=>match az (aH fr cf) x with
  |some (.be nm sz k j)=>match dG fr own cf nm with
   |some (.b ty s ds lo)=>bif Nat.beq s sz then(match b6 tt t with
    |some i=>match i.ag with
     |some ag=>match evD (aH fr cf) y with
      |some u=>some ⟨nm,ty,s,ds,lo,k,j,ag,u⟩
      |none=>none
     |none=>none
    |none=>none) else none
   |_=>none
  |_=>none
 |_=>none
def sb[fu:Fu](d:DV){nm:Nat}{ty:TypeId}{s:Nat}{ds:List DV}{lo:Bool}{k' j:Nat}{ag:Option Nat}{u d':DV}(ds':List DV)(h:x7 fr own cf=some ⟨nm,ty,s,ds,lo,k',j,ag,u⟩)(he:ds[k']? =some d)(hl:ri ag d j u=some d')(hds:ds.set k' d'=ds')
  (hgo:b7 tt n fu.n fr own cf .un [(nm,some (.b ty s ds' lo))] []=⟨vc,fr',own',cf'⟩)(k:aj prog GB C n Q0 fr' own' cf')
  (hv:ah vc:=by first|exact trivial|(simp only[ah];kernel_rfl)|(simp only[ah];omega)|(simp only[ah,aZ,aY,aJ];omega)):aj prog GB C n Q0 fr own cf:=by
 unfold x7 at h;split at h<;>try (cases h;done)
 rename_i hh;split at h<;>try (cases h;done)
 rename_i hx;split at h<;>try (cases h;done)
 rename_i hb;rw[cond_eq_ite] at h;split at h<;>try (cases h;done)
 rename_i hs
 cases aW hs
 split at h<;>try (cases h;done)
 rename_i hT;split at h<;>try (cases h;done)
 rename_i ha;split at h<;>cases h;rename_i hy;exact us hh (Fi (c' _ _ hT) ha hx hb hy he hl hds) hgo hv k
structure Iy where
 d:Nat
 e:Nat
 s:Nat
 b:Nat
 z:DV
 l:Int
def Da(fr:ak)(cf:Cf):Option Iy:=match bt fr cf with
 |some ⟨some d, .makeSlice t x y,_,_,_,_⟩=>match az (aH fr cf) x with
  |some (.d (.v (.int _ l)))=>match b6 tt t with
   |some ⟨.sl e s b,_,_,_⟩=>match b6 tt e with
    |some i=>match iE i with
     |some z=>bif Nat.beq z.cells.length s then some ⟨d,e,s,b,z,l⟩ else none
     |none=>none
    |none=>none
   |_=>none
  |_=>none
 |_=>none
def mk[fu:Fu]{d e s b:Nat}{z:DV}{l:Int}{k':IntKind}(ds:List DV)(h:Da fr cf=some ⟨d,e,s,b,z,l⟩)(hy:(match bt fr cf with|some ⟨_, .makeSlice _ _ y,_,_,_,_⟩=>az (aH fr cf) y|_=>none)=some (.d (.v (.int k' l))))(hds:List.replicate l.toNat z=ds)
  (hgo:b7 tt n fu.n fr own cf (.rw d) [(d,some (.b e s ds true))] [d]=⟨vc,fr',own',cf'⟩)(k:aj prog GB C n Q0 fr' own' cf')(h0:0<=l:=by omega)(hb:b*l<=140737488355328:=by omega)(hl:l<=1152921504606846976:=by omega)
  (hv:ah vc:=by first|exact trivial|(simp only[ah];kernel_rfl)|(simp only[ah];omega)|(simp only[ah,aZ,aY,aJ];omega)):aj prog GB C n Q0 fr own cf:=by
 unfold Da at h;split at h<;>try (cases h;done)
 rename_i hh;split at h<;>try (cases h;done)
 rename_i hx;split at h<;>try (cases h;done)
 rename_i hT;split at h<;>try (cases h;done)
 rename_i hi;split at h<;>try (cases h;done)
 rename_i hz;rw[cond_eq_ite] at h;split at h<;>cases h;rename_i hs;rw[hh] at hy;have:=fG (c' _ _ hT) J;exact us hh (MM (c' _ _ hi) hz hs hx hy h0 hb hl hds) hgo hv k
structure An where
 d:Nat
 e:Nat
 s:Nat
 ds:List DV
def rG(fr:ak)(cf:Cf):Option An:=match bt fr cf with
 |some ⟨some d, .buildSlice t len parts,_,_,_,_⟩=>match b6 tt t with
  |some ⟨.sl e s _,_,_,_⟩=>match b6 tt e with
   |some i=>match iE i with
    |some z=>match nF (aH fr cf) 0 parts.toList with
     |some ds=>bif Nat.beq z.cells.length s&&(qJ s ds&&(Nat.beq parts.toList.length len&&(Nat.ble (len*s) 1000&&Nat.blt 0 (len*s)))) then some ⟨d,e,s,ds⟩ else none
     |none=>none
    |none=>none
   |none=>none
  |_=>none
 |_=>none
def zr{d e s:Nat}{ds:List DV}(h:rG fr cf=some ⟨d,e,s,ds⟩): ∃o,bt fr cf=some o/\o.dst=some d/\bp prog GB C n (aH fr cf) (dG fr own cf) o (.rw d) [(d,some (.b e s ds true))] [d]:=by
 unfold rG at h;split at h<;>try (cases h;done)
 rename_i hh;split at h<;>try (cases h;done)
 rename_i hT;split at h<;>try (cases h;done)
 rename_i hi;split at h<;>try (cases h;done)
 rename_i hz;split at h<;>try (cases h;done)
 rename_i hr;rw[cond_eq_ite] at h;split at h<;>cases h;rename_i hc;simp only[aR] at hc;have:=fG (c' _ _ hT) J;exact⟨_,hh,J,xy (c' _ _ hi) hz hc.1 hr hc.2.1 hc.2.2.1 hc.2.2.2.1 hc.2.2.2.2⟩
def ro[fu:Fu]{d e s:Nat}{ds:List DV}(h:rG fr cf=some ⟨d,e,s,ds⟩)(hgo:b7 tt n fu.n fr own cf (.rw d) [(d,some (.b e s ds true))] [d]=⟨vc,fr',own',cf'⟩)(k:aj prog GB C n Q0 fr' own' cf')
  (hv:ah vc:=by first|exact trivial|(simp only[ah];kernel_rfl)|(simp only[ah];omega)|(simp only[ah,aZ,aY,aJ];omega)):aj prog GB C n Q0 fr own cf:=by
 obtain⟨o,h1,_,h3⟩:=zr (GB:=GB) (C:=C) (n:=n) (own:=own) h;exact us h1 h3 hgo hv k
def rf[fu:Fu]{d e s:Nat}{ds:List DV}(h:rG fr cf=some ⟨d,e,s,ds⟩)(hgo:b7 tt n fu.n fr own cf (.d (.sl ds)) [(d,none)] [d]=⟨vc,fr',own',cf'⟩)(k:aj prog GB C n Q0 fr' own' cf')
  (hv:ah vc:=by first|exact trivial|(simp only[ah];kernel_rfl)|(simp only[ah];omega)|(simp only[ah,aZ,aY,aJ];omega)):aj prog GB C n Q0 fr own cf:=by
 obtain⟨o,h1,h2,h3⟩:=zr (GB:=GB) (C:=C) (n:=n) (own:=own) h;exact us h1 (h3.frzRow h2) hgo hv k
def xh(fr:ak)(cf:Cf):Option (Nat×Nat×Nat):=match bt fr cf with
 |some ⟨some d, .buildSlice t 0 ⟨[]⟩,_,_,_,_⟩=>match b6 tt t with
  |some ⟨.sl e s _,_,_,_⟩=>some (d,e,s)
  |_=>none
 |_=>none
def L8[fu:Fu]{d e s:Nat}(h:xh fr cf=some (d,e,s))(hgo:b7 tt n fu.n fr own cf (.rw d) [(d,some (.b e s [] true))] [d]=⟨vc,fr',own',cf'⟩)(k:aj prog GB C n Q0 fr' own' cf')
  (hv:ah vc:=by first|exact trivial|(simp only[ah];kernel_rfl)|(simp only[ah];omega)|(simp only[ah,aZ,aY,aJ];omega)):aj prog GB C n Q0 fr own cf:=by
 unfold xh at h;split at h<;>try (cases h;done)
 rename_i hh;split at h<;>cases h;rename_i hT;have:=fG (c' _ _ hT) J;exact us hh HZ hgo hv k
structure He where
 d:Nat
 nm:Option Nat
 e:Nat
 s:Nat
 b:Nat
 ds:List DV
 ds2:List DV
def uE(fr:ak)(own:aw)(cf:Cf):Option He:=match bt fr cf with
 |some ⟨some d, .call ⟨.builtin .append,⟨[x,y]⟩,⟨[t,t']⟩⟩,_,_,_,_⟩=>match b6 tt t with
  |some ⟨.sl e s b,_,_,_⟩=>match b6 tt t' with
   |some ⟨.sl _ _ _,_,_,_⟩=>match b6 tt e with
    |some i=>match iE i with
     |some z=>bif Nat.beq z.cells.length s&&Nat.blt 0 b then(match lc (aH fr cf) (dG fr own cf) s y with
      |some ds2=>match az (aH fr cf) x with
       |some (.rw nm)=>match dG fr own cf nm with
        |some (.b e' s' ds true)=>bif (Nat.beq e' e&&Nat.beq s' s)&&!Nat.beq nm d then some ⟨d,some nm,e,s,b,ds,ds2⟩ else none
        |_=>none
       |some (.ct ds)=>some ⟨d,none,e,s,b,ds,ds2⟩
       |some .nl=>some ⟨d,none,e,s,b,[],ds2⟩
       |_=>none
      |none=>none) else none
     |none=>none
    |none=>none
   |_=>none
  |_=>none
 |_=>none
def yo(d:Nat)(nm:Option Nat)(B:Bk):List (Nat×Option Bk):=match nm with
 |some nm=>[(nm,none),(d,some B)]
 |none=>[(d,some B)]
def KO{d:Nat}{nm:Option Nat}{e s b:Nat}{ds ds2:List DV}(h:uE fr own cf=some ⟨d,nm,e,s,b,ds,ds2⟩)(ds':List DV)(hds:ds++ds2=ds')(ho:nm.isNone=true->eh s ds/\0<ds2.length)(ho2:eh s ds2)(hbd:(ds.length+ds2.length)*b<=140737488355328):
  ∃o,bt fr cf=some o/\o.dst=some d/\bp prog GB C n (aH fr cf) (dG fr own cf) o (.rw d) (yo d nm (.b e s ds' true)) [d]:=by
 unfold uE at h;split at h<;>try (cases h;done)
 rename_i hh;split at h<;>try (cases h;done)
 rename_i hT;split at h<;>try (cases h;done)
 rename_i hT';split at h<;>try (cases h;done)
 rename_i hi;split at h<;>try (cases h;done)
 rename_i hz;rw[cond_eq_ite] at h;split at h<;>try (cases h;done)
 rename_i hc;simp only[aR] at hc;split at h<;>try (cases h;done)
 rename_i hy;have:=fG (c' _ _ hT) J;have hN:jH prog _:=⟨_,(fG (c' _ _ hT') J).un⟩;refine⟨_,hh,?_⟩;split at h<;>try (cases h;done)
 ·rename_i hx
  split at h<;>try (cases h;done)
  rename_i hb;rw[cond_eq_ite] at h;split at h<;>cases h;rename_i hq;simp only[aR,fU] at hq
  cases aW hq.1.1
  cases aW hq.1.2
  exact⟨J,Jr (c' _ _ hi) hz hc.1 hx hb hy ho2 hc.2 hbd hq.2 hds⟩
 ·rename_i hx
  cases h
  obtain⟨h1,h2⟩:=ho rfl;exact⟨J,Ax (c' _ _ hi) hz hc.1 (.inl hx) h1 hy ho2 h2 hc.2 hbd hds⟩
 ·rename_i hx
  cases h
  obtain⟨h1,h2⟩:=ho rfl;exact⟨J,Ax (c' _ _ hi) hz hc.1 (.inr ⟨hx,J⟩) h1 hy ho2 h2 hc.2 hbd hds⟩
def ap[fu:Fu]{d:Nat}{nm:Option Nat}{e s b:Nat}{ds ds2:List DV}(ds':List DV)(h:uE fr own cf=some ⟨d,nm,e,s,b,ds,ds2⟩)(hds:ds++ds2=ds')(ho2:eh s ds2)(hgo:b7 tt n fu.n fr own cf (.rw d) (yo d nm (.b e s ds' true)) [d]=⟨vc,fr',own',cf'⟩)(k:aj prog GB C n Q0 fr' own' cf')
  (ho:nm.isNone=true->eh s ds/\0<ds2.length:=by intro h;first|(cases h;done)|exact⟨Aj rfl,by simp⟩)(hbd:(ds.length+ds2.length)*b<=140737488355328:=by simp;omega)
  (hv:ah vc:=by first|exact trivial|(simp only[ah];kernel_rfl)|(simp only[ah];omega)|(simp only[ah,aZ,aY,aJ];omega)):aj prog GB C n Q0 fr own cf:=by
 obtain⟨o,h1,_,h3⟩:=KO (GB:=GB) (C:=C) (n:=n) h ds' hds ho ho2 hbd;exact us h1 h3 hgo hv k
def x6(fr:ak)(cf:Cf):Option (List DV×Int×Int×Nat×Bool):=match bt fr cf with
 |some ⟨_, .slice t x lo hi mx,_,_,_,_⟩=>match evD (aH fr cf) x with
  |some (.sl l)=>match b6 tt t with
   |some ⟨.sl _ s _,_,_,_⟩=>match gt (aH fr cf) 0 lo,gt (aH fr cf) l.length hi with
    |some i,some j=>match mx with
     |none=>some (l,i,j,s,false)
     |some _=>none
    |_,_=>none
   |_=>none
  |_=>none
 |_=>none
def Ei[fu:Fu]{l:List DV}{i j:Int}{s:Nat}(nlo nhi:Nat)(ls:List DV)(h:x6 fr cf=some (l,i,j,s,false))(ei:i=nlo)(ej:j=nhi)(hls:(l.take nhi).drop nlo=ls)(ho:eh s l)(h1:nlo<=nhi)(h2:nhi<=l.length)
  (hgo:b7 tt n fu.n fr own cf (.d (.sl ls)) [] []=⟨vc,fr',own',cf'⟩)(k:aj prog GB C n Q0 fr' own' cf')
  (hv:ah vc:=by first|exact trivial|(simp only[ah];kernel_rfl)|(simp only[ah];omega)|(simp only[ah,aZ,aY,aJ];omega)):aj prog GB C n Q0 fr own cf:=by
 unfold x6 at h;split at h<;>try (cases h;done)
 rename_i hh;split at h<;>try (cases h;done)
 rename_i hx;split at h<;>try (cases h;done)
 rename_i hT;split at h<;>try (cases h;done)
 rename_i hi hj;split at h<;>cases h;have:=fG (c' _ _ hT) J;subst ei ej hls;exact us hh (IC hx ho hi hj h1 h2) hgo hv k
def AP(fr:ak)(cf:Cf):Option (List DV×Int×Int×Nat):=match bt fr cf with
 |some ⟨_, .slice t x none (some hi) (some mx),_,_,_,_⟩=>match evD (aH fr cf) x with
  |some (.sl l)=>match b6 tt t with
   |some ⟨.sl _ s _,_,_,_⟩=>match gt (aH fr cf) 0 (some hi),gt (aH fr cf) 0 (some mx) with
    |some i,some j=>some (l,i,j,s)
    |_,_=>none
   |_=>none
  |_=>none
 |_=>none
def s3[fu:Fu]{l:List DV}{i j:Int}{s:Nat}(nhi:Nat)(ls:List DV)(h:AP fr cf=some (l,i,j,s))(ei:i=nhi)(ej:j=nhi)(hls:l.take nhi=ls)(ho:eh s l)(h2:nhi<=l.length)
  (hgo:b7 tt n fu.n fr own cf (.ct ls) [] []=⟨vc,fr',own',cf'⟩)(k:aj prog GB C n Q0 fr' own' cf')
  (hv:ah vc:=by first|exact trivial|(simp only[ah];kernel_rfl)|(simp only[ah];omega)|(simp only[ah,aZ,aY,aJ];omega)):aj prog GB C n Q0 fr own cf:=by
 unfold AP at h;split at h<;>try (cases h;done)
 rename_i hh;split at h<;>try (cases h;done)
 rename_i hx;split at h<;>try (cases h;done)
 rename_i hT;split at h<;>cases h;rename_i hi hj;have:=fG (c' _ _ hT) J;subst ei ej hls;exact us hh (MI hx ho hi hj h2) hgo hv k
def yf(fr:ak)(cf:Cf):Option (Nat×List DV):=match bt fr cf with
 |some ⟨some d, .box _ x,_,_,_,_⟩=>match az (aH fr cf) x with
  |some f=>bif f.okc&&n9 f d then(match iw f.cells with
   |some l=>some (d,l)
   |none=>none) else none
  |none=>none
 |_=>none
end
section
variable {GB:Gh} {C:au} {n:Nat} {Q0:Exit->Act->World->Prop} {fr fr':ak} {own own':aw} {cf cf':Cf} {vc:List Prop} {ops:Array Oper} {o:Oper} {K:List Kt} {r:List Oper}
def Pf(x y m:Nat)(k:Option Nat):Option Nat:=bif Nat.beq m x then some y else bif Nat.beq m y then none else k
def jP(x y:Nat):FX->FX
 | .rw m=>bif Nat.beq m x then .rw y else bif Nat.beq m y then .no else .rw m
 | .ov m o=>bif Nat.beq m x then .ov y o else bif Nat.beq m y then .no else .ov m o
 | .be m s i j=>bif Nat.beq m x then .be y s i j else bif Nat.beq m y then .no else .be m s i j
 | .rs m s i j=>bif Nat.beq m x then .rs y s i j else bif Nat.beq m y then .no else .rs m s i j
 | .bx tp pre m post=>bif Nat.beq m x then .bx tp pre y post else bif Nat.beq m y then .no else .bx tp pre m post
 |f=>f
def j'(x y:Nat):Option Bk->Option Bk
 |some (.o ty cs lo)=>some (.o ty (cs.map (jP x y)) lo)
 |B=>B
def Pt(x y k:Nat):Nat:=bif Nat.beq k x then y else bif Nat.beq k y then x else k
def sA{α:Type}(g:FX->FX):List FX->(List FX->α)->α
 |[],k=>k []
 |f::t,k=>sA g t fun t'=>pL (g f) fun f'=>k (f'::t')
def Dn{α:Type}{g:FX->FX}: ∀{cs:List FX} {k:List FX->α},sA g cs k=k (cs.map g)
 |[],k=>rfl
 |f::t,k=>by simp only[sA,rN];rw[Dn];rfl
def qU{α:Type}(g:FX->FX):ak->(ak->α)->α
 |[],k=>k []
 |(j,f)::t,k=>qU g t fun t'=>pL (g f) fun f'=>k ((j,f')::t')
def w7{α:Type}{g:FX->FX}: ∀{fr:ak} {k:ak->α},qU g fr k=k (fr.map fun e=>(e.1,g e.2))
 |[],k=>rfl
 |(j,f)::t,k=>by simp only[qU,rN];rw[w7];rfl
def sV{α:Type}(x y:Nat):aw->(aw->α)->α
 |[],k=>k []
 |(j,B)::t,k=>sV x y t fun t'=>bif Nat.beq j y then k ((x,none)::t') else match B with
  |some (.o ty cs lo)=>sA (jP x y) cs fun cs'=>bif Nat.beq j x then k ((y,some (.o ty cs' lo))::t') else k ((j,some (.o ty cs' lo))::t')
  |B=>bif Nat.beq j x then k ((y,B)::t') else k ((j,B)::t')
def wS{α:Type}{x y:Nat}: ∀{own:aw} {k:aw->α},sV x y own k=k (own.map fun e=>(bif Nat.beq e.1 y then x else bif Nat.beq e.1 x then y else e.1,bif Nat.beq e.1 y then none else j' x y e.2))
 |[],k=>rfl
 |(j,B)::t,k=>by
  simp only[sV,wS (own:=t),bN]
  cases Nat.beq j y with
  |true=>rfl
  |false=>
   cases B with
   |none=>cases Nat.beq j x<;>rfl
   |some B=>cases B<;>cases Nat.beq j x<;>simp only[cond_false,cond_true,Dn,j']
def vh{x y:Nat}(hxy:x≠y): ∀{own:aw} {k:Nat},aD (own.map fun e=>(bif Nat.beq e.1 y then x else bif Nat.beq e.1 x then y else e.1,bif Nat.beq e.1 y then none else j' x y e.2)) k=if k=x then none else if k=y then j' x y (aD own x) else j' x y (aD own k)
 |[],k=>by simp[aD,j']
 |(j,B)::t,k=>by
  have bq: ∀a b:Nat,Nat.beq a b=decide (a=b):=fun a b=>by
   by_cases h:a=b
   ·subst h;simp
   ·rw[decide_eq_false h]
    cases hb:Nat.beq a b with
    |false=>rfl
    |true=>exact absurd (aW hb) h
  simp only[bN];rw[gP,vh hxy (own:=t),gP,gP];by_cases h1:j=y
  ·subst h1
   simp only[bq,decide_true,cond_true];by_cases h2:k=x
   ·simp[h2]
   ·by_cases h3:k=j
    ·subst h3;simp[h2,Ne.symm h2,hxy]
    ·simp[h2,h3]
  ·by_cases h4:j=x
   ·subst h4
    simp only[bq,h1,decide_false,cond_false,decide_true,cond_true];by_cases h2:k=y
    ·subst h2;simp[Ne.symm h1]
    ·by_cases h3:k=j
     ·subst h3;simp[h1]
     ·simp[h2,h3]
   ·simp only[bq,h1,h4,decide_false,cond_false]
    by_cases h2:k=j
    ·subst h2;simp[h1,h4]
    ·by_cases h3:k=x
     ·subst h3;simp[h2]
     ·by_cases h5:k=y
      ·subst h5;simp[h2,h3,Ne.symm h4]
      ·simp[h2,h3,h5]
def tW{x y:Nat}(hxy:x≠y){ρ:NE}{G:Gh}{f:FX}{v:Value}(h:bi ρ G f v):bi (fun k=>if k=y then ρ x else ρ k) G (jP x y f) v:=by
 have key: ∀m:Nat,Nat.beq m y=false->(fun k=>if k=y then ρ x else ρ k) m=ρ m:=fun m hm=>if_neg fun e=>by subst e;simp at hm
 cases f with
 |rw m=>
  simp only[jP]
  cases hb:Nat.beq m x with
  |true=>cases aW hb;simp only[cond_true];show v=_;simp;exact h
  |false=>
   cases hb':Nat.beq m y with
   |true=>trivial
   |false=>simp only[cond_false];show v=_;rw[key m hb'];exact h
 |ov m off=>
  simp only[jP]
  cases hb:Nat.beq m x with
  |true=>cases aW hb;simp only[cond_true];obtain⟨b,h1,h2⟩:=h;exact⟨b,by simp;exact h1,h2⟩
  |false=>
   cases hb':Nat.beq m y with
   |true=>trivial
   |false=>simp only[cond_false];obtain⟨b,h1,h2⟩:=h;exact⟨b,by rw[key m hb'];exact h1,h2⟩
 |be m s i j=>
  simp only[jP]
  cases hb:Nat.beq m x with
  |true=>cases aW hb;simp only[cond_true];obtain⟨b,h1,h2⟩:=h;exact⟨b,by simp;exact h1,h2⟩
  |false=>
   cases hb':Nat.beq m y with
   |true=>trivial
   |false=>simp only[cond_false];obtain⟨b,h1,h2⟩:=h;exact⟨b,by rw[key m hb'];exact h1,h2⟩
 |rs m s i j=>
  simp only[jP]
  cases hb:Nat.beq m x with
  |true=>cases aW hb;simp only[cond_true];obtain⟨b,c,h1,h2⟩:=h;exact⟨b,c,by simp;exact h1,h2⟩
  |false=>
   cases hb':Nat.beq m y with
   |true=>trivial
   |false=>simp only[cond_false];obtain⟨b,c,h1,h2⟩:=h;exact⟨b,c,by rw[key m hb'];exact h1,h2⟩
 |bx tp pre m post=>
  simp only[jP]
  cases hb:Nat.beq m x with
  |true=>cases aW hb;simp only[cond_true];obtain⟨m1,m2,e,h1,h2⟩:=h;exact⟨m1,m2,by simpa using e,h1,h2⟩
  |false=>
   cases hb':Nat.beq m y with
   |true=>trivial
   |false=>simp only[cond_false];obtain⟨m1,m2,e,h1,h2⟩:=h;exact⟨m1,m2,by rw[key m hb'];exact e,h1,h2⟩
 |_=>exact h
def vG{x y:Nat}(hxy:x≠y){ρ:NE}{G:Gh}: ∀{cs:List FX} {m:List Value},cb ρ G cs m->cb (fun k=>if k=y then ρ x else ρ k) G (cs.map (jP x y)) m
 |[],m,h=>h
 |f::t,m,⟨v,q,e,h1,h2⟩=>⟨v,q,e,tW hxy h1,vG hxy h2⟩
def oc(x y:Nat)(fr:ak)(own:aw):Option qm:=bif Nat.beq x y then none else qU (jP x y) fr fun fr'=>sV x y own fun own'=>some ⟨fr',own'⟩
def F6{x y:Nat}{Φ:Act->World->Prop}{R:qm}(hy:Nat.blt y 2000000=true)(h:oc x y fr own=some R)(hk:SX GB C n (aA R.fr) (aD R.own) Φ):SX GB C n (aA fr) (aD own) Φ:=by
 unfold oc at h;rw[cond_eq_ite] at h;split at h<;>try (cases h;done)
 rename_i hb;have hxy:x≠y:=fun e=>hb (by subst e;simp);rw[w7,wS] at h;cases h;refine⟨fun ρ G ov a w r=>hk.run (fun k=>if k=y then ρ x else ρ k) G ov a w ?_⟩;have inv: ∀m B,aD (own.map fun e=>(bif Nat.beq e.1 y then x else bif Nat.beq e.1 x then y else e.1,bif Nat.beq e.1 y then none else j' x y e.2)) m=some B-> ∃m0 B0,aD own m0=some B0/\j' x y (some B0)=some B/\(m=y/\m0=x\/m≠y/\m≠x/\m0=m):=fun m B e=>by
  rw[vh hxy] at e;split at e
  ·cases e
  ·rename_i hm
   split at e
   ·cases hl:aD own x with
    |none=>rw[hl] at e;cases e
    |some B0=>rw[hl] at e;exact⟨x,B0,hl,e, .inl ⟨by assumption,J⟩⟩
   ·cases hl:aD own m with
    |none=>rw[hl] at e;cases e
    |some B0=>rw[hl] at e;exact⟨m,B0,hl,e, .inr ⟨by assumption,hm,J⟩⟩
 have rho: ∀m m0,(m=y/\m0=x\/m≠y/\m≠x/\m0=m)->(fun k=>if k=y then ρ x else ρ k) m=ρ m0:=fun m m0 h=>by
  rcases h with⟨h1,h2⟩|⟨h1,_,h2⟩
  ·subst h1 h2;simp
  ·subst h2;exact if_neg h1
 refine⟨r.gb,r.h,r.sz,r.df,fun k f e=>?_,fun m B e=>?_,fun m m' B B' e e' hne=>?_,fun m p h1 h2 e=>by
  have:y<2000000:=by simpa[jV] using hy
  show(if m=y then ρ x else ρ m).a=_;rw[if_neg (by omega)];exact r.fxd m p h1 h2 e⟩
 ·rw[r7] at e
  cases hf:aA fr k with
  |none=>rw[hf] at e;cases e
  |some g=>
   rw[hf] at e;cases e;obtain⟨v,h1,h2⟩:=r.fx k g hf;exact⟨v,h1,tW hxy h2⟩
 ·obtain⟨m0,B0,h1,h2,h3⟩:=inv m B e
  obtain⟨os,h4,h5⟩:=r.bx m0 B0 h1;refine⟨os,?_,h5⟩;have hr:=rho m m0 h3
  cases B0 with
  |b=>cases h2;obtain⟨vs,q1,q2,q3,q4⟩:=h4;exact⟨vs,by rw[hr];exact q1,q2,q3,q4⟩
  |c=>cases h2;obtain⟨vs,q1,q2,q3,q4,q5⟩:=h4;exact⟨vs,by rw[hr];exact q1,q2,q3,q4,by rw[hr];exact q5⟩
  |o ty cs lo=>cases h2;obtain⟨b,q,q1,q2,q3⟩:=h4;exact⟨b,q,by rw[hr];exact q1,q2,vG hxy q3⟩
 ·obtain⟨m0,B0,h1,_,h3⟩:=inv m B e
  obtain⟨m1,B1,h4,_,h6⟩:=inv m' B' e';have q1:=rho m m0 h3;have q2:=rho m' m1 h6;simp only at q1 q2;rw[q1,q2];refine r.dj m0 m1 B0 B1 h1 h4 fun e=>?_;rcases h3 with⟨h7,h8⟩|⟨h7,h8,h9⟩<;>rcases h6 with⟨g7,g8⟩|⟨g7,g8,g9⟩
  ·exact hne (h7.trans g7.symm)
  ·exact g8 (by rw[<-g9,<-e,h8])
  ·exact h8 (by rw[<-h9,e,g8])
  ·exact hne (by rw[<-h9,e,g9])
def jq(x y:Nat){fr1:ak}{own1:aw}{e:Exit}(h:oc x y fr own=some ⟨fr1,own1⟩)(k:aj prog GB C n Q0 fr1 own1 (.ex e K))(hy:Nat.blt y 2000000=true:=by rfl):aj prog GB C n Q0 fr own (.ex e K):=F6 hy h k
def Fj{d nm:Nat}(hnm:Nat.blt nm 2000000=true)(hl:aA fr d=some .nl){Φ:Act->World->Prop}{ty s:Nat}(hf:gG [nm] none (aA fr) (aD own))(h:SX GB C n (aA ((d, .rw nm)::fr)) (aD (f5 own nm (some (.b ty s [] true)))) Φ):SX GB C n (aA fr) (aD own) Φ:=by
 refine⟨fun ρ G ov a w r=>?_⟩;obtain⟨f1,f2⟩:=hf nm aQ;have hset:aD (f5 own nm (some (.b ty s [] true)))=upB (aD own) [(nm,some (.b ty s [] true))]:=by funext j;rw[nG];rfl
 rw[hset] at h;refine h.run (fun k=>if k=nm then⟨none,0,0⟩ else ρ k) G ov a w ⟨r.gb,r.h,r.sz,r.df,fun k f e=>?_,fun m B e=>?_,fun m m' B B' e e' hne=>?_,fun m p h1 h2 e=>by
  have:nm<2000000:=by simpa[jV] using hnm
  show(if m=nm then(⟨none,0,0⟩:SV) else ρ m).a=_;rw[if_neg (by omega)];exact r.fxd m p h1 h2 e⟩
 ·rw[fw] at e
  split at e
  ·cases e;rename_i hk;subst hk
   obtain⟨v,h1,h2⟩:=r.fx _ _ hl;exact⟨v,h1,by rw[show v=_ from h2];show _=_;simp⟩
  ·obtain⟨v,h1,h2⟩:=r.fx k f e
   exact⟨v,h1,h2.ren fun m hm=>mv _ fun hc=>f1 k f (by simp) e (by rw[hm,hc])⟩
 ·simp only[upB] at e
  by_cases hm:m=nm
  ·subst hm;simp only[if_true] at e;cases e
   exact⟨[],⟨[],by simp only[if_true];exact .inl ⟨J,J,J⟩, .nil,by simp,fun _ o ho=>by cases ho⟩,fun o ho=>by cases ho⟩
  ·simp only[hm,if_false] at e
   obtain⟨os,h1,h2⟩:=r.bx m B e;exact⟨os,h1.ren (if_neg hm) fun q hq=>mv _ fun hc=>f2 m B hm e (by rw[<-hc];exact hq),h2⟩
 ·simp only[upB] at e e'
  intro b hb hb';by_cases hm:m=nm
  ·simp[hm] at hb
  ·by_cases hm':m'=nm
   ·simp[hm'] at hb'
   ·simp only[hm,hm',if_false] at e e' hb hb'
    exact r.dj m m' B B' e e' hne b hb hb'
def nr(d nm ty s:Nat){own1:aw}{c:Code}(hl:aA fr d=some .nl)(hf:lj [nm] none fr own=true)(ho:mB own nm (some (.b ty s [] true)) id=own1)(k:aj prog GB C n Q0 ((d, .rw nm)::fr) own1 (.code c K))(hnm:Nat.blt nm 2000000=true:=by rfl):aj prog GB C n Q0 fr own (.code c K):=by
 subst ho;exact Fj hnm hl (pV hf) k
def B8:List (Option DV)->Nat->List DV
 |[],_=>[]
 |some d::t,b=>d::B8 t b
 |none::t,b=> .v (.pointer (some ⟨b,0,none⟩))::B8 t b
def Cl(lk:LK):List Operand->Option (Option Nat×List (Option DV))
 |[]=>some (none,[])
 |x::t=>match az lk x,Cl lk t with
  |some (.ov nm 0),some (none,l)=>some (some nm,none::l)
  |some f,some (q,l)=>match f7 f with
   |some d=>some (q,some d::l)
   |none=>none
  |_,_=>none
def F4(lk:LK)(fo:Operand)(args:Array Operand):Option (FuncId×Nat×List (Option DV)):=match az lk fo with
 |some (.d (.v (.func (.func f) ⟨[]⟩ ⟨[]⟩)))=>match Cl lk args.toList with
  |some (some nm,l)=>some (f,nm,l)
  |_=>none
 |_=>none
structure MP where
 f:FuncId
 nm:Nat
 l:List (Option DV)
 ty:TypeId
 cs:List DV
 lo:Bool
def Py(fr:ak)(own:aw)(cf:Cf):Option MP:=match bt fr cf with
 |some ⟨_, .call ⟨.value fo,args,_⟩,_,_,_,_⟩=>match F4 (aH fr cf) fo args with
  |some (f,nm,l)=>match dG fr own cf nm with
   |some (.o ty cs lo)=>match iw cs with
    |some csd=>some ⟨f,nm,l,ty,csd,lo⟩
    |none=>none
   |_=>none
  |none=>none
 |_=>none
def si{α:Type}:List DV->(List FX->α)->α
 |[],k=>k []
 |d::t,k=>si t fun t'=>k (.d d::t')
def Bw{α:Type}: ∀{l:List DV} {k:List FX->α},si l k=k (l.map .d)
 |[],k=>rfl
 |d::t,k=>by simp only[si];rw[Bw];rfl
abbrev NM:Nat:=1000000
def Db:Nat->List (Option DV)->ak
 |_,[]=>[]
 |i,some v::t=>(i, .d v)::Db (i+1) t
 |i,none::t=>(i, .ov NM 0)::Db (i+1) t
def Ot(C:au)(b:Nat)(m:List Value)(ty:TypeId)(lo:Bool)(rv:DV)(cs':List DV):Ending->World->Prop:=xi C [⟨b,m,ty,lo⟩] (fun v css G'=>Is G' rv v/\ ∃m',css=[m']/\IsLs G' cs' m')
def PP(own:aw)(nm:Nat):Option (TypeId×List DV):=match aD own nm with
 |some (.o ty cs false)=>match iw cs with
  |some l=>some (ty,l)
  |none=>none
 |_=>none
end
section
variable {GB:Gh} {C:au} {n:Nat} {fr1 fr2:ak} {own1 own2:aw} {cf1 cf2:Cf} {vc1 vc2:List Prop} {Q0:Exit->Act->World->Prop} {fr fr':ak} {own own':aw} {cf cf':Cf} {vc:List Prop} {ops:Array Oper} {o:Oper} {K:List Kt} {r:List Oper}
def JE[fu:Fu]{f:FuncId}{fb:Func}{c:Code}{m:Nat}{ds:List DV}{ι:Type}{rv:ι->DV}(hf:prog.funcs[f]? =some fb)(hb:fb.body=some c)(hn:(fb.name== "runtime.NumGoroutine")=false)(hm:fb.ntmps=m)(hlen:Nat.ble ds.length m=true)
  (hgo:go tt m fu.n [] (kI 0 ds) [] (.code c [])=⟨vc,fr,own,cf⟩)(k: ∀C:au,aj prog GB C m (fg C prog fb (fk C (fun v G'=> ∃x,Is G' (rv x) v))) fr own cf)
  (hv:ah vc:=by first|exact trivial|(simp only[ah];kernel_rfl)|(simp only[ah];omega)|(simp only[ah,aZ,aY,aJ];omega)):PX GB prog f ds ι rv:=by
 intro G vs hg hvs;refine Fn.introR hf hb hn hm (by rw[hvs.len];exact hlen) fun C _ _ hrd hfx=>?_;intro a w rl;refine qi hrd ?_;have h:=dw (GB:=GB) (C:=C) (Q0:=fg C prog fb (fk C (fun v G'=> ∃x,Is G' (rv x) v))) hgo hv (k C);exact h.run (fun _=>⟨none,0,0⟩) G [] a w ⟨hg,rl.h,rl.sz,rl.df,(fun k f e=>pS hvs rl.fr k f e),(fun nm B e=>by cases e),(fun nm nm' B B' e=>by cases e),fun nm p _ _ e=>by rw[hfx] at e;cases e⟩
def Bj{fb:Func}{e:Exit}{ds:List DV}{ι:Type}{rv:ι->DV}(x:ι)(hr:ku tt fr own fb.results.toList=some ds)(hd:jj ds=rv x)(he:p8 e=true:=by rfl):aj prog GB C n (fg C prog fb (fk C (fun v G'=> ∃x,Is G' (rv x) v))) fr own (.ex e []):=by
 refine⟨fun ρ G ov a w r=>?_⟩;obtain⟨vs,h1,h2⟩:=qQ r hr;have hk: ∃x,Is G (rv x) (d5 vs):=⟨x,hd▸r4 h2⟩
 cases e with
 |ret=>exact zD (C:=C) (n:=n) (fr:=cj a) (own:=ov) (G:=G) (K:=fun v G'=> ∃x,Is G' (rv x) v) h1 hk a w ⟨r.h,r.sz,ck a,r.df⟩
 |normal=>exact ui (C:=C) (n:=n) (fr:=cj a) (own:=ov) (G:=G) (K:=fun v G'=> ∃x,Is G' (rv x) v) h1 hk a w ⟨r.h,r.sz,ck a,r.df⟩
 |_=>cases he
def csd[fu1:Fu][fu2:Fu](d:Nat){p:Prop}{hp:Decidable p}(hl:aA fr d=some (.d (.v (.bool (@decide p hp)))))(g1:go tt n fu1.n [] ((d, .tt)::fr) own (.ops ops r K)=⟨vc1,fr1,own1,cf1⟩)(g2:go tt n fu2.n [] ((d, .ff)::fr) own (.ops ops r K)=⟨vc2,fr2,own2,cf2⟩)
  (k1:p->aj prog GB C n Q0 fr1 own1 cf1)(k2: ¬p->aj prog GB C n Q0 fr2 own2 cf2)
  (v1:p->ah vc1:=by intro;first|exact trivial|(simp only[ah];omega)|(simp only[ah,aZ,aY,aJ];omega))(v2: ¬p->ah vc2:=by intro;first|exact trivial|(simp only[ah];omega)|(simp only[ah,aZ,aY,aJ];omega)):aj prog GB C n Q0 fr own (.ops ops r K):=
 gu (fu1:=fu1) (fu2:=fu2) d hl g1 g2 (fun h=>k1 (of_decide_eq_true h)) (fun h=>k2 (of_decide_eq_false h)) (fun h=>v1 (of_decide_eq_true h)) (fun h=>v2 (of_decide_eq_false h))
def bp.to{lk:LK}{bk:BM}{o:Oper}{f g:FX}(h:bp prog GB C n lk bk o f [] [])(e: ∀ρ G y,bi ρ G f y->bi ρ G g y):bp prog GB C n lk bk o g [] []:=fun hd tl tb Q h1 h2 hf hk=>
 h hd tl tb Q h1 h2 hf ⟨fun ρ G ov a w r=>hk.run ρ G ov a w ⟨r.gb,r.h,r.sz,r.df,fun k f' e'=>by
  cases ho:o.dst with
  |none=>exact r.fx k f' (by simpa only[ho,c9] using e')
  |some d=>
   have hr:=r.fx;simp only[ho,c9] at e' hr;by_cases q:k=d
   ·rw[if_pos q] at e';cases e'
    obtain⟨y,h3,h4⟩:=hr k f (by rw[if_pos q]);exact⟨y,h3,e _ _ _ h4⟩
   ·rw[if_neg q] at e'
    exact hr k f' (by rw[if_neg q];exact e'),r.bx,r.dj,r.fxd⟩⟩
def oY(fr:ak)(own:aw)(cf:Cf):Option (Oper×FX):=match bt fr cf with
 |some o=>match n8 tt (aH fr cf) (dG fr own cf) o.dst o.op with
  |some ⟨none,f,[],[]⟩=>some (o,f)
  |_=>none
 |none=>none
def CB[fu1:Fu][fu2:Fu]{f:FX}{p:Prop}{hp:Decidable p}(hs:oY fr own cf=some (o,f))(hb:k8 f=some (@decide p hp))(g1:b7 tt n fu1.n fr own cf .tt [] []=⟨vc1,fr1,own1,cf1⟩)(g2:b7 tt n fu2.n fr own cf .ff [] []=⟨vc2,fr2,own2,cf2⟩)
  (k1:p->aj prog GB C n Q0 fr1 own1 cf1)(k2: ¬p->aj prog GB C n Q0 fr2 own2 cf2)
  (v1:p->ah vc1:=by intro;first|exact trivial|(simp only[ah];kernel_rfl)|(simp only[ah];omega)|(simp only[ah,aZ,aY,aJ];omega))(v2: ¬p->ah vc2:=by intro;first|exact trivial|(simp only[ah];kernel_rfl)|(simp only[ah];omega)|(simp only[ah,aZ,aY,aJ];omega)):aj prog GB C n Q0 fr own cf:=by
 unfold oY at hs;split at hs<;>try (cases hs;done)
 rename_i o' hh;split at hs<;>cases hs;rename_i hc;obtain⟨dst,op,ty,pos,af,gd⟩:=o;have h0:=oF (P:=prog) (GB:=GB) (C:=C) (n:=n) (ty':=ty) (pos:=pos) (af:=af) (gd:=gd) c' hc (fun p e=>by cases e);by_cases h:p
 ·exact us hh (bp.to h0 fun ρ G y hy=>by rw[mD hy hb,decide_eq_true h];exact J) g1 (v1 h) (k1 h)
 ·exact us hh (bp.to h0 fun ρ G y hy=>by rw[mD hy hb,decide_eq_false h];exact J) g2 (v2 h) (k2 h)
def N'(d:Nat)(nm:Option Nat):List (Nat×Option Bk):=match nm with
 |some nm=>[(nm,none),(d,none)]
 |none=>[(d,none)]
def lr[fu:Fu]{f:FX}(hs:oY fr own cf=some (o,f))(hb:k8 f=some true)(hgo:b7 tt n fu.n fr own cf .tt [] []=⟨vc,fr',own',cf'⟩)(k:aj prog GB C n Q0 fr' own' cf')
  (hv:ah vc:=by first|exact trivial|(simp only[ah];kernel_rfl)|(simp only[ah];omega)|(simp only[ah,aZ,aY,aJ];omega)):aj prog GB C n Q0 fr own cf:=by
 unfold oY at hs;split at hs<;>try (cases hs;done)
 rename_i o' hh;split at hs<;>cases hs;rename_i hc;obtain⟨dst,op,ty,pos,af,gd⟩:=o;have h0:=oF (P:=prog) (GB:=GB) (C:=C) (n:=n) (ty':=ty) (pos:=pos) (af:=af) (gd:=gd) c' hc (fun p e=>by cases e);exact us hh (bp.to h0 fun ρ G y hy=>by rw[mD hy hb];exact J) hgo hv k
def jm[fu:Fu]{f:FX}(hs:oY fr own cf=some (o,f))(hb:k8 f=some false)(hgo:b7 tt n fu.n fr own cf .ff [] []=⟨vc,fr',own',cf'⟩)(k:aj prog GB C n Q0 fr' own' cf')
  (hv:ah vc:=by first|exact trivial|(simp only[ah];kernel_rfl)|(simp only[ah];omega)|(simp only[ah,aZ,aY,aJ];omega)):aj prog GB C n Q0 fr own cf:=by
 unfold oY at hs;split at hs<;>try (cases hs;done)
 rename_i o' hh;split at hs<;>cases hs;rename_i hc;obtain⟨dst,op,ty,pos,af,gd⟩:=o;have h0:=oF (P:=prog) (GB:=GB) (C:=C) (n:=n) (ty':=ty) (pos:=pos) (af:=af) (gd:=gd) c' hc (fun p e=>by cases e);exact us hh (bp.to h0 fun ρ G y hy=>by rw[mD hy hb];exact J) hgo hv k
end
section
variable {GB:Gh} {C:au} {n:Nat} {Q0:Exit->Act->World->Prop} {fr fr':ak} {own own':aw} {cf cf':Cf} {vc:List Prop} {ops:Array Oper} {o:Oper} {K:List Kt} {r:List Oper}
def CZ(GB:Gh)(C:au)(n:Nat)(lk:LK)(bk:BM)(o:Oper)(ι:Type)(f:ι->FX)(bl:ι->List (Nat×Option Bk))(nw:List Nat):Prop:=
 bD n o.dst=true-> ∀(tl:LK) (tb:BM) (K:Act->World->Prop),fi lk tl->fi bk tb->gG nw o.dst tl tb->(∀x,SX GB C n (c9 tl o.dst (f x)) (Sx.upB tb (bl x)) K)->SX GB C n tl tb (fun a w=> ∀Q,o.wp prog a w K Q)
def NJ:Cf->Option (Array Oper×Oper×List Oper×List Kt)
 | .ops ops (o::r) K=>some (ops,o,r,K)
 |_=>none
def wj(n q:Nat)(fr:ak)(own:aw)(cf:Cf)(f:FX)(bl:List (Nat×Option Bk)):pf:=match cf with
 | .ops ops (o::r) K=>jt own bl fun own'=>pd fr o.dst f fun fr'=>go tt n q [] fr' own' (.ops ops r K)
 |_=>ij
def wX(n:Nat)(fr:ak)(own:aw)(cf:Cf)(nw:List Nat):Bool:=match cf with
 | .ops ops (o::_) _=>lj nw o.dst fr own&&bD n o.dst&&mt ops (aA fr) o.guard
 |_=>false
def LR{q:Nat}{ι:Type}{f:ι->FX}{bl:ι->List (Nat×Option Bk)}{nw:List Nat}{vc:ι->List Prop}{fr':ι->ak}{own':ι->aw}{cf':ι->Cf}(hh:bt fr cf=some o)(ho:wX n fr own cf nw=true)(h:CZ GB C n (aH fr cf) (dG fr own cf) o ι f bl nw)
  (hgo: ∀x,wj n q fr own cf (f x) (bl x)=⟨vc x,fr' x,own' x,cf' x⟩)(hv: ∀x,ah (vc x))(k: ∀x,aj prog GB C n Q0 (fr' x) (own' x) (cf' x)):aj prog GB C n Q0 fr own cf:=by
 obtain⟨ops,h1,h2⟩:=vw hh
 cases cf with
 |ops ops' r K=>
  cases r with
  |nil=>cases h1
  |cons o' r=>
   cases h1
   simp only[wX,aR] at ho;refine⟨fun ρ G ov a w rl=>?_⟩;show wpListIn _ _ _ _ _ (o::r) a w;unfold wpListIn;rw[if_pos (sB ho.2 ρ G ov a w rl)];refine rJ ((h ho.1.2 _ _ (fun a w=>a.defers=C.mks/\wpListIn (FW C.rd) 0 prog ops (cQ C.rd prog Q0 K) r a w) (fi.refl _) (fi.refl _) (pV ho.1.1) (fun x=>?_)).run ρ G ov a w rl) fun a' w' k=>⟨k.1.trans rl.df.symm,k.2⟩;refine⟨fun ρ G ov a w r0=>⟨r0.df,SX.run (GB:=GB) (C:=C) (n:=n) ?_ ρ G ov a w r0⟩⟩;have hx:=hgo x;unfold wj at hx;simp only[nB,o7] at hx;have:=dw (GB:=GB) (C:=C) (Q0:=Q0) hx (hv x) (k x);show SX GB C n (c9 (aA fr) o.dst (f x)) (Sx.upB (aD own) (bl x)) _;rw[<-rM,<-sv];exact this
 |_=>cases ho
def LE{lk:LK}{bk:BM}{fo:Operand}{args:Array Operand}{tys:Array TypeId}{f:FuncId}{d:Nat}{ds:List DV}{ι:Type}{ty ty0:TypeId}{pos:String}{af:Array Edge}{gd:Option (Nat×Bool)}{cs':ι->List DV}
  (ha:jB lk fo args=some (f,ds))(hF:PN GB prog f ds ty0 ι cs'):CZ GB C n lk bk ⟨some d, .call ⟨.value fo,args,tys⟩,ty,pos,af,gd⟩ ι (fun _=> .ov d 0) (fun x=>[(d,some (.o ty0 ((cs' x).map .d) true))]) [d]:=by
 intro hd tl tb K' s1 s2 hf hk;refine⟨fun ρ G ov a w r Q=>?_⟩;have r1:=r.mono s1 s2;obtain⟨h1,h2⟩:=p6 ha;obtain⟨y,hy,hy'⟩:=r1.ev h1;rw[(bh (G:=G)).1 hy'] at hy;obtain⟨vs,h3,h4⟩:=r1.evDs h2;refine sn (M:=[]) (rest:=ov) hy h3 (List.Perm.refl _) (hF G vs r.gb h4) hd (fun v own1 G' hG hK a' w' rl=>?_) a w Q ⟨r.h,r.sz,ck a,r.df⟩;obtain⟨x,b,m,rfl,rfl,hm⟩:=hK;have rl':d4 C n (Sx.put (cj a) (some d) (.pointer (some ⟨b,0,none⟩))) (⟨b,m,ty0,true⟩::ov) G' a' w':=by simpa[relo,gz] using rl
 have hnd:=(bU.1 rl'.h.nd).1;exact(hk x).run _ G' _ a' w' (r.new (x:=⟨some ⟨b,0,none⟩,0,0⟩) (B':= .o ty0 ((cs' x).map .d) true) (os:=[⟨b,m,ty0,true⟩]) hf hG.le rl'.h ⟨b,m,by simp,J,pe hm⟩ (fun o ho=>by rw[aL.1 ho];exact aQ)
  (fun o ho=>aK _ ho) (fun o ho e=>by cases e;exact hnd o ho J) (f:= .ov d 0) (y:= .pointer (some ⟨b,0,none⟩)) ⟨b,by simp,J⟩ (iC rl'))
def yu(fr:ak)(cf:Cf):Option (FuncId×List DV×Nat):=match bt fr cf with
 |some ⟨some d, .call ⟨.value fo,args,_⟩,_,_,_,_⟩=>match jB (aH fr cf) fo args with
  |some (f,ds)=>some (f,ds,d)
  |none=>none
 |_=>none
def cn[fu:Fu]{f:FuncId}{d:Nat}{ds:List DV}{ty:TypeId}{ι:Type}{cs':ι->List DV}{vc:ι->List Prop}{fr':ι->ak}{own':ι->aw}{cf':ι->Cf}(ha:yu fr cf=some (f,ds,d))(hF:PN GB prog f ds ty ι cs')
  (hgo: ∀x,(si (cs' x) fun csx=>wj n fu.n fr own cf (.ov d 0) [(d,some (.o ty csx true))])=⟨vc x,fr' x,own' x,cf' x⟩)(k: ∀x,aj prog GB C n Q0 (fr' x) (own' x) (cf' x))(ho:wX n fr own cf [d]=true:=by rfl)
  (hv: ∀x,ah (vc x):=by intro;first|exact trivial|(simp only[ah];kernel_rfl)|(simp only[ah];omega)|(simp only[ah,aZ,aY,aJ];omega)):aj prog GB C n Q0 fr own cf:=by
 unfold yu at ha;split at ha<;>try (cases ha;done)
 rename_i hh;split at ha<;>cases ha;rename_i h1;simp only[Bw] at hgo;exact LR hh ho (LE h1 hF) hgo hv k
def O'(C:au)(b:Nat)(m:List Value)(ty:TypeId)(lo:Bool)(ι:Type)(rv:ι->DV)(cs':ι->List DV):Ending->World->Prop:=xi C [⟨b,m,ty,lo⟩] (fun v css G'=> ∃x,Is G' (rv x) v/\ ∃m',css=[m']/\IsLs G' (cs' x) m')
end
section
variable {GB:Gh} {C:au} {n:Nat} {Q0:Exit->Act->World->Prop} {fr fr':ak} {own own':aw} {cf cf':Cf} {vc:List Prop} {ops:Array Oper} {o:Oper} {K:List Kt} {r:List Oper}
def NN(fr:ak)(cf:Cf):Option Nat:=match bt fr cf with
 |some o=>o.dst
 |none=>none
def NK(C:au)(b:Nat)(ty:TypeId)(s:Nat)(ty2:TypeId)(ι:Type)(rows cs':ι->List DV):Ending->World->Prop:=mq C (fun v own' G'=> ∃x w m' B,v= .slice w.a w.n w.c/\own'=⟨b,m',ty,false⟩::B/\IsLs G' (cs' x) m'/\cA G' ⟨w,s,ty2,rows x,true⟩ B/\ ∀o∈B,b≠o.b)
end
section
variable {GB:Gh} {C:au} {n:Nat} {Q0:Exit->Act->World->Prop} {fr fr':ak} {own own':aw} {cf cf':Cf} {vc:List Prop} {ops:Array Oper} {o:Oper} {K:List Kt} {r:List Oper}
def PY(C:au)(ty:TypeId)(ι:Type)(cs:ι->List DV):Ending->World->Prop:=mq C (fun v own' G'=> ∃x b m,v= .pointer (some ⟨b,0,none⟩)/\own'=[⟨b,m,ty,true⟩]/\IsLs G' (cs x) m)
def Iq[fu:Fu]{d:Nat}{l:List DV}(h:yf fr cf=some (d,l))(hgo:b7 tt n fu.n fr own cf (.d (.pt l)) [(d,none)] [d]=⟨vc,fr',own',cf'⟩)(k:aj prog GB C n Q0 fr' own' cf')
  (hv:ah vc:=by first|exact trivial|(simp only[ah];kernel_rfl)|(simp only[ah];omega)|(simp only[ah,aZ,aY,aJ];omega)):aj prog GB C n Q0 fr own cf:=by
 unfold yf at h;split at h<;>try (cases h;done)
 rename_i hh;split at h<;>try (cases h;done)
 rename_i g hx;rw[cond_eq_ite] at h;split at h<;>try (cases h;done)
 rename_i hc;simp only[aR] at hc;split at h<;>cases h;rename_i hl;exact us hh (Lq hx hc.1 hc.2 hl) hgo hv k
end
section
variable {GB:Gh} {C:au} {n:Nat} {Q0:Exit->Act->World->Prop} {fr fr':ak} {own own':aw} {cf cf':Cf} {vc:List Prop} {ops:Array Oper} {o:Oper} {K:List Kt} {r:List Oper}
def iq:List (Option DV)->SV->List DV
 |[],_=>[]
 |some d::t,w=>d::iq t w
 |none::t,w=> .v (.slice w.a w.n w.c)::iq t w
def sY(lk:LK):List Operand->Option (Option Nat×List (Option DV))
 |[]=>some (none,[])
 |x::t=>match az lk x,sY lk t with
  |some (.rw nm),some (none,l)=>some (some nm,none::l)
  |some f,some (q,l)=>match f7 f with
   |some d=>some (q,some d::l)
   |none=>none
  |_,_=>none
def oZ(lk:LK)(fo:Operand)(args:Array Operand):Option (FuncId×Nat×List (Option DV)):=match az lk fo with
 |some (.d (.v (.func (.func f) ⟨[]⟩ ⟨[]⟩)))=>match sY lk args.toList with
  |some (some nm,l)=>some (f,nm,l)
  |_=>none
 |_=>none
def rD{lk:LK}{bk:BM}{ρ:NE}{G:Gh}{ov:List ao}{a:Act}{w:World}(r:bg GB C n lk bk ρ G ov a w){z:SV}: ∀{x:List Operand} {q:Option Nat} {l:List (Option DV)},sY lk x=some (q,l)->(∀nm,q=some nm->ρ nm=z)->
  ∃y,gc (cj a) x=some y/\IsLs G (iq l z) y
 |[],q,l,e,_=>by cases e;exact⟨[],J, .nil⟩
 |x::t,q,l,e,hb=>by
  simp only[sY] at e;split at e
  ·rename_i nm l' h1 h2
   cases e
   obtain⟨y,h3,h4⟩:=r.ev h1
   cases (show y=_ from h4)
   obtain⟨ys,h5,h6⟩:=rD r (z:=z) h2 (fun nm e=>by cases e);have hz:=hb nm J;subst hz;exact⟨Value.slice (ρ nm).a (ρ nm).n (ρ nm).c::ys,by simp only[gc,h3,h5], .cons ((bh (G:=G)).2 J) h6⟩
  ·rename_i f q' l' _ h1 h2
   cases hd:f7 f with
   |none=>rw[hd] at e;cases e
   |some d=>
   rw[hd] at e;cases e;obtain⟨y,h3,h4⟩:=r.ev h1;obtain⟨ys,h5,h6⟩:=rD r (z:=z) h2 hb;exact⟨y::ys,by simp only[gc,h3,h5], .cons (mA h4 hd) h6⟩
  ·cases e
structure Hh where
 f:FuncId
 nm:Nat
 l:List (Option DV)
 ty:TypeId
 s:Nat
 ds:List DV
 lo:Bool
 d:Nat
def ye(fr:ak)(own:aw)(cf:Cf):Option Hh:=match bt fr cf with
 |some ⟨some d, .call ⟨.value fo,args,_⟩,_,_,_,_⟩=>match oZ (aH fr cf) fo args with
  |some (f,nm,l)=>match dG fr own cf nm with
   |some (.b ty s ds lo)=>bif Nat.beq nm d then none else some ⟨f,nm,l,ty,s,ds,lo,d⟩
   |_=>none
  |none=>none
 |_=>none
def oq:Nat->List (Option DV)->ak
 |_,[]=>[]
 |i,some v::t=>(i, .d v)::oq (i+1) t
 |i,none::t=>(i, .rw NM)::oq (i+1) t
def xa(w:SV): ∀l:List (Option DV),(iq l w).length=l.length
 |[]=>rfl
 |some d::t=>by simp[iq,xa w t]
 |none::t=>by simp[iq,xa w t]
def uQ{w:SV}{ρ:NE}{G:Gh}(hρ:ρ NM=w): ∀{ds:List (Option DV)} {vs:List Value} (i:Nat),IsLs G (iq ds w) vs-> ∀k f,aA (oq i ds) k=some f-> ∃y,(∃j,k=i+j/\vs[j]? =some y)/\bi ρ G f y
 |[],vs,i,h,k,f,e=>by cases e
 |some d::t,vs,i,h,k,f,e=>by
  obtain⟨y,m,rfl,h1,h2⟩:=bz.1 h;simp only[oq] at e;rw[fw] at e;split at e
  ·cases e;rename_i hk;exact⟨y,⟨0,hk,rfl⟩,h1⟩
  ·obtain⟨u,⟨j,hj,hu⟩,h3⟩:=uQ hρ (i+1) h2 k f e
   exact⟨u,⟨j+1,by omega,by simpa using hu⟩,h3⟩
 |none::t,vs,i,h,k,f,e=>by
  obtain⟨y,m,rfl,h1,h2⟩:=bz.1 h;simp only[oq] at e;rw[fw] at e;split at e
  ·cases e;rename_i hk;exact⟨y,⟨0,hk,rfl⟩,by show y=_;rw[hρ];exact bh.1 h1⟩
  ·obtain⟨u,⟨j,hj,hu⟩,h3⟩:=uQ hρ (i+1) h2 k f e
   exact⟨u,⟨j+1,by omega,by simpa using hu⟩,h3⟩
def NR(C:au)(s:Nat)(ty:TypeId)(pre post dso:List DV):Ending->World->Prop:=mq C (fun v own' G'=> ∃w',Is G' (.tp (pre++ .v (.slice w'.a w'.n w'.c)::post)) v/\cA G' ⟨w',s,ty,dso,false⟩ own')
def G9{B:List ao}{G:Gh}{w:SV}{s:Nat}{ty:TypeId}{ds:List DV}{lo:Bool}{ov:List ao}(h:cA G ⟨w,s,ty,ds,lo⟩ B)(g: ∀o∈B,o∈ov): ∃rest,ov.Perm (B++rest):=by
 rcases h with⟨vs',⟨_,_,e⟩|⟨b0,r0,lo0,_,e,_⟩,_⟩
 ·rw[e];exact⟨ov,List.Perm.refl _⟩
 ·rw[e] at g⊢
  obtain⟨l1,l2,e2⟩:=List.append_of_mem (g _ aQ);rw[e2];exact⟨l1++l2,List.perm_middle⟩
def Cg(lk:LK):List Operand->Option (List (Option DV))
 |[]=>some []
 |x::t=>match az lk x,Cg lk t with
  |some .nl,some l=>some (none::l)
  |some f,some l=>match f7 f with
   |some d=>some (some d::l)
   |none=>none
  |_,_=>none
def HF(lk:LK)(fo:Operand)(args:Array Operand):Option (FuncId×List (Option DV)):=match az lk fo with
 |some (.d (.v (.func (.func f) ⟨[]⟩ ⟨[]⟩)))=>match Cg lk args.toList with
  |some l=>some (f,l)
  |_=>none
 |_=>none
def N2(fr:ak)(cf:Cf):Option (FuncId×List (Option DV)×Nat):=match bt fr cf with
 |some ⟨some d, .call ⟨.value fo,args,_⟩,_,_,_,_⟩=>match HF (aH fr cf) fo args with
  |some (f,l)=>some (f,l,d)
  |none=>none
 |_=>none
end
section
variable {P:Program} {C:au} {n:Nat} {fr:Fr} {own own':List ao} {G:Gh} {Φ:Act->World->Prop}
variable {dst:Option Nat} {t t' ty':TypeId} {pos:String} {af:Array Edge} {gd:Option (Nat×Bool)} {x y:Operand} {e s by_:Nat}
def PG(G:Gh)(ov:List ao):Gh:=fun b=>match G b with
 |some cs=>some cs
 |none=>(ov.find? fun o=>Nat.beq o.b b).map (·.cs)
end
def DV.np:DV->Bool
 | .v _=>true
 | .tp l=>l.all fun d=>match d with
  | .v _=>true
  |_=>false
 |_=>false
section
variable {GB:Gh} {C:au} {n:Nat} {Q0:Exit->Act->World->Prop} {fr fr':ak} {own own':aw} {cf cf':Cf} {vc:List Prop} {lk:LK} {bk:BM} {ρ:NE} {G:Gh} {ov:List ao} {a:Act} {w:World}
variable {dst:Option Nat} {t t' ty':TypeId} {pos:String} {af:Array Edge} {gd:Option (Nat×Bool)} {x y:Operand} {e s by_:Nat}
def Ga:Option Bk->Option (List DV)
 |some (.b _ _ ds _)=>some ds
 |some (.c _ _ ds _)=>some ds
 |_=>none
def LA(lk:LK)(bk:BM)(x:Operand):Option DV:=match az lk x with
 |some (.rw nm)=>match Ga (bk nm) with
  |some ds=>some (.sl ds)
  |none=>none
 |some f=>f7 f
 |none=>none
def BC(lk:LK)(bk:BM):List Operand->Option (List DV)
 |[]=>some []
 |x::t=>match LA lk bk x,BC lk bk t with
  |some d,some l=>some (d::l)
  |_,_=>none
def KJ(lk:LK)(bk:BM)(fo:Operand)(args:Array Operand):Option (FuncId×List DV):=match az lk fo with
 |some (.d (.v (.func (.func f) ⟨[]⟩ ⟨[]⟩)))=>match BC lk bk args.toList with
  |some ds=>some (f,ds)
  |none=>none
 |_=>none
def Pe(fr:ak)(own:aw)(cf:Cf):Option (FuncId×List DV):=match bt fr cf with
 |some ⟨_, .call ⟨.value fo,args,_⟩,_,_,_,_⟩=>KJ (aH fr cf) (dG fr own cf) fo args
 |_=>none
end
section
variable {GB:Gh} {C:au} {n:Nat} {Q0:Exit->Act->World->Prop} {fr fr':ak} {own own':aw} {cf cf':Cf} {vc:List Prop}
structure Ke where
 d:Nat
 nm:Nat
 e:Nat
 s:Nat
 ds:List DV
 ds2:List DV
 cap:Nat
def Pw(fr:ak)(own:aw)(cf:Cf):Option Ke:=match bt fr cf with
 |some ⟨some d, .call ⟨.builtin .append,⟨[x,y]⟩,⟨[t,t']⟩⟩,_,_,_,_⟩=>match b6 tt t,b6 tt t' with
  |some ⟨.sl e s _,_,_,_⟩,some ⟨.sl _ _ _,_,_,_⟩=>match az (aH fr cf) x with
   |some (.rw nm)=>match dG fr own cf nm,lc (aH fr cf) (dG fr own cf) s y with
    |some (.c e' s' ds cap),some ds2=>bif (Nat.beq e' e&&Nat.beq s' s)&&!Nat.beq nm d then some ⟨d,nm,e,s,ds,ds2,cap⟩ else none
    |_,_=>none
   |_=>none
  |_,_=>none
 |_=>none
def PI(GB:Gh)(P:Program)(f:FuncId)(i:Int)(s:Nat)(ty ty2:TypeId)(ds:List DV)(x:DV)(cap:Nat)(dso:List DV):Prop:=
 ∀G w w2 B B2,aO GB G->cA G ⟨w,s,ty,ds,false⟩ B->cap<=w.c->cA G ⟨w2,s,ty2,[x],false⟩ B2->ja P f [.slice w.a w.n w.c, .int .i64 i, .slice w2.a w2.n w2.c] (B++B2) G fun v own' G'=> ∃w',v= .slice w'.a w'.n w'.c/\cA G' ⟨w',s,ty,dso,false⟩ own'
structure Mw where
 f:FuncId
 nm:Nat
 nm2:Nat
 i:Int
 ty:TypeId
 ty2:TypeId
 s:Nat
 ds:List DV
 x:DV
 cap:Nat
 d:Nat
def PS(fr:ak)(own:aw)(cf:Cf):Option Mw:=match bt fr cf with
 |some ⟨some d, .call ⟨.value fo,⟨[x1,x2,x3]⟩,_⟩,_,_,_,_⟩=>match az (aH fr cf) fo,az (aH fr cf) x1 with
  |some (.d (.v (.func (.func f) ⟨[]⟩ ⟨[]⟩))),some (.rw nm)=>match az (aH fr cf) x2,az (aH fr cf) x3 with
   |some (.d (.v (.int .i64 i))),some (.rw nm2)=>match dG fr own cf nm,dG fr own cf nm2 with
    |some (.c ty s ds cap),some (.b ty2 s2 [x] true)=>bif (!Nat.beq nm d&&!Nat.beq nm2 d)&&(!Nat.beq nm nm2&&(Nat.beq s2 s&&Nat.blt 0 cap)) then some ⟨f,nm,nm2,i,ty,ty2,s,ds,x,cap,d⟩ else none
    |_,_=>none
   |_,_=>none
  |_,_=>none
 |_=>none
def i6(d:Nat){ops:Array Oper}{r:List Oper}{K:List Kt}(hl:aA fr d=some (.d (.v (.bool true))))(k:aj prog GB C n Q0 ((d, .tt)::fr) own (.ops ops r K)):aj prog GB C n Q0 fr own (.ops ops r K):=ld (g:= .tt) hl (fun _ G _ e=>(bh (G:=G)).1 e) k
def oN(d:Nat){ops:Array Oper}{r:List Oper}{K:List Kt}(hl:aA fr d=some (.d (.v (.bool false))))(k:aj prog GB C n Q0 ((d, .ff)::fr) own (.ops ops r K)):aj prog GB C n Q0 fr own (.ops ops r K):=ld (g:= .ff) hl (fun _ G _ e=>(bh (G:=G)).1 e) k
end
section
variable {GB:Gh} {C:au} {n:Nat} {Q0:Exit->Act->World->Prop} {fr fr':ak} {own own':aw} {cf cf':Cf} {vc:List Prop}
def PR(GB:Gh)(P:Program)(f:FuncId)(ds:List DV)(s:Nat)(ty:TypeId)(rows:List DV):Prop:=
 ∀G vs,aO GB G->IsLs G ds vs->ja P f vs [] G (fun v own' G'=> ∃w:SV,v= .slice w.a w.n w.c/\cA G' ⟨w,s,ty,rows,true⟩ own')
def BK: ∀(l:List ao),(∀o∈l,o.lo=true)->l.map (relo (gz []))=l
 |[],_=>rfl
 |a::t,h=>by
  have h1:=h a aQ;rw[bN,BK t fun o ho=>h o (aK _ ho)];congr 1
  cases a
  simp[relo,gz] at*;exact h1
def MQ{lk:LK}{bk:BM}{fo:Operand}{args:Array Operand}{tys:Array TypeId}{f:FuncId}{d s:Nat}{ds rows:List DV}{ty ty2:TypeId}{pos:String}{af:Array Edge}{gd:Option (Nat×Bool)}
  (ha:jB lk fo args=some (f,ds))(hF:PR GB prog f ds s ty2 rows):bp prog GB C n lk bk ⟨some d, .call ⟨.value fo,args,tys⟩,ty,pos,af,gd⟩ (.rw d) [(d,some (.b ty2 s rows true))] [d]:=by
 intro hd tl tb K' s1 s2 hf hk;refine⟨fun ρ G ov a w r Q=>?_⟩;have r1:=r.mono s1 s2;obtain⟨h1,h2⟩:=p6 ha;obtain⟨y,hy,hy'⟩:=r1.ev h1;rw[(bh (G:=G)).1 hy'] at hy;obtain⟨vs,h3,h4⟩:=r1.evDs h2;refine sn (M:=[]) (rest:=ov) hy h3 (List.Perm.refl _) (hF G vs r.gb h4) hd (fun v own1 G' hG hK a' w' rl=>?_) a w Q ⟨r.h,r.sz,ck a,r.df⟩;obtain⟨z,rfl,vs',k1,k2,k3,k4⟩:=hK;rw[BK _ (k4 J)] at rl;have rl':d4 C n (Sx.put (cj a) (some d) (.slice z.a z.n z.c)) (own1++ov) G' a' w':=rl;have hdis:=(iK.1 rl'.h.nd).2.2;have r3:=r.new' (x:=z) (B':= .b ty2 s rows true) (os:=own1) (ov':=own1++ov) (f:= .rw d) (y:= .slice z.a z.n z.c) hf hG.le rl'.h ⟨vs',by simpa using k1,k2,k3,k4⟩ (fun o ho=>dV _ ho)
  (fun q B0 hq e o ho hbq=>⟨gJ _ ho,fun hc=>by
   have hx: ∃o1∈own1,o1.b=o.b:=by
    rcases k1 with⟨_,h,_⟩|⟨b0,rest0,lo0,h,hB,_⟩
    ·rw[show z=_ from h] at hc;cases hc
    ·rw[show z=_ from h] at hc;cases hc;exact⟨⟨_,aE vs'++rest0,_,lo0⟩,by rw[hB];exact aQ,J⟩
   obtain⟨o1,ho1,he1⟩:=hx;exact hdis o1 ho1 o ho he1⟩) (by simp[bi]) (iC rl')
 exact hk.run _ G' _ a' w' r3
def yw(fr:ak)(cf:Cf):Option (FuncId×List DV×Nat):=match bt fr cf with
 |some ⟨some d, .call ⟨.value fo,args,_⟩,_,_,_,_⟩=>match jB (aH fr cf) fo args with
  |some (f,ds)=>some (f,ds,d)
  |none=>none
 |_=>none
def cr[fu:Fu]{f:FuncId}{d s:Nat}{ds rows:List DV}{ty:TypeId}(ha:yw fr cf=some (f,ds,d))(hF:PR GB prog f ds s ty rows)
  (hgo:b7 tt n fu.n fr own cf (.rw d) [(d,some (.b ty s rows true))] [d]=⟨vc,fr',own',cf'⟩)(k:aj prog GB C n Q0 fr' own' cf')
  (hv:ah vc:=by first|exact trivial|(simp only[ah];kernel_rfl)|(simp only[ah];omega)|(simp only[ah,aZ,aY,aJ];omega)):aj prog GB C n Q0 fr own cf:=by
 unfold yw at ha;split at ha<;>try (cases ha;done)
 rename_i hh;split at ha<;>cases ha;rename_i h1;exact us hh (MQ h1 hF) hgo hv k
def O0(C:au)(s:Nat)(ty:TypeId)(rows:List DV):Ending->World->Prop:=mq C (fun v own' G'=> ∃w:SV,v= .slice w.a w.n w.c/\cA G' ⟨w,s,ty,rows,true⟩ own')
end
section
variable {GB:Gh} {C:au} {n:Nat} {Q0:Exit->Act->World->Prop} {fr fr':ak} {own own':aw} {cf cf':Cf} {vc:List Prop}
def GM{lk:LK}{bk:BM}{fo:Operand}{args:Array Operand}{tys:Array TypeId}{f:FuncId}{nm d:Nat}{l:List (Option DV)}{s:Nat}{ty ty0:TypeId}{pos:String}{af:Array Edge}{gd:Option (Nat×Bool)}{dsi dso:List DV}{lo:Bool}(hne:Nat.beq nm d=false)
  (ha:oZ lk fo args=some (f,nm,l))(hb:bk nm=some (.b ty0 s dsi lo))(hF:PB GB prog f (iq l) s ty0 dsi (fun w=> .v (.slice w.a w.n w.c)) dso):bp prog GB C n lk bk ⟨some d, .call ⟨.value fo,args,tys⟩,ty,pos,af,gd⟩ (.rw d) [(nm,none),(d,some (.b ty0 s dso lo))] [d]:=by
 intro hd tl tb K' s1 s2 hf hk;refine⟨fun ρ G ov a w r Q=>?_⟩;have r1:=r.mono s1 s2;unfold oZ at ha;split at ha<;>try (cases ha;done)
 rename_i h1;split at ha<;>cases ha;rename_i h2;obtain⟨y,hy,hy'⟩:=r1.ev h1;rw[(bh (G:=G)).1 hy'] at hy;obtain⟨B,g1,g2⟩:=r1.bx _ _ hb;have hB:cA G ⟨ρ nm,s,ty0,dsi,lo⟩ B:=g1;obtain⟨vs,h7,h8⟩:=rD r1 (z:=ρ nm) h2 (fun nm e=>by cases e;rfl);have hp: ∃rest,ov.Perm (B++rest)/\ ∀o∈ov,(∀o'∈B,o.b≠o'.b)->o∈rest:=by
  rcases hB with⟨vs',⟨_,_,e⟩|⟨b0,r0,lo0,_,e,_⟩,_⟩
  ·rw[e];exact⟨ov,List.Perm.refl _,fun o ho _=>ho⟩
  ·rw[e] at g2⊢
   obtain⟨l1,l2,e2⟩:=List.append_of_mem (g2 _ aQ);rw[e2];refine⟨l1++l2,List.perm_middle,fun o ho hno=>?_⟩;rcases dR.1 ho with ho|ho
   ·exact dV _ ho
   ·rcases bQ.1 ho with rfl|ho
    ·exact absurd J (hno _ aQ)
    ·exact gJ _ ho
 obtain⟨rest,h5,h6⟩:=hp;refine sn (M:=B) (rest:=rest) hy h7 h5 (hF G (ρ nm) vs B r.gb hB.weak h8) hd (fun v own1 G' hG hK a' w' rl=>?_) a w Q ⟨r.h,r.sz,ck a,r.df⟩;obtain⟨z,hr,vs',k1,k2,k3,k4⟩:=hK;have k1':=k1.relo (gz B);have e2:lo=true-> ∀o∈own1.map (relo (gz B)),o.lo=true:=fun hl o ho=>by
  obtain⟨o',_,rfl⟩:=cX.1 ho;obtain⟨_,_,_,_,hlo⟩:=hB;exact DL _ (hlo hl)
 generalize own1.map (relo (gz B))=B' at rl e2 k1';have rl':d4 C n (Sx.put (cj a) (some d) v) (B'++rest) G' a' w':=rl;have hdis:=(iK.1 rl'.h.nd).2.2;have r2:=r.dropB nm;have hnn:nm≠d:=fun e=>by subst e;rw[Nat.beq_refl] at hne;cases hne
 have hf2:gG [d] (some d) tl (Sx.upB tb [(nm,none)]):=fun q hq=>by
  obtain⟨f1,f2⟩:=hf q hq;refine⟨f1,fun k B e1 e=>?_⟩;simp only[Sx.upB] at e;split at e
  ·cases e
  ·exact f2 k B e1 e
 have hsep: ∀q B0,Sx.upB tb [(nm,none)] q=some B0-> ∀o∈ov,(ρ q).a=some ⟨o.b,0,none⟩->o∈rest:=fun q B0 e o ho hbq=>by
  simp only[Sx.upB] at e;split at e
  ·cases e
  ·rename_i hqn
   refine h6 o ho fun o' ho' he=>?_;exact r.dj nm q _ _ (s2 _ _ hb) e (Ne.symm hqn) o'.b (g1.blk ho') (by rw[hbq,he])
 rw[bh.1 hr] at rl';have r3:=r2.new' (x:=z) (B':= .b ty0 s dso lo) (os:=B') (ov':=B'++rest) (f:= .rw d) (y:= .slice z.a z.n z.c) hf2 hG.le rl'.h ⟨vs',by simpa using k1',k2,k3,e2⟩ (fun o ho=>dV _ ho)
  (fun q B0 hq e o ho hbq=>⟨gJ _ (hsep q B0 e o ho hbq),fun hc=>by
   have hx: ∃o1∈B',o1.b=o.b:=by
    rcases k1' with⟨_,h,_⟩|⟨b0,rest0,lo0,h,hB,_⟩
    ·rw[show z=_ from h] at hc;cases hc
    ·rw[show z=_ from h] at hc;cases hc;exact⟨⟨_,aE vs'++rest0,_,lo0⟩,by rw[hB];exact aQ,J⟩
   obtain⟨o1,ho1,he1⟩:=hx;exact hdis o1 ho1 o (hsep q B0 e o ho hbq) he1⟩) (by simp[bi]) (iC rl')
 exact hk.run _ G' _ a' w' r3
def cq[fu:Fu]{f:FuncId}{nm d:Nat}{l:List (Option DV)}{ty:TypeId}{s:Nat}{dsi dso:List DV}{lo:Bool}(dso':List DV)(ha:ye fr own cf=some ⟨f,nm,l,ty,s,dsi,lo,d⟩)(hF:PB GB prog f (iq l) s ty dsi (fun w=> .v (.slice w.a w.n w.c)) dso)(he:dso=dso')
  (hgo:b7 tt n fu.n fr own cf (.rw d) [(nm,none),(d,some (.b ty s dso' lo))] [d]=⟨vc,fr',own',cf'⟩)(k:aj prog GB C n Q0 fr' own' cf')
  (hv:ah vc:=by first|exact trivial|(simp only[ah];kernel_rfl)|(simp only[ah];omega)|(simp only[ah,aZ,aY,aJ];omega)):aj prog GB C n Q0 fr own cf:=by
 subst he;unfold ye at ha;split at ha<;>try (cases ha;done)
 rename_i hh;split at ha<;>try (cases ha;done)
 rename_i h1;split at ha<;>try (cases ha;done)
 rename_i h2;rw[cond_eq_ite] at ha;split at ha<;>cases ha;rename_i h3;exact us hh (GM (by cases hq:Nat.beq nm d with|false=>rfl|true=>exact absurd hq h3) h1 h2 hF) hgo hv k
def ul(C:au)(s:Nat)(ty:TypeId)(dso:List DV):Ending->World->Prop:=mq C (fun v own' G'=> ∃w',Is G' (.v (.slice w'.a w'.n w'.c)) v/\cA G' ⟨w',s,ty,dso,false⟩ own')
def tc[fu:Fu]{f:FuncId}{fb:Func}{c:Code}{k s:Nat}{l:List (Option DV)}{dsi dso:List DV}{ty:TypeId}(hf:prog.funcs[f]? =some fb)(hb:fb.body=some c)(hn:(fb.name== "runtime.NumGoroutine")=false)(hm:fb.ntmps=k)(hlen:Nat.ble l.length k=true)
  (hgo:go tt k fu.n [] (oq 0 l) [(NM,some (.b ty s dsi false))] (.code c [])=⟨vc,fr,own,cf⟩)(h: ∀C,aj prog GB C k (fg C prog fb (ul C s ty dso)) fr own cf)
  (hv:ah vc:=by first|exact trivial|(simp only[ah];kernel_rfl)|(simp only[ah];omega)|(simp only[ah,aZ,aY,aJ];omega)):PB GB prog f (iq l) s ty dsi (fun w=> .v (.slice w.a w.n w.c)) dso:=by
 intro G w vs B hg hB hvs;refine ja.introR hf hb hn hm (by rw[hvs.len,xa];exact hlen) fun C _ hmb hrd hfx=>?_;intro a wd rl;refine qi hrd ?_;have h1:=dw (GB:=GB) (C:=C) (Q0:=fg C prog fb (ul C s ty dso)) hgo hv (h C);refine h1.run (fun _=>w) G (Sx.asB B) a wd ⟨hg,rl.h,rl.sz,rl.df,fun k f e=>?_,fun nm B' e=>?_,fun nm nm' B' B2 e e' hne=>?_,fun nm p _ _ e=>by rw[hfx] at e;cases e⟩
 ·obtain⟨y,⟨j,hj,hy⟩,h2⟩:=uQ (ρ:=fun _=>w) (w:=w) rfl 0 hvs k f e
  refine⟨y,rl.fr k y ?_,h2⟩;rw[hj];exact pG vs 0 j y hy
 ·rw[gP] at e
  split at e
  ·cases e;exact⟨Sx.asB B,hB.asB,fun o ho=>ho⟩
  ·cases e
 ·rw[gP] at e e'
  split at e<;>split at e'
  ·rename_i h2 h3;exact absurd (h2.trans h3.symm) hne
  ·cases e'
  ·cases e
  ·cases e
def pM{fb:Func}{t d s:Nat}{ty:TypeId}{ds dso:List DV}(hr:fb.results.toList=[.tmp t])(hl:aA fr t=some (.rw d))(hw:aD own d=some (.b ty s ds false))(ed:ds=dso):
  aj prog GB C n (fg C prog fb (ul C s ty dso)) fr own (.ex .ret []):=by
 subst ed;refine⟨fun ρ G ov a w r=>?_⟩;obtain⟨B,g1,g2⟩:=r.bx _ _ hw;have hB:cA G ⟨ρ d,s,ty,ds,false⟩ B:=g1;obtain⟨rest,hp⟩:=G9 hB g2;obtain⟨y,hy,hy'⟩:=r.ev (x:= .tmp t) (f:= .rw d) hl
 cases (show y=_ from hy')
 exact KT (C:=C) (n:=n) (fr:=cj a) (own:=ov) (G:=G) (vs:=[.slice (ρ d).a (ρ d).n (ρ d).c]) (by rw[hr];exact .tmp hy .nil) (B++rest) B hp (List.sublist_append_left _ _) ⟨ρ d,bh.2 J,hB⟩ a w ⟨r.h,r.sz,ck a,r.df⟩
def Dl(lk:LK):List Operand->Option (List (Option DV))
 |[]=>none
 |[x]=>match az lk x with
  |some .nl=>some [none]
  |_=>none
 |x::t=>match az lk x,Dl lk t with
  |some f,some l=>match f7 f with
   |some d=>some (some d::l)
   |none=>none
  |_,_=>none
def J8(lk:LK)(fo:Operand)(args:Array Operand):Option (FuncId×List (Option DV)):=match az lk fo with
 |some (.d (.v (.func (.func f) ⟨[]⟩ ⟨[]⟩)))=>match Dl lk args.toList with
  |some l=>some (f,l)
  |_=>none
 |_=>none
def Nb(fr:ak)(cf:Cf):Option (FuncId×List (Option DV)×Nat):=match bt fr cf with
 |some ⟨some d, .call ⟨.value fo,args,_⟩,_,_,_,_⟩=>match J8 (aH fr cf) fo args with
  |some (f,l)=>some (f,l,d)
  |none=>none
 |_=>none
end
section
variable {P:Program} {T:TT} {GB:Gh} {C:au} {n:Nat} {lk:LK} {bk:BM} {ρ:NE} {G:Gh} {ov:List ao} {a:Act} {w:World}
variable {dst:Option Nat} {t t' ty':TypeId} {pos:String} {af:Array Edge} {gd:Option (Nat×Bool)} {x y:Operand} {e s by_:Nat}
end
section
variable {GB:Gh} {C:au} {n:Nat} {Q0:Exit->Act->World->Prop} {fr fr':ak} {own own':aw} {cf cf':Cf} {vc:List Prop}
def M'(fr:ak)(own:aw)(cf:Cf):Option (Nat×Nat×Nat×Nat×Nat×List DV×List DV):=match bt fr cf with
 |some ⟨some d, .call ⟨.builtin .append,⟨[x,y]⟩,⟨[t,t']⟩⟩,_,_,_,_⟩=>match b6 tt t with
  |some ⟨.sl e s b,_,_,_⟩=>match b6 tt t' with
   |some ⟨.sl _ _ _,_,_,_⟩=>match b6 tt e with
    |some i=>match iE i with
     |some z=>bif Nat.beq z.cells.length s&&Nat.blt 0 b then(match lc (aH fr cf) (dG fr own cf) s y with
      |some ds2=>match az (aH fr cf) x with
       |some (.rw nm)=>match dG fr own cf nm with
        |some (.b e' s' ds false)=>bif (Nat.beq e' e&&Nat.beq s' s)&&!Nat.beq nm d then some (d,nm,e,s,b,ds,ds2) else none
        |_=>none
       |_=>none
      |none=>none) else none
     |none=>none
    |none=>none
   |_=>none
  |_=>none
 |_=>none
end
end Go.Sx
end
