/-
  Reference: natural numbers of any size: sign, Word, Cmp, Sum, Less. Reference: natural numbers of any size: Product, Left, Right, word. The program's natural numbers as functions of deep values. The abstract machine: pointers that may be nil, numbers that wrap. The program's integers. The program's rational numbers. Reference: division of natural numbers of any size.
-/
import Derived.Test.YtopfgminkdfpkaaGreatDoorMw8
set_option linter.unusedSimpArgs false
set_option maxHeartbeats 4000000
set_option maxRecDepth 100000
set_option linter.unusedVariables false
section
namespace Go.Sx
open Go Go.Proofs
variable {GB:Gh}
theorem adp{a k:Nat}(h:a<2^k)(hk:k≤1000000000):(dg a).length≤100000000:=by have:=aa4 h;omega
theorem aaR(a:Nat):dv (dg a)=a:=(aaG a).1
theorem afg(a:Nat):DOk (dg a):=(aaG a).2.1
theorem aaB(ds:List Nat):(ds.map dU).length=ds.length:=List.length_map ..
theorem acp{ds:List Nat}{n:Nat}(h:ds.length≤n):ds.take n=ds:=List.take_of_length_le h
theorem aed{ds:List Nat}{i:Nat}(h:ds.length≤i):ds.getD i 0=0:=by
 rw[List.getD_eq_getElem?_getD,List.getElem?_eq_none h];rfl
theorem aeR{ds:List Nat}{n:Nat}(h:DOk ds)(e:dv ds=n):dLi (trimD ds)=dN n:=by rw[aFf h,e]
theorem aoY{a b:Nat}(h:a<b):ahF a b= -1:=by unfold ahF;rw[if_pos h]
theorem aoy{a b:Nat}(h:b<a):ahF a b=1:=by unfold ahF;rw[if_neg (by omega),if_neg (by omega)]
theorem az4{a b:Nat}(h:a=b):ahF a b=0:=by unfold ahF;rw[if_neg (by omega),if_pos h]
theorem ate(m n:Nat):Int.sign ((m:Int)-n)=ahF m n:=by
 unfold ahF
 split
 ·exact Int.sign_eq_neg_one_of_neg (by omega)
 ·split
  ·rw[show(m:Int)-n=0 by omega];rfl
  ·exact Int.sign_eq_one_of_pos (by omega)
theorem axL{a b:Nat}(h:(dg a).length≠(dg b).length):ahF (dg a).length (dg b).length=ahF a b:=by
 rcases Nat.lt_or_gt_of_ne h with h|h
 ·have:=acH (afg a) (aaG b).2.2 h
  rw[aaR,aaR] at this
  rw[aoY h,aoY this]
 ·have:=acH (afg b) (aaG a).2.2 h
  rw[aaR,aaR] at this
  rw[aoy h,aoy this]
theorem aoS{a b i:Nat}(hl:(dg a).length=(dg b).length)(hi:i<(dg a).length)(hs:(dg a).drop (i+1)=(dg b).drop (i+1)):
  ((dg a).getD i 0<(dg b).getD i 0→a<b)∧((dg b).getD i 0<(dg a).getD i 0→b<a)∧((dg a).getD i 0=(dg b).getD i 0→(dg a).drop i=(dg b).drop i):=by
 refine⟨fun h=>?_,fun h=>?_,fun h=>?_⟩
 ·have:=aqI (afg a) (afg b) i hi (by omega) hl hs h
  rwa [aaR,aaR] at this
 ·have:=aqI (afg b) (afg a) i (by omega) hi hl.symm hs.symm h
  rwa [aaR,aaR] at this
 ·rw[List.drop_eq_getElem_cons hi,List.drop_eq_getElem_cons (by omega:i<(dg b).length),hs]
  rw[List.getD_eq_getElem?_getD,List.getD_eq_getElem?_getD,List.getElem?_eq_getElem hi,List.getElem?_eq_getElem (by omega:i<(dg b).length)] at h
  simp only[Option.getD_some] at h
  rw[h]
theorem aCI{z:Int}:PF GB Tryz.prog 245 [vI z] (vI z.sign):=by
 refine fn Tryz.func245 J J Tryz.ntmps245 J J (fun C=>?_)
 refine br J J J (fun hc4=>?_) (fun hc4=>?_)
 ·
  exact rz rfl (by show DV.v (.int _ 1)=DV.v (.int _ _);rw[Int.sign_eq_one_of_pos (by omega)])
 ·
  refine br J J J (fun hc6=>?_) (fun hc6=>?_)
  ·
   exact rz rfl (by show DV.v (.int _ (-1))=DV.v (.int _ _);rw[Int.sign_eq_neg_one_of_neg (by omega)])
  ·
   exact rz rfl (by show DV.v (.int _ 0)=DV.v (.int _ _);rw[show z=0 by omega];rfl)
theorem auC(u:Nat):dv [u%4294967296,u/4294967296]=u:=by simp only[dv];omega
theorem aC5{u:Nat}(h:u<18446744073709551616):DOk [u%4294967296,u/4294967296]:= .cons (by omega) (.cons (by omega) .nil)
theorem au0(u:Nat):(u:Int).fdiv (2^min (32:Int).toNat IntKind.u64.bits)=((u/4294967296:Nat):Int):=by
 rw[show(2:Int)^min (32:Int).toNat IntKind.u64.bits=((4294967296:Nat):Int) from rfl,Int.fdiv_eq_ediv_of_nonneg _ (by decide)];rfl
theorem ah3{u:Nat}(hu:u<18446744073709551616):PF GB Tryz.prog 202 [.v (.int .u64 (u:Int))] (dN u):=by
 refine fn (fu:=⟨11⟩) (hv:=by simp only[aai];exact(by decide)) Tryz.func202 J J Tryz.ntmps202 J J (fun C=>?_)
 refine eqF 6 (.d (.v (.int .u64 (u/4294967296:Nat)))) rfl (by rw[au0]) ?_
 refine gx rfl<|rf (fu:=⟨0⟩) J J<|?_
 refine eqF 8 (.d (dLi [u%4294967296,u/4294967296])) rfl (by show FX.d (.sl [.v (.int _ _), .v (.int _ _)])= .d (.sl [.v (.int _ _), .v (.int _ _)]);congr 6;omega) ?_
 refine gx rfl<|cl rfl (agc (ds:=[u%4294967296,u/4294967296]) (by simp)) rfl<|?_
 exact rz rfl (aeR (aC5 hu) (auC u))
theorem az3:PF GB Tryz.prog 198 [] (dN 1):=by
 refine fn Tryz.func198 J J Tryz.ntmps198 J J (fun C=>?_)
 refine rf J J<|?_
 exact rz rfl (by unfold dN;rw[aor];rfl)
theorem at4{a b:Nat}(ha:(dg a).length≤100000000)(hb:(dg b).length≤100000000):PF GB Tryz.prog 197 [dN a,dN b] (vI (ahF a b)):=by
 have hla:=aaB (dg a)
 have hlb:=aaB (dg b)
 refine fn Tryz.func197 J J Tryz.ntmps197 J J (fun C=>?_)
 refine br J J J (fun hc10=>?_) (fun hc10=>?_)
 ·
  refine cl rfl aCI rfl<|?_
  exact rz rfl (by show DV.v (.int _ _)=DV.v (.int _ _);rw[hla,hlb,ate,axL (by omega)])
 ·
  have hl:(dg a).length=(dg b).length:=by omega
  refine lp (X:=Nat) (fun k=>[(0, .d (dN a)),(1, .d (dN b)),(5, .d (vI ((k:Nat)-1)))]) (fun k=>[]) (fun k=>k≤(dg a).length∧(dg a).drop k=(dg b).drop k) (fun k=>k) (dg a).length rfl ⟨Nat.le_refl _,by rw[List.drop_length,hl,List.drop_length]⟩ (fun _=>rfl) (fun k hk=>?_)
  obtain⟨h1,h2⟩:=hk
  refine br J J J (fun hc21=>?_) (fun hc21=>?_)
  ·
   obtain⟨k,rfl⟩: ∃m,k=m+1:=⟨k-1,by omega⟩
   refine ix _ rfl (aaC (k:=k) (by omega) (by omega)) rfl<|ix _ rfl (aaC (k:=k) (by omega) (by omega)) rfl<|?_
   refine br J J J (fun hc32=>?_) (fun hc32=>?_)
   ·
    exact rz rfl (by show DV.v (.int _ 1)=DV.v (.int _ _);rw[aoy ((aoS hl (by omega) h2).2.1 (by omega))])
   ·
    refine ix _ rfl (aaC (k:=k) (by omega) (by omega)) rfl<|ix _ rfl (aaC (k:=k) (by omega) (by omega)) rfl<|?_
    refine br J J J (fun hc41=>?_) (fun hc41=>?_)
    ·
     exact rz rfl (by show DV.v (.int _ (-1))=DV.v (.int _ _);rw[aoY ((aoS hl (by omega) h2).1 (by omega))])
    ·
     exact at_ k ⟨⟨by omega,(aoS (i:=k) hl (by omega) h2).2.2 (by omega)⟩,(by omega)⟩
  ·
   exact rz rfl (by show DV.v (.int _ 0)=DV.v (.int _ _);rw[az4];obtain rfl:k=0:=(by omega);rw[List.drop_zero,List.drop_zero] at h2;rw[←aaR a,h2,aaR])
theorem aAH{A B W:List Nat}{i c:Nat}(hi:i<W.length)(h:dv (W.take i)+4294967296^i*c=dv (A.take i)+dv (B.take i)):
  dv ((W.set i ((A.getD i 0+B.getD i 0+c)%4294967296)).take (i+1))+4294967296^(i+1)*((A.getD i 0+B.getD i 0+c)/4294967296)=dv (A.take (i+1))+dv (B.take (i+1)):=by
 rw[abe hi,aax A,aax B,Nat.pow_succ,show A.getD i 0+B.getD i 0+c=c+A.getD i 0+B.getD i 0 by omega]
 exact aqL h
theorem azJ{a b n:Nat}{W:List Nat}{c:Nat}(hn:n=max (dg a).length (dg b).length)(hl:W.length=n+1)(h:dv (W.take n)+4294967296^n*c=dv ((dg a).take n)+dv ((dg b).take n)):dv (W.set n c)=a+b:=by
 have e:=abe (ws:=W) (k:=n) (d:=c) (by omega)
 rw[acp (by rw[List.length_set];omega)] at e
 rw[e,h,acp (by omega),acp (by omega),aaR,aaR]
theorem aFk{a b ia ib:Nat}[ha:BN a ia][hb:BN b ib](hi:ia≤1000000000:=by decide)(hj:ib≤1000000000:=by decide):PF GB Tryz.prog 216 [dN a,dN b] (dN (a+b)):=by
 have hla:=aaB (dg a)
 have hlb:=aaB (dg b)
 have hba:=adp ha.h hi
 have hbb:=adp hb.h hj
 refine fn (fu:=⟨12⟩) Tryz.func216 J J Tryz.ntmps216 J J (fun C=>?_)
 obtain⟨n,hn⟩: ∃n,n=max (dg a).length (dg b).length:=⟨_,rfl⟩
 refine eqF 15 (.d (vI (n:Nat))) rfl (by show FX.d (.v (.int _ _))= .d (.v (.int _ _));congr 3;split<;>omega) ?_
 refine gx rfl<|mk ((List.replicate (n+1) 0).map dU) J J (by rw[←aeU];rfl) rfl<|?_
 refine lp (X:=List Nat×Nat×Nat) (fun⟨W,c,i⟩=>[(0, .d (dN a)),(1, .d (dN b)),(5, .d (vI (n:Nat))),(6, .rw 18),(7, .d (.v (.int .u32 (c:Nat)))),(8, .d (vI (i:Nat)))]) (fun⟨W,c,i⟩=>[(18,some (.b 262 1 (W.map dU) true))]) (fun⟨W,c,i⟩=>W.length=n+1∧DOk W∧c≤1∧i≤n∧dv (W.take i)+4294967296^i*c=dv ((dg a).take i)+dv ((dg b).take i)) (fun⟨W,c,i⟩=>n-i) ⟨List.replicate (n+1) 0,0,0⟩ rfl ⟨by simp, .replicate _,by omega,by omega,by simp[dv]⟩ (fun _=>rfl) (fun⟨W,c,i⟩ hk=>?_)
 dsimp only at hk⊢
 obtain⟨h1,h2,h3,h4,h5⟩:=hk
 have hlw:=aaB W
 have hda:=adt a i
 have hdb:=adt b i
 refine br (fu1:=⟨11⟩) J J J (fun hc21=>?_) (fun hc21=>?_)
 ·
  refine mg (fu:=⟨1⟩) (X:=Unit) (fun _=>[(0, .d (dN a)),(1, .d (dN b)),(5, .d (vI (n:Nat))),(6, .rw 18),(7, .d (.v (.int .u32 (c:Nat)))),(8, .d (vI (i:Nat))),(9, .d (dU ((dg a).getD i 0))),(10, .d (.v (.int .u32 0)))]) (fun _=>[(18,some (.b 262 1 (W.map dU) true))]) (fun _=>True) [0,1,5,6,7,8,9,10] [18] rfl ?_ (fun _=>rfl) (fun _ hm=>?_)
  ·
   refine gx rfl<|?_
   refine br J J J (fun hc27=>?_) (fun hc27=>?_)
   ·
    refine ix _ rfl (abd (by omega)) rfl<|?_
    exact at_ () trivial
   ·
    refine eqF 9 (.d (dU ((dg a).getD i 0))) rfl (by rw[aed (by omega)];rfl) ?_
    exact at_ () trivial
  ·
   refine mg (X:=Unit) (fun _=>[(0, .d (dN a)),(1, .d (dN b)),(5, .d (vI (n:Nat))),(6, .rw 18),(7, .d (.v (.int .u32 (c:Nat)))),(8, .d (vI (i:Nat))),(9, .d (dU ((dg a).getD i 0))),(10, .d (dU ((dg b).getD i 0)))]) (fun _=>[(18,some (.b 262 1 (W.map dU) true))]) (fun _=>True) [0,1,5,6,7,8,9,10] [18] rfl ?_ (fun _=>rfl) (fun _ hm=>?_)
   ·
    refine gx rfl<|?_
    refine br J J J (fun hc35=>?_) (fun hc35=>?_)
    ·
     refine ix _ rfl (abd (by omega)) rfl<|?_
     exact at_ () trivial
    ·
     refine eqF 10 (.d (dU ((dg b).getD i 0))) rfl (by rw[aed (by omega)];rfl) ?_
     exact at_ () trivial
   ·
    refine cl rfl (aBh (by omega) (by omega) (by omega)) rfl<|sb _ ((W.set i (((dg a).getD i 0+(dg b).getD i 0+c)%4294967296)).map dU) rfl (abd (by omega)) rfl (by rw[←aef];rfl) rfl<|?_
    exact at_ ⟨W.set i (((dg a).getD i 0+(dg b).getD i 0+c)%4294967296),((dg a).getD i 0+(dg b).getD i 0+c)/4294967296,i+1⟩ (by dsimp only;exact⟨⟨by simpa using h1,h2.set _ (by omega),by omega,by omega,aAH (by omega) h5⟩,(by omega)⟩)
 ·
  obtain rfl:i=n:=by omega
  refine sb _ ((W.set i c).map dU) rfl (abd (by omega)) rfl (by rw[←aef];rfl) rfl<|fz 18 J J<|cl rfl (agc (ds:=W.set i c) (by simp;omega)) rfl<|?_
  exact rz rfl (aeR (h2.set _ (by omega)) (azJ hn h1 h5))
theorem axN{A B W:List Nat}{i c d c2:Nat}(hA:DOk A)(hB:DOk B)(hi:i<W.length)(hc:c≤1)(h:dv (W.take i)+dv (B.take i)=dv (A.take i)+4294967296^i*c)
  (hd:d=if A.getD i 0<B.getD i 0+c then A.getD i 0+4294967296-(B.getD i 0+c) else A.getD i 0-(B.getD i 0+c))(hc2:c2=if A.getD i 0<B.getD i 0+c then 1 else 0):
  dv ((W.set i d).take (i+1))+dv (B.take (i+1))=dv (A.take (i+1))+4294967296^(i+1)*c2:=by
 have h1:=hA.get i
 have h2:=hB.get i
 rw[abe hi,aax A,aax B,Nat.pow_succ]
 split at hd
 ·rename_i q
  rw[if_pos q] at hc2
  subst hc2 hd
  rw[Nat.add_comm (B.getD i 0) c]
  exact avy h (by omega) (by omega)
 ·rename_i q
  rw[if_neg q] at hc2
  subst hc2 hd
  rw[Nat.add_comm (B.getD i 0) c]
  exact ayN h (by omega)
theorem avT{a b c:Nat}{W:List Nat}(hw:DOk W)(hl:W.length=(dg a).length)(hb:b≤a)(h:dv (W.take (dg a).length)+dv ((dg b).take (dg a).length)=dv ((dg a).take (dg a).length)+4294967296^(dg a).length*c):dv W=a-b:=by
 have hlb:(dg b).length≤(dg a).length:=by
  rcases Nat.lt_or_ge (dg a).length (dg b).length with q|q
  ·have:=acH (afg a) (aaG b).2.2 q
   rw[aaR,aaR] at this
   omega
  ·exact q
 rw[acp (by omega),acp hlb,acp (Nat.le_refl _),aaR,aaR] at h
 have h2:=aeK hw
 rw[hl] at h2
 rcases Nat.eq_zero_or_pos c with q|q
 ·subst q;omega
 ·have:4294967296^(dg a).length*1≤4294967296^(dg a).length*c:=Nat.mul_le_mul_left _ q
  omega
theorem auc{a b ia:Nat}[ha:BN a ia](hb:b≤a)(hi:ia≤1000000000:=by decide):PF GB Tryz.prog 217 [dN a,dN b] (dN (a-b)):=by
 have hla:=aaB (dg a)
 have hlb:=aaB (dg b)
 have hba:=adp ha.h hi
 refine fn (fu:=⟨9⟩) Tryz.func217 J J Tryz.ntmps217 J J (fun C=>?_)
 refine eqF 10 (.d (vI ((dg a).length:Nat))) rfl (by rw[hla];rfl) ?_
 refine gx rfl<|mk (fu:=⟨13⟩) ((List.replicate (dg a).length 0).map dU) J J (by rw[←aeU];rfl) rfl<|?_
 refine eqF 13 (.d (vI ((dg a).length:Nat))) rfl (by rw[hla];rfl) ?_
 refine gx rfl<|?_
 refine lp (X:=List Nat×Nat×Nat) (fun⟨W,c,i⟩=>[(0, .d (dN a)),(1, .d (dN b)),(5, .rw 11),(6, .d (.v (.int .u32 (c:Nat)))),(13, .d (vI ((dg a).length:Nat))),(14, .d (vI (i:Nat)))]) (fun⟨W,c,i⟩=>[(11,some (.b 262 1 (W.map dU) true))]) (fun⟨W,c,i⟩=>W.length=(dg a).length∧DOk W∧c≤1∧i≤(dg a).length∧dv (W.take i)+dv ((dg b).take i)=dv ((dg a).take i)+4294967296^i*c) (fun⟨W,c,i⟩=>(dg a).length-i) ⟨List.replicate (dg a).length 0,0,0⟩ rfl ⟨by simp, .replicate _,by omega,by omega,by simp[dv]⟩ (fun _=>rfl) (fun⟨W,c,i⟩ hk=>?_)
 dsimp only at hk⊢
 obtain⟨h1,h2,h3,h4,h5⟩:=hk
 have hlw:=aaB W
 have hda:=adt a i
 have hdb:=adt b i
 refine br (fu1:=⟨16⟩) J J J (fun hc15=>?_) (fun hc15=>?_)
 ·
  refine mg (X:=Unit) (fun _=>[(0, .d (dN a)),(1, .d (dN b)),(5, .rw 11),(6, .d (.v (.int .u32 (c:Nat)))),(13, .d (vI ((dg a).length:Nat))),(14, .d (vI (i:Nat))),(7, .d (vI (i:Nat))),(8, .d (dU ((dg b).getD i 0)))]) (fun _=>[(11,some (.b 262 1 (W.map dU) true))]) (fun _=>True) [0,1,5,6,13,14,7,8] [11] rfl ?_ (fun _=>rfl) (fun _ hm=>?_)
  ·
   refine gx rfl<|?_
   refine br J J J (fun hc20=>?_) (fun hc20=>?_)
   ·
    refine ix _ rfl (abd (by omega)) rfl<|?_
    exact at_ () trivial
   ·
    refine eqF 8 (.d (dU ((dg b).getD i 0))) rfl (by rw[aed (by omega)];rfl) ?_
    exact at_ () trivial
  ·
   refine ix _ rfl (abd (by omega)) rfl<|cl rfl (aAW (by omega) (by omega) (by omega)) rfl<|sb _ ((W.set i (if(dg a).getD i 0<(dg b).getD i 0+c then(dg a).getD i 0+4294967296-((dg b).getD i 0+c) else(dg a).getD i 0-((dg b).getD i 0+c))).map dU) rfl (abd (by omega)) rfl (by rw[←aef];rfl) rfl<|?_
   exact at_ ⟨W.set i (if(dg a).getD i 0<(dg b).getD i 0+c then(dg a).getD i 0+4294967296-((dg b).getD i 0+c) else(dg a).getD i 0-((dg b).getD i 0+c)),(if(dg a).getD i 0<(dg b).getD i 0+c then 1 else 0),i+1⟩ (by dsimp only;exact⟨⟨by simpa using h1,h2.set _ (by split<;>omega),by split<;>omega,by omega,axN (afg a) (afg b) (by omega) h3 h5 J J⟩,(by omega)⟩)
 ·
  obtain rfl:i=(dg a).length:=by omega
  refine fz 11 J J<|cl rfl (agc (ds:=W) (by omega)) rfl<|?_
  exact rz rfl (aeR h2 (avT h2 h1 hb h5))
theorem ars(n:Nat)(a b k:Nat)(ha:a<2^k)(h:a+b*2^k<2^n):(BitVec.ofInt n (a:Int) ||| BitVec.ofInt n ((b*2^k:Nat):Int)).toNat=a+b*2^k:=by
 rw[BitVec.toNat_or,BitVec.ofInt_natCast,BitVec.ofInt_natCast,BitVec.toNat_ofNat,BitVec.toNat_ofNat,Nat.mod_eq_of_lt (by omega),Nat.mod_eq_of_lt (by omega)]
 rw[←Nat.shiftLeft_eq,Nat.or_comm,←Nat.shiftLeft_add_eq_or_of_lt ha,Nat.shiftLeft_eq]
 omega
theorem avd{x y:Nat}(hx:x<4294967296)(hy:y<4294967296):x*y≤18446744065119617025:=by
 have:=Nat.mul_le_mul (by omega:x≤4294967295) (by omega:y≤4294967295)
 exact this
theorem ayy(x y:Nat):(0:Int)≤(x:Int)*(y:Int):=by rw[←Int.natCast_mul];omega
theorem ay5{x y:Nat}(hx:x<4294967296)(hy:y<4294967296):(x:Int)*(y:Int)≤18446744073709551615:=by
 have:=avd hx hy
 rw[←Int.natCast_mul];omega
theorem aEt{ds:List Nat}(h:ds.length=1):dv ds=ds.getD 0 0:=by
 match ds,h with
 |[d],_=>simp[dv]
theorem acA{a:Nat}(h:(dg a).length=1):(dg a).getD 0 0=a:=by rw[←aEt h,aaR]
theorem asp{ds:List Nat}{j m:Nat}(h:j<m):(ds.take m).getD j 0=ds.getD j 0:=by
 rw[List.getD_eq_getElem?_getD,List.getD_eq_getElem?_getD,List.getElem?_take,if_pos h]
theorem anc{W:List Nat}{j m d:Nat}(hj:j<m)(hm:m≤W.length):dv ((W.set j d).take m)+4294967296^j*W.getD j 0=dv (W.take m)+4294967296^j*d:=by
 rw[List.take_set,←asp (ds:=W) hj]
 exact afz _ _ _ (by rw[List.length_take];omega)
theorem axr{W:List Nat}{P X Y m i k c y t S:Nat}(hk:i+k<m)(hm:m≤W.length)(h:dv (W.take m)+4294967296^(i+k)*c=P+X*(4294967296^i*S))(ht:t=Y+W.getD (i+k) 0+c)(hY:Y=X*y):
  dv ((W.set (i+k) (t%4294967296)).take m)+4294967296^(i+(k+1))*(t/4294967296)=P+X*(4294967296^i*(S+4294967296^k*y)):=by
 have h1:=anc (W:=W) (d:=t%4294967296) hk hm
 rw[ht,show Y+W.getD (i+k) 0+c=c+Y+W.getD (i+k) 0 by omega] at h1⊢
 have h2:=apC h1 h
 rw[←Nat.add_assoc,Nat.pow_succ,h2,hY,Nat.pow_add]
 simp only[Nat.mul_add,Nat.mul_assoc,Nat.mul_left_comm,Nat.mul_comm,Nat.add_assoc]
theorem ax8{a b:Nat}{W:List Nat}{i c lb:Nat}(hlb:lb=(dg b).length)(hl:i+lb<W.length)(h:dv (W.take (i+lb))+4294967296^(i+lb)*c=dv ((dg a).take i)*b+(dg a).getD i 0*(4294967296^i*dv ((dg b).take lb))):
  dv ((W.set (i+lb) c).take (i+1+lb))=dv ((dg a).take (i+1))*b:=by
 rw[show i+1+lb=i+lb+1 by omega,abe hl,h,aax,acp (ds:=dg b) (by omega),aaR b,Nat.add_mul]
 simp only[Nat.mul_assoc,Nat.mul_left_comm,Nat.mul_comm]
theorem apO(n j:Nat):(List.replicate n 0).getD j 0=0:=by
 rw[List.getD_eq_getElem?_getD,List.getElem?_replicate]
 split<;>rfl
theorem avg{k:Nat}(h:k≤1000000000):IntKind.i64.wrap ((k:Int).tdiv 32)=((k/32:Nat):Int):=by
 rw[show(k:Int).tdiv 32=((k/32:Nat):Int) from rfl,aml];omega
theorem aCt(k:Nat):(k:Int).tmod 32=((k%32:Nat):Int):=rfl
theorem ack{a b ia ib:Nat}[ha:BN a ia][hb:BN b ib](hi:ia≤1000000000:=by decide)(hj:ib≤1000000000:=by decide):PF GB Tryz.prog 156 [dN a,dN b] (dN (a*b)):=by
 have hla:=aaB (dg a)
 have hlb:=aaB (dg b)
 have hba:=adp ha.h hi
 have hbb:=adp hb.h hj
 refine fn (fu:=⟨6⟩) Tryz.func156 J J Tryz.ntmps156 J J (fun C=>?_)
 refine mg (fu:=⟨4⟩) (X:=Unit) (fun _=>[(0, .d (dN a)),(1, .d (dN b))]) (fun _=>[]) (fun _=>True) [0,1] [] rfl ?_ (fun _=>rfl) (fun _ hm=>?_)
 ·
  refine gx rfl<|?_
  refine cs 15 J J J (fun hg15=>?_) (fun hg15=>?_)
  ·
   refine br J J J (fun hc19=>?_) (fun hc19=>?_)
   ·
    have hd0:=adt a 0
    have hd1:=adt b 0
    refine ix _ rfl (aaC (k:=0) rfl (by omega)) rfl<|ix (hv:=by simp only[aai];exact⟨by omega,⟨(ayy _ _),(ay5 (adt _ _) (adt _ _))⟩⟩) _ rfl (aaC (k:=0) rfl (by omega)) rfl<|cl rfl (ah3 (u:=(dg a).getD 0 0*(dg b).getD 0 0) (by have:=avd (adt a 0) (adt b 0);omega)) rfl<|?_
    exact rz rfl (by rw[acA (by omega),acA (by omega)];rfl)
   ·
    exact at_ () trivial
  ·
   exact at_ () trivial
 ·
  refine eqF 31 (.d (vI ((dg a).length:Nat))) rfl (by rw[hla];rfl) ?_
  refine gx (fu:=⟨2⟩) rfl<|?_
  refine eqF 33 (.d (vI ((dg b).length:Nat))) rfl (by rw[hlb];rfl) ?_
  refine gx rfl<|mk (fu:=⟨8⟩) ((List.replicate ((dg a).length+(dg b).length) 0).map dU) J J (by rw[←aeU];rfl) rfl<|?_
  refine eqF 37 (.d (vI ((dg a).length:Nat))) rfl (by rw[hla];rfl) ?_
  refine gx rfl<|?_
  refine lp (X:=List Nat×Nat) (fun⟨W,i⟩=>[(0, .d (dN a)),(1, .d (dN b)),(5, .rw 35),(36, .d (dN a)),(37, .d (vI ((dg a).length:Nat))),(38, .d (vI (i:Nat)))]) (fun⟨W,i⟩=>[(35,some (.b 262 1 (W.map dU) true))]) (fun⟨W,i⟩=>W.length=(dg a).length+(dg b).length∧DOk W∧i≤(dg a).length∧dv (W.take (i+(dg b).length))=dv ((dg a).take i)*b) (fun⟨W,i⟩=>(dg a).length-i) ⟨List.replicate ((dg a).length+(dg b).length) 0,0⟩ rfl ⟨by simp, .replicate _,by omega,by rw[List.take_replicate,acB];simp[dv]⟩ (fun _=>rfl) (fun⟨W,i⟩ hk=>?_)
  dsimp only at hk⊢
  obtain⟨h1,h2,h3,h4⟩:=hk
  refine br J J J (fun hc39=>?_) (fun hc39=>?_)
  ·
   refine ix (fu:=⟨15⟩) _ rfl (abd (by omega)) rfl<|?_
   refine eqF 44 (.d (vI ((dg b).length:Nat))) rfl (by rw[hlb];rfl) ?_
   refine gx rfl<|?_
   refine lp (X:=List Nat×Nat×Nat) (fun⟨W2,c,k⟩=>[(0, .d (dN a)),(1, .d (dN b)),(5, .rw 35),(6, .d (vI (i:Nat))),(7, .d (dU ((dg a).getD i 0))),(8, .d (.v (.int .u64 (c:Nat)))),(36, .d (dN a)),(37, .d (vI ((dg a).length:Nat))),(38, .d (vI (i:Nat))),(43, .d (dN b)),(44, .d (vI ((dg b).length:Nat))),(45, .d (vI (k:Nat)))]) (fun⟨W2,c,k⟩=>[(35,some (.b 262 1 (W2.map dU) true))]) (fun⟨W2,c,k⟩=>W2.length=(dg a).length+(dg b).length∧DOk W2∧c<4294967296∧k≤(dg b).length∧dv (W2.take (i+(dg b).length))+4294967296^(i+k)*c=dv ((dg a).take i)*b+(dg a).getD i 0*(4294967296^i*dv ((dg b).take k))) (fun⟨W2,c,k⟩=>(dg b).length-k) ⟨W,0,0⟩ rfl ⟨h1,h2,by omega,by omega,by rw[h4];simp[dv]⟩ (fun _=>rfl) (fun⟨W2,c,k⟩ hk=>?_)
   dsimp only at hk⊢
   obtain⟨g1,g2,g3,g4,g5⟩:=hk
   have hlw:=aaB W2
   have hw:=g2.get (i+k)
   have hda:=adt a i
   have hdb:=adt b k
   refine br (fu2:=⟨10⟩) J J J (fun hc46=>?_) (fun hc46=>?_)
   ·
    refine ix (fu:=⟨12⟩) (hv:=by simp only[aai];exact⟨⟨by omega,by omega⟩,⟨(ayy _ _),(ay5 (adt _ _) (adt _ _))⟩⟩) _ rfl (abd (by omega)) rfl<|?_
    obtain⟨p,hp⟩: ∃p,p=(dg a).getD i 0*(dg b).getD k 0:=⟨_,rfl⟩
    have hp1:p≤18446744065119617025:=hp▸avd hda hdb
    refine eqF 54 (.d (.v (.int .u64 (p:Nat)))) rfl (by rw[hp,Int.natCast_mul]) ?_
    refine gx rfl<|lb (fu:=⟨4⟩) _ rfl (aaC (k:=i+k) (by omega) (by omega)) rfl<|?_
    obtain⟨t,ht⟩: ∃t,t=p+W2.getD (i+k) 0+c:=⟨_,rfl⟩
    refine eqF 64 (.d (.v (.int .u64 (t:Nat)))) rfl (by congr 3;omega) ?_
    refine gx (fu:=⟨11⟩) rfl<|?_
    refine eqF 70 (.d (dU (t%4294967296))) rfl (by show FX.d (.v (.int _ _))= .d (.v (.int _ _));congr 3) ?_
    refine gx rfl<|sb (fu:=⟨5⟩) (hv:=by simp only[aai];exact(by decide)) _ ((W2.set (i+k) (t%4294967296)).map dU) rfl (aaC (k:=i+k) (by omega) (by omega)) rfl (by(rw[show((i:Int)+k).toNat=i+k by omega,←aef])<;>rfl) rfl<|?_
    refine eqF 73 (.d (.v (.int .u64 (t/4294967296:Nat)))) rfl (by rw[au0]) ?_
    refine gx rfl<|?_
    exact at_ ⟨W2.set (i+k) (t%4294967296),t/4294967296,k+1⟩ (by dsimp only;exact⟨⟨by simpa using g1,g2.set _ (by omega),by omega,by omega,by rw[aax];exact axr (by omega) (by omega) g5 ht hp⟩,(by omega)⟩)
   ·
    obtain rfl:k=(dg b).length:=by omega
    refine eqF 78 (.d (vI ((dg b).length:Nat))) rfl (by rw[hlb];rfl) ?_
    refine gx (fu:=⟨3⟩) rfl<|?_
    refine eqF 81 (.d (dU c)) rfl (by show FX.d (.v (.int _ _))= .d (.v (.int _ _));congr 3;omega) ?_
    refine gx rfl<|sb _ ((W2.set (i+(dg b).length) c).map dU) rfl (aaC (k:=i+(dg b).length) (by omega) (by omega)) rfl (by(rw[show((i:Int)+((dg b).length:Nat)).toNat=i+(dg b).length by omega,←aef])<;>rfl) rfl<|?_
    exact at_ ⟨W2.set (i+(dg b).length) c,i+1⟩ (by dsimp only;exact⟨⟨by simpa using g1,g2.set _ g3,by omega,ax8 rfl (by omega) g5⟩,(by omega)⟩)
  ·
   obtain rfl:i=(dg a).length:=by omega
   refine fz 35 J J<|cl rfl (agc (ds:=W) (by omega)) rfl<|?_
   exact rz rfl (aeR h2 (by have:=h4;rw[acp (by omega),acp (by omega),aaR] at this;exact this))
theorem alb(x s:Nat):x*2^s=x*2^s%4294967296+4294967296*(x*2^s/4294967296):=by omega
theorem azE{x s:Nat}(hx:x<4294967296)(hs:s<32):x*2^s/4294967296<2^s:=by
 rw[Nat.div_lt_iff_lt_mul (by decide),Nat.mul_comm (2^s)]
 exact Nat.mul_lt_mul_of_lt_of_le hx (Nat.le_refl _) (Nat.pow_pos (by decide))
theorem asq{s:Nat}(hs:s<32):2^s*2^(32-s)=4294967296:=by rw[←Nat.pow_add,show s+(32-s)=32 by omega]
theorem aBR(x s:Nat)(hs:s<32):x*2^s%4294967296=x%2^(32-s)*2^s:=by
 rw[←asq hs,Nat.mul_comm (2^s),Nat.mul_mod_mul_right]
theorem avU{x s:Nat}(hx:x<4294967296)(hs:s<32):x*2^s<18446744073709551616:=by
 have h1:2^s≤2^31:=Nat.pow_le_pow_right (by decide) (by omega)
 have:=Nat.mul_lt_mul_of_lt_of_le hx h1 (by decide)
 omega
theorem aBJ{w x s:Nat}(hw:w<2^s)(hs:s<32):(BitVec.ofInt 32 (w:Int) ||| BitVec.ofInt 32 ((x*2^s%4294967296:Nat):Int)).toNat=w+x*2^s%4294967296:=by
 rw[aBR x s hs]
 refine ars 32 _ _ _ hw ?_
 have h1:x%2^(32-s)+1≤2^(32-s):=Nat.mod_lt _ (Nat.pow_pos (by decide))
 have h2:=Nat.mul_le_mul_right (2^s) h1
 rw[Nat.mul_comm (2^(32-s)),asq hs,Nat.add_mul,Nat.one_mul] at h2
 show _<4294967296
 omega
theorem auK{h:Nat}(hh:h<4294967296):(BitVec.ofInt 32 ((0:Nat):Int) ||| BitVec.ofInt 32 (h:Int)).toNat=h:=by
 have:=ars 32 0 h 0 (by decide) (by simpa using hh)
 simpa using this
theorem avC(k:Nat):2^k=4294967296^(k/32)*2^(k%32):=by
 rw[show(4294967296:Nat)=2^32 from rfl,←Nat.pow_mul,←Nat.pow_add,Nat.div_add_mod]
theorem getD_set_ne{W:List Nat}{i j d:Nat}(h:i≠j):(W.set i d).getD j 0=W.getD j 0:=by
 rw[List.getD_eq_getElem?_getD,List.getD_eq_getElem?_getD,List.getElem?_set_ne h]
theorem ajS{W:List Nat}{i d:Nat}(h:i<W.length):(W.set i d).getD i 0=d:=by
 rw[List.getD_eq_getElem?_getD,List.getElem?_set_self h];rfl
theorem awM{A W:List Nat}{k q s i x:Nat}(hq:q=k/32)(hs:s=k%32)(hl:q+i+1<W.length)(hx:x=A.getD i 0)
  (h:dv (W.take (q+i+1))=dv (A.take i)*2^k):
  dv (((W.set (q+i) (W.getD (q+i) 0+x*2^s%4294967296)).set (q+i+1) (x*2^s/4294967296)).take (q+(i+1)+1))=dv (A.take (i+1))*2^k:=by
 have e1:=anc (W:=W) (j:=q+i) (m:=q+i+1) (d:=W.getD (q+i) 0+x*2^s%4294967296) (by omega) (by omega)
 rw[show q+(i+1)+1=q+i+1+1 by omega,abe (by rw[List.length_set];omega),aax A,←hx]
 have e2:dv ((W.set (q+i) (W.getD (q+i) 0+x*2^s%4294967296)).take (q+i+1))=dv (A.take i)*2^k+4294967296^(q+i)*(x*2^s%4294967296):=by
  rw[Nat.mul_add,h] at e1;omega
 rw[e2,Nat.pow_succ,Nat.mul_assoc,Nat.add_assoc,←Nat.mul_add,←alb,Nat.add_mul,avC k,←hq,←hs,Nat.pow_add]
 simp only[Nat.mul_assoc,Nat.mul_left_comm,Nat.mul_comm]
theorem aqm{a k ia:Nat}[ha:BN a ia](hk:k≤1000000000)(hi:ia≤1000000000:=by decide):PF GB Tryz.prog 277 [dN a,vI (k:Nat)] (dN (a*2^k)):=by
 have hla:=aaB (dg a)
 have hba:=adp ha.h hi
 refine fn (fu:=⟨9⟩) Tryz.func277 J J Tryz.ntmps277 J J (fun C=>?_)
 refine eqF 11 (.d (vI (k/32:Nat))) rfl (by show FX.d (.v (.int _ _))= .d (.v (.int _ _));rw[avg hk]) ?_
 refine gx (fu:=⟨2⟩) rfl<|?_
 refine eqF 13 (.d (vI ((dg a).length:Nat))) rfl (by rw[hla];rfl) ?_
 refine gx (fu:=⟨2⟩) rfl<|?_
 refine eqF 15 (.d (vI (k/32+(dg a).length+1:Nat))) rfl (by show FX.d (.v (.int _ _))= .d (.v (.int _ _));congr 3) ?_
 refine gx rfl<|mk (fu:=⟨7⟩) (hv:=by simp only[aai];exact(by decide)) ((List.replicate (k/32+(dg a).length+1) 0).map dU) J J (by rw[←aeU];rfl) rfl<|?_
 refine eqF 18 (.d (vI (k%32:Nat))) rfl (by show FX.d (.v (.int _ _))= .d (.v (.int _ _));rw[aCt]) ?_
 refine gx (fu:=⟨9⟩) rfl<|?_
 refine eqF 21 (.d (vI ((dg a).length:Nat))) rfl (by rw[hla];rfl) ?_
 refine gx rfl<|?_
 refine lp (X:=List Nat×Nat) (fun⟨W,i⟩=>[(0, .d (dN a)),(1, .d (vI (k:Nat))),(5, .rw 16),(6, .d (.v (.int .u64 (k%32:Nat)))),(20, .d (dN a)),(21, .d (vI ((dg a).length:Nat))),(22, .d (vI (i:Nat)))]) (fun⟨W,i⟩=>[(16,some (.b 262 1 (W.map dU) true))]) (fun⟨W,i⟩=>W.length=k/32+(dg a).length+1∧DOk W∧i≤(dg a).length∧dv (W.take (k/32+i+1))=dv ((dg a).take i)*2^k∧W.getD (k/32+i) 0<2^(k%32)∧ ∀j,k/32+i<j→W.getD j 0=0) (fun⟨W,i⟩=>(dg a).length-i) ⟨List.replicate (k/32+(dg a).length+1) 0,0⟩ rfl ⟨by simp, .replicate _,by omega,by rw[List.take_replicate,acB];simp[dv],by rw[apO];exact Nat.pow_pos (by decide),fun j _=>apO _ _⟩ (fun _=>rfl) (fun⟨W,i⟩ hk=>?_)
 dsimp only at hk⊢
 obtain⟨h1,h2,h3,h4,h5,h6⟩:=hk
 have hlw:=aaB W
 have hda:=adt a i
 have hsk:k%32<32:=Nat.mod_lt _ (by decide)
 have hpp:2^(k%32)≤2^31:=Nat.pow_le_pow_right (by decide) (by omega)
 refine br J J J (fun hc23=>?_) (fun hc23=>?_)
 ·
  refine ix (fu:=⟨11⟩) (hv:=by simp only[aai];exact⟨by omega,(by omega)⟩) _ rfl (abd (by omega)) rfl<|?_
  have hhi:=azE hda hsk
  have hfit0:=avU hda hsk
  have hor:=aBJ (x:=(dg a).getD i 0) h5 hsk
  have hfit:W.getD (k/32+i) 0+(dg a).getD i 0*2^(k%32)%4294967296<4294967296:=by rw[←hor];exact BitVec.isLt _
  have hlp:=alb ((dg a).getD i 0) (k%32)
  refine eqF 30 (.d (.v (.int .u64 ((dg a).getD i 0*2^(k%32):Nat)))) rfl (by show FX.d (.v (.int _ _))= .d (.v (.int _ _));rw[aem _ (k%32) (by omega) hfit0 (by omega)]) ?_
  obtain⟨t,ht⟩: ∃t,t=(dg a).getD i 0*2^(k%32):=⟨_,rfl⟩
  simp only[←ht] at hhi hfit0 hor hfit hlp
  rw[←ht]
  refine gx (fu:=⟨8⟩) rfl<|?_
  refine eqF 33 (.d (vI (k/32:Nat))) rfl (by show FX.d (.v (.int _ _))= .d (.v (.int _ _));rw[avg hk]) ?_
  refine gx rfl<|lb (fu:=⟨2⟩) _ rfl (aaC (k:=k/32+i) (by omega) (by omega)) rfl<|?_
  refine eqF 39 (.d (dU (t%4294967296))) rfl (by show FX.d (.v (.int _ _))= .d (.v (.int _ _));congr 3) ?_
  refine gx (fu:=⟨1⟩) rfl<|?_
  refine eqF 40 _ rfl (congrArg (fun z:Nat=>FX.d (.v (.int .u32 (z:Int)))) hor) ?_
  refine gx rfl<|sb (fu:=⟨6⟩) _ ((W.set (k/32+i) (W.getD (k/32+i) 0+t%4294967296)).map dU) rfl (aaC (k:=k/32+i) (by omega) (by omega)) rfl (by(rw[show(((k/32:Nat):Int)+i).toNat=k/32+i by omega];simp only[List.map_set];rfl)<;>rfl) rfl<|?_
  refine eqF 44 (.d (vI (k/32:Nat))) rfl (by show FX.d (.v (.int _ _))= .d (.v (.int _ _));rw[avg hk]) ?_
  refine gx rfl<|lb (fu:=⟨0⟩) _ rfl (aaC (k:=k/32+i+1) (by omega) (by rw[List.length_set];omega)) rfl<|?_
  refine eqF 49 (.d (dU 0)) rfl (by rw[getD_set_ne (by omega),h6 _ (by omega)]) ?_
  refine gx (fu:=⟨2⟩) (hv:=by simp only[aai];exact(by decide)) rfl<|?_
  refine eqF 51 (.d (.v (.int .u64 (t/4294967296:Nat)))) rfl (by rw[au0]) ?_
  refine gx (fu:=⟨1⟩) rfl<|?_
  refine eqF 52 (.d (dU (t/4294967296))) rfl (by show FX.d (.v (.int _ _))= .d (.v (.int _ _));congr 3;omega) ?_
  refine gx (fu:=⟨1⟩) rfl<|?_
  refine eqF 53 _ rfl (congrArg (fun z:Nat=>FX.d (.v (.int .u32 (z:Int)))) (auK (by omega))) ?_
  refine gx rfl<|sb _ (((W.set (k/32+i) (W.getD (k/32+i) 0+t%4294967296)).set (k/32+i+1) (t/4294967296)).map dU) rfl (aaC (k:=k/32+i+1) (by omega) (by rw[List.length_set];omega)) rfl (by(rw[show(((k/32:Nat):Int)+i+1).toNat=k/32+i+1 by omega];simp only[List.map_set];rfl)<;>rfl) rfl<|?_
  exact at_ ⟨(W.set (k/32+i) (W.getD (k/32+i) 0+t%4294967296)).set (k/32+i+1) (t/4294967296),i+1⟩ (by dsimp only;exact⟨⟨by simpa using h1,(h2.set _ hfit).set _ (by omega),by omega,by have q:=awM (x:=(dg a).getD i 0) J J (by omega) rfl h4;rw[←ht] at q;exact q,by rw[show k/32+(i+1)=k/32+i+1 by omega,ajS (by simp;omega)];exact hhi,fun j hj=>by rw[getD_set_ne (by omega),getD_set_ne (by omega)];exact h6 j (by omega)⟩,(by omega)⟩)
 ·
  obtain rfl:i=(dg a).length:=by omega
  refine fz 16 J J<|cl rfl (agc (ds:=W) (by omega)) rfl<|?_
  exact rz rfl (aeR h2 (by have:=h4;rw[acp (by omega),acp (by omega),aaR] at this;exact this))
theorem ary{a k:Nat}(h:(dg a).length≤k/32):a/2^k=0:=by
 refine Nat.div_eq_of_lt ?_
 have h1:=aeK (afg a)
 rw[aaR] at h1
 have h2:4294967296^(dg a).length≤4294967296^(k/32):=Nat.pow_le_pow_right (by decide) h
 have h3:4294967296^(k/32)*1≤4294967296^(k/32)*2^(k%32):=Nat.mul_le_mul_left _ (Nat.pow_pos (by decide))
 rw[avC k]
 omega
theorem amw{ds:List Nat}(h:DOk ds)(q:Nat):dv (ds.drop q)=dv ds/4294967296^q:=by
 rcases Nat.lt_or_ge ds.length q with hq|hq
 ·rw[List.drop_eq_nil_of_le (by omega)]
  have h1:=aeK h
  have h2:4294967296^ds.length≤4294967296^q:=Nat.pow_le_pow_right (by decide) (by omega)
  rw[Nat.div_eq_of_lt (by omega)];rfl
 ·have e:=aiE ds q hq
  have h1:=aeK (h.take q)
  rw[List.length_take,Nat.min_eq_left hq] at h1
  rw[e,Nat.add_mul_div_left _ _ (Nat.pow_pos (by decide)),Nat.div_eq_of_lt h1,Nat.zero_add]
theorem avh{ds:List Nat}(h:DOk ds)(i:Nat):dv ds/4294967296^i=ds.getD i 0+4294967296*ds.getD (i+1) 0+18446744073709551616*(dv ds/4294967296^(i+2)):=by
 have e0:=amw h i
 have e2:=amw h (i+2)
 rw[←e0,←e2]
 have g0:ds.getD i 0=(ds.drop i).getD 0 0:=by rw[List.getD_eq_getElem?_getD,List.getD_eq_getElem?_getD,List.getElem?_drop];rfl
 have g1:ds.getD (i+1) 0=(ds.drop i).getD 1 0:=by rw[List.getD_eq_getElem?_getD,List.getD_eq_getElem?_getD,List.getElem?_drop]
 have g2:ds.drop (i+2)=(ds.drop i).drop 2:=by rw[List.drop_drop]
 rw[g0,g1,g2]
 match ds.drop i with
 |[]=>rfl
 |[u]=>simp[dv]
 |u::v::t=>simp only[dv,List.getD_cons_zero,List.getD_cons_succ,List.drop_succ_cons,List.drop_zero];omega
theorem arz{D s i u v w Z:Nat}(hs:s<32)(hZ:D/4294967296^i=u+4294967296*v+18446744073709551616*Z)(hw:w=(u+v*4294967296)/2^s%4294967296):(D/2^s)%4294967296^(i+1)=(D/2^s)%4294967296^i+4294967296^i*w:=by
 rw[Nat.pow_succ,Nat.mod_mul]
 congr 2
 rw[Nat.div_div_eq_div_mul,Nat.mul_comm (2^s),←Nat.div_div_eq_div_mul,hZ,hw]
 have h1:18446744073709551616=2^s*(2^(32-s)*4294967296):=by rw[←Nat.mul_assoc,asq hs]
 rw[h1,Nat.mul_assoc (2^s),Nat.add_mul_div_left _ _ (Nat.pow_pos (by decide)),Nat.mul_comm v]
 rw[Nat.mul_comm (2^(32-s)),Nat.mul_assoc,Nat.add_mul_mod_self_left]
theorem aup{a k:Nat}{W:List Nat}{q s:Nat}(hq:q=k/32)(hs:s=k%32)(hl:W.length=(dg a).length-q)(h:dv (W.take ((dg a).length-q))=(dv ((dg a).drop q)/2^s)%4294967296^((dg a).length-q)):dv W=a/2^k:=by
 rw[acp (by omega)] at h
 have h1:=aeK ((afg a).drop q)
 rw[List.length_drop] at h1
 have h2:=Nat.div_le_self (dv ((dg a).drop q)) (2^s)
 rw[h,Nat.mod_eq_of_lt (by omega),amw (afg a),aaR,avC k,←hq,←hs,Nat.div_div_eq_div_mul]
theorem azK{a k ia:Nat}[ha:BN a ia](hk:k≤1000000000)(hi:ia≤1000000000:=by decide):PF GB Tryz.prog 278 [dN a,vI (k:Nat)] (dN (a/2^k)):=by
 have hla:=aaB (dg a)
 have hba:=adp ha.h hi
 refine fn (fu:=⟨10⟩) Tryz.func278 J J Tryz.ntmps278 J J (fun C=>?_)
 refine eqF 12 (.d (vI (k/32:Nat))) rfl (by show FX.d (.v (.int _ _))= .d (.v (.int _ _));rw[avg hk]) ?_
 refine gx (fu:=⟨2⟩) rfl<|?_
 refine eqF 14 (.d (vI ((dg a).length:Nat))) rfl (by rw[hla];rfl) ?_
 refine gx rfl<|?_
 refine br (fu2:=⟨6⟩) (v2:=fun _=>by simp only[aai];exact(by decide)) J J J (fun hc15=>?_) (fun hc15=>?_)
 ·
  exact rz rfl (by rw[ary (by omega),adv];rfl)
 ·
  refine eqF 17 (.d (vI (k%32:Nat))) rfl (by show FX.d (.v (.int _ _))= .d (.v (.int _ _));rw[aCt]) ?_
  refine gx (fu:=⟨9⟩) rfl<|?_
  refine eqF 21 (.d (vI (k/32:Nat))) rfl (by show FX.d (.v (.int _ _))= .d (.v (.int _ _));rw[avg hk]) ?_
  refine gx rfl<|sc' (fu:=⟨0⟩) (k/32) (dg a).length _ J J (by rw[hla]) rfl (an8 _) (by omega) (by omega) rfl<|?_
  obtain⟨I,hI⟩: ∃I,I=(dg a).drop (k/32):=⟨_,rfl⟩
  have hIl:I.length=(dg a).length-k/32:=by rw[hI,List.length_drop]
  have hIm:=aaB I
  have hIo:DOk I:=hI▸(afg a).drop _
  refine eqF 22 (.d (dLi I)) rfl (by show FX.d (.sl _)= .d (.sl _);rw[hI,←hla,List.take_length,List.map_drop]) ?_
  refine gx (fu:=⟨7⟩) rfl<|?_
  refine eqF 24 (.d (vI (I.length:Nat))) rfl (by rw[hIm];rfl) ?_
  refine gx rfl<|mk (fu:=⟨8⟩) ((List.replicate I.length 0).map dU) J J (by rw[←aeU];rfl) rfl<|?_
  refine eqF 27 (.d (vI (I.length:Nat))) rfl (by rw[hIm];rfl) ?_
  refine gx rfl<|?_
  refine lp (X:=List Nat×Nat) (fun⟨W,i⟩=>[(0, .d (dN a)),(5, .d (.v (.int .u64 (k%32:Nat)))),(6, .d (dLi I)),(7, .rw 25),(26, .d (dLi I)),(27, .d (vI (I.length:Nat))),(28, .d (vI (i:Nat)))]) (fun⟨W,i⟩=>[(25,some (.b 262 1 (W.map dU) true))]) (fun⟨W,i⟩=>W.length=I.length∧DOk W∧i≤I.length∧dv (W.take i)=(dv I/2^(k%32))%4294967296^i) (fun⟨W,i⟩=>I.length-i) ⟨List.replicate I.length 0,0⟩ rfl ⟨by simp, .replicate _,by omega,by simp[dv,Nat.mod_one]⟩ (fun _=>rfl) (fun⟨W,i⟩ hk=>?_)
  dsimp only at hk⊢
  obtain⟨h1,h2,h3,h4⟩:=hk
  have hlw:=aaB W
  have hda:=hIo.get i
  have hdb:=hIo.get (i+1)
  have hsk:k%32<32:=Nat.mod_lt _ (by decide)
  refine br J J J (fun hc29=>?_) (fun hc29=>?_)
  ·
   refine ix (fu:=⟨13⟩) _ rfl (abd (by omega)) rfl<|?_
   refine mg (fu:=⟨6⟩) (hv:=fun _ _=>by simp only[aai];exact(by omega)) (X:=Unit) (fun _=>[(0, .d (dN a)),(5, .d (.v (.int .u64 (k%32:Nat)))),(6, .d (dLi I)),(7, .rw 25),(26, .d (dLi I)),(27, .d (vI (I.length:Nat))),(28, .d (vI (i:Nat))),(8, .d (vI (i:Nat))),(10, .d (.v (.int .u64 (I.getD i 0+I.getD (i+1) 0*4294967296:Nat))))]) (fun _=>[(25,some (.b 262 1 (W.map dU) true))]) (fun _=>True) [0,5,6,7,26,27,28,8,10] [25] rfl ?_ (fun _=>rfl) (fun _ hm=>?_)
   ·
    refine gx (fu:=⟨6⟩) rfl<|?_
    refine eqF 38 (.d (vI (I.length:Nat))) rfl (by rw[hIm];rfl) ?_
    refine gx rfl<|?_
    refine br J J J (fun hc39=>?_) (fun hc39=>?_)
    ·
     refine ix (fu:=⟨3⟩) (hv:=by simp only[aai];exact⟨by omega,(by decide)⟩) _ rfl (aaC (k:=i+1) (by omega) (by omega)) rfl<|?_
     refine eqF 47 (.d (.v (.int .u64 (I.getD (i+1) 0*4294967296:Nat)))) rfl (by show FX.d (.v (.int _ _))= .d (.v (.int _ _));rw[aem _ 32 (by decide) (by show _*4294967296<_;omega) rfl]) ?_
     refine gx (fu:=⟨1⟩) rfl<|?_
     refine eqF 48 _ rfl (congrArg (fun z:Nat=>FX.d (.v (.int .u64 (z:Int)))) (ars 64 (I.getD i 0) (I.getD (i+1) 0) 32 hda (by show _+_*4294967296<18446744073709551616;omega))) ?_
     refine gx rfl<|?_
     exact at_ () trivial
    ·
     refine eqF 10 (.d (.v (.int .u64 (I.getD i 0+I.getD (i+1) 0*4294967296:Nat)))) rfl (by rw[aed (by omega:I.length≤i+1),Nat.zero_mul,Nat.add_zero]) ?_
     exact at_ () trivial
   ·
    refine eqF 53 (.d (.v (.int .u64 ((I.getD i 0+I.getD (i+1) 0*4294967296)/2^(k%32):Nat)))) rfl (by show FX.d (.v (.int _ _))= .d (.v (.int _ _));rw[aeX _ (k%32) (by omega) (by omega)]) ?_
    refine gx (fu:=⟨1⟩) rfl<|?_
    obtain⟨w,hw⟩: ∃w,w=(I.getD i 0+I.getD (i+1) 0*4294967296)/2^(k%32)%4294967296:=⟨_,rfl⟩
    have hw1:w<4294967296:=hw▸Nat.mod_lt _ (by decide)
    refine eqF 54 (.d (dU w)) rfl (by show FX.d (.v (.int _ _))= .d (.v (.int _ _));rw[hw];congr 3) ?_
    refine gx rfl<|sb _ ((W.set i w).map dU) rfl (abd (by omega)) rfl (by(rw[←aef];rfl)<;>rfl) rfl<|?_
    exact at_ ⟨W.set i w,i+1⟩ (by dsimp only;exact⟨⟨by simpa using h1,h2.set _ (by omega),by omega,by rw[abe (by omega),h4];exact(arz hsk (avh hIo i) hw).symm⟩,(by omega)⟩)
  ·
   refine fz 25 J J<|cl rfl (agc (ds:=W) (by omega)) rfl<|?_
   exact rz rfl (aeR h2 (by obtain rfl:i=I.length:=(by omega);rw[hIl] at h1 h4;rw[hI] at h4;exact aup rfl rfl h1 h4))
theorem ahb{a k:Nat}(h:a<4294967296^k):(dg a).length≤k:=by
 rcases Nat.lt_or_ge k (dg a).length with q|q
 ·have h1:=agf (aaG a).2.2 (by intro e;rw[e] at q;simp at q)
  rw[aaR] at h1
  have h2:4294967296^k≤4294967296^((dg a).length-1):=Nat.pow_le_pow_right (by decide) (by omega)
  omega
 ·exact q
theorem awn{a:Nat}(h:(dg a).length=2):(dg a).getD 0 0+(dg a).getD 1 0*4294967296=a:=by
 have e:=aaR a
 revert e
 match dg a,h with
 |[x,y],_=>intro e;simp[dv] at e⊢;omega
def asl(a:Nat):DV:= .tp [.v (.int .u64 ((if a<18446744073709551616 then a else 0:Nat):Int)),vB (decide (a<18446744073709551616))]
theorem aq1{a:Nat}(h:a<18446744073709551616):asl a= .tp [.v (.int .u64 (a:Int)),vB true]:=by unfold asl;rw[if_pos h,decide_eq_true h]
theorem awS{a:Nat}(h: ¬a<18446744073709551616):asl a= .tp [.v (.int .u64 0),vB false]:=by unfold asl;rw[if_neg h,decide_eq_false h];rfl
theorem ade(a:Nat):a<4294967296^(dg a).length:=by have:=aeK (afg a);rwa [aaR] at this
theorem aqh{a ia:Nat}[ha:BN a ia](hi:ia≤1000000000:=by decide):PF GB Tryz.prog 242 [dN a] (asl a):=by
 have hla:=aaB (dg a)
 have hba:=adp ha.h hi
 have hlt:=ade a
 have hd00:=adt a 0
 refine fn (fu:=⟨11⟩) Tryz.func242 J J Tryz.ntmps242 J J (fun C=>?_)
 refine eqF 5 (.d (vI ((dg a).length:Nat))) rfl (by rw[hla];rfl) ?_
 refine gx rfl<|?_
 refine br J J J (fun hc6=>?_) (fun hc6=>?_)
 ·
  exact rz rfl (by rw[show(dg a).length=0 by omega] at hlt;obtain rfl:a=0:=(by omega);rfl)
 ·
  refine br J J J (fun hc8=>?_) (fun hc8=>?_)
  ·
   refine ix (fu:=⟨2⟩) _ rfl (aaC (k:=0) rfl (by omega)) rfl<|?_
   refine eqF 13 (.d (.v (.int .u64 (a:Nat)))) rfl (by rw[acA (by omega)]) ?_
   refine gx rfl<|?_
   exact rz rfl (by rw[show(dg a).length=1 by omega] at hlt;rw[aq1 (by omega),←acA (a:=a) (by omega),acA (a:=a) (by omega)];rfl)
  ·
   refine br J J J (fun hc14=>?_) (fun hc14=>?_)
   ·
    have hd0:=adt a 0
    have hd1:=adt a 1
    refine ix (hv:=by simp only[aai];exact⟨by omega,(by decide)⟩) _ rfl (aaC (k:=1) rfl (by omega)) rfl<|ix (fu:=⟨3⟩) _ rfl (aaC (k:=0) rfl (by omega)) rfl<|?_
    refine eqF 25 (.d (.v (.int .u64 (a:Nat)))) rfl (congrArg (fun z:Nat=>FX.d (.v (.int .u64 (z:Int)))) (by rw[aem _ 32 (by decide) (by show _*4294967296<_;omega) rfl,BitVec.or_comm];exact(ars 64 ((dg a).getD 0 0) ((dg a).getD 1 0) 32 hd0 (by show _+_*4294967296<18446744073709551616;omega)).trans (awn (by omega)))) ?_
    refine gx rfl<|?_
    exact rz rfl (by rw[show(dg a).length=2 by omega] at hlt;rw[aq1 (by omega)];rfl)
   ·
    exact rz rfl (by rw[awS];rfl;intro h;have:=ahb (a:=a) (k:=2) (by omega);omega)
theorem aD3{G:Gh}{ds:List Nat}{v:Value}(hd:DOk ds)(h:Is G (dLi ds) v): ∃x:SV,v=x.v∧IsD G x ds:=by
 obtain⟨x,rfl,h1⟩:=aDI.1 h
 exact⟨x,rfl,hd,h1⟩
theorem IsN.is{G:Gh}{k n:Nat}{z:SV}(h:IsN k G z n):Is G (dN n) z.v:=(aFN h.lt).2 ⟨z,rfl,h⟩
theorem op1{G:Gh}{ds:List Nat}{vs:List Value}(hd:DOk ds)(h:IsLs G [dLi ds] vs): ∃x:SV,vs=[x.v]∧IsD G x ds:=by
 obtain⟨v,m,rfl,h1,h2⟩:=aab.1 h
 cases aaJ.1 h2
 obtain⟨x,rfl,h3⟩:=aD3 hd h1
 exact⟨x,rfl,h3⟩
theorem op2{G:Gh}{a b:Nat}{vs:List Value}(h:IsLs G [dN a,dN b] vs): ∃x y:SV,vs=[x.v,y.v]∧IsD G x (dg a)∧IsD G y (dg b):=by
 obtain⟨v,m,rfl,h1,h2⟩:=aab.1 h
 obtain⟨y,rfl,h4⟩:=op1 (aaG b).2.1 h2
 obtain⟨x,rfl,h3⟩:=aD3 (aaG a).2.1 h1
 exact⟨x,y,rfl,h3,h4⟩
section
variable {GB:Gh} {a b i j:Nat}
theorem agU[h:BN a i](hi:i≤1000000000):(dg a).length≤31250001:=by have:=aa4 h.h;omega
theorem aw6{ds:List Nat}(hd:DOk ds)(hl:ds.length≤1125899906842624):PF GB Tryz.prog 285 [dLi ds] (vB (decide (Nrm ds))):=fun G vs _ hv=>by
 obtain⟨x,rfl,hx⟩:=op1 hd hv
 exact(arP hx hl).mono fun v G' _ h=>aaV.2 h
theorem aj6[h:BN a i](hi:i≤1000000000:=by decide):PF GB Tryz.prog 231 [dN a] (vI (bl a:Nat)):=fun G vs _ hv=>by
 obtain⟨x,rfl,hx⟩:=op1 (aaG a).2.1 hv
 have:=agU (a:=a) hi
 exact(awE hx (by omega)).mono fun v G' _ h=>aaV.2 (by rw[h,aaR])
theorem ak7[h:BN a i](hi:i≤1000000000:=by decide):PF GB Tryz.prog 237 [dN a] (dN a):=fun G vs _ hv=>by
 obtain⟨x,rfl,hx⟩:=op1 (aaG a).2.1 hv
 have:=agU (a:=a) hi
 refine(amc (k:=i) hx (by rw[aaR];exact h.h) (by omega)).mono fun v G' _ h=>?_
 obtain⟨z,rfl,h⟩:=h
 rw[aaR] at h;exact h.is
theorem ahu(h:a<18446744073709551616):PF GB Tryz.prog 238 [.v (.int .u64 (a:Nat))] (dN a):=fun G vs _ hv=>by
 obtain⟨v,m,rfl,h1,h2⟩:=aab.1 hv
 cases aaJ.1 h2
 rw[aaV.1 h1]
 refine(afr h).mono fun v G' _ h=>?_
 obtain⟨z,rfl,h⟩:=h
 exact h.is
theorem atF(h:a<18446744073709551616):PF GB Tryz.prog 235 [dN a] (.tp [.v (.int .u64 (a:Nat)),vB true]):=fun G vs _ hv=>by
 obtain⟨x,rfl,hx⟩:=op1 (aaG a).2.1 hv
 have:BN a 64:=⟨h⟩
 have:=agU (a:=a) (i:=64) (by decide)
 refine(alx hx (by omega)).mono fun v G' _ e=>?_
 rw[aaR,if_pos h,decide_eq_true h] at e
 subst e
 exact aeL.2 ⟨_,rfl, .cons (aaV.2 rfl) (.cons (aaV.2 rfl) .nil)⟩
theorem aFm[h:BN a i][k:BN b j](hi:i≤1000000000:=by decide)(hj:j≤1000000000:=by decide):PF GB Tryz.prog 269 [dN a,dN b] (dN (a+b)):=fun G vs _ hv=>by
 obtain⟨x,y,rfl,hx,hy⟩:=op2 hv
 have:=agU (a:=a) hi
 have:=agU (a:=b) hj
 refine(aAm (kk:=i+j+1) hx hy (by rw[aaR,aaR];exact afC h.h k.h) (by omega) (by omega)).mono fun v G' _ h=>?_
 obtain⟨z,rfl,h⟩:=h
 rw[aaR,aaR] at h;exact h.is
theorem aCU[h:BN a i][k:BN b j](hi:i≤1000000000:=by decide)(hj:j≤1000000000:=by decide):PF GB Tryz.prog 270 [dN a,dN b] (.tp [dN (a-b),vB (decide (b≤a))]):=fun G vs _ hv=>by
 obtain⟨x,y,rfl,hx,hy⟩:=op2 hv
 have:=agU (a:=a) hi
 have:=agU (a:=b) hj
 refine(aAE (kk:=i) hx hy (by rw[aaR];exact h.h) (by omega) (by omega)).mono fun v G' _ h=>?_
 obtain⟨z,rfl,h⟩:=h
 rw[aaR,aaR] at h⊢
 exact aeL.2 ⟨_,rfl, .cons h.is (.cons (aaV.2 rfl) .nil)⟩
theorem arx[h:BN a i][k:BN b j](hi:i≤1000000000:=by decide)(hj:j≤1000000000:=by decide):PF GB Tryz.prog 230 [dN a,dN b] (dN (a*b)):=fun G vs _ hv=>by
 obtain⟨x,y,rfl,hx,hy⟩:=op2 hv
 have:=agU (a:=a) hi
 have:=agU (a:=b) hj
 refine(azw (kk:=i+j) hx hy (by rw[aaR,aaR];exact abl h.h k.h) (by omega) (by omega)).mono fun v G' _ h=>?_
 obtain⟨z,rfl,h⟩:=h
 rw[aaR,aaR] at h;exact h.is
theorem apw[h:BN a i][k:BN b j](hb:0<b)(hi:i≤1000000000:=by decide)(hj:j≤1000000000:=by decide):PF GB Tryz.prog 233 [dN a,dN b] (.tp [dN (a/b),dN (a%b),vB true]):=fun G vs _ hv=>by
 obtain⟨x,y,rfl,hx,hy⟩:=op2 hv
 have:=agU (a:=a) hi
 have:=agU (a:=b) hj
 refine(ahL (k1:=i) (k2:=j) hx hy (by rw[aaR];exact hb) (by rw[aaR,aaR];exact Nat.lt_of_le_of_lt (Nat.div_le_self _ _) h.h) (by rw[aaR,aaR];exact Nat.lt_trans (Nat.mod_lt _ hb) k.h) (by omega) (by omega)).mono fun v G' _ h=>?_
 obtain⟨z,r,rfl,h,h'⟩:=h
 rw[aaR,aaR] at h h'
 exact aeL.2 ⟨_,rfl, .cons h.is (.cons h'.is (.cons (aaV.2 rfl) .nil))⟩
theorem aCm[h:BN a i][k:BN b j](hi:i≤1000000000:=by decide)(hj:j≤1000000000:=by decide):PF GB Tryz.prog 232 [dN a,dN b] (dN (Nat.gcd a b)):=fun G vs _ hv=>by
 obtain⟨x,y,rfl,hx,hy⟩:=op2 hv
 have:=agU (a:=a) hi
 have:=agU (a:=b) hj
 have e: ∀k',k'≤i+j→(2:Nat)^k'≤2^(i+j):=fun k' h=>Nat.pow_le_pow_right (by decide) h
 have:=e i (by omega)
 have:=e j (by omega)
 have:=h.h
 have:=k.h
 refine(aAx (k:=i+j) (k0:=i+j) hx hy (by rw[aaR];omega) (by rw[aaR];omega) (by omega) (by rw[aaR,aaR];exact apg h.h k.h) (by omega) (by omega)).mono fun v G' _ h=>?_
 obtain⟨z,rfl,h⟩:=h
 rw[aaR,aaR] at h;exact h.is
end
section
variable {GB:Gh} {C:Ctx} {n:Nat} {Q0:Exit→Act→World→Prop} {fr fr' fr1 fr2:FrX} {own own' own1 own2:OwX} {cf cf' cf1 cf2:Cf} {vc vc1 vc2:List Prop}
theorem rzI{fb:Func}{e:Exit}{ds:List DV}{rv:DV}(hr:axh tt fr own fb.results.toList=some ds)(hd: ∀G y,Is G (afQ ds) y→Is G rv y)(he:aEs e=true:=by rfl):CfS Tryz.prog GB C n (bodyPost Tryz.prog fb (amS C (fun v G'=>Is G' rv v))) fr own (.ex e []):=by
 refine⟨fun ρ G ov a w r=>?_⟩
 obtain⟨vs,h1,h2⟩:=apb r hr
 have hk:Is G rv (abO vs):=hd _ _ (aoI h2)
 cases e with
 |ret=>exact zD (C:=C) (n:=n) (fr:=frA a) (own:=ov) (G:=G) (K:=fun v G'=>Is G' rv v) h1 hk a w ⟨r.h,r.sz,aaQ a,r.df⟩
 |normal=>exact aqc (C:=C) (n:=n) (fr:=frA a) (own:=ov) (G:=G) (K:=fun v G'=>Is G' rv v) h1 hk a w ⟨r.h,r.sz,aaQ a,r.df⟩
 |_=>cases he
def cuA(fr:FrX)(cf:Cf):Option (Int×IntKind):=match opC fr cf with
 |some ⟨_, .convert t t' x,_,_,_,_⟩=>match abE tt t,abE tt t',evX (lkC fr cf) x with
  |some ⟨.int k,_,_,_⟩,some ⟨.int k',_,_,_⟩,some (.d (.v (.int j p)))=>bif kq k j then some (p,k') else none
  |_,_,_=>none
 |_=>none
theorem cu[fu:Fu]{p:Int}{k':IntKind}(u:Int)(h:cuA fr cf=some (p,k'))(e:k'.wrap p=u)(hgo:goA tt n fu.n fr own cf (.d (.v (.int k' u))) [] []=⟨vc,fr',own',cf'⟩)(k:CfS Tryz.prog GB C n Q0 fr' own' cf')
  (hv:aai vc:=by first|exact trivial|(simp only[aai];kernel_rfl)|(simp only[aai];omega)):CfS Tryz.prog GB C n Q0 fr own cf:=by
 unfold cuA at h
 split at h<;>try (cases h;done)
 rename_i hh
 split at h<;>try (cases h;done)
 rename_i k0 _ _ _ k1 _ _ _ j p0 hT hT' hx
 cases hk:kq k0 j with
 |false=>rw[hk] at h;cases h
 |true=>
  rw[hk,cond_true] at h;cases h;cases awb hk
  have:=ak3 (aca _ _ hT) rfl
  have:=ak3 (aca _ _ hT') rfl
  subst e
  refine us hh (.x1 hx fun ρ G ov a w y _ r h1 h2=>?_) hgo hv k
  rw[aaz] at h2;subst h2
  exact⟨_,aaz.2 rfl,alR h1⟩
def nuA(fr:FrX)(cf:Cf):Option (Int×IntKind):=match opC fr cf with
 |some ⟨_, .unOp .neg _ x,_,_,_,_⟩=>match evX (lkC fr cf) x with
  |some (.d (.v (.int j p)))=>some (p,j)
  |_=>none
 |_=>none
theorem nu[fu:Fu]{p:Int}{k':IntKind}(u:Int)(h:nuA fr cf=some (p,k'))(e:k'.wrap (0-p)=u)(hgo:goA tt n fu.n fr own cf (.d (.v (.int k' u))) [] []=⟨vc,fr',own',cf'⟩)(k:CfS Tryz.prog GB C n Q0 fr' own' cf')
  (hv:aai vc:=by first|exact trivial|(simp only[aai];kernel_rfl)|(simp only[aai];omega)):CfS Tryz.prog GB C n Q0 fr own cf:=by
 unfold nuA at h
 split at h<;>try (cases h;done)
 rename_i hh
 split at h<;>cases h
 rename_i hx
 subst e
 exact us hh (.x1 hx fun ρ G ov a w y _ r h1 h2=>by
  rw[aaz] at h2;subst h2
  exact⟨_,aaz.2 rfl,atC h1⟩) hgo hv k
end
theorem atP{x:Nat}:bl x=0↔x=0:=by
 have:= @ahv x 0
 simp at this;omega
theorem ahz{a:Nat}:0<(dg a).length↔0<a:=by
 have:= @ab2 a
 omega
def eS(neg:Bool)(a:Nat):DV:= .ag [.v (.bool neg),dN a]
theorem arb(neg:Bool)(a:Nat):eI (zv neg a)= .ag [.v (.bool (neg&&decide (0<a))),dN a]:=by unfold eI;rw[aeD,am1]
theorem aBK{n:Bool}{u:Nat}{b:Int}(h:n≠decide (b<0))(hle:b.natAbs≤u):zv n (u-b.natAbs)=zv n u+b:=by cases n<;>simp[zv] at* <;>omega
theorem aBQ{n:Bool}{u:Nat}{b:Int}(h:n≠decide (b<0))(hle:u≤b.natAbs):zv (decide (b<0)) (b.natAbs-u)=zv n u+b:=by cases n<;>simp[zv] at* <;>(try rw[if_pos h])<;>(try rw[if_neg (by omega)])<;>omega
theorem anR{neg:Bool}{ds:List Nat}(hd:DOk ds)(hl:ds.length≤1125899906842624):PF GB Tryz.prog 249 [.ag [.v (.bool neg),dLi ds]] (vB (decide (Nrm ds∧(neg=true→0<ds.length)))):=by
 refine fn Tryz.func249 J J Tryz.ntmps249 J J (fun C=>?_)
 refine cl rfl (aw6 hd hl) rfl<|?_
 refine csd 6 J J J (fun hg6=>?_) (fun hg6=>?_)
 ·
  refine csb 10 J J J (fun hg10=>?_) (fun hg10=>?_)
  ·
   exact rz rfl (by unfold vB;congr 2;simp_all [afQ])
  ·
   exact rz rfl (by unfold vB;congr 2;simp_all [afQ])
 ·
  exact rz rfl (by unfold vB;congr 2;simp_all [afQ])
theorem atx{n:Bool}{a i:Nat}[h:BN a i](hi:i≤1000000000:=by decide):PF GB Tryz.prog 185 [eS n a] (vI (zv n a).sign):=by
 refine fn Tryz.func185 J J Tryz.ntmps185 J J (fun C=>?_)
 refine cl rfl (aj6 (a:=a) hi) rfl<|?_
 refine br J J J (fun hc3=>?_) (fun hc3=>?_)
 ·
  exact rz rfl (by have:=atP.1 (Int.ofNat.inj hc3);subst this;cases n<;>rfl)
 ·
  refine bb J J J (fun hc8=>?_) (fun hc8=>?_)
  ·
   exact rz rfl (by subst hc8;rw[Int.sign_eq_neg_one_of_neg (by have:a≠0:=(fun e=>hc3 (by rw[e];rfl));simp[zv];omega)];rfl)
  ·
   exact rz rfl (by subst hc8;rw[Int.sign_eq_one_of_pos (by have:a≠0:=(fun e=>hc3 (by rw[e];rfl));simp[zv];omega)];rfl)
theorem ajr{m:Int}(h0: -9223372036854775808≤m)(h1:m≤9223372036854775807):PF GB Tryz.prog 183 [vI m] (eI m):=by
 refine fn (fu:=⟨8⟩) Tryz.func183 J J Tryz.ntmps183 J J (fun C=>?_)
 refine cu ((m%18446744073709551616:Int)) rfl (abV _) rfl<|?_
 refine br (fu1:=⟨2⟩) (fu2:=⟨0⟩) J J J (fun hc7=>?_) (fun hc7=>?_)
 ·
  refine nu ((m.natAbs:Nat)) rfl (by rw[abV];omega) rfl<|cl rfl (ahu (a:=m.natAbs) (by omega)) rfl<|?_
  exact rz J J
 ·
  refine eqF 3 (.d (.v (.int .u64 (m.natAbs:Nat)))) rfl (by congr 3;omega) ?_
  refine gx rfl<|cl rfl (ahu (a:=m.natAbs) (by omega)) rfl<|?_
  exact rz J J
theorem auG{n:Bool}{a:Nat}(h:a<4611686018427387904):PF GB Tryz.prog 234 [eS n a] (.tp [vI (zv n a),vB true]):=by
 refine fn Tryz.func234 J J Tryz.ntmps234 J J (fun C=>?_)
 refine cl (fu:=⟨2⟩) rfl (atF (a:=a) (by omega)) rfl<|knT J J J<|?_
 refine csb 18 J J J (fun hg18=>?_) (fun hg18=>?_)
 ·
  refine br (fu1:=⟨3⟩) J J J (fun hc12=>?_) (fun hc12=>?_)
  ·
   refine nu (fu:=⟨0⟩) (((18446744073709551616-a)%18446744073709551616:Int)) rfl (by rw[abV];omega) rfl<|cu (zv n a) rfl (by subst hg18;rw[aml];simp only[zv,if_true];omega) rfl<|?_
   exact rz J J
  ·
   exact absurd (by omega) hc12
 ·
  refine csb 32 J J J (fun hg32=>?_) (fun hg32=>?_)
  ·
   refine br J J J (fun hc25=>?_) (fun hc25=>?_)
   ·
    exact rz rfl (by subst hg18;rfl)
   ·
    exact absurd (by omega) hc25
  ·
   subst hg18;cases hg32
theorem ahM{neg:Bool}{a i:Nat}[h:BN a i](hi:i≤1000000000:=by decide):PF GB Tryz.prog 236 [eS neg a] (eI (zv neg a)):=by
 refine fn Tryz.func236 J J Tryz.ntmps236 J J (fun C=>?_)
 refine cl rfl (ak7 hi) rfl<|?_
 refine csb 9 J J J (fun hg9=>?_) (fun hg9=>?_)
 ·
  exact rz rfl (by rw[arb];simp[hg9,ahz,afQ])
 ·
  exact rz rfl (by rw[arb];simp[hg9,ahz,afQ])
theorem aiz{neg:Bool}{a:Nat}:PF GB Tryz.prog 268 [.v (.bool neg),dN a] (eI (zv neg a)):=by
 refine fn Tryz.func268 J J Tryz.ntmps268 J J (fun C=>?_)
 refine csb 6 J J J (fun hg6=>?_) (fun hg6=>?_)
 ·
  exact rz rfl (by rw[arb];simp[hg6,ahz,afQ])
 ·
  exact rz rfl (by rw[arb];simp[hg6,ahz,afQ])
theorem aCD{m:Int}{i:Nat}[h:BI m i](hi:i≤1000000000:=by decide):PF GB Tryz.prog 188 [eI m] (eI (-m)):=by
 refine fn Tryz.func188 J J Tryz.ntmps188 J J (fun C=>?_)
 refine cl rfl (ahM (neg:=!decide (m<0)) (a:=m.natAbs) hi) rfl<|?_
 exact rz rfl (by rw[aDT,adQ];rfl)
theorem atD{a b:Int}{i j:Nat}[h:BI a i][k:BI b j](hi:i≤1000000000:=by decide)(hj:j≤1000000000:=by decide):PF GB Tryz.prog 229 [eI a,eI b] (eI (a*b)):=by
 refine fn Tryz.func229 J J Tryz.ntmps229 J J (fun C=>?_)
 refine cl rfl (arx (a:=a.natAbs) (b:=b.natAbs) hi hj) rfl<|cl rfl aiz rfl<|?_
 exact rz rfl (by rw[show(!(decide (a<0)==decide (b<0)))=(decide (a<0) !=decide (b<0)) from rfl,ay7,adQ,adQ];rfl)
theorem azt{n1:Bool}{u:Nat}{b:Int}{i j:Nat}[h:BN u i][k:BI b j](hi:i≤1000000000:=by decide)(hj:j≤1000000000:=by decide):PF GB Tryz.prog 228 [eS n1 u,eI b] (eI (zv n1 u+b)):=by
 refine fn Tryz.func228 J J Tryz.ntmps228 J J (fun C=>?_)
 refine bb J J J (fun hc13=>?_) (fun hc13=>?_)
 ·
  refine cl rfl (aFm (b:=b.natAbs) hi hj) rfl<|cl rfl aiz rfl<|?_
  exact rz rfl (by rw[ao0,show n1=decide (b<0) from by simpa using hc13,adQ];rfl)
 ·
  refine cl rfl (aCU (b:=b.natAbs) hi hj) rfl<|?_
  refine bd J J J (fun hc30=>?_) (fun hc30=>?_)
  ·
   refine cl rfl aiz rfl<|?_
   exact rz rfl (by rw[aBK (by simpa using hc13) hc30];rfl)
  ·
   refine cl rfl (aCU (a:=b.natAbs) hj hi) rfl<|cl rfl aiz rfl<|?_
   exact rz rfl (by rw[aBQ (by simpa using hc13) (by omega)];rfl)
theorem aCT{a b:Int}{i j:Nat}[h:BI a i][k:BI b j](hi:i≤1000000000:=by decide)(hj:j≤1000000000:=by decide):PF GB Tryz.prog 228 [eI a,eI b] (eI (a+b)):=(azt (n1:=decide (a<0)) (u:=a.natAbs) hi hj).to (by rw[adQ])
def Big(q:Rat):Prop:= ¬(q.num.natAbs<4611686018427387904∧q.den<4611686018427387904)
instance (q:Rat):Decidable (Big q):=inferInstanceAs (Decidable (¬_))
def fn_(q:Rat):Int:=if Big q then 0 else q.num
def fd_(q:Rat):Int:=if Big q then 0 else(q.den:Int)-1
def fp_(q:Rat):DV:= .op (decide (Big q)) [.v (.bool (decide (q.num<0))),dN q.num.natAbs,dN q.den]
def eF(q:Rat):DV:= .ag [vI (fn_ q),vI (fd_ q),fp_ q]
abbrev bgT {q:Rat} (h:decide (Big q)=true):Big q:=of_decide_eq_true h
abbrev bgF {q:Rat} (h:decide (Big q)=false): ¬Big q:=of_decide_eq_false h
abbrev aG6 {q:Rat} (h: ¬decide (Big q)=false):Big q:=by simpa using h
abbrev arK {q:Rat} (h: ¬decide (Big q)=true): ¬Big q:=by simpa using h
theorem aqg{q:Rat}(h: ¬Big q):fn_ q=q.num:=if_neg h
theorem ar8{q:Rat}(h: ¬Big q):fd_ q=(q.den:Int)-1:=if_neg h
theorem adN{q:Rat}(h: ¬Big q):q.num.natAbs<4611686018427387904:=(Decidable.not_not.1 h).1
theorem adO{q:Rat}(h: ¬Big q):q.den<4611686018427387904:=(Decidable.not_not.1 h).2
theorem atJ{q:Rat}(h:Big q):q≠0:=fun e=>by subst e;exact h ⟨by decide,by decide⟩
theorem axw{q:Rat}{m d:Int}{r:DV}(h: ¬Big q)(h1:q.num=m)(h2:(q.den:Int)-1=d)(e:r= .ag [vI m,vI d, .v (.pointer none)])(G:Gh)(y:Value)(k:Is G r y):Is G (eF q) y:=by
 subst e h1 h2
 obtain⟨l,rfl,g⟩:=abL.1 k
 obtain⟨y1,l1,rfl,k1,g1⟩:=aab.1 g
 obtain⟨y2,l2,rfl,k2,g2⟩:=aab.1 g1
 obtain⟨y3,l3,rfl,k3,g3⟩:=aab.1 g2
 exact abL.2 ⟨_,rfl, .cons (by rw[aqg h];exact k1) (.cons (by rw[ar8 h];exact k2) (.cons (ape.2 (.inl ⟨decide_eq_false h,aaV.1 k3⟩)) g3))⟩
theorem aGd{q:Rat}{n:Bool}{a d:Nat}{r:DV}(h:Big q)(h1:decide (q.num<0)=n)(h2:q.num.natAbs=a)(h3:q.den=d)(e:r= .ag [vI 0,vI 0, .pt [.v (.bool n),dN a,dN d]])(G:Gh)(y:Value)(k:Is G r y):Is G (eF q) y:=by
 subst e h1 h2 h3
 obtain⟨l,rfl,g⟩:=abL.1 k
 obtain⟨y1,l1,rfl,k1,g1⟩:=aab.1 g
 obtain⟨y2,l2,rfl,k2,g2⟩:=aab.1 g1
 obtain⟨y3,l3,rfl,k3,g3⟩:=aab.1 g2
 exact abL.2 ⟨_,rfl, .cons (by unfold fn_;rw[if_pos h];exact k1) (.cons (by unfold fd_;rw[if_pos h];exact k2) (.cons (ape.2 (.inr ⟨decide_eq_true h,k3⟩)) g3))⟩
theorem aB0(G:Gh)(y:Value)(k:Is G (.ag [vI 0,vI 0, .v (.pointer none)]) y):Is G (eF 0) y:=axw (fun h=>atJ h rfl) J J J G y k
theorem aGg{m:Int}(h:m.natAbs<4611686018427387904)(G:Gh)(y:Value)(k:Is G (.ag [vI m,vI 0, .v (.pointer none)]) y):Is G (eF (m:Rat)) y:=
 axw (fun k=>k ⟨by simpa using h,by rw[Rat.den_intCast];decide⟩) (Rat.num_intCast m) (by rw[Rat.den_intCast];rfl) rfl G y k
theorem ayX{n:Bool}{a d:Nat}(hd:0<d):(mkRat (zv n a) d).num=zv n (a/Nat.gcd a d)∧(mkRat (zv n a) d).den=d/Nat.gcd a d:=by
 obtain⟨h1,h2⟩:=asw (m:=zv n a) hd
 rw[aeD] at h1 h2
 exact⟨by rw[h1,aEg (Nat.gcd_dvd_left _ _)],h2⟩
theorem aEc{n:Bool}{a d a' d':Nat}(hd:0<d)(ha:a'=a/Nat.gcd a d)(hd':d'=d/Nat.gcd a d)(h1:a'<4611686018427387904)(h2:d'<4611686018427387904)(G:Gh)(y:Value)(k:Is G (.ag [vI (zv n a'),vI ((d':Int)-1), .v (.pointer none)]) y):Is G (eF (mkRat (zv n a) d)) y:=by
 obtain⟨e1,e2⟩:=ayX (n:=n) (a:=a) hd
 rw[←ha] at e1;rw[←hd'] at e2
 exact axw (fun k=>k ⟨by rw[e1,aeD];exact h1,by rw[e2];exact h2⟩) e1 (by rw[e2]) rfl G y k
theorem av7{n:Bool}{a d a' d':Nat}(hd:0<d)(ha:a'=a/Nat.gcd a d)(hd':d'=d/Nat.gcd a d)(h: ¬(a'<4611686018427387904∧d'<4611686018427387904))(G:Gh)(y:Value)(k:Is G (.ag [vI 0,vI 0, .pt [.v (.bool (decide (zv n a'<0))),dN (zv n a').natAbs,dN d']]) y):Is G (eF (mkRat (zv n a) d)) y:=by
 obtain⟨e1,e2⟩:=ayX (n:=n) (a:=a) hd
 rw[←ha] at e1;rw[←hd'] at e2
 exact aGd (fun k=>h ⟨by rw[e1,aeD] at k;exact k.1,by rw[e2] at k;exact k.2⟩) (by rw[e1]) (by rw[e1]) e2 rfl G y k
theorem aGS{a d:Nat}(hd:0<d)(h: ¬(1:Int)<(bl (Nat.gcd a d):Nat)):Nat.gcd a d=1:=by
 have h1:Nat.gcd a d≠0:=fun e=>by rw[Nat.gcd_eq_zero_iff] at e;omega
 have h2:Nat.gcd a d<2^1:=ahv.1 (by omega)
 omega
theorem apM{x:Nat}:(((bl x:Nat):Int)≤62)↔x<4611686018427387904:=azD
theorem PF.ofI{P:Program}{f:FuncId}{ds ds':List DV}{r:DV}(h:PF GB P f ds r)(k: ∀G vs,IsLs G ds' vs→IsLs G ds vs):PF GB P f ds' r:=fun G vs hg hv=>h G vs hg (k G vs hv)
theorem ae6{n:Bool}{a d i j:Nat}[h:BN a i][k:BN d j](hi:i≤450000000:=by decide)(hj:j≤450000000:=by decide):PF GB Tryz.prog 182 [eS n a,dN d] (eF (mkRat (zv n a) d)):=by
 refine fn Tryz.func182 J J Tryz.ntmps182 J J (fun C=>?_)
 refine cl rfl (aj6 (a:=d) (by omega)) rfl<|?_
 refine cs 13 J J J (fun hg13=>?_) (fun hg13=>?_)
 ·
  exact rzI rfl (by obtain rfl:=atP.1 (Int.ofNat.inj hg13);rw[Rat.mkRat_zero];exact aB0)
 ·
  have hd0:0<d:=by have:= @atP d;omega
  have hg0:0<Nat.gcd a d:=Nat.gcd_pos_of_pos_right _ hd0
  refine cl rfl (atx (n:=n) (a:=a) (by omega)) rfl<|?_
  refine br J J J (fun hc17=>?_) (fun hc17=>?_)
  ·
   exact rzI rfl (by rw[Int.sign_eq_zero_iff_zero.1 hc17,Rat.zero_mkRat];exact aB0)
  ·
   refine cl rfl (aCm (a:=a) (b:=d) (by omega) (by omega)) rfl<|cl rfl (aj6 (a:=Nat.gcd a d) (i:=i+j) (by omega)) rfl<|?_
   refine br J J J (fun hc25=>?_) (fun hc25=>?_)
   ·
    obtain⟨a',ea⟩: ∃a',a'=a/Nat.gcd a d:=⟨_,rfl⟩
    obtain⟨d',ed⟩: ∃d',d'=d/Nat.gcd a d:=⟨_,rfl⟩
    have hba:BN a' i:=ea▸inferInstance
    have hbd:BN d' j:=ed▸inferInstance
    refine cl (fu:=⟨2⟩) rfl (apw (a:=a) (b:=Nat.gcd a d) (j:=i+j) hg0 (by omega) (by omega)) rfl<|?_
    refine eqF 31 (.d (dN a')) rfl (by rw[ea]) ?_
    refine gx rfl<|cl (fu:=⟨2⟩) rfl (apw (a:=d) (b:=Nat.gcd a d) (j:=i+j) hg0 (by omega) (by omega)) rfl<|?_
    refine eqF 39 (.d (dN d')) rfl (by rw[ed]) ?_
    refine gx rfl<|cl rfl (aj6 (h:=hba) (by omega)) rfl<|?_
    refine cs 46 J J J (fun hg46=>?_) (fun hg46=>?_)
    ·
     refine cl rfl (aj6 (h:=hbd) (by omega)) rfl<|?_
     refine br J J J (fun hc50=>?_) (fun hc50=>?_)
     ·
      have hs2:=apM.1 hc50
      refine cl rfl (auG (apM.1 hg46)) rfl<|cl rfl (atF (by have:=apM.1 hc50;omega)) rfl<|?_
      exact rzI rfl (aEc hd0 ea ed (apM.1 hg46) (apM.1 hc50))
     ·
      refine cl rfl (ahM (neg:=n) (h:=hba) (by omega)) rfl<|cl rfl (ak7 (h:=hbd) (by omega)) rfl<|fz 71 J J<|?_
      exact rzI rfl (av7 hd0 ea ed (fun e=>hc50 (apM.2 e.2)))
    ·
     refine cl rfl (ahM (neg:=n) (h:=hba) (by omega)) rfl<|cl rfl (ak7 (h:=hbd) (by omega)) rfl<|fz 71 J J<|?_
     exact rzI rfl (av7 hd0 ea ed (fun e=>hg46 (apM.2 e.1)))
   ·
    have hg1:=aGS hd0 hc25
    have ea:a=a/Nat.gcd a d:=by rw[hg1,Nat.div_one]
    have ed:d=d/Nat.gcd a d:=by rw[hg1,Nat.div_one]
    have hba:=h
    have hbd:=k
    refine cl rfl (aj6 (h:=hba) (by omega)) rfl<|?_
    refine cs 46 J J J (fun hg46=>?_) (fun hg46=>?_)
    ·
     refine cl rfl (aj6 (h:=hbd) (by omega)) rfl<|?_
     refine br J J J (fun hc50=>?_) (fun hc50=>?_)
     ·
      have hs2:=apM.1 hc50
      refine cl rfl (auG (apM.1 hg46)) rfl<|cl rfl (atF (by have:=apM.1 hc50;omega)) rfl<|?_
      exact rzI rfl (aEc hd0 ea ed (apM.1 hg46) (apM.1 hc50))
     ·
      refine cl rfl (ahM (neg:=n) (h:=hba) (by omega)) rfl<|cl rfl (ak7 (h:=hbd) (by omega)) rfl<|fz 71 J J<|?_
      exact rzI rfl (av7 hd0 ea ed (fun e=>hc50 (apM.2 e.2)))
    ·
     refine cl rfl (ahM (neg:=n) (h:=hba) (by omega)) rfl<|cl rfl (ak7 (h:=hbd) (by omega)) rfl<|fz 71 J J<|?_
     exact rzI rfl (av7 hd0 ea ed (fun e=>hg46 (apM.2 e.1)))
theorem aeN{m:Int}{i:Nat}[h:BI m i](hi:i≤400000000:=by decide):PF GB Tryz.prog 250 [eI m] (eF (m:Rat)):=by
 refine fn Tryz.func250 J J Tryz.ntmps250 J J (fun C=>?_)
 refine rf (fu:=⟨0⟩) J J<|?_
 refine eqF 4 (.d (dN 1)) rfl (by unfold dN;rw[aor];rfl) ?_
 refine gx rfl<|cl rfl (ae6 (n:=decide (m<0)) (a:=m.natAbs) (d:=1) (by omega)) rfl<|?_
 exact rz rfl (by rw[adQ,show mkRat m 1=(m:Rat) from Rat.mkRat_one ..];rfl)
theorem akK{q:Rat}:PF GB Tryz.prog 251 [eF q] (vB (decide (q=0))):=by
 refine fn Tryz.func251 J J Tryz.ntmps251 J J (fun C=>?_)
 refine cs 6 J J J (fun hg6=>?_) (fun hg6=>?_)
 ·
  exact rz rfl (by rw[aqg (bgF hg6)];show DV.v (.bool (decide _))= .v (.bool _);congr 2;exact decide_eq_decide.2 ⟨fun e=>Rat.num_eq_zero.1 e,fun e=>by rw[e];rfl⟩)
 ·
  exact rz rfl (by rw[decide_eq_false (atJ (aG6 hg6))];rfl)
theorem ava{m:Int}(h:m.natAbs<9223372036854775808):PF GB Tryz.prog 266 [vI m] (.v (.int .u64 (m.natAbs:Nat))):=by
 refine fn Tryz.func266 J J Tryz.ntmps266 J J (fun C=>?_)
 refine br J J J (fun hc4=>?_) (fun hc4=>?_)
 ·
  exact rz rfl (by show DV.v (.int _ _)=_;congr 2;omega)
 ·
  exact rz rfl (by show DV.v (.int _ _)=_;congr 2;omega)
theorem aje{q:Rat}{i:Nat}[h:BQ q i](hi:i≤900000000:=by decide):PF GB Tryz.prog 190 [eF q] (dN q.den):=by
 refine fn Tryz.func190 J J Tryz.ntmps190 J J (fun C=>?_)
 refine br (v1:=fun hc5=>by simp only[aai];exact hc5) (fu2:=⟨6⟩) J J J (fun hc5=>?_) (fun hc5=>?_)
 ·
  refine cl rfl (ak7 (a:=q.den) (by omega)) rfl<|?_
  exact rz J J
 ·
  have hd:=q.den_nz
  have hs:=adO (arK hc5)
  refine eqF 13 (.d (vI ((q.den:Int)-1))) rfl (by rw[ar8 (arK hc5)]) ?_
  refine gx (fu:=⟨2⟩) rfl<|?_
  refine eqF 15 (.d (.v (.int .u64 (q.den:Nat)))) rfl (by congr 3;omega) ?_
  refine gx rfl<|cl rfl (ahu (a:=q.den) (by omega)) rfl<|?_
  exact rz J J
theorem apt{q:Rat}{i:Nat}[h:BQ q i](hi:i≤900000000:=by decide):PF GB Tryz.prog 189 [eF q] (eI q.num):=by
 refine fn Tryz.func189 J J Tryz.ntmps189 J J (fun C=>?_)
 refine br (v1:=fun hc5=>by simp only[aai];exact hc5) (fu2:=⟨6⟩) J J J (fun hc5=>?_) (fun hc5=>?_)
 ·
  refine cl rfl (ahM (neg:=decide (q.num<0)) (a:=q.num.natAbs) (by omega)) rfl<|?_
  exact rz rfl (by rw[adQ];rfl)
 ·
  have hs:=adN (arK hc5)
  refine eqF 13 (.d (vI q.num)) rfl (by rw[aqg (arK hc5)]) ?_
  refine gx rfl<|cl rfl (ajr (by omega) (by omega)) rfl<|?_
  exact rz J J
theorem ag6{q:Rat}{i:Nat}[h:BQ q i](hi:i≤900000000:=by decide):PF GB Tryz.prog 119 [eF q] (eF (-q)):=by
 refine fn Tryz.func119 J J Tryz.ntmps119 J J (fun C=>?_)
 refine br (v1:=fun hc5=>by simp only[aai];exact hc5) (fu2:=⟨6⟩) J J J (fun hc5=>?_) (fun hc5=>?_)
 ·
  refine cl (fu:=⟨6⟩) (hv:=by simp only[aai];exact hc5) rfl (aCD (m:=q.num) (by omega)) rfl<|bxf J J<|?_
  exact rzI rfl (aGd (q:= -q) (fun k=>bgT hc5 (by rw[Rat.neg_num,Int.natAbs_neg,Rat.neg_den] at k;exact k)) (by rw[Rat.neg_num]) (by rw[Rat.neg_num]) (Rat.neg_den q) rfl)
 ·
  have hs:=adN (arK hc5)
  refine eqF 21 (.d (vI q.num)) rfl (by rw[aqg (arK hc5)]) ?_
  refine gx rfl<|?_
  exact rzI rfl (axw (q:= -q) (fun k=>k (by rw[Rat.neg_num,Int.natAbs_neg,Rat.neg_den];exact⟨hs,adO (arK hc5)⟩)) (by rw[Rat.neg_num]) (by rw[Rat.neg_den,ar8 (arK hc5)]) rfl)
theorem ads{q:Rat}{i:Nat}[h:BQ q i](hi:i≤900000000:=by decide):PF GB Tryz.prog 115 [eF q] (vI q.num.sign):=by
 refine fn Tryz.func115 J J Tryz.ntmps115 J J (fun C=>?_)
 refine br (v1:=fun hc3=>by simp only[aai];exact hc3) J J J (fun hc3=>?_) (fun hc3=>?_)
 ·
  refine cl rfl (atx (n:=decide (q.num<0)) (a:=q.num.natAbs) (by omega)) rfl<|?_
  exact rz rfl (by rw[adQ];rfl)
 ·
  have hs:=aqg (arK hc3)
  refine br J J J (fun hc13=>?_) (fun hc13=>?_)
  ·
   exact rz rfl (by rw[Int.sign_eq_neg_one_of_neg (by omega)];rfl)
  ·
   refine br J J J (fun hc17=>?_) (fun hc17=>?_)
   ·
    exact rz rfl (by rw[Int.sign_eq_one_of_pos (by omega)];rfl)
   ·
    exact rz rfl (by rw[show q.num=0 by omega];rfl)
theorem aAS{h l y:Nat}(hh:h<y)(hl:l<4294967296)(hy:y<4294967296):PF GB Tryz.prog 243 [.v (.int .u32 (h:Int)), .v (.int .u32 (l:Int)), .v (.int .u32 (y:Int))] (.tp [dU ((h*4294967296+l)/y),dU ((h*4294967296+l)%y)]):=by
 refine fn (fu:=⟨11⟩) Tryz.func243 J J Tryz.ntmps243 J J (fun C=>?_)
 refine kT 10 rfl (by omega) ?_
 refine gx (fu:=⟨4⟩) rfl<|?_
 refine kF 14 rfl (by omega) ?_
 refine gx (fu:=⟨11⟩) (hv:=by simp only[aai];exact⟨by omega,(by decide)⟩) rfl<|?_
 refine eqF 19 (.d (.v (.int .u64 (h*2^32:Nat)))) rfl (by show FX.d (.v (.int _ _))= .d (.v (.int _ _));rw[aem _ 32 (by decide) (by show _*4294967296<_;omega) rfl]) ?_
 refine gx (fu:=⟨3⟩) rfl<|?_
 refine eqF 22 (.d (.v (.int .u64 (l+h*2^32:Nat)))) rfl (congrArg (fun z:Nat=>FX.d (.v (.int .u64 (z:Int)))) (by rw[BitVec.or_comm];exact ars 64 l h 32 hl (by show _+_*4294967296<18446744073709551616;omega))) ?_
 obtain⟨t,ht⟩: ∃t,t=h*4294967296+l:=⟨_,rfl⟩
 have hq:t/y<4294967296:=by rw[Nat.div_lt_iff_lt_mul (by omega)];have:=Nat.mul_le_mul_left 4294967296 (show h+1≤y from hh);omega
 have hr:t%y<y:=Nat.mod_lt _ (by omega)
 refine eqF 22 (.d (.v (.int .u64 (t:Nat)))) rfl (by show FX.d (.v (.int _ _))= .d (.v (.int _ _));congr 3;rw[ht];omega) ?_
 refine gx (hv:=by simp only[aai];exact⟨⟨⟨⟨by omega,⟨(by omega),(by omega),(by omega)⟩⟩,by omega⟩,⟨(by omega),(by omega)⟩⟩,by kernel_rfl⟩) rfl<|?_
 exact rz rfl (by show DV.tp [.v (.int _ _), .v (.int _ _)]= .tp [.v (.int _ _), .v (.int _ _)];rw[←ht,←Int.natCast_ediv,←Int.natCast_emod];generalize t/y=q at*;generalize t%y=r at*;congr 4<;>(first|omega|(congr 3;omega)))
theorem aBU{A r i b:Nat}(d:Nat)(hb:0<b):(A*4294967296+d)/b=A/b*4294967296+(A%b*4294967296+d)/b∧(A*4294967296+d)%b=(A%b*4294967296+d)%b:=by
 have h:=Nat.div_add_mod A b
 have e:A*4294967296+d=(A%b*4294967296+d)+b*(A/b*4294967296):=by
  rw[←Nat.mul_assoc,Nat.add_right_comm,←Nat.add_mul,Nat.add_comm (A%b),h]
 rw[e,Nat.add_mul_div_left _ _ hb,Nat.add_mul_mod_self_left]
 exact⟨Nat.add_comm _ _,rfl⟩
theorem aqT{ds:List Nat}{i:Nat}(h:i<ds.length):dv (ds.drop i)=dv (ds.drop (i+1))*4294967296+ds.getD i 0:=by
 rw[List.drop_eq_getElem_cons h,List.getD_eq_getElem?_getD,List.getElem?_eq_getElem h]
 simp only[dv,Option.getD_some];omega
theorem ahU{W:List Nat}{i q:Nat}(h:i<W.length):dv ((W.set i q).drop i)=dv (W.drop (i+1))*4294967296+q:=by
 rw[aqT (by rw[List.length_set];exact h),List.drop_set_of_lt (by omega),ajS h]
theorem auE{a b k:Nat}{W:List Nat}(hb:0<b)(hk:k<(dg a).length)(hl:W.length=(dg a).length)(h:dv (W.drop (k+1))=dv ((dg a).drop (k+1))/b):
  dv ((W.set k ((dv ((dg a).drop (k+1))%b*4294967296+(dg a).getD k 0)/b)).drop k)=dv ((dg a).drop k)/b∧dv ((dg a).drop k)%b=(dv ((dg a).drop (k+1))%b*4294967296+(dg a).getD k 0)%b:=by
 have:=aBU (A:=dv ((dg a).drop (k+1))) (r:=0) (i:=0) ((dg a).getD k 0) hb
 rw[ahU (by omega),h,aqT hk,this.1,this.2]
 exact⟨rfl,rfl⟩
theorem afV{a b:Nat}:ahF a b<0↔a<b:=by unfold ahF;split<;>(try split)<;>omega
theorem agM{a b:Nat}:0<ahF a b↔b<a:=by unfold ahF;split<;>(try split)<;>omega
theorem aC3{x:Nat}(hx:x<4294967296):PF GB Tryz.prog 272 [dU x] (vI (32-(bl x:Int))):=by
 intro G vs hg hv
 obtain⟨v,m,rfl,h1,h2⟩:=aab.1 hv
 rw[aaJ] at h2;subst h2
 rw[aaV.1 h1]
 exact(ajB hx).mono fun v G' _ h=>aaV.2 h
theorem anG{a k:Nat}(h:4294967296^k≤a):k<(dg a).length:=by
 have h1:=ade a
 rcases Nat.lt_or_ge k (dg a).length with q|q
 ·exact q
 ·have:4294967296^(dg a).length≤4294967296^k:=Nat.pow_le_pow_right (by decide) q
  omega
theorem ayo{v L:Nat}(hL:L=(dg v).length)(h1:1≤L):(dg v).getD (L-1) 0=v/4294967296^(L-1)∧0<v/4294967296^(L-1):=by
 have h:=avh (afg v) (L-1)
 rw[aed (by omega:(dg v).length≤L-1+1),aaR,Nat.mul_zero,Nat.add_zero] at h
 have h2:=ade v
 rw[←hL] at h2
 rw[Nat.div_eq_of_lt (show v<4294967296^(L-1+2) from Nat.lt_of_lt_of_le h2 (Nat.pow_le_pow_right (by decide) (by omega))),Nat.mul_zero,Nat.add_zero] at h
 have h3:=agf (aaG v).2.2 (by intro e;rw[e] at hL;simp at hL;omega)
 rw[aaR,←hL] at h3
 exact⟨h.symm,Nat.div_pos h3 (Nat.pow_pos (by decide))⟩
theorem aoE{R n:Nat}(h1:1≤n)(h:R<4294967296^(n+1)):R/4294967296^(n-1)=(dg R).getD (n-1) 0+(dg R).getD n 0*4294967296:=by
 have e:=avh (afg R) (n-1)
 rw[aaR,show n-1+1=n by omega,Nat.div_eq_of_lt (show R<4294967296^(n-1+2) by rwa [show n-1+2=n+1 by omega]),Nat.mul_zero,Nat.add_zero,Nat.mul_comm] at e
 exact e
theorem awq{R v j L:Nat}(hL:L=(dg v).length)(h1:1≤L)(hR:R<v*4294967296^(j+1)):R/(v*4294967296^j)≤min (R/4294967296^(L+j-1)/(v/4294967296^(L-1))) 4294967295:=by
 have ht:=(ayo hL h1).2
 have hp:0<4294967296^j:=Nat.pow_pos (by decide)
 have hv0:0<v:=by
  rcases Nat.eq_zero_or_pos v with q|q
  ·subst q;simp at ht
  ·exact q
 have hvp:0<v*4294967296^j:=Nat.mul_pos hv0 hp
 refine Nat.le_min.2 ⟨?_,?_⟩
 ·rw[Nat.le_div_iff_mul_le ht,Nat.le_div_iff_mul_le (Nat.pow_pos (by decide))]
  have h3:v/4294967296^(L-1)*4294967296^(L-1)≤v:=Nat.div_mul_le_self _ _
  have h4:R/(v*4294967296^j)*(v*4294967296^j)≤R:=Nat.div_mul_le_self _ _
  rw[show L+j-1=L-1+j by omega,Nat.pow_add]
  calc R/(v*4294967296^j)*(v/4294967296^(L-1))*(4294967296^(L-1)*4294967296^j)
    =R/(v*4294967296^j)*((v/4294967296^(L-1)*4294967296^(L-1))*4294967296^j):=by simp only[Nat.mul_assoc]
   _≤R/(v*4294967296^j)*(v*4294967296^j):=Nat.mul_le_mul_left _ (Nat.mul_le_mul_right _ h3)
   _≤R:=h4
 ·have:R/(v*4294967296^j)<4294967296:=by
   rw[Nat.div_lt_iff_lt_mul hvp]
   rw[Nat.pow_succ] at hR
   rwa [Nat.mul_comm,Nat.mul_assoc]
  omega
theorem afX{R V g:Nat}(hV:0<V)(h:R<V*g):R/V<g:=by
 rw[Nat.div_lt_iff_lt_mul hV,Nat.mul_comm];exact h
theorem axZ{R V g:Nat}(hV:0<V)(h1:R/V≤g)(h2:V*g≤R):g=R/V:=by
 have:g≤R/V:=by rw[Nat.le_div_iff_mul_le hV,Nat.mul_comm];exact h2
 omega
theorem aqX{R0 R v j g:Nat}{W:List Nat}(hj:j<W.length)(h:R0=R+dv (W.drop (j+1))*4294967296^(j+1)*v)(hv:0<v*4294967296^j)(hg:g=R/(v*4294967296^j)):
  R0=(R-v*4294967296^j*g)+dv ((W.set j g).drop j)*4294967296^j*v∧R-v*4294967296^j*g<v*4294967296^j:=by
 have h1:=Nat.div_add_mod R (v*4294967296^j)
 have h2:=Nat.mod_lt R hv
 rw[←hg] at h1
 refine⟨?_,by omega⟩
 rw[ahU hj,Nat.add_mul,Nat.add_mul,h,Nat.pow_succ]
 have e:g*4294967296^j*v=v*4294967296^j*g:=by simp only[Nat.mul_assoc,Nat.mul_left_comm,Nat.mul_comm]
 have e2:dv (W.drop (j+1))*(4294967296^j*4294967296)*v=dv (W.drop (j+1))*4294967296*4294967296^j*v:=by simp only[Nat.mul_assoc,Nat.mul_left_comm,Nat.mul_comm]
 rw[e,e2]
 omega
theorem awh{a b s R:Nat}{D:Nat}(hR:R<b*2^s)(h:a*2^s=R+D*(b*2^s)):D=a/b∧R/2^s=a%b:=by
 have hp:0<2^s:=Nat.pow_pos (by decide)
 have hb:0<b:=by
  rcases Nat.eq_zero_or_pos b with q|q
  ·subst q;simp at hR
  ·exact q
 have h1:a=R/2^s+D*b:=by
  have:=congrArg (· /2^s) h
  rw[Nat.mul_div_cancel _ hp,←Nat.mul_assoc,Nat.add_mul_div_right _ _ hp] at this
  exact this
 have h2:R/2^s<b:=by rw[Nat.div_lt_iff_lt_mul hp];exact hR
 have h3:R/2^s+b*D=a:=by rw[Nat.mul_comm b];exact h1.symm
 have:=(Nat.div_mod_unique hb).2 ⟨h3,h2⟩
 exact⟨this.1.symm,this.2.symm⟩
theorem arF{a b s:Nat}(hl:(dg b).length≤(dg a).length)(h2:1≤(dg b).length):a*2^s<b*2^s*4294967296^((dg a).length-(dg b).length+1):=by
 have h1:=ade a
 have h3:=agf (aaG b).2.2 (by intro e;rw[e] at h2;simp at h2)
 rw[aaR] at h3
 have h4:4294967296^(dg a).length≤b*4294967296^((dg a).length-(dg b).length+1):=by
  rw[show(dg a).length=((dg b).length-1)+((dg a).length-(dg b).length+1) by omega,Nat.pow_add]
  rw[show(dg b).length-1+((dg a).length-(dg b).length+1)-(dg b).length+1=(dg a).length-(dg b).length+1 by omega]
  exact Nat.mul_le_mul_right _ h3
 rw[Nat.mul_right_comm]
 exact Nat.mul_lt_mul_of_pos_right (Nat.lt_of_lt_of_le h1 h4) (Nat.pow_pos (by decide))
theorem ayY(x j:Nat):x*2^(32*j)=x*4294967296^j:=by rw[Nat.pow_mul]
theorem aA5{R L j:Nat}(h:R<4294967296^(L+j+1))(h1:1≤L):R/4294967296^(L+j-1)<18446744073709551616:=by
 rw[Nat.div_lt_iff_lt_mul (Nat.pow_pos (by decide)),show(18446744073709551616:Nat)=4294967296^2 from rfl,←Nat.pow_add]
 rwa [show 2+(L+j-1)=L+j+1 by omega]
theorem awe{R v j L:Nat}(hL:L=(dg v).length)(hR:R<v*4294967296^(j+1)):R<4294967296^(L+j+1):=by
 have h:=ade v
 rw[←hL] at h
 rw[Nat.add_assoc,Nat.pow_add]
 exact Nat.lt_of_lt_of_le hR (Nat.mul_le_mul_right _ (Nat.le_of_lt h))
theorem aDm{a b ia ib:Nat}[ha:BN a ia][hb:BN b ib](hi:ia≤500000000)(hj:ib≤500000000)(h2:1≤(dg b).length)(hl:(dg b).length≤(dg a).length):PF GB Tryz.prog 244 [dN a,dN b] (.tp [dN (a/b),dN (a%b)]):=by
 have hla:=aaB (dg a)
 have hlb:=aaB (dg b)
 have hba:=aa4 ha.h
 have hba':(dg a).length≤20000000:=by omega
 refine fn Tryz.func244 J J Tryz.ntmps244 J J (fun C=>?_)
 refine ix _ rfl (aaC (k:=(dg b).length-1) (by omega) (by omega)) rfl<|cl (fu:=⟨0⟩) rfl (aC3 (adt b ((dg b).length-1))) rfl<|?_
 obtain⟨s,hs⟩: ∃s:Nat,s=32-bl ((dg b).getD ((dg b).length-1) 0):=⟨_,rfl⟩
 have hs32:s≤32:=by omega
 refine eqF 22 (.d (vI (s:Nat))) rfl (by show FX.d (.v (.int _ _))= .d (.v (.int _ _));congr 3;have:=ahv.2 (show(dg b).getD ((dg b).length-1) 0<2^32 from adt b _);omega) ?_
 refine gx rfl<|cl rfl (aqm (a:=b) (k:=s) (ia:=ib) (by omega) (by omega)) rfl<|cl (fu:=⟨0⟩) rfl (aqm (a:=a) (k:=s) (ia:=ia) (by omega) (by omega)) rfl<|?_
 obtain⟨v,hv⟩: ∃v,v=b*2^s:=⟨_,rfl⟩
 obtain⟨R0,hR0⟩: ∃R0,R0=a*2^s:=⟨_,rfl⟩
 refine eqF 25 (.d (dN v)) rfl (by rw[hv]) ?_
 refine eqF 28 (.d (dN R0)) rfl (by rw[hR0]) ?_
 obtain⟨L,hL⟩: ∃L,L=(dg v).length:=⟨_,rfl⟩
 have hlv:((dg v).map dU).length=L:=by rw[aaB,hL]
 have hps:2^s≤2^32:=Nat.pow_le_pow_right (by decide) hs32
 have hpp:0<2^s:=Nat.pow_pos (by decide)
 have hst:=arF (a:=a) (b:=b) (s:=s) hl h2
 rw[←hv,←hR0] at hst
 have hvb:v<2^(ib+32):=by rw[hv,Nat.pow_add];exact Nat.mul_lt_mul_of_lt_of_le hb.h hps (by decide)
 have hRb:R0<2^(ia+32):=by rw[hR0,Nat.pow_add];exact Nat.mul_lt_mul_of_lt_of_le ha.h hps (by decide)
 have hbp:0<b:=Nat.pos_of_ne_zero (fun q=>by subst q;rw[agj] at h2;simp at h2)
 have hvp:0<v:=hv▸Nat.mul_pos hbp hpp
 have hLp:1≤L:=by rw[hL];exact anG (k:=0) (by rw[Nat.pow_zero];exact hvp)
 have htop:=ayo hL hLp
 haveI hvB:BN v (ib+32):=⟨hvb⟩
 have hLb:=aa4 hvb
 have hLb':L≤20000000:=by omega
 have htl:=adt v (L-1)
 refine gx (fu:=⟨9⟩) rfl<|?_
 refine eqF 31 (.d (vI (L:Nat))) rfl (by rw[hlv];rfl) ?_
 refine gx rfl<|ix (fu:=⟨2⟩) _ rfl (aaC (k:=L-1) (by omega) (by omega)) rfl<|?_
 refine eqF 35 (.d (.v (.int .u64 (v/4294967296^(L-1):Nat)))) rfl (by rw[htop.1]) ?_
 rw[htop.1] at htl
 refine gx (fu:=⟨11⟩) rfl<|?_
 obtain⟨m,hm⟩: ∃m,m=(dg a).length-(dg b).length+1:=⟨_,rfl⟩
 rw[←hm] at hst
 have hrl:(List.replicate ((m:Nat):Int).toNat (DV.v (.int .u32 0))).length=m:=by rw[List.length_replicate,Int.toNat_natCast]
 refine eqF 41 (.d (vI (m:Nat))) rfl (by show FX.d (.v (.int _ _))= .d (.v (.int _ _));congr 3;omega) ?_
 refine gx rfl<|mk ((List.replicate m 0).map dU) J J (by rw[←aeU];rfl) rfl<|?_
 refine lp (X:=List Nat×Nat×Nat) (fun⟨W,R,k⟩=>[(6, .d (vI (s:Nat))),(7, .d (dN v)),(8, .d (dN R)),(9, .d (.v (.int .u64 (v/4294967296^(L-1):Nat)))),(10, .rw 42),(11, .d (vI ((k:Nat)-1)))]) (fun⟨W,R,k⟩=>[(42,some (.b 262 1 (W.map dU) true))]) (fun⟨W,R,k⟩=>W.length=m∧DOk W∧k≤m∧R0=R+dv (W.drop k)*4294967296^k*v∧R<v*4294967296^k∧R≤R0) (fun⟨W,R,k⟩=>k) ⟨List.replicate m 0,R0,m⟩ rfl ⟨by simp, .replicate _,Nat.le_refl _,by simp[dv],hst,Nat.le_refl _⟩ (fun _=>rfl) (fun⟨W,R,k⟩ hk=>?_)
 dsimp only at hk⊢
 obtain⟨h1,h2',h3,h4,h5,h6⟩:=hk
 have hlw:=aaB W
 refine br (fu1:=⟨10⟩) J J J (fun hc47=>?_) (fun hc47=>?_)
 ·
  obtain⟨j,rfl⟩: ∃j,k=j+1:=⟨k-1,by omega⟩
  have hvj:0<v*4294967296^j:=Nat.mul_pos hvp (Nat.pow_pos (by decide))
  have hge:=awq hL hLp h5
  have hlen:=awe hL h5
  have hlr:((dg R).map dU).length=(dg R).length:=aaB _
  haveI hRB:BN R (ia+32):=⟨by omega⟩
  have hq32:R/(v*4294967296^j)<4294967296:=by omega
  have hz1:=Int.natCast_nonneg (R/4294967296^(L+j-1))
  have hz2:=Int.natCast_nonneg (R/4294967296^(L+j-1)/(v/4294967296^(L-1)))
  refine eqF 11 (.d (vI (j:Nat))) rfl (by show FX.d (.v (.int _ _))= .d (.v (.int _ _));congr 3;omega) ?_
  refine mg (fu:=⟨6⟩) (hv:=fun _ _=>by simp only[aai];exact⟨(by omega),(by have:=aA5 hlen hLp;omega),(by omega)⟩) (X:=Unit) (fun _=>[(6, .d (vI (s:Nat))),(7, .d (dN v)),(8, .d (dN R)),(9, .d (.v (.int .u64 (v/4294967296^(L-1):Nat)))),(10, .rw 42),(11, .d (vI (j:Nat))),(12, .d (.v (.int .u64 (R/4294967296^(L+j-1):Nat))))]) (fun _=>[(42,some (.b 262 1 (W.map dU) true))]) (fun _=>True) [6,7,8,9,10,11,12] [42] rfl ?_ (fun _=>rfl) (fun _ hm=>?_)
  ·
   refine gx (fu:=⟨4⟩) rfl<|?_
   refine eqF 51 (.d (vI (L:Nat))) rfl (by rw[hlv];rfl) ?_
   refine gx (fu:=⟨2⟩) rfl<|?_
   refine eqF 53 (.d (vI (L+j:Nat))) rfl (by show FX.d (.v (.int _ _))= .d (.v (.int _ _));congr 3) ?_
   refine gx (fu:=⟨8⟩) rfl<|?_
   refine eqF 56 (.d (vI ((dg R).length:Nat))) rfl (by rw[hlr];rfl) ?_
   refine gx rfl<|?_
   refine br (fu2:=⟨6⟩) J J J (fun hc57=>?_) (fun hc57=>?_)
   ·
    have hd0:=adt R (L+j-1)
    have hd1:=adt R (L+j)
    refine ix (hv:=by simp only[aai];exact⟨⟨by omega,(by decide)⟩,by omega⟩) _ rfl (aaC (k:=L+j) (by omega) (by omega)) rfl<|ix (fu:=⟨3⟩) _ rfl (aaC (k:=L+j-1) (by omega) (by omega)) rfl<|?_
    refine eqF 70 (.d (.v (.int .u64 ((dg R).getD (L+j-1) 0+(dg R).getD (L+j) 0*4294967296:Nat)))) rfl (congrArg (fun z:Nat=>FX.d (.v (.int .u64 (z:Int)))) (by rw[aem _ 32 (by decide) (by show _*4294967296<_;omega) rfl,BitVec.or_comm];exact ars 64 ((dg R).getD (L+j-1) 0) ((dg R).getD (L+j) 0) 32 hd0 (by show _+_*4294967296<18446744073709551616;omega))) ?_
    refine gx rfl<|?_
    refine eqF 12 (.d (.v (.int .u64 (R/4294967296^(L+j-1):Nat)))) rfl (by rw[aoE (by omega) hlen]) ?_
    exact at_ () trivial
   ·
    refine eqF 74 (.d (vI ((dg R).length:Nat))) rfl (by rw[hlr];rfl) ?_
    refine gx rfl<|?_
    refine br J J J (fun hc75=>?_) (fun hc75=>?_)
    ·
     have hd0:=adt R (L+j-1)
     refine ix _ rfl (aaC (k:=L+j-1) (by omega) (by omega)) rfl<|?_
     refine eqF 12 (.d (.v (.int .u64 (R/4294967296^(L+j-1):Nat)))) rfl (by rw[aoE (by omega) hlen,aed (by omega:(dg R).length≤L+j),Nat.zero_mul,Nat.add_zero]) ?_
     exact at_ () trivial
    ·
     refine eqF 12 (.d (.v (.int .u64 (R/4294967296^(L+j-1):Nat)))) rfl (by rw[aoE (by omega) hlen,aed (by omega:(dg R).length≤L+j),aed (by omega:(dg R).length≤L+j-1)];rfl) ?_
     exact at_ () trivial
  ·
   obtain⟨g0,hg0'⟩: ∃g0,g0=min (R/4294967296^(L+j-1)/(v/4294967296^(L-1))) 4294967295:=⟨_,rfl⟩
   rw[←hg0'] at hge
   have hg0:=hge
   have hg1:g0≤4294967295:=by omega
   refine eqF 85 (.d (.v (.int .u64 (g0:Nat)))) rfl (by show FX.d (.v (.int _ _))= .d (.v (.int _ _));congr 3;rw[←Int.natCast_ediv];split<;>omega) ?_
   refine gx rfl<|cl rfl (ah3 (u:=g0) (by omega)) rfl<|cl (fu:=⟨2⟩) rfl (ack (ia:=ib+32) (ib:=32) (hb:=⟨by show _<4294967296;omega⟩) (by omega) (by decide)) rfl<|?_
   refine eqF 91 (.d (vI (32*j:Nat))) rfl (by show FX.d (.v (.int _ _))= .d (.v (.int _ _));congr 3) ?_
   refine gx rfl<|cl (fu:=⟨0⟩) rfl (aqm (k:=32*j) (ia:=ib+64) (ha:=⟨by rw[show ib+64=ib+32+32 by omega,Nat.pow_add];exact Nat.mul_lt_mul'' hvb (by show _<4294967296;omega)⟩) (by omega) (by omega)) rfl<|?_
   refine eqF 92 (.d (dN (v*4294967296^j*g0))) rfl (by rw[ayY,Nat.mul_right_comm]) ?_
   refine gx rfl<|?_
   refine lp (X:=Nat) (fun g=>[(6, .d (vI (s:Nat))),(7, .d (dN v)),(8, .d (dN R)),(9, .d (.v (.int .u64 (v/4294967296^(L-1):Nat)))),(10, .rw 42),(11, .d (vI (j:Nat))),(14, .d (.v (.int .u64 (g:Nat)))),(15, .d (dN (v*4294967296^j*g)))]) (fun g=>[(42,some (.b 262 1 (W.map dU) true))]) (fun g=>R/(v*4294967296^j)≤g∧g≤4294967295) (fun g=>g) g0 rfl ⟨hg0,by omega⟩ (fun _=>rfl) (fun g hk=>?_)
   obtain⟨g1,g2⟩:=hk
   have hlw:=aaB W
   refine cl rfl (at4 (a:=v*4294967296^j*g) (b:=R) (by have:=ahb (a:=v*4294967296^j*g) (k:=L+j+1) (by have h1:=ade v;rw[←hL] at h1;rw[Nat.pow_succ,Nat.pow_add];exact Nat.mul_lt_mul'' (Nat.mul_lt_mul_of_pos_right h1 (Nat.pow_pos (by decide))) (by omega));omega) (by have:=ahb hlen;omega)) rfl<|?_
   refine br (fu1:=⟨7⟩) (v1:=fun hc96=>by simp only[aai];exact(by have h:=afX hvj (agM.1 hc96);have h1:1≤g:=Nat.lt_of_le_of_lt (Nat.zero_le _) h;omega)) (fu2:=⟨11⟩) J J J (fun hc96=>?_) (fun hc96=>?_)
   ·
    have hgd:=afX hvj (agM.1 hc96)
    have hg1p:1≤g:=Nat.lt_of_le_of_lt (Nat.zero_le _) hgd
    refine eqF 98 (.d (.v (.int .u64 ((g-1:Nat):Int)))) rfl (by show FX.d (.v (.int _ _))= .d (.v (.int _ _));congr 3;omega) ?_
    refine gx rfl<|cl rfl (ah3 (u:=g-1) (by omega)) rfl<|cl (fu:=⟨2⟩) rfl (ack (ia:=ib+32) (ib:=32) (hb:=⟨by show _<4294967296;omega⟩) (by omega) (by decide)) rfl<|?_
    refine eqF 104 (.d (vI (32*j:Nat))) rfl (by show FX.d (.v (.int _ _))= .d (.v (.int _ _));congr 3) ?_
    refine gx rfl<|cl (fu:=⟨0⟩) rfl (aqm (k:=32*j) (ia:=ib+64) (ha:=⟨by rw[show ib+64=ib+32+32 by omega,Nat.pow_add];exact Nat.mul_lt_mul'' hvb (by show _<4294967296;omega)⟩) (by omega) (by omega)) rfl<|?_
    refine eqF 105 (.d (dN (v*4294967296^j*(g-1)))) rfl (by rw[ayY,Nat.mul_right_comm]) ?_
    refine gx rfl<|?_
    exact at_ (g-1) ⟨⟨by have h:=afX hvj (agM.1 hc96);omega,by omega⟩,(by have:=afX hvj (agM.1 hc96);omega)⟩
   ·
    have hgq:=axZ hvj g1 (Nat.le_of_not_lt fun q=>hc96 (agM.2 q))
    refine eqF 109 (.d (dU g)) rfl (by show FX.d (.v (.int _ _))= .d (.v (.int _ _));congr 3;omega) ?_
    refine gx rfl<|sb _ ((W.set j (R/(v*4294967296^j))).map dU) rfl (aaC (k:=j) (by omega) (by omega)) rfl (by(rw[←hgq,Int.toNat_natCast,←aef])<;>rfl) rfl<|?_
    refine cl (fu:=⟨0⟩) rfl (auc (a:=R) (b:=v*4294967296^j*g) (ia:=ia+32) (by rw[hgq];exact Nat.mul_div_le _ _) (by omega)) rfl<|?_
    refine eqF 113 (.d (dN (R-v*4294967296^j*(R/(v*4294967296^j))))) rfl (by rw[hgq]) ?_
    refine gx rfl<|?_
    exact at_ ⟨W.set j (R/(v*4294967296^j)),R-v*4294967296^j*(R/(v*4294967296^j)),j⟩ (by dsimp only;exact⟨⟨by simpa using h1,h2'.set _ (by omega),by omega,(aqX (by omega) h4 hvj rfl).1,(aqX (by omega) h4 hvj rfl).2,by omega⟩,(by omega)⟩)
 ·
  obtain rfl:k=0:=by omega
  rw[Nat.pow_zero,Nat.mul_one] at h5
  rw[Nat.pow_zero,Nat.mul_one,List.drop_zero,hR0,hv] at h4
  rw[hv] at h5
  have hend:=awh h5 h4
  haveI hRB:BN R (ia+32):=⟨by omega⟩
  refine fz 42 J J<|cl rfl (agc (ds:=W) (by omega)) rfl<|cl rfl (azK (a:=R) (k:=s) (ia:=ia+32) (by omega) (by omega)) rfl<|?_
  exact rz rfl (by show DV.tp [dLi _,dN _]= .tp [dN _,dN _];rw[aeR h2' hend.1,hend.2])
end Go.Sx
end
