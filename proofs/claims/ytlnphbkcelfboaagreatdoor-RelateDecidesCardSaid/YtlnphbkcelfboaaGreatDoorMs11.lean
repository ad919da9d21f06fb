/-
  Reference: natural numbers of any size: Product, Left, Right, word. The program's natural numbers as functions of deep values. The abstract machine: pointers that may be nil, numbers that wrap. The program's integers. The program's rational numbers. Reference: division of natural numbers of any size. Reference: Divide, Common; integers and fractions of any size. Package geo: intervals. Package geo: Sample, Cut, Cmp, Equal, half, Angle. Package geo: cells; part, Place. Package geo: Place, the order of sides, binary search. Binary search and insertion in rows of sides. Insertion into a row of sides. Package geo: Clip, Divide. Package geo: Divide. Package bsp: trees in memory; Leaf, New, Join, Restrict, Reduce, Depth. Package bsp: the reader of trees. Package bsp: Of, and lines in the form of package api. Package bsp: trees written for package api. Package bsp: Parts; package reduce: read, Reduce; package cells: parts.
-/
import Derived.Test.YtlnphbkcelfboaaGreatDoorMs10
set_option linter.unusedSimpArgs false
set_option linter.unusedVariables false
section
set_option maxRecDepth 100000
namespace Go.Sx
open Go Go.Proofs
theorem bv_or(n:Nat)(a b k:Nat)(ha:a<2^k)(h:a+b*2^k<2^n):(BitVec.ofInt n (a:Int) ||| BitVec.ofInt n ((b*2^k:Nat):Int)).toNat=a+b*2^k:=by
 rw[BitVec.toNat_or,BitVec.ofInt_natCast,BitVec.ofInt_natCast,BitVec.toNat_ofNat,BitVec.toNat_ofNat,Nat.mod_eq_of_lt (by omega),Nat.mod_eq_of_lt (by omega)]
 rw[←Nat.shiftLeft_eq,Nat.or_comm,←Nat.shiftLeft_add_eq_or_of_lt ha,Nat.shiftLeft_eq]
 omega
theorem mul_bd{x y:Nat}(hx:x<4294967296)(hy:y<4294967296):x*y≤18446744065119617025:=by
 have:=Nat.mul_le_mul (by omega:x≤4294967295) (by omega:y≤4294967295)
 exact this
theorem mul_lo(x y:Nat):(0:Int)≤(x:Int)*(y:Int):=by rw[←Int.natCast_mul];omega
theorem mul_hi{x y:Nat}(hx:x<4294967296)(hy:y<4294967296):(x:Int)*(y:Int)≤18446744073709551615:=by
 have:=mul_bd hx hy
 rw[←Int.natCast_mul];omega
theorem dv_one{ds:List Nat}(h:ds.length=1):dv ds=ds.getD 0 0:=by
 match ds,h with
 |[d],_=>simp[dv]
theorem dg_one_digit{a:Nat}(h:(dg a).length=1):(dg a).getD 0 0=a:=by rw[←dv_one h,dv_dg]
theorem getD_take{ds:List Nat}{j m:Nat}(h:j<m):(ds.take m).getD j 0=ds.getD j 0:=by
 rw[List.getD_eq_getElem?_getD,List.getD_eq_getElem?_getD,List.getElem?_take,if_pos h]
theorem dv_set_in{W:List Nat}{j m d:Nat}(hj:j<m)(hm:m≤W.length):dv ((W.set j d).take m)+4294967296^j*W.getD j 0=dv (W.take m)+4294967296^j*d:=by
 rw[List.take_set,←getD_take (ds:=W) hj]
 exact dv_set _ _ _ (by rw[List.length_take];omega)
theorem prod_inv{W:List Nat}{P X Y m i k c y t S:Nat}(hk:i+k<m)(hm:m≤W.length)(h:dv (W.take m)+4294967296^(i+k)*c=P+X*(4294967296^i*S))(ht:t=Y+W.getD (i+k) 0+c)(hY:Y=X*y):
  dv ((W.set (i+k) (t%4294967296)).take m)+4294967296^(i+(k+1))*(t/4294967296)=P+X*(4294967296^i*(S+4294967296^k*y)):=by
 have h1:=dv_set_in (W:=W) (d:=t%4294967296) hk hm
 rw[ht,show Y+W.getD (i+k) 0+c=c+Y+W.getD (i+k) 0 by omega] at h1⊢
 have h2:=mul_step h1 h
 rw[←Nat.add_assoc,Nat.pow_succ,h2,hY,Nat.pow_add]
 simp only[Nat.mul_add,Nat.mul_assoc,Nat.mul_left_comm,Nat.mul_comm,Nat.add_assoc]
theorem prod_end{a b:Nat}{W:List Nat}{i c lb:Nat}(hlb:lb=(dg b).length)(hl:i+lb<W.length)(h:dv (W.take (i+lb))+4294967296^(i+lb)*c=dv ((dg a).take i)*b+(dg a).getD i 0*(4294967296^i*dv ((dg b).take lb))):
  dv ((W.set (i+lb) c).take (i+1+lb))=dv ((dg a).take (i+1))*b:=by
 rw[show i+1+lb=i+lb+1 by omega,dv_set_take hl,h,dv_take_succ,take_all (ds:=dg b) (by omega),dv_dg b,Nat.add_mul]
 simp only[Nat.mul_assoc,Nat.mul_left_comm,Nat.mul_comm]
theorem rep_getD(n j:Nat):(List.replicate n 0).getD j 0=0:=by
 rw[List.getD_eq_getElem?_getD,List.getElem?_replicate]
 split<;>rfl
theorem quo32{k:Nat}(h:k≤1000000000):IntKind.i64.wrap ((k:Int).tdiv 32)=((k/32:Nat):Int):=by
 rw[show(k:Int).tdiv 32=((k/32:Nat):Int) from rfl,wrap_i64];omega
theorem rem32(k:Nat):(k:Int).tmod 32=((k%32:Nat):Int):=rfl
set_option maxHeartbeats 2000000 in
theorem q_Product{GB:Gh}{a b ia ib:Nat}[ha:BN a ia][hb:BN b ib](hi:ia≤1000000000:=by decide)(hj:ib≤1000000000:=by decide):PF GB Tryz.prog 120 [dN a,dN b] (dN (a*b)):=by
 have hla:=mapU_len (dg a)
 have hlb:=mapU_len (dg b)
 have hba:=dg_len_bd ha.h hi
 have hbb:=dg_len_bd hb.h hj
 refine fn (fu:=⟨6⟩) Tryz.func120 J J Tryz.ntmps120 J J (fun C=>?_)
 refine mg (fu:=⟨4⟩) (X:=Unit) (fun _=>[(0, .d (dN a)),(1, .d (dN b))]) (fun _=>[]) (fun _=>True) [0,1] [] rfl ?_ (fun _=>rfl) (fun _ hm=>?_)
 ·
  refine gx rfl<|?_
  refine cs 15 J J J (fun hg15=>?_) (fun hg15=>?_)
  ·
   refine br J J J (fun hc19=>?_) (fun hc19=>?_)
   ·
    have hd0:=dg_lt a 0
    have hd1:=dg_lt b 0
    refine ix _ rfl (mapU_getZ (k:=0) rfl (by omega)) rfl<|ix (hv:=by simp only[allP];exact⟨by omega,⟨(mul_lo _ _),(mul_hi (dg_lt _ _) (dg_lt _ _))⟩⟩) _ rfl (mapU_getZ (k:=0) rfl (by omega)) rfl<|cl rfl (q_Word (u:=(dg a).getD 0 0*(dg b).getD 0 0) (by have:=mul_bd (dg_lt a 0) (dg_lt b 0);omega)) rfl<|?_
    exact rz rfl (by rw[dg_one_digit (by omega),dg_one_digit (by omega)];rfl)
   ·
    exact at_ () trivial
  ·
   exact at_ () trivial
 ·
  refine eqF 31 (.d (vI ((dg a).length:Nat))) rfl (by rw[hla];rfl) ?_
  refine gx (fu:=⟨2⟩) rfl<|?_
  refine eqF 33 (.d (vI ((dg b).length:Nat))) rfl (by rw[hlb];rfl) ?_
  refine gx rfl<|mk (fu:=⟨8⟩) ((List.replicate ((dg a).length+(dg b).length) 0).map dU) J J (by rw[←mapU_rep];rfl) rfl<|?_
  refine eqF 37 (.d (vI ((dg a).length:Nat))) rfl (by rw[hla];rfl) ?_
  refine gx rfl<|?_
  refine lp (X:=List Nat×Nat) (fun⟨W,i⟩=>[(0, .d (dN a)),(1, .d (dN b)),(5, .rw 35),(36, .d (dN a)),(37, .d (vI ((dg a).length:Nat))),(38, .d (vI (i:Nat)))]) (fun⟨W,i⟩=>[(35,some (.b 279 1 (W.map dU) true))]) (fun⟨W,i⟩=>W.length=(dg a).length+(dg b).length∧DOk W∧i≤(dg a).length∧dv (W.take (i+(dg b).length))=dv ((dg a).take i)*b) (fun⟨W,i⟩=>(dg a).length-i) ⟨List.replicate ((dg a).length+(dg b).length) 0,0⟩ rfl ⟨by simp, .replicate _,by omega,by rw[List.take_replicate,dv_replicate];simp[dv]⟩ (fun _=>rfl) (fun⟨W,i⟩ hk=>?_)
  dsimp only at hk⊢
  obtain⟨h1,h2,h3,h4⟩:=hk
  refine br J J J (fun hc39=>?_) (fun hc39=>?_)
  ·
   refine ix (fu:=⟨15⟩) _ rfl (mapU_getI (by omega)) rfl<|?_
   refine eqF 44 (.d (vI ((dg b).length:Nat))) rfl (by rw[hlb];rfl) ?_
   refine gx rfl<|?_
   refine lp (X:=List Nat×Nat×Nat) (fun⟨W2,c,k⟩=>[(0, .d (dN a)),(1, .d (dN b)),(5, .rw 35),(6, .d (vI (i:Nat))),(7, .d (dU ((dg a).getD i 0))),(8, .d (.v (.int .u64 (c:Nat)))),(36, .d (dN a)),(37, .d (vI ((dg a).length:Nat))),(38, .d (vI (i:Nat))),(43, .d (dN b)),(44, .d (vI ((dg b).length:Nat))),(45, .d (vI (k:Nat)))]) (fun⟨W2,c,k⟩=>[(35,some (.b 279 1 (W2.map dU) true))]) (fun⟨W2,c,k⟩=>W2.length=(dg a).length+(dg b).length∧DOk W2∧c<4294967296∧k≤(dg b).length∧dv (W2.take (i+(dg b).length))+4294967296^(i+k)*c=dv ((dg a).take i)*b+(dg a).getD i 0*(4294967296^i*dv ((dg b).take k))) (fun⟨W2,c,k⟩=>(dg b).length-k) ⟨W,0,0⟩ rfl ⟨h1,h2,by omega,by omega,by rw[h4];simp[dv]⟩ (fun _=>rfl) (fun⟨W2,c,k⟩ hk=>?_)
   dsimp only at hk⊢
   obtain⟨g1,g2,g3,g4,g5⟩:=hk
   have hlw:=mapU_len W2
   have hw:=g2.get (i+k)
   have hda:=dg_lt a i
   have hdb:=dg_lt b k
   refine br (fu2:=⟨10⟩) J J J (fun hc46=>?_) (fun hc46=>?_)
   ·
    refine ix (fu:=⟨12⟩) (hv:=by simp only[allP];exact⟨⟨by omega,by omega⟩,⟨(mul_lo _ _),(mul_hi (dg_lt _ _) (dg_lt _ _))⟩⟩) _ rfl (mapU_getI (by omega)) rfl<|?_
    obtain⟨p,hp⟩: ∃p,p=(dg a).getD i 0*(dg b).getD k 0:=⟨_,rfl⟩
    have hp1:p≤18446744065119617025:=hp▸mul_bd hda hdb
    refine eqF 54 (.d (.v (.int .u64 (p:Nat)))) rfl (by rw[hp,Int.natCast_mul]) ?_
    refine gx rfl<|lb (fu:=⟨4⟩) _ rfl (mapU_getZ (k:=i+k) (by omega) (by omega)) rfl<|?_
    obtain⟨t,ht⟩: ∃t,t=p+W2.getD (i+k) 0+c:=⟨_,rfl⟩
    refine eqF 64 (.d (.v (.int .u64 (t:Nat)))) rfl (by congr 3;omega) ?_
    refine gx (fu:=⟨11⟩) rfl<|?_
    refine eqF 70 (.d (dU (t%4294967296))) rfl (by show FX.d (.v (.int _ _))= .d (.v (.int _ _));congr 3) ?_
    refine gx rfl<|sb (fu:=⟨5⟩) (hv:=by simp only[allP];exact(by decide)) _ ((W2.set (i+k) (t%4294967296)).map dU) rfl (mapU_getZ (k:=i+k) (by omega) (by omega)) rfl (by(rw[show((i:Int)+k).toNat=i+k by omega,←mapU_set])<;>rfl) rfl<|?_
    refine eqF 73 (.d (.v (.int .u64 (t/4294967296:Nat)))) rfl (by rw[fdiv32]) ?_
    refine gx rfl<|?_
    exact at_ ⟨W2.set (i+k) (t%4294967296),t/4294967296,k+1⟩ (by dsimp only;exact⟨⟨by simpa using g1,g2.set _ (by omega),by omega,by omega,by rw[dv_take_succ];exact prod_inv (by omega) (by omega) g5 ht hp⟩,(by omega)⟩)
   ·
    obtain rfl:k=(dg b).length:=by omega
    refine eqF 78 (.d (vI ((dg b).length:Nat))) rfl (by rw[hlb];rfl) ?_
    refine gx (fu:=⟨3⟩) rfl<|?_
    refine eqF 81 (.d (dU c)) rfl (by show FX.d (.v (.int _ _))= .d (.v (.int _ _));congr 3;omega) ?_
    refine gx rfl<|sb _ ((W2.set (i+(dg b).length) c).map dU) rfl (mapU_getZ (k:=i+(dg b).length) (by omega) (by omega)) rfl (by(rw[show((i:Int)+((dg b).length:Nat)).toNat=i+(dg b).length by omega,←mapU_set])<;>rfl) rfl<|?_
    exact at_ ⟨W2.set (i+(dg b).length) c,i+1⟩ (by dsimp only;exact⟨⟨by simpa using g1,g2.set _ g3,by omega,prod_end rfl (by omega) g5⟩,(by omega)⟩)
  ·
   obtain rfl:i=(dg a).length:=by omega
   refine fz 35 J J<|cl rfl (q_Trim (ds:=W) (by omega)) rfl<|?_
   exact rz rfl (dL_trim h2 (by have:=h4;rw[take_all (by omega),take_all (by omega),dv_dg] at this;exact this))
theorem left_parts(x s:Nat):x*2^s=x*2^s%4294967296+4294967296*(x*2^s/4294967296):=by omega
theorem left_hi{x s:Nat}(hx:x<4294967296)(hs:s<32):x*2^s/4294967296<2^s:=by
 rw[Nat.div_lt_iff_lt_mul (by decide),Nat.mul_comm (2^s)]
 exact Nat.mul_lt_mul_of_lt_of_le hx (Nat.le_refl _) (Nat.pow_pos (by decide))
theorem pow32s{s:Nat}(hs:s<32):2^s*2^(32-s)=4294967296:=by rw[←Nat.pow_add,show s+(32-s)=32 by omega]
theorem left_lo(x s:Nat)(hs:s<32):x*2^s%4294967296=x%2^(32-s)*2^s:=by
 rw[←pow32s hs,Nat.mul_comm (2^s),Nat.mul_mod_mul_right]
theorem left_fit{x s:Nat}(hx:x<4294967296)(hs:s<32):x*2^s<18446744073709551616:=by
 have h1:2^s≤2^31:=Nat.pow_le_pow_right (by decide) (by omega)
 have:=Nat.mul_lt_mul_of_lt_of_le hx h1 (by decide)
 omega
theorem left_or{w x s:Nat}(hw:w<2^s)(hs:s<32):(BitVec.ofInt 32 (w:Int) ||| BitVec.ofInt 32 ((x*2^s%4294967296:Nat):Int)).toNat=w+x*2^s%4294967296:=by
 rw[left_lo x s hs]
 refine bv_or 32 _ _ _ hw ?_
 have h1:x%2^(32-s)+1≤2^(32-s):=Nat.mod_lt _ (Nat.pow_pos (by decide))
 have h2:=Nat.mul_le_mul_right (2^s) h1
 rw[Nat.mul_comm (2^(32-s)),pow32s hs,Nat.add_mul,Nat.one_mul] at h2
 show _<4294967296
 omega
theorem or_zero32{h:Nat}(hh:h<4294967296):(BitVec.ofInt 32 ((0:Nat):Int) ||| BitVec.ofInt 32 (h:Int)).toNat=h:=by
 have:=bv_or 32 0 h 0 (by decide) (by simpa using hh)
 simpa using this
theorem pow32k(k:Nat):2^k=4294967296^(k/32)*2^(k%32):=by
 rw[show(4294967296:Nat)=2^32 from rfl,←Nat.pow_mul,←Nat.pow_add,Nat.div_add_mod]
theorem getD_set_ne{W:List Nat}{i j d:Nat}(h:i≠j):(W.set i d).getD j 0=W.getD j 0:=by
 rw[List.getD_eq_getElem?_getD,List.getD_eq_getElem?_getD,List.getElem?_set_ne h]
theorem getD_set_eq{W:List Nat}{i d:Nat}(h:i<W.length):(W.set i d).getD i 0=d:=by
 rw[List.getD_eq_getElem?_getD,List.getElem?_set_self h];rfl
theorem left_inv{A W:List Nat}{k q s i x:Nat}(hq:q=k/32)(hs:s=k%32)(hl:q+i+1<W.length)(hx:x=A.getD i 0)
  (h:dv (W.take (q+i+1))=dv (A.take i)*2^k):
  dv (((W.set (q+i) (W.getD (q+i) 0+x*2^s%4294967296)).set (q+i+1) (x*2^s/4294967296)).take (q+(i+1)+1))=dv (A.take (i+1))*2^k:=by
 have e1:=dv_set_in (W:=W) (j:=q+i) (m:=q+i+1) (d:=W.getD (q+i) 0+x*2^s%4294967296) (by omega) (by omega)
 rw[show q+(i+1)+1=q+i+1+1 by omega,dv_set_take (by rw[List.length_set];omega),dv_take_succ A,←hx]
 have e2:dv ((W.set (q+i) (W.getD (q+i) 0+x*2^s%4294967296)).take (q+i+1))=dv (A.take i)*2^k+4294967296^(q+i)*(x*2^s%4294967296):=by
  rw[Nat.mul_add,h] at e1;omega
 rw[e2,Nat.pow_succ,Nat.mul_assoc,Nat.add_assoc,←Nat.mul_add,←left_parts,Nat.add_mul,pow32k k,←hq,←hs,Nat.pow_add]
 simp only[Nat.mul_assoc,Nat.mul_left_comm,Nat.mul_comm]
set_option maxHeartbeats 2000000 in
theorem q_Left{GB:Gh}{a k ia:Nat}[ha:BN a ia](hk:k≤1000000000)(hi:ia≤1000000000:=by decide):PF GB Tryz.prog 269 [dN a,vI (k:Nat)] (dN (a*2^k)):=by
 have hla:=mapU_len (dg a)
 have hba:=dg_len_bd ha.h hi
 refine fn (fu:=⟨9⟩) Tryz.func269 J J Tryz.ntmps269 J J (fun C=>?_)
 refine eqF 11 (.d (vI (k/32:Nat))) rfl (by show FX.d (.v (.int _ _))= .d (.v (.int _ _));rw[quo32 hk]) ?_
 refine gx (fu:=⟨2⟩) rfl<|?_
 refine eqF 13 (.d (vI ((dg a).length:Nat))) rfl (by rw[hla];rfl) ?_
 refine gx (fu:=⟨2⟩) rfl<|?_
 refine eqF 15 (.d (vI (k/32+(dg a).length+1:Nat))) rfl (by show FX.d (.v (.int _ _))= .d (.v (.int _ _));congr 3) ?_
 refine gx rfl<|mk (fu:=⟨7⟩) (hv:=by simp only[allP];exact(by decide)) ((List.replicate (k/32+(dg a).length+1) 0).map dU) J J (by rw[←mapU_rep];rfl) rfl<|?_
 refine eqF 18 (.d (vI (k%32:Nat))) rfl (by show FX.d (.v (.int _ _))= .d (.v (.int _ _));rw[rem32]) ?_
 refine gx (fu:=⟨9⟩) rfl<|?_
 refine eqF 21 (.d (vI ((dg a).length:Nat))) rfl (by rw[hla];rfl) ?_
 refine gx rfl<|?_
 refine lp (X:=List Nat×Nat) (fun⟨W,i⟩=>[(0, .d (dN a)),(1, .d (vI (k:Nat))),(5, .rw 16),(6, .d (.v (.int .u64 (k%32:Nat)))),(20, .d (dN a)),(21, .d (vI ((dg a).length:Nat))),(22, .d (vI (i:Nat)))]) (fun⟨W,i⟩=>[(16,some (.b 279 1 (W.map dU) true))]) (fun⟨W,i⟩=>W.length=k/32+(dg a).length+1∧DOk W∧i≤(dg a).length∧dv (W.take (k/32+i+1))=dv ((dg a).take i)*2^k∧W.getD (k/32+i) 0<2^(k%32)∧ ∀j,k/32+i<j→W.getD j 0=0) (fun⟨W,i⟩=>(dg a).length-i) ⟨List.replicate (k/32+(dg a).length+1) 0,0⟩ rfl ⟨by simp, .replicate _,by omega,by rw[List.take_replicate,dv_replicate];simp[dv],by rw[rep_getD];exact Nat.pow_pos (by decide),fun j _=>rep_getD _ _⟩ (fun _=>rfl) (fun⟨W,i⟩ hk=>?_)
 dsimp only at hk⊢
 obtain⟨h1,h2,h3,h4,h5,h6⟩:=hk
 have hlw:=mapU_len W
 have hda:=dg_lt a i
 have hsk:k%32<32:=Nat.mod_lt _ (by decide)
 have hpp:2^(k%32)≤2^31:=Nat.pow_le_pow_right (by decide) (by omega)
 refine br J J J (fun hc23=>?_) (fun hc23=>?_)
 ·
  refine ix (fu:=⟨11⟩) (hv:=by simp only[allP];exact⟨by omega,(by omega)⟩) _ rfl (mapU_getI (by omega)) rfl<|?_
  have hhi:=left_hi hda hsk
  have hfit0:=left_fit hda hsk
  have hor:=left_or (x:=(dg a).getD i 0) h5 hsk
  have hfit:W.getD (k/32+i) 0+(dg a).getD i 0*2^(k%32)%4294967296<4294967296:=by rw[←hor];exact BitVec.isLt _
  have hlp:=left_parts ((dg a).getD i 0) (k%32)
  refine eqF 30 (.d (.v (.int .u64 ((dg a).getD i 0*2^(k%32):Nat)))) rfl (by show FX.d (.v (.int _ _))= .d (.v (.int _ _));rw[shl_u64 _ (k%32) (by omega) hfit0 (by omega)]) ?_
  obtain⟨t,ht⟩: ∃t,t=(dg a).getD i 0*2^(k%32):=⟨_,rfl⟩
  simp only[←ht] at hhi hfit0 hor hfit hlp
  rw[←ht]
  refine gx (fu:=⟨8⟩) rfl<|?_
  refine eqF 33 (.d (vI (k/32:Nat))) rfl (by show FX.d (.v (.int _ _))= .d (.v (.int _ _));rw[quo32 hk]) ?_
  refine gx rfl<|lb (fu:=⟨2⟩) _ rfl (mapU_getZ (k:=k/32+i) (by omega) (by omega)) rfl<|?_
  refine eqF 39 (.d (dU (t%4294967296))) rfl (by show FX.d (.v (.int _ _))= .d (.v (.int _ _));congr 3) ?_
  refine gx (fu:=⟨1⟩) rfl<|?_
  refine eqF 40 _ rfl (congrArg (fun z:Nat=>FX.d (.v (.int .u32 (z:Int)))) hor) ?_
  refine gx rfl<|sb (fu:=⟨6⟩) _ ((W.set (k/32+i) (W.getD (k/32+i) 0+t%4294967296)).map dU) rfl (mapU_getZ (k:=k/32+i) (by omega) (by omega)) rfl (by(rw[show(((k/32:Nat):Int)+i).toNat=k/32+i by omega];simp only[List.map_set];rfl)<;>rfl) rfl<|?_
  refine eqF 44 (.d (vI (k/32:Nat))) rfl (by show FX.d (.v (.int _ _))= .d (.v (.int _ _));rw[quo32 hk]) ?_
  refine gx rfl<|lb (fu:=⟨0⟩) _ rfl (mapU_getZ (k:=k/32+i+1) (by omega) (by rw[List.length_set];omega)) rfl<|?_
  refine eqF 49 (.d (dU 0)) rfl (by rw[getD_set_ne (by omega),h6 _ (by omega)]) ?_
  refine gx (fu:=⟨2⟩) (hv:=by simp only[allP];exact(by decide)) rfl<|?_
  refine eqF 51 (.d (.v (.int .u64 (t/4294967296:Nat)))) rfl (by rw[fdiv32]) ?_
  refine gx (fu:=⟨1⟩) rfl<|?_
  refine eqF 52 (.d (dU (t/4294967296))) rfl (by show FX.d (.v (.int _ _))= .d (.v (.int _ _));congr 3;omega) ?_
  refine gx (fu:=⟨1⟩) rfl<|?_
  refine eqF 53 _ rfl (congrArg (fun z:Nat=>FX.d (.v (.int .u32 (z:Int)))) (or_zero32 (by omega))) ?_
  refine gx rfl<|sb _ (((W.set (k/32+i) (W.getD (k/32+i) 0+t%4294967296)).set (k/32+i+1) (t/4294967296)).map dU) rfl (mapU_getZ (k:=k/32+i+1) (by omega) (by rw[List.length_set];omega)) rfl (by(rw[show(((k/32:Nat):Int)+i+1).toNat=k/32+i+1 by omega];simp only[List.map_set];rfl)<;>rfl) rfl<|?_
  exact at_ ⟨(W.set (k/32+i) (W.getD (k/32+i) 0+t%4294967296)).set (k/32+i+1) (t/4294967296),i+1⟩ (by dsimp only;exact⟨⟨by simpa using h1,(h2.set _ hfit).set _ (by omega),by omega,by have q:=left_inv (x:=(dg a).getD i 0) J J (by omega) rfl h4;rw[←ht] at q;exact q,by rw[show k/32+(i+1)=k/32+i+1 by omega,getD_set_eq (by simp;omega)];exact hhi,fun j hj=>by rw[getD_set_ne (by omega),getD_set_ne (by omega)];exact h6 j (by omega)⟩,(by omega)⟩)
 ·
  obtain rfl:i=(dg a).length:=by omega
  refine fz 16 J J<|cl rfl (q_Trim (ds:=W) (by omega)) rfl<|?_
  exact rz rfl (dL_trim h2 (by have:=h4;rw[take_all (by omega),take_all (by omega),dv_dg] at this;exact this))
theorem right_zero{a k:Nat}(h:(dg a).length≤k/32):a/2^k=0:=by
 refine Nat.div_eq_of_lt ?_
 have h1:=dv_lt (dg_ok a)
 rw[dv_dg] at h1
 have h2:4294967296^(dg a).length≤4294967296^(k/32):=Nat.pow_le_pow_right (by decide) h
 have h3:4294967296^(k/32)*1≤4294967296^(k/32)*2^(k%32):=Nat.mul_le_mul_left _ (Nat.pow_pos (by decide))
 rw[pow32k k]
 omega
theorem dv_dropD{ds:List Nat}(h:DOk ds)(q:Nat):dv (ds.drop q)=dv ds/4294967296^q:=by
 rcases Nat.lt_or_ge ds.length q with hq|hq
 ·rw[List.drop_eq_nil_of_le (by omega)]
  have h1:=dv_lt h
  have h2:4294967296^ds.length≤4294967296^q:=Nat.pow_le_pow_right (by decide) (by omega)
  rw[Nat.div_eq_of_lt (by omega)];rfl
 ·have e:=dv_split ds q hq
  have h1:=dv_lt (h.take q)
  rw[List.length_take,Nat.min_eq_left hq] at h1
  rw[e,Nat.add_mul_div_left _ _ (Nat.pow_pos (by decide)),Nat.div_eq_of_lt h1,Nat.zero_add]
theorem dv_two{ds:List Nat}(h:DOk ds)(i:Nat):dv ds/4294967296^i=ds.getD i 0+4294967296*ds.getD (i+1) 0+18446744073709551616*(dv ds/4294967296^(i+2)):=by
 have e0:=dv_dropD h i
 have e2:=dv_dropD h (i+2)
 rw[←e0,←e2]
 have g0:ds.getD i 0=(ds.drop i).getD 0 0:=by rw[List.getD_eq_getElem?_getD,List.getD_eq_getElem?_getD,List.getElem?_drop];rfl
 have g1:ds.getD (i+1) 0=(ds.drop i).getD 1 0:=by rw[List.getD_eq_getElem?_getD,List.getD_eq_getElem?_getD,List.getElem?_drop]
 have g2:ds.drop (i+2)=(ds.drop i).drop 2:=by rw[List.drop_drop]
 rw[g0,g1,g2]
 match ds.drop i with
 |[]=>rfl
 |[u]=>simp[dv]
 |u::v::t=>simp only[dv,List.getD_cons_zero,List.getD_cons_succ,List.drop_succ_cons,List.drop_zero];omega
theorem right_step{D s i u v w Z:Nat}(hs:s<32)(hZ:D/4294967296^i=u+4294967296*v+18446744073709551616*Z)(hw:w=(u+v*4294967296)/2^s%4294967296):(D/2^s)%4294967296^(i+1)=(D/2^s)%4294967296^i+4294967296^i*w:=by
 rw[Nat.pow_succ,Nat.mod_mul]
 congr 2
 rw[Nat.div_div_eq_div_mul,Nat.mul_comm (2^s),←Nat.div_div_eq_div_mul,hZ,hw]
 have h1:18446744073709551616=2^s*(2^(32-s)*4294967296):=by rw[←Nat.mul_assoc,pow32s hs]
 rw[h1,Nat.mul_assoc (2^s),Nat.add_mul_div_left _ _ (Nat.pow_pos (by decide)),Nat.mul_comm v]
 rw[Nat.mul_comm (2^(32-s)),Nat.mul_assoc,Nat.add_mul_mod_self_left]
theorem right_end{a k:Nat}{W:List Nat}{q s:Nat}(hq:q=k/32)(hs:s=k%32)(hl:W.length=(dg a).length-q)(h:dv (W.take ((dg a).length-q))=(dv ((dg a).drop q)/2^s)%4294967296^((dg a).length-q)):dv W=a/2^k:=by
 rw[take_all (by omega)] at h
 have h1:=dv_lt ((dg_ok a).drop q)
 rw[List.length_drop] at h1
 have h2:=Nat.div_le_self (dv ((dg a).drop q)) (2^s)
 rw[h,Nat.mod_eq_of_lt (by omega),dv_dropD (dg_ok a),dv_dg,pow32k k,←hq,←hs,Nat.div_div_eq_div_mul]
set_option maxHeartbeats 2000000 in
theorem q_Right{GB:Gh}{a k ia:Nat}[ha:BN a ia](hk:k≤1000000000)(hi:ia≤1000000000:=by decide):PF GB Tryz.prog 270 [dN a,vI (k:Nat)] (dN (a/2^k)):=by
 have hla:=mapU_len (dg a)
 have hba:=dg_len_bd ha.h hi
 refine fn (fu:=⟨10⟩) Tryz.func270 J J Tryz.ntmps270 J J (fun C=>?_)
 refine eqF 12 (.d (vI (k/32:Nat))) rfl (by show FX.d (.v (.int _ _))= .d (.v (.int _ _));rw[quo32 hk]) ?_
 refine gx (fu:=⟨2⟩) rfl<|?_
 refine eqF 14 (.d (vI ((dg a).length:Nat))) rfl (by rw[hla];rfl) ?_
 refine gx rfl<|?_
 refine br (fu2:=⟨6⟩) (v2:=fun _=>by simp only[allP];exact(by decide)) J J J (fun hc15=>?_) (fun hc15=>?_)
 ·
  exact rz rfl (by rw[right_zero (by omega),dN_zero];rfl)
 ·
  refine eqF 17 (.d (vI (k%32:Nat))) rfl (by show FX.d (.v (.int _ _))= .d (.v (.int _ _));rw[rem32]) ?_
  refine gx (fu:=⟨9⟩) rfl<|?_
  refine eqF 21 (.d (vI (k/32:Nat))) rfl (by show FX.d (.v (.int _ _))= .d (.v (.int _ _));rw[quo32 hk]) ?_
  refine gx rfl<|sc' (fu:=⟨0⟩) (k/32) (dg a).length _ J J (by rw[hla]) rfl (slOkU _) (by omega) (by omega) rfl<|?_
  obtain⟨I,hI⟩: ∃I,I=(dg a).drop (k/32):=⟨_,rfl⟩
  have hIl:I.length=(dg a).length-k/32:=by rw[hI,List.length_drop]
  have hIm:=mapU_len I
  have hIo:DOk I:=hI▸(dg_ok a).drop _
  refine eqF 22 (.d (dLi I)) rfl (by show FX.d (.sl _)= .d (.sl _);rw[hI,←hla,List.take_length,List.map_drop]) ?_
  refine gx (fu:=⟨7⟩) rfl<|?_
  refine eqF 24 (.d (vI (I.length:Nat))) rfl (by rw[hIm];rfl) ?_
  refine gx rfl<|mk (fu:=⟨8⟩) ((List.replicate I.length 0).map dU) J J (by rw[←mapU_rep];rfl) rfl<|?_
  refine eqF 27 (.d (vI (I.length:Nat))) rfl (by rw[hIm];rfl) ?_
  refine gx rfl<|?_
  refine lp (X:=List Nat×Nat) (fun⟨W,i⟩=>[(0, .d (dN a)),(5, .d (.v (.int .u64 (k%32:Nat)))),(6, .d (dLi I)),(7, .rw 25),(26, .d (dLi I)),(27, .d (vI (I.length:Nat))),(28, .d (vI (i:Nat)))]) (fun⟨W,i⟩=>[(25,some (.b 279 1 (W.map dU) true))]) (fun⟨W,i⟩=>W.length=I.length∧DOk W∧i≤I.length∧dv (W.take i)=(dv I/2^(k%32))%4294967296^i) (fun⟨W,i⟩=>I.length-i) ⟨List.replicate I.length 0,0⟩ rfl ⟨by simp, .replicate _,by omega,by simp[dv,Nat.mod_one]⟩ (fun _=>rfl) (fun⟨W,i⟩ hk=>?_)
  dsimp only at hk⊢
  obtain⟨h1,h2,h3,h4⟩:=hk
  have hlw:=mapU_len W
  have hda:=hIo.get i
  have hdb:=hIo.get (i+1)
  have hsk:k%32<32:=Nat.mod_lt _ (by decide)
  refine br J J J (fun hc29=>?_) (fun hc29=>?_)
  ·
   refine ix (fu:=⟨13⟩) _ rfl (mapU_getI (by omega)) rfl<|?_
   refine mg (fu:=⟨6⟩) (hv:=fun _ _=>by simp only[allP];exact(by omega)) (X:=Unit) (fun _=>[(0, .d (dN a)),(5, .d (.v (.int .u64 (k%32:Nat)))),(6, .d (dLi I)),(7, .rw 25),(26, .d (dLi I)),(27, .d (vI (I.length:Nat))),(28, .d (vI (i:Nat))),(8, .d (vI (i:Nat))),(10, .d (.v (.int .u64 (I.getD i 0+I.getD (i+1) 0*4294967296:Nat))))]) (fun _=>[(25,some (.b 279 1 (W.map dU) true))]) (fun _=>True) [0,5,6,7,26,27,28,8,10] [25] rfl ?_ (fun _=>rfl) (fun _ hm=>?_)
   ·
    refine gx (fu:=⟨6⟩) rfl<|?_
    refine eqF 38 (.d (vI (I.length:Nat))) rfl (by rw[hIm];rfl) ?_
    refine gx rfl<|?_
    refine br J J J (fun hc39=>?_) (fun hc39=>?_)
    ·
     refine ix (fu:=⟨3⟩) (hv:=by simp only[allP];exact⟨by omega,(by decide)⟩) _ rfl (mapU_getZ (k:=i+1) (by omega) (by omega)) rfl<|?_
     refine eqF 47 (.d (.v (.int .u64 (I.getD (i+1) 0*4294967296:Nat)))) rfl (by show FX.d (.v (.int _ _))= .d (.v (.int _ _));rw[shl_u64 _ 32 (by decide) (by show _*4294967296<_;omega) rfl]) ?_
     refine gx (fu:=⟨1⟩) rfl<|?_
     refine eqF 48 _ rfl (congrArg (fun z:Nat=>FX.d (.v (.int .u64 (z:Int)))) (bv_or 64 (I.getD i 0) (I.getD (i+1) 0) 32 hda (by show _+_*4294967296<18446744073709551616;omega))) ?_
     refine gx rfl<|?_
     exact at_ () trivial
    ·
     refine eqF 10 (.d (.v (.int .u64 (I.getD i 0+I.getD (i+1) 0*4294967296:Nat)))) rfl (by rw[getD_out (by omega:I.length≤i+1),Nat.zero_mul,Nat.add_zero]) ?_
     exact at_ () trivial
   ·
    refine eqF 53 (.d (.v (.int .u64 ((I.getD i 0+I.getD (i+1) 0*4294967296)/2^(k%32):Nat)))) rfl (by show FX.d (.v (.int _ _))= .d (.v (.int _ _));rw[shr_u64 _ (k%32) (by omega) (by omega)]) ?_
    refine gx (fu:=⟨1⟩) rfl<|?_
    obtain⟨w,hw⟩: ∃w,w=(I.getD i 0+I.getD (i+1) 0*4294967296)/2^(k%32)%4294967296:=⟨_,rfl⟩
    have hw1:w<4294967296:=hw▸Nat.mod_lt _ (by decide)
    refine eqF 54 (.d (dU w)) rfl (by show FX.d (.v (.int _ _))= .d (.v (.int _ _));rw[hw];congr 3) ?_
    refine gx rfl<|sb _ ((W.set i w).map dU) rfl (mapU_getI (by omega)) rfl (by(rw[←mapU_set];rfl)<;>rfl) rfl<|?_
    exact at_ ⟨W.set i w,i+1⟩ (by dsimp only;exact⟨⟨by simpa using h1,h2.set _ (by omega),by omega,by rw[dv_set_take (by omega),h4];exact(right_step hsk (dv_two hIo i) hw).symm⟩,(by omega)⟩)
  ·
   refine fz 25 J J<|cl rfl (q_Trim (ds:=W) (by omega)) rfl<|?_
   exact rz rfl (dL_trim h2 (by obtain rfl:i=I.length:=(by omega);rw[hIl] at h1 h4;rw[hI] at h4;exact right_end rfl rfl h1 h4))
theorem dg_len_of{a k:Nat}(h:a<4294967296^k):(dg a).length≤k:=by
 rcases Nat.lt_or_ge k (dg a).length with q|q
 ·have h1:=nrm_ge (dg_spec a).2.2 (by intro e;rw[e] at q;simp at q)
  rw[dv_dg] at h1
  have h2:4294967296^k≤4294967296^((dg a).length-1):=Nat.pow_le_pow_right (by decide) (by omega)
  omega
 ·exact q
theorem word_two{a:Nat}(h:(dg a).length=2):(dg a).getD 0 0+(dg a).getD 1 0*4294967296=a:=by
 have e:=dv_dg a
 revert e
 match dg a,h with
 |[x,y],_=>intro e;simp[dv] at e⊢;omega
def wordV(a:Nat):DV:= .tp [.v (.int .u64 ((if a<18446744073709551616 then a else 0:Nat):Int)),vB (decide (a<18446744073709551616))]
theorem wordV_lt{a:Nat}(h:a<18446744073709551616):wordV a= .tp [.v (.int .u64 (a:Int)),vB true]:=by unfold wordV;rw[if_pos h,decide_eq_true h]
theorem wordV_ge{a:Nat}(h: ¬a<18446744073709551616):wordV a= .tp [.v (.int .u64 0),vB false]:=by unfold wordV;rw[if_neg h,decide_eq_false h];rfl
theorem dg_lt_pow(a:Nat):a<4294967296^(dg a).length:=by have:=dv_lt (dg_ok a);rwa [dv_dg] at this
set_option maxHeartbeats 1000000 in
theorem q_word{GB:Gh}{a ia:Nat}[ha:BN a ia](hi:ia≤1000000000:=by decide):PF GB Tryz.prog 236 [dN a] (wordV a):=by
 have hla:=mapU_len (dg a)
 have hba:=dg_len_bd ha.h hi
 have hlt:=dg_lt_pow a
 have hd00:=dg_lt a 0
 refine fn (fu:=⟨11⟩) Tryz.func236 J J Tryz.ntmps236 J J (fun C=>?_)
 refine eqF 5 (.d (vI ((dg a).length:Nat))) rfl (by rw[hla];rfl) ?_
 refine gx rfl<|?_
 refine br J J J (fun hc6=>?_) (fun hc6=>?_)
 ·
  exact rz rfl (by rw[show(dg a).length=0 by omega] at hlt;obtain rfl:a=0:=(by omega);rfl)
 ·
  refine br J J J (fun hc8=>?_) (fun hc8=>?_)
  ·
   refine ix (fu:=⟨2⟩) _ rfl (mapU_getZ (k:=0) rfl (by omega)) rfl<|?_
   refine eqF 13 (.d (.v (.int .u64 (a:Nat)))) rfl (by rw[dg_one_digit (by omega)]) ?_
   refine gx rfl<|?_
   exact rz rfl (by rw[show(dg a).length=1 by omega] at hlt;rw[wordV_lt (by omega),←dg_one_digit (a:=a) (by omega),dg_one_digit (a:=a) (by omega)];rfl)
  ·
   refine br J J J (fun hc14=>?_) (fun hc14=>?_)
   ·
    have hd0:=dg_lt a 0
    have hd1:=dg_lt a 1
    refine ix (hv:=by simp only[allP];exact⟨by omega,(by decide)⟩) _ rfl (mapU_getZ (k:=1) rfl (by omega)) rfl<|ix (fu:=⟨3⟩) _ rfl (mapU_getZ (k:=0) rfl (by omega)) rfl<|?_
    refine eqF 25 (.d (.v (.int .u64 (a:Nat)))) rfl (congrArg (fun z:Nat=>FX.d (.v (.int .u64 (z:Int)))) (by rw[shl_u64 _ 32 (by decide) (by show _*4294967296<_;omega) rfl,BitVec.or_comm];exact(bv_or 64 ((dg a).getD 0 0) ((dg a).getD 1 0) 32 hd0 (by show _+_*4294967296<18446744073709551616;omega)).trans (word_two (by omega)))) ?_
    refine gx rfl<|?_
    exact rz rfl (by rw[show(dg a).length=2 by omega] at hlt;rw[wordV_lt (by omega)];rfl)
   ·
    exact rz rfl (by rw[wordV_ge];rfl;intro h;have:=dg_len_of (a:=a) (k:=2) (by omega);omega)
end Go.Sx
end

section
set_option maxRecDepth 100000
namespace Go.Sx
open Go Go.Proofs
theorem is_SV{G:Gh}{ds:List Nat}{v:Value}(hd:DOk ds)(h:Is G (dLi ds) v): ∃x:SV,v=x.v∧IsD G x ds:=by
 obtain⟨x,rfl,h1⟩:=is_dL.1 h
 exact⟨x,rfl,hd,h1⟩
theorem IsN.is{G:Gh}{k n:Nat}{z:SV}(h:IsN k G z n):Is G (dN n) z.v:=(is_dN h.lt).2 ⟨z,rfl,h⟩
theorem op1{G:Gh}{ds:List Nat}{vs:List Value}(hd:DOk ds)(h:IsLs G [dLi ds] vs): ∃x:SV,vs=[x.v]∧IsD G x ds:=by
 obtain⟨v,m,rfl,h1,h2⟩:=isl_cons.1 h
 cases isl_nil.1 h2
 obtain⟨x,rfl,h3⟩:=is_SV hd h1
 exact⟨x,rfl,h3⟩
theorem op2{G:Gh}{a b:Nat}{vs:List Value}(h:IsLs G [dN a,dN b] vs): ∃x y:SV,vs=[x.v,y.v]∧IsD G x (dg a)∧IsD G y (dg b):=by
 obtain⟨v,m,rfl,h1,h2⟩:=isl_cons.1 h
 obtain⟨y,rfl,h4⟩:=op1 (dg_spec b).2.1 h2
 obtain⟨x,rfl,h3⟩:=is_SV (dg_spec a).2.1 h1
 exact⟨x,y,rfl,h3,h4⟩
section
variable {GB:Gh} {a b i j:Nat}
theorem dg_bd[h:BN a i](hi:i≤1000000000):(dg a).length≤31250001:=by have:=dg_len_le h.h;omega
theorem p_Normal{ds:List Nat}(hd:DOk ds)(hl:ds.length≤1125899906842624):PF GB Tryz.prog 262 [dLi ds] (vB (decide (Nrm ds))):=fun G vs _ hv=>by
 obtain⟨x,rfl,hx⟩:=op1 hd hv
 exact(nat_Normal hx hl).mono fun v G' _ h=>is_v.2 h
theorem p_Bits[h:BN a i](hi:i≤1000000000:=by decide):PF GB Tryz.prog 250 [dN a] (vI (bl a:Nat)):=fun G vs _ hv=>by
 obtain⟨x,rfl,hx⟩:=op1 (dg_spec a).2.1 hv
 have:=dg_bd (a:=a) hi
 exact(nat_Bits hx (by omega)).mono fun v G' _ h=>is_v.2 (by rw[h,dv_dg])
theorem p_Norm[h:BN a i](hi:i≤1000000000:=by decide):PF GB Tryz.prog 255 [dN a] (dN a):=fun G vs _ hv=>by
 obtain⟨x,rfl,hx⟩:=op1 (dg_spec a).2.1 hv
 have:=dg_bd (a:=a) hi
 refine(nat_Norm (k:=i) hx (by rw[dv_dg];exact h.h) (by omega)).mono fun v G' _ h=>?_
 obtain⟨z,rfl,h⟩:=h
 rw[dv_dg] at h;exact h.is
theorem p_FromUint(h:a<18446744073709551616):PF GB Tryz.prog 256 [.v (.int .u64 (a:Nat))] (dN a):=fun G vs _ hv=>by
 obtain⟨v,m,rfl,h1,h2⟩:=isl_cons.1 hv
 cases isl_nil.1 h2
 rw[is_v.1 h1]
 refine(nat_FromUint h).mono fun v G' _ h=>?_
 obtain⟨z,rfl,h⟩:=h
 exact h.is
theorem p_Uint(h:a<18446744073709551616):PF GB Tryz.prog 254 [dN a] (.tp [.v (.int .u64 (a:Nat)),vB true]):=fun G vs _ hv=>by
 obtain⟨x,rfl,hx⟩:=op1 (dg_spec a).2.1 hv
 have:BN a 64:=⟨h⟩
 have:=dg_bd (a:=a) (i:=64) (by decide)
 refine(nat_Uint hx (by omega)).mono fun v G' _ e=>?_
 rw[dv_dg,if_pos h,decide_eq_true h] at e
 subst e
 exact is_tp.2 ⟨_,rfl, .cons (is_v.2 rfl) (.cons (is_v.2 rfl) .nil)⟩
theorem p_Add[h:BN a i][k:BN b j](hi:i≤1000000000:=by decide)(hj:j≤1000000000:=by decide):PF GB Tryz.prog 279 [dN a,dN b] (dN (a+b)):=fun G vs _ hv=>by
 obtain⟨x,y,rfl,hx,hy⟩:=op2 hv
 have:=dg_bd (a:=a) hi
 have:=dg_bd (a:=b) hj
 refine(nat_Add (kk:=i+j+1) hx hy (by rw[dv_dg,dv_dg];exact add_lt_pow h.h k.h) (by omega) (by omega)).mono fun v G' _ h=>?_
 obtain⟨z,rfl,h⟩:=h
 rw[dv_dg,dv_dg] at h;exact h.is
theorem p_Sub[h:BN a i][k:BN b j](hi:i≤1000000000:=by decide)(hj:j≤1000000000:=by decide):PF GB Tryz.prog 280 [dN a,dN b] (.tp [dN (a-b),vB (decide (b≤a))]):=fun G vs _ hv=>by
 obtain⟨x,y,rfl,hx,hy⟩:=op2 hv
 have:=dg_bd (a:=a) hi
 have:=dg_bd (a:=b) hj
 refine(nat_Sub (kk:=i) hx hy (by rw[dv_dg];exact h.h) (by omega) (by omega)).mono fun v G' _ h=>?_
 obtain⟨z,rfl,h⟩:=h
 rw[dv_dg,dv_dg] at h⊢
 exact is_tp.2 ⟨_,rfl, .cons h.is (.cons (is_v.2 rfl) .nil)⟩
theorem p_Mul[h:BN a i][k:BN b j](hi:i≤1000000000:=by decide)(hj:j≤1000000000:=by decide):PF GB Tryz.prog 249 [dN a,dN b] (dN (a*b)):=fun G vs _ hv=>by
 obtain⟨x,y,rfl,hx,hy⟩:=op2 hv
 have:=dg_bd (a:=a) hi
 have:=dg_bd (a:=b) hj
 refine(nat_Mul (kk:=i+j) hx hy (by rw[dv_dg,dv_dg];exact mul_lt_pow h.h k.h) (by omega) (by omega)).mono fun v G' _ h=>?_
 obtain⟨z,rfl,h⟩:=h
 rw[dv_dg,dv_dg] at h;exact h.is
theorem p_DivMod[h:BN a i][k:BN b j](hb:0<b)(hi:i≤1000000000:=by decide)(hj:j≤1000000000:=by decide):PF GB Tryz.prog 252 [dN a,dN b] (.tp [dN (a/b),dN (a%b),vB true]):=fun G vs _ hv=>by
 obtain⟨x,y,rfl,hx,hy⟩:=op2 hv
 have:=dg_bd (a:=a) hi
 have:=dg_bd (a:=b) hj
 refine(nat_DivMod (k1:=i) (k2:=j) hx hy (by rw[dv_dg];exact hb) (by rw[dv_dg,dv_dg];exact Nat.lt_of_le_of_lt (Nat.div_le_self _ _) h.h) (by rw[dv_dg,dv_dg];exact Nat.lt_trans (Nat.mod_lt _ hb) k.h) (by omega) (by omega)).mono fun v G' _ h=>?_
 obtain⟨z,r,rfl,h,h'⟩:=h
 rw[dv_dg,dv_dg] at h h'
 exact is_tp.2 ⟨_,rfl, .cons h.is (.cons h'.is (.cons (is_v.2 rfl) .nil))⟩
theorem p_Gcd[h:BN a i][k:BN b j](hi:i≤1000000000:=by decide)(hj:j≤1000000000:=by decide):PF GB Tryz.prog 251 [dN a,dN b] (dN (Nat.gcd a b)):=fun G vs _ hv=>by
 obtain⟨x,y,rfl,hx,hy⟩:=op2 hv
 have:=dg_bd (a:=a) hi
 have:=dg_bd (a:=b) hj
 have e: ∀k',k'≤i+j→(2:Nat)^k'≤2^(i+j):=fun k' h=>Nat.pow_le_pow_right (by decide) h
 have:=e i (by omega)
 have:=e j (by omega)
 have:=h.h
 have:=k.h
 refine(nat_Gcd (k:=i+j) (k0:=i+j) hx hy (by rw[dv_dg];omega) (by rw[dv_dg];omega) (by omega) (by rw[dv_dg,dv_dg];exact gcd_lt' h.h k.h) (by omega) (by omega)).mono fun v G' _ h=>?_
 obtain⟨z,rfl,h⟩:=h
 rw[dv_dg,dv_dg] at h;exact h.is
end
end Go.Sx
end

section
set_option maxRecDepth 100000
namespace Go.Sx
open Go Go.Proofs
section
variable {GB:Gh} {C:Ctx} {n:Nat} {Q0:Exit→Act→World→Prop} {fr fr' fr1 fr2:FrX} {own own' own1 own2:OwX} {cf cf' cf1 cf2:Cf} {vc vc1 vc2:List Prop}
theorem rzI{fb:Func}{e:Exit}{ds:List DV}{rv:DV}(hr:resX tt fr own fb.results.toList=some ds)(hd: ∀G y,Is G (tupD ds) y→Is G rv y)(he:isEnd e=true:=by rfl):CfS Tryz.prog GB C n (bodyPost Tryz.prog fb (RPost C (fun v G'=>Is G' rv v))) fr own (.ex e []):=by
 refine⟨fun ρ G ov a w r=>?_⟩
 obtain⟨vs,h1,h2⟩:=resX_ok r hr
 have hk:Is G rv (tupled vs):=hd _ _ (tupD_is h2)
 cases e with
 |ret=>exact zD (C:=C) (n:=n) (fr:=frA a) (own:=ov) (G:=G) (K:=fun v G'=>Is G' rv v) h1 hk a w ⟨r.h,r.sz,frA_ok a,r.df⟩
 |normal=>exact st_doneN (C:=C) (n:=n) (fr:=frA a) (own:=ov) (G:=G) (K:=fun v G'=>Is G' rv v) h1 hk a w ⟨r.h,r.sz,frA_ok a,r.df⟩
 |_=>cases he
def cuA(fr:FrX)(cf:Cf):Option (Int×IntKind):=match opC fr cf with
 |some ⟨_, .convert t t' x,_,_,_,_⟩=>match lookT tt t,lookT tt t',evX (lkC fr cf) x with
  |some ⟨.int k,_,_,_⟩,some ⟨.int k',_,_,_⟩,some (.d (.v (.int j p)))=>bif kq k j then some (p,k') else none
  |_,_,_=>none
 |_=>none
theorem cu[fu:Fu]{p:Int}{k':IntKind}(u:Int)(h:cuA fr cf=some (p,k'))(e:k'.wrap p=u)(hgo:goA tt n fu.n fr own cf (.d (.v (.int k' u))) [] []=⟨vc,fr',own',cf'⟩)(k:CfS Tryz.prog GB C n Q0 fr' own' cf')
  (hv:allP vc:=by first|exact trivial|(simp only[allP];kernel_rfl)|(simp only[allP];omega)):CfS Tryz.prog GB C n Q0 fr own cf:=by
 unfold cuA at h
 split at h<;>try (cases h;done)
 rename_i hh
 split at h<;>try (cases h;done)
 rename_i k0 _ _ _ k1 _ _ _ j p0 hT hT' hx
 cases hk:kq k0 j with
 |false=>rw[hk] at h;cases h
 |true=>
  rw[hk,cond_true] at h;cases h;cases kq_eq hk
  have:=ti_int (tt_ok _ _ hT) rfl
  have:=ti_int (tt_ok _ _ hT') rfl
  subst e
  refine us hh (.x1 hx fun ρ G ov a w y _ r h1 h2=>?_) hgo hv k
  rw[isX_int] at h2;subst h2
  exact⟨_,isX_int.2 rfl,yd_conv h1⟩
def nuA(fr:FrX)(cf:Cf):Option (Int×IntKind):=match opC fr cf with
 |some ⟨_, .unOp .neg _ x,_,_,_,_⟩=>match evX (lkC fr cf) x with
  |some (.d (.v (.int j p)))=>some (p,j)
  |_=>none
 |_=>none
theorem nu[fu:Fu]{p:Int}{k':IntKind}(u:Int)(h:nuA fr cf=some (p,k'))(e:k'.wrap (0-p)=u)(hgo:goA tt n fu.n fr own cf (.d (.v (.int k' u))) [] []=⟨vc,fr',own',cf'⟩)(k:CfS Tryz.prog GB C n Q0 fr' own' cf')
  (hv:allP vc:=by first|exact trivial|(simp only[allP];kernel_rfl)|(simp only[allP];omega)):CfS Tryz.prog GB C n Q0 fr own cf:=by
 unfold nuA at h
 split at h<;>try (cases h;done)
 rename_i hh
 split at h<;>cases h
 rename_i hx
 subst e
 exact us hh (.x1 hx fun ρ G ov a w y _ r h1 h2=>by
  rw[isX_int] at h2;subst h2
  exact⟨_,isX_int.2 rfl,yd_neg h1⟩) hgo hv k
end
end Go.Sx
end

section
set_option maxRecDepth 100000
namespace Go.Sx
open Go Go.Proofs
theorem bl_eq0{x:Nat}:bl x=0↔x=0:=by
 have:= @bl_le x 0
 simp at this;omega
theorem dg_len0{a:Nat}:0<(dg a).length↔0<a:=by
 have:= @dg_len_zero a
 omega
def eS(neg:Bool)(a:Nat):DV:= .ag [.v (.bool neg),dN a]
theorem eI_zvA(neg:Bool)(a:Nat):eI (zv neg a)= .ag [.v (.bool (neg&&decide (0<a))),dN a]:=by unfold eI;rw[zv_abs,zv_neg_lt]
theorem zv_sub1{n:Bool}{u:Nat}{b:Int}(h:n≠decide (b<0))(hle:b.natAbs≤u):zv n (u-b.natAbs)=zv n u+b:=by cases n<;>simp[zv] at* <;>omega
theorem zv_sub2{n:Bool}{u:Nat}{b:Int}(h:n≠decide (b<0))(hle:u≤b.natAbs):zv (decide (b<0)) (b.natAbs-u)=zv n u+b:=by cases n<;>simp[zv] at* <;>(try rw[if_pos h])<;>(try rw[if_neg (by omega)])<;>omega
theorem p_INormal{GB:Gh}{neg:Bool}{ds:List Nat}(hd:DOk ds)(hl:ds.length≤1125899906842624):PF GB Tryz.prog 224 [.ag [.v (.bool neg),dLi ds]] (vB (decide (Nrm ds∧(neg=true→0<ds.length)))):=by
 refine fn Tryz.func224 J J Tryz.ntmps224 J J (fun C=>?_)
 refine cl rfl (p_Normal hd hl) rfl<|?_
 refine csd 6 J J J (fun hg6=>?_) (fun hg6=>?_)
 ·
  refine csb 10 J J J (fun hg10=>?_) (fun hg10=>?_)
  ·
   exact rz rfl (by unfold vB;congr 2;simp_all [tupD])
  ·
   exact rz rfl (by unfold vB;congr 2;simp_all [tupD])
 ·
  exact rz rfl (by unfold vB;congr 2;simp_all [tupD])
theorem p_ISign{GB:Gh}{n:Bool}{a i:Nat}[h:BN a i](hi:i≤1000000000:=by decide):PF GB Tryz.prog 211 [eS n a] (vI (zv n a).sign):=by
 refine fn Tryz.func211 J J Tryz.ntmps211 J J (fun C=>?_)
 refine cl rfl (p_Bits (a:=a) hi) rfl<|?_
 refine br J J J (fun hc3=>?_) (fun hc3=>?_)
 ·
  exact rz rfl (by have:=bl_eq0.1 (Int.ofNat.inj hc3);subst this;cases n<;>rfl)
 ·
  refine bb J J J (fun hc8=>?_) (fun hc8=>?_)
  ·
   exact rz rfl (by subst hc8;rw[Int.sign_eq_neg_one_of_neg (by have:a≠0:=(fun e=>hc3 (by rw[e];rfl));simp[zv];omega)];rfl)
  ·
   exact rz rfl (by subst hc8;rw[Int.sign_eq_one_of_pos (by have:a≠0:=(fun e=>hc3 (by rw[e];rfl));simp[zv];omega)];rfl)
theorem p_FromInt{GB:Gh}{m:Int}(h0: -9223372036854775808≤m)(h1:m≤9223372036854775807):PF GB Tryz.prog 209 [vI m] (eI m):=by
 refine fn (fu:=⟨8⟩) Tryz.func209 J J Tryz.ntmps209 J J (fun C=>?_)
 refine cu ((m%18446744073709551616:Int)) rfl (wrap_u64 _) rfl<|?_
 refine br (fu1:=⟨2⟩) (fu2:=⟨0⟩) J J J (fun hc7=>?_) (fun hc7=>?_)
 ·
  refine nu ((m.natAbs:Nat)) rfl (by rw[wrap_u64];omega) rfl<|cl rfl (p_FromUint (a:=m.natAbs) (by omega)) rfl<|?_
  exact rz J J
 ·
  refine eqF 3 (.d (.v (.int .u64 (m.natAbs:Nat)))) rfl (by congr 3;omega) ?_
  refine gx rfl<|cl rfl (p_FromUint (a:=m.natAbs) (by omega)) rfl<|?_
  exact rz J J
theorem p_Int64{GB:Gh}{n:Bool}{a:Nat}(h:a<4611686018427387904):PF GB Tryz.prog 253 [eS n a] (.tp [vI (zv n a),vB true]):=by
 refine fn Tryz.func253 J J Tryz.ntmps253 J J (fun C=>?_)
 refine cl (fu:=⟨2⟩) rfl (p_Uint (a:=a) (by omega)) rfl<|knT J J J<|?_
 refine csb 18 J J J (fun hg18=>?_) (fun hg18=>?_)
 ·
  refine br (fu1:=⟨3⟩) J J J (fun hc12=>?_) (fun hc12=>?_)
  ·
   refine nu (fu:=⟨0⟩) (((18446744073709551616-a)%18446744073709551616:Int)) rfl (by rw[wrap_u64];omega) rfl<|cu (zv n a) rfl (by subst hg18;rw[wrap_i64];simp only[zv,if_true];omega) rfl<|?_
   exact rz J J
  ·
   exact absurd (by omega) hc12
 ·
  refine csb 32 J J J (fun hg32=>?_) (fun hg32=>?_)
  ·
   refine br J J J (fun hc25=>?_) (fun hc25=>?_)
   ·
    exact rz rfl (by subst hg18;rfl)
   ·
    exact absurd (by omega) hc25
  ·
   subst hg18;cases hg32
theorem p_INorm{GB:Gh}{neg:Bool}{a i:Nat}[h:BN a i](hi:i≤1000000000:=by decide):PF GB Tryz.prog 232 [eS neg a] (eI (zv neg a)):=by
 refine fn Tryz.func232 J J Tryz.ntmps232 J J (fun C=>?_)
 refine cl rfl (p_Norm hi) rfl<|?_
 refine csb 9 J J J (fun hg9=>?_) (fun hg9=>?_)
 ·
  exact rz rfl (by rw[eI_zvA];simp[hg9,dg_len0,tupD])
 ·
  exact rz rfl (by rw[eI_zvA];simp[hg9,dg_len0,tupD])
theorem p_signed{GB:Gh}{neg:Bool}{a:Nat}:PF GB Tryz.prog 278 [.v (.bool neg),dN a] (eI (zv neg a)):=by
 refine fn Tryz.func278 J J Tryz.ntmps278 J J (fun C=>?_)
 refine csb 6 J J J (fun hg6=>?_) (fun hg6=>?_)
 ·
  exact rz rfl (by rw[eI_zvA];simp[hg6,dg_len0,tupD])
 ·
  exact rz rfl (by rw[eI_zvA];simp[hg6,dg_len0,tupD])
theorem p_INeg{GB:Gh}{m:Int}{i:Nat}[h:BI m i](hi:i≤1000000000:=by decide):PF GB Tryz.prog 214 [eI m] (eI (-m)):=by
 refine fn Tryz.func214 J J Tryz.ntmps214 J J (fun C=>?_)
 refine cl rfl (p_INorm (neg:=!decide (m<0)) (a:=m.natAbs) hi) rfl<|?_
 exact rz rfl (by rw[zv_neg,zv_eta];rfl)
theorem p_IMul{GB:Gh}{a b:Int}{i j:Nat}[h:BI a i][k:BI b j](hi:i≤1000000000:=by decide)(hj:j≤1000000000:=by decide):PF GB Tryz.prog 248 [eI a,eI b] (eI (a*b)):=by
 refine fn Tryz.func248 J J Tryz.ntmps248 J J (fun C=>?_)
 refine cl rfl (p_Mul (a:=a.natAbs) (b:=b.natAbs) hi hj) rfl<|cl rfl p_signed rfl<|?_
 exact rz rfl (by rw[show(!(decide (a<0)==decide (b<0)))=(decide (a<0) !=decide (b<0)) from rfl,zv_mul,zv_eta,zv_eta];rfl)
theorem p_IAddS{GB:Gh}{n1:Bool}{u:Nat}{b:Int}{i j:Nat}[h:BN u i][k:BI b j](hi:i≤1000000000:=by decide)(hj:j≤1000000000:=by decide):PF GB Tryz.prog 247 [eS n1 u,eI b] (eI (zv n1 u+b)):=by
 refine fn Tryz.func247 J J Tryz.ntmps247 J J (fun C=>?_)
 refine bb J J J (fun hc13=>?_) (fun hc13=>?_)
 ·
  refine cl rfl (p_Add (b:=b.natAbs) hi hj) rfl<|cl rfl p_signed rfl<|?_
  exact rz rfl (by rw[zv_add_same,show n1=decide (b<0) from by simpa using hc13,zv_eta];rfl)
 ·
  refine cl rfl (p_Sub (b:=b.natAbs) hi hj) rfl<|?_
  refine bd J J J (fun hc30=>?_) (fun hc30=>?_)
  ·
   refine cl rfl p_signed rfl<|?_
   exact rz rfl (by rw[zv_sub1 (by simpa using hc13) hc30];rfl)
  ·
   refine cl rfl (p_Sub (a:=b.natAbs) hj hi) rfl<|cl rfl p_signed rfl<|?_
   exact rz rfl (by rw[zv_sub2 (by simpa using hc13) (by omega)];rfl)
theorem p_IAdd{GB:Gh}{a b:Int}{i j:Nat}[h:BI a i][k:BI b j](hi:i≤1000000000:=by decide)(hj:j≤1000000000:=by decide):PF GB Tryz.prog 247 [eI a,eI b] (eI (a+b)):=(p_IAddS (n1:=decide (a<0)) (u:=a.natAbs) hi hj).to (by rw[zv_eta])
end Go.Sx
end

section
set_option maxRecDepth 100000
namespace Go.Sx
open Go Go.Proofs
def Big(q:Rat):Prop:= ¬(q.num.natAbs<4611686018427387904∧q.den<4611686018427387904)
instance (q:Rat):Decidable (Big q):=inferInstanceAs (Decidable (¬_))
def fn_(q:Rat):Int:=if Big q then 0 else q.num
def fd_(q:Rat):Int:=if Big q then 0 else(q.den:Int)-1
def fp_(q:Rat):DV:= .op (decide (Big q)) [.v (.bool (decide (q.num<0))),dN q.num.natAbs,dN q.den]
def eF(q:Rat):DV:= .ag [vI (fn_ q),vI (fd_ q),fp_ q]
abbrev bgT {q:Rat} (h:decide (Big q)=true):Big q:=of_decide_eq_true h
abbrev bgF {q:Rat} (h:decide (Big q)=false): ¬Big q:=of_decide_eq_false h
abbrev bgT' {q:Rat} (h: ¬decide (Big q)=false):Big q:=by simpa using h
abbrev bgF' {q:Rat} (h: ¬decide (Big q)=true): ¬Big q:=by simpa using h
theorem fn_s{q:Rat}(h: ¬Big q):fn_ q=q.num:=if_neg h
theorem fd_s{q:Rat}(h: ¬Big q):fd_ q=(q.den:Int)-1:=if_neg h
theorem small_n{q:Rat}(h: ¬Big q):q.num.natAbs<4611686018427387904:=(Decidable.not_not.1 h).1
theorem small_d{q:Rat}(h: ¬Big q):q.den<4611686018427387904:=(Decidable.not_not.1 h).2
theorem big_ne{q:Rat}(h:Big q):q≠0:=fun e=>by subst e;exact h ⟨by decide,by decide⟩
theorem is_s{q:Rat}{m d:Int}{r:DV}(h: ¬Big q)(h1:q.num=m)(h2:(q.den:Int)-1=d)(e:r= .ag [vI m,vI d, .v (.pointer none)])(G:Gh)(y:Value)(k:Is G r y):Is G (eF q) y:=by
 subst e h1 h2
 obtain⟨l,rfl,g⟩:=is_ag.1 k
 obtain⟨y1,l1,rfl,k1,g1⟩:=isl_cons.1 g
 obtain⟨y2,l2,rfl,k2,g2⟩:=isl_cons.1 g1
 obtain⟨y3,l3,rfl,k3,g3⟩:=isl_cons.1 g2
 exact is_ag.2 ⟨_,rfl, .cons (by rw[fn_s h];exact k1) (.cons (by rw[fd_s h];exact k2) (.cons (is_op.2 (.inl ⟨decide_eq_false h,is_v.1 k3⟩)) g3))⟩
theorem is_b{q:Rat}{n:Bool}{a d:Nat}{r:DV}(h:Big q)(h1:decide (q.num<0)=n)(h2:q.num.natAbs=a)(h3:q.den=d)(e:r= .ag [vI 0,vI 0, .pt [.v (.bool n),dN a,dN d]])(G:Gh)(y:Value)(k:Is G r y):Is G (eF q) y:=by
 subst e h1 h2 h3
 obtain⟨l,rfl,g⟩:=is_ag.1 k
 obtain⟨y1,l1,rfl,k1,g1⟩:=isl_cons.1 g
 obtain⟨y2,l2,rfl,k2,g2⟩:=isl_cons.1 g1
 obtain⟨y3,l3,rfl,k3,g3⟩:=isl_cons.1 g2
 exact is_ag.2 ⟨_,rfl, .cons (by unfold fn_;rw[if_pos h];exact k1) (.cons (by unfold fd_;rw[if_pos h];exact k2) (.cons (is_op.2 (.inr ⟨decide_eq_true h,k3⟩)) g3))⟩
theorem is_0(G:Gh)(y:Value)(k:Is G (.ag [vI 0,vI 0, .v (.pointer none)]) y):Is G (eF 0) y:=is_s (fun h=>big_ne h rfl) J J J G y k
theorem is_m{m:Int}(h:m.natAbs<4611686018427387904)(G:Gh)(y:Value)(k:Is G (.ag [vI m,vI 0, .v (.pointer none)]) y):Is G (eF (m:Rat)) y:=
 is_s (fun k=>k ⟨by simpa using h,by rw[Rat.den_intCast];decide⟩) (Rat.num_intCast m) (by rw[Rat.den_intCast];rfl) rfl G y k
theorem red_nd{n:Bool}{a d:Nat}(hd:0<d):(mkRat (zv n a) d).num=zv n (a/Nat.gcd a d)∧(mkRat (zv n a) d).den=d/Nat.gcd a d:=by
 obtain⟨h1,h2⟩:=rat_num (m:=zv n a) hd
 rw[zv_abs] at h1 h2
 exact⟨by rw[h1,zv_div (Nat.gcd_dvd_left _ _)],h2⟩
theorem red_s{n:Bool}{a d a' d':Nat}(hd:0<d)(ha:a'=a/Nat.gcd a d)(hd':d'=d/Nat.gcd a d)(h1:a'<4611686018427387904)(h2:d'<4611686018427387904)(G:Gh)(y:Value)(k:Is G (.ag [vI (zv n a'),vI ((d':Int)-1), .v (.pointer none)]) y):Is G (eF (mkRat (zv n a) d)) y:=by
 obtain⟨e1,e2⟩:=red_nd (n:=n) (a:=a) hd
 rw[←ha] at e1;rw[←hd'] at e2
 exact is_s (fun k=>k ⟨by rw[e1,zv_abs];exact h1,by rw[e2];exact h2⟩) e1 (by rw[e2]) rfl G y k
theorem red_b{n:Bool}{a d a' d':Nat}(hd:0<d)(ha:a'=a/Nat.gcd a d)(hd':d'=d/Nat.gcd a d)(h: ¬(a'<4611686018427387904∧d'<4611686018427387904))(G:Gh)(y:Value)(k:Is G (.ag [vI 0,vI 0, .pt [.v (.bool (decide (zv n a'<0))),dN (zv n a').natAbs,dN d']]) y):Is G (eF (mkRat (zv n a) d)) y:=by
 obtain⟨e1,e2⟩:=red_nd (n:=n) (a:=a) hd
 rw[←ha] at e1;rw[←hd'] at e2
 exact is_b (fun k=>h ⟨by rw[e1,zv_abs] at k;exact k.1,by rw[e2] at k;exact k.2⟩) (by rw[e1]) (by rw[e1]) e2 rfl G y k
theorem gcd1{a d:Nat}(hd:0<d)(h: ¬(1:Int)<(bl (Nat.gcd a d):Nat)):Nat.gcd a d=1:=by
 have h1:Nat.gcd a d≠0:=fun e=>by rw[Nat.gcd_eq_zero_iff] at e;omega
 have h2:Nat.gcd a d<2^1:=bl_le.1 (by omega)
 omega
theorem bl62{x:Nat}:(((bl x:Nat):Int)≤62)↔x<4611686018427387904:=bl_le62
theorem PF.ofI{GB:Gh}{P:Program}{f:FuncId}{ds ds':List DV}{r:DV}(h:PF GB P f ds r)(k: ∀G vs,IsLs G ds' vs→IsLs G ds vs):PF GB P f ds' r:=fun G vs hg hv=>h G vs hg (k G vs hv)
theorem p_reduce{GB:Gh}{n:Bool}{a d i j:Nat}[h:BN a i][k:BN d j](hi:i≤450000000:=by decide)(hj:j≤450000000:=by decide):PF GB Tryz.prog 208 [eS n a,dN d] (eF (mkRat (zv n a) d)):=by
 refine fn Tryz.func208 J J Tryz.ntmps208 J J (fun C=>?_)
 refine cl rfl (p_Bits (a:=d) (by omega)) rfl<|?_
 refine cs 13 J J J (fun hg13=>?_) (fun hg13=>?_)
 ·
  exact rzI rfl (by obtain rfl:=bl_eq0.1 (Int.ofNat.inj hg13);rw[Rat.mkRat_zero];exact is_0)
 ·
  have hd0:0<d:=by have:= @bl_eq0 d;omega
  have hg0:0<Nat.gcd a d:=Nat.gcd_pos_of_pos_right _ hd0
  refine cl rfl (p_ISign (n:=n) (a:=a) (by omega)) rfl<|?_
  refine br J J J (fun hc17=>?_) (fun hc17=>?_)
  ·
   exact rzI rfl (by rw[Int.sign_eq_zero_iff_zero.1 hc17,Rat.zero_mkRat];exact is_0)
  ·
   refine cl rfl (p_Gcd (a:=a) (b:=d) (by omega) (by omega)) rfl<|cl rfl (p_Bits (a:=Nat.gcd a d) (i:=i+j) (by omega)) rfl<|?_
   refine br J J J (fun hc25=>?_) (fun hc25=>?_)
   ·
    obtain⟨a',ea⟩: ∃a',a'=a/Nat.gcd a d:=⟨_,rfl⟩
    obtain⟨d',ed⟩: ∃d',d'=d/Nat.gcd a d:=⟨_,rfl⟩
    have hba:BN a' i:=ea▸inferInstance
    have hbd:BN d' j:=ed▸inferInstance
    refine cl (fu:=⟨2⟩) rfl (p_DivMod (a:=a) (b:=Nat.gcd a d) (j:=i+j) hg0 (by omega) (by omega)) rfl<|?_
    refine eqF 31 (.d (dN a')) rfl (by rw[ea]) ?_
    refine gx rfl<|cl (fu:=⟨2⟩) rfl (p_DivMod (a:=d) (b:=Nat.gcd a d) (j:=i+j) hg0 (by omega) (by omega)) rfl<|?_
    refine eqF 39 (.d (dN d')) rfl (by rw[ed]) ?_
    refine gx rfl<|cl rfl (p_Bits (h:=hba) (by omega)) rfl<|?_
    refine cs 46 J J J (fun hg46=>?_) (fun hg46=>?_)
    ·
     refine cl rfl (p_Bits (h:=hbd) (by omega)) rfl<|?_
     refine br J J J (fun hc50=>?_) (fun hc50=>?_)
     ·
      have hs2:=bl62.1 hc50
      refine cl rfl (p_Int64 (bl62.1 hg46)) rfl<|cl rfl (p_Uint (by have:=bl62.1 hc50;omega)) rfl<|?_
      exact rzI rfl (red_s hd0 ea ed (bl62.1 hg46) (bl62.1 hc50))
     ·
      refine cl rfl (p_INorm (neg:=n) (h:=hba) (by omega)) rfl<|cl rfl (p_Norm (h:=hbd) (by omega)) rfl<|fz 71 J J<|?_
      exact rzI rfl (red_b hd0 ea ed (fun e=>hc50 (bl62.2 e.2)))
    ·
     refine cl rfl (p_INorm (neg:=n) (h:=hba) (by omega)) rfl<|cl rfl (p_Norm (h:=hbd) (by omega)) rfl<|fz 71 J J<|?_
     exact rzI rfl (red_b hd0 ea ed (fun e=>hg46 (bl62.2 e.1)))
   ·
    have hg1:=gcd1 hd0 hc25
    have ea:a=a/Nat.gcd a d:=by rw[hg1,Nat.div_one]
    have ed:d=d/Nat.gcd a d:=by rw[hg1,Nat.div_one]
    have hba:=h
    have hbd:=k
    refine cl rfl (p_Bits (h:=hba) (by omega)) rfl<|?_
    refine cs 46 J J J (fun hg46=>?_) (fun hg46=>?_)
    ·
     refine cl rfl (p_Bits (h:=hbd) (by omega)) rfl<|?_
     refine br J J J (fun hc50=>?_) (fun hc50=>?_)
     ·
      have hs2:=bl62.1 hc50
      refine cl rfl (p_Int64 (bl62.1 hg46)) rfl<|cl rfl (p_Uint (by have:=bl62.1 hc50;omega)) rfl<|?_
      exact rzI rfl (red_s hd0 ea ed (bl62.1 hg46) (bl62.1 hc50))
     ·
      refine cl rfl (p_INorm (neg:=n) (h:=hba) (by omega)) rfl<|cl rfl (p_Norm (h:=hbd) (by omega)) rfl<|fz 71 J J<|?_
      exact rzI rfl (red_b hd0 ea ed (fun e=>hc50 (bl62.2 e.2)))
    ·
     refine cl rfl (p_INorm (neg:=n) (h:=hba) (by omega)) rfl<|cl rfl (p_Norm (h:=hbd) (by omega)) rfl<|fz 71 J J<|?_
     exact rzI rfl (red_b hd0 ea ed (fun e=>hg46 (bl62.2 e.1)))
theorem p_Whole{GB:Gh}{m:Int}{i:Nat}[h:BI m i](hi:i≤400000000:=by decide):PF GB Tryz.prog 225 [eI m] (eF (m:Rat)):=by
 refine fn Tryz.func225 J J Tryz.ntmps225 J J (fun C=>?_)
 refine rf (fu:=⟨0⟩) J J<|?_
 refine eqF 4 (.d (dN 1)) rfl (by unfold dN;rw[dg_one];rfl) ?_
 refine gx rfl<|cl rfl (p_reduce (n:=decide (m<0)) (a:=m.natAbs) (d:=1) (by omega)) rfl<|?_
 exact rz rfl (by rw[zv_eta,show mkRat m 1=(m:Rat) from Rat.mkRat_one ..];rfl)
theorem p_Zero{GB:Gh}{q:Rat}:PF GB Tryz.prog 226 [eF q] (vB (decide (q=0))):=by
 refine fn Tryz.func226 J J Tryz.ntmps226 J J (fun C=>?_)
 refine cs 6 J J J (fun hg6=>?_) (fun hg6=>?_)
 ·
  exact rz rfl (by rw[fn_s (bgF hg6)];show DV.v (.bool (decide _))= .v (.bool _);congr 2;exact decide_eq_decide.2 ⟨fun e=>Rat.num_eq_zero.1 e,fun e=>by rw[e];rfl⟩)
 ·
  exact rz rfl (by rw[decide_eq_false (big_ne (bgT' hg6))];rfl)
theorem p_abs{GB:Gh}{m:Int}(h:m.natAbs<9223372036854775808):PF GB Tryz.prog 264 [vI m] (.v (.int .u64 (m.natAbs:Nat))):=by
 refine fn Tryz.func264 J J Tryz.ntmps264 J J (fun C=>?_)
 refine br J J J (fun hc4=>?_) (fun hc4=>?_)
 ·
  exact rz rfl (by show DV.v (.int _ _)=_;congr 2;omega)
 ·
  exact rz rfl (by show DV.v (.int _ _)=_;congr 2;omega)
theorem p_Den{GB:Gh}{q:Rat}{i:Nat}[h:BQ q i](hi:i≤900000000:=by decide):PF GB Tryz.prog 215 [eF q] (dN q.den):=by
 refine fn Tryz.func215 J J Tryz.ntmps215 J J (fun C=>?_)
 refine br (v1:=fun hc5=>by simp only[allP];exact hc5) (fu2:=⟨6⟩) J J J (fun hc5=>?_) (fun hc5=>?_)
 ·
  refine cl rfl (p_Norm (a:=q.den) (by omega)) rfl<|?_
  exact rz J J
 ·
  have hd:=q.den_nz
  have hs:=small_d (bgF' hc5)
  refine eqF 13 (.d (vI ((q.den:Int)-1))) rfl (by rw[fd_s (bgF' hc5)]) ?_
  refine gx (fu:=⟨2⟩) rfl<|?_
  refine eqF 15 (.d (.v (.int .u64 (q.den:Nat)))) rfl (by congr 3;omega) ?_
  refine gx rfl<|cl rfl (p_FromUint (a:=q.den) (by omega)) rfl<|?_
  exact rz J J
theorem p_Num{GB:Gh}{q:Rat}{i:Nat}[h:BQ q i](hi:i≤900000000:=by decide):PF GB Tryz.prog 180 [eF q] (eI q.num):=by
 refine fn Tryz.func180 J J Tryz.ntmps180 J J (fun C=>?_)
 refine br (v1:=fun hc5=>by simp only[allP];exact hc5) (fu2:=⟨6⟩) J J J (fun hc5=>?_) (fun hc5=>?_)
 ·
  refine cl rfl (p_INorm (neg:=decide (q.num<0)) (a:=q.num.natAbs) (by omega)) rfl<|?_
  exact rz rfl (by rw[zv_eta];rfl)
 ·
  have hs:=small_n (bgF' hc5)
  refine eqF 13 (.d (vI q.num)) rfl (by rw[fn_s (bgF' hc5)]) ?_
  refine gx rfl<|cl rfl (p_FromInt (by omega) (by omega)) rfl<|?_
  exact rz J J
theorem p_FNeg{GB:Gh}{q:Rat}{i:Nat}[h:BQ q i](hi:i≤900000000:=by decide):PF GB Tryz.prog 155 [eF q] (eF (-q)):=by
 refine fn Tryz.func155 J J Tryz.ntmps155 J J (fun C=>?_)
 refine br (v1:=fun hc5=>by simp only[allP];exact hc5) (fu2:=⟨6⟩) J J J (fun hc5=>?_) (fun hc5=>?_)
 ·
  refine cl (fu:=⟨6⟩) (hv:=by simp only[allP];exact hc5) rfl (p_INeg (m:=q.num) (by omega)) rfl<|bxf J J<|?_
  exact rzI rfl (is_b (q:= -q) (fun k=>bgT hc5 (by rw[Rat.neg_num,Int.natAbs_neg,Rat.neg_den] at k;exact k)) (by rw[Rat.neg_num]) (by rw[Rat.neg_num]) (Rat.neg_den q) rfl)
 ·
  have hs:=small_n (bgF' hc5)
  refine eqF 21 (.d (vI q.num)) rfl (by rw[fn_s (bgF' hc5)]) ?_
  refine gx rfl<|?_
  exact rzI rfl (is_s (q:= -q) (fun k=>k (by rw[Rat.neg_num,Int.natAbs_neg,Rat.neg_den];exact⟨hs,small_d (bgF' hc5)⟩)) (by rw[Rat.neg_num]) (by rw[Rat.neg_den,fd_s (bgF' hc5)]) rfl)
theorem p_FSign{GB:Gh}{q:Rat}{i:Nat}[h:BQ q i](hi:i≤900000000:=by decide):PF GB Tryz.prog 151 [eF q] (vI q.num.sign):=by
 refine fn Tryz.func151 J J Tryz.ntmps151 J J (fun C=>?_)
 refine br (v1:=fun hc3=>by simp only[allP];exact hc3) J J J (fun hc3=>?_) (fun hc3=>?_)
 ·
  refine cl rfl (p_ISign (n:=decide (q.num<0)) (a:=q.num.natAbs) (by omega)) rfl<|?_
  exact rz rfl (by rw[zv_eta];rfl)
 ·
  have hs:=fn_s (bgF' hc3)
  refine br J J J (fun hc13=>?_) (fun hc13=>?_)
  ·
   exact rz rfl (by rw[Int.sign_eq_neg_one_of_neg (by omega)];rfl)
  ·
   refine br J J J (fun hc17=>?_) (fun hc17=>?_)
   ·
    exact rz rfl (by rw[Int.sign_eq_one_of_pos (by omega)];rfl)
   ·
    exact rz rfl (by rw[show q.num=0 by omega];rfl)
end Go.Sx
end

section
set_option maxRecDepth 100000
namespace Go.Sx
open Go Go.Proofs
theorem q_Div32{GB:Gh}{h l y:Nat}(hh:h<y)(hl:l<4294967296)(hy:y<4294967296):PF GB Tryz.prog 237 [.v (.int .u32 (h:Int)), .v (.int .u32 (l:Int)), .v (.int .u32 (y:Int))] (.tp [dU ((h*4294967296+l)/y),dU ((h*4294967296+l)%y)]):=by
 refine fn (fu:=⟨11⟩) Tryz.func237 J J Tryz.ntmps237 J J (fun C=>?_)
 refine kT 10 rfl (by omega) ?_
 refine gx (fu:=⟨4⟩) rfl<|?_
 refine kF 14 rfl (by omega) ?_
 refine gx (fu:=⟨11⟩) (hv:=by simp only[allP];exact⟨by omega,(by decide)⟩) rfl<|?_
 refine eqF 19 (.d (.v (.int .u64 (h*2^32:Nat)))) rfl (by show FX.d (.v (.int _ _))= .d (.v (.int _ _));rw[shl_u64 _ 32 (by decide) (by show _*4294967296<_;omega) rfl]) ?_
 refine gx (fu:=⟨3⟩) rfl<|?_
 refine eqF 22 (.d (.v (.int .u64 (l+h*2^32:Nat)))) rfl (congrArg (fun z:Nat=>FX.d (.v (.int .u64 (z:Int)))) (by rw[BitVec.or_comm];exact bv_or 64 l h 32 hl (by show _+_*4294967296<18446744073709551616;omega))) ?_
 obtain⟨t,ht⟩: ∃t,t=h*4294967296+l:=⟨_,rfl⟩
 have hq:t/y<4294967296:=by rw[Nat.div_lt_iff_lt_mul (by omega)];have:=Nat.mul_le_mul_left 4294967296 (show h+1≤y from hh);omega
 have hr:t%y<y:=Nat.mod_lt _ (by omega)
 refine eqF 22 (.d (.v (.int .u64 (t:Nat)))) rfl (by show FX.d (.v (.int _ _))= .d (.v (.int _ _));congr 3;rw[ht];omega) ?_
 refine gx (hv:=by simp only[allP];exact⟨⟨⟨⟨by omega,⟨(by omega),(by omega),(by omega)⟩⟩,by omega⟩,⟨(by omega),(by omega)⟩⟩,by kernel_rfl⟩) rfl<|?_
 exact rz rfl (by show DV.tp [.v (.int _ _), .v (.int _ _)]= .tp [.v (.int _ _), .v (.int _ _)];rw[←ht,←Int.natCast_ediv,←Int.natCast_emod];generalize t/y=q at*;generalize t%y=r at*;congr 4<;>(first|omega|(congr 3;omega)))
theorem div_dig{A r i b:Nat}(d:Nat)(hb:0<b):(A*4294967296+d)/b=A/b*4294967296+(A%b*4294967296+d)/b∧(A*4294967296+d)%b=(A%b*4294967296+d)%b:=by
 have h:=Nat.div_add_mod A b
 have e:A*4294967296+d=(A%b*4294967296+d)+b*(A/b*4294967296):=by
  rw[←Nat.mul_assoc,Nat.add_right_comm,←Nat.add_mul,Nat.add_comm (A%b),h]
 rw[e,Nat.add_mul_div_left _ _ hb,Nat.add_mul_mod_self_left]
 exact⟨Nat.add_comm _ _,rfl⟩
theorem drop_dig{ds:List Nat}{i:Nat}(h:i<ds.length):dv (ds.drop i)=dv (ds.drop (i+1))*4294967296+ds.getD i 0:=by
 rw[List.drop_eq_getElem_cons h,List.getD_eq_getElem?_getD,List.getElem?_eq_getElem h]
 simp only[dv,Option.getD_some];omega
theorem drop_set_dig{W:List Nat}{i q:Nat}(h:i<W.length):dv ((W.set i q).drop i)=dv (W.drop (i+1))*4294967296+q:=by
 rw[drop_dig (by rw[List.length_set];exact h),List.drop_set_of_lt (by omega),getD_set_eq h]
theorem short_inv{a b k:Nat}{W:List Nat}(hb:0<b)(hk:k<(dg a).length)(hl:W.length=(dg a).length)(h:dv (W.drop (k+1))=dv ((dg a).drop (k+1))/b):
  dv ((W.set k ((dv ((dg a).drop (k+1))%b*4294967296+(dg a).getD k 0)/b)).drop k)=dv ((dg a).drop k)/b∧dv ((dg a).drop k)%b=(dv ((dg a).drop (k+1))%b*4294967296+(dg a).getD k 0)%b:=by
 have:=div_dig (A:=dv ((dg a).drop (k+1))) (r:=0) (i:=0) ((dg a).getD k 0) hb
 rw[drop_set_dig (by omega),h,drop_dig hk,this.1,this.2]
 exact⟨rfl,rfl⟩
theorem cmpN_neg{a b:Nat}:cmpN a b<0↔a<b:=by unfold cmpN;split<;>(try split)<;>omega
theorem cmpN_pos{a b:Nat}:0<cmpN a b↔b<a:=by unfold cmpN;split<;>(try split)<;>omega
theorem q_lz32{GB:Gh}{x:Nat}(hx:x<4294967296):PF GB Tryz.prog 268 [dU x] (vI (32-(bl x:Int))):=by
 intro G vs hg hv
 obtain⟨v,m,rfl,h1,h2⟩:=isl_cons.1 hv
 rw[isl_nil] at h2;subst h2
 rw[is_v.1 h1]
 exact(bits_lz32 hx).mono fun v G' _ h=>is_v.2 h
theorem dg_len_ge{a k:Nat}(h:4294967296^k≤a):k<(dg a).length:=by
 have h1:=dg_lt_pow a
 rcases Nat.lt_or_ge k (dg a).length with q|q
 ·exact q
 ·have:4294967296^(dg a).length≤4294967296^k:=Nat.pow_le_pow_right (by decide) q
  omega
theorem dg_top{v L:Nat}(hL:L=(dg v).length)(h1:1≤L):(dg v).getD (L-1) 0=v/4294967296^(L-1)∧0<v/4294967296^(L-1):=by
 have h:=dv_two (dg_ok v) (L-1)
 rw[getD_out (by omega:(dg v).length≤L-1+1),dv_dg,Nat.mul_zero,Nat.add_zero] at h
 have h2:=dg_lt_pow v
 rw[←hL] at h2
 rw[Nat.div_eq_of_lt (show v<4294967296^(L-1+2) from Nat.lt_of_lt_of_le h2 (Nat.pow_le_pow_right (by decide) (by omega))),Nat.mul_zero,Nat.add_zero] at h
 have h3:=nrm_ge (dg_spec v).2.2 (by intro e;rw[e] at hL;simp at hL;omega)
 rw[dv_dg,←hL] at h3
 exact⟨h.symm,Nat.div_pos h3 (Nat.pow_pos (by decide))⟩
theorem lead_eq{R n:Nat}(h1:1≤n)(h:R<4294967296^(n+1)):R/4294967296^(n-1)=(dg R).getD (n-1) 0+(dg R).getD n 0*4294967296:=by
 have e:=dv_two (dg_ok R) (n-1)
 rw[dv_dg,show n-1+1=n by omega,Nat.div_eq_of_lt (show R<4294967296^(n-1+2) by rwa [show n-1+2=n+1 by omega]),Nat.mul_zero,Nat.add_zero,Nat.mul_comm] at e
 exact e
theorem guess_ge{R v j L:Nat}(hL:L=(dg v).length)(h1:1≤L)(hR:R<v*4294967296^(j+1)):R/(v*4294967296^j)≤min (R/4294967296^(L+j-1)/(v/4294967296^(L-1))) 4294967295:=by
 have ht:=(dg_top hL h1).2
 have hp:0<4294967296^j:=Nat.pow_pos (by decide)
 have hv0:0<v:=by
  rcases Nat.eq_zero_or_pos v with q|q
  ·subst q;simp at ht
  ·exact q
 have hvp:0<v*4294967296^j:=Nat.mul_pos hv0 hp
 refine Nat.le_min.2 ⟨?_,?_⟩
 ·rw[Nat.le_div_iff_mul_le ht,Nat.le_div_iff_mul_le (Nat.pow_pos (by decide))]
  have h3:v/4294967296^(L-1)*4294967296^(L-1)≤v:=Nat.div_mul_le_self _ _
  have h4:R/(v*4294967296^j)*(v*4294967296^j)≤R:=Nat.div_mul_le_self _ _
  rw[show L+j-1=L-1+j by omega,Nat.pow_add]
  calc R/(v*4294967296^j)*(v/4294967296^(L-1))*(4294967296^(L-1)*4294967296^j)
    =R/(v*4294967296^j)*((v/4294967296^(L-1)*4294967296^(L-1))*4294967296^j):=by simp only[Nat.mul_assoc]
   _≤R/(v*4294967296^j)*(v*4294967296^j):=Nat.mul_le_mul_left _ (Nat.mul_le_mul_right _ h3)
   _≤R:=h4
 ·have:R/(v*4294967296^j)<4294967296:=by
   rw[Nat.div_lt_iff_lt_mul hvp]
   rw[Nat.pow_succ] at hR
   rwa [Nat.mul_comm,Nat.mul_assoc]
  omega
theorem guess_down{R V g:Nat}(hV:0<V)(h:R<V*g):R/V<g:=by
 rw[Nat.div_lt_iff_lt_mul hV,Nat.mul_comm];exact h
theorem guess_eq{R V g:Nat}(hV:0<V)(h1:R/V≤g)(h2:V*g≤R):g=R/V:=by
 have:g≤R/V:=by rw[Nat.le_div_iff_mul_le hV,Nat.mul_comm];exact h2
 omega
theorem long_inv{R0 R v j g:Nat}{W:List Nat}(hj:j<W.length)(h:R0=R+dv (W.drop (j+1))*4294967296^(j+1)*v)(hv:0<v*4294967296^j)(hg:g=R/(v*4294967296^j)):
  R0=(R-v*4294967296^j*g)+dv ((W.set j g).drop j)*4294967296^j*v∧R-v*4294967296^j*g<v*4294967296^j:=by
 have h1:=Nat.div_add_mod R (v*4294967296^j)
 have h2:=Nat.mod_lt R hv
 rw[←hg] at h1
 refine⟨?_,by omega⟩
 rw[drop_set_dig hj,Nat.add_mul,Nat.add_mul,h,Nat.pow_succ]
 have e:g*4294967296^j*v=v*4294967296^j*g:=by simp only[Nat.mul_assoc,Nat.mul_left_comm,Nat.mul_comm]
 have e2:dv (W.drop (j+1))*(4294967296^j*4294967296)*v=dv (W.drop (j+1))*4294967296*4294967296^j*v:=by simp only[Nat.mul_assoc,Nat.mul_left_comm,Nat.mul_comm]
 rw[e,e2]
 omega
theorem long_end{a b s R:Nat}{D:Nat}(hR:R<b*2^s)(h:a*2^s=R+D*(b*2^s)):D=a/b∧R/2^s=a%b:=by
 have hp:0<2^s:=Nat.pow_pos (by decide)
 have hb:0<b:=by
  rcases Nat.eq_zero_or_pos b with q|q
  ·subst q;simp at hR
  ·exact q
 have h1:a=R/2^s+D*b:=by
  have:=congrArg (· /2^s) h
  rw[Nat.mul_div_cancel _ hp,←Nat.mul_assoc,Nat.add_mul_div_right _ _ hp] at this
  exact this
 have h2:R/2^s<b:=by rw[Nat.div_lt_iff_lt_mul hp];exact hR
 have h3:R/2^s+b*D=a:=by rw[Nat.mul_comm b];exact h1.symm
 have:=(Nat.div_mod_unique hb).2 ⟨h3,h2⟩
 exact⟨this.1.symm,this.2.symm⟩
theorem long_start{a b s:Nat}(hl:(dg b).length≤(dg a).length)(h2:1≤(dg b).length):a*2^s<b*2^s*4294967296^((dg a).length-(dg b).length+1):=by
 have h1:=dg_lt_pow a
 have h3:=nrm_ge (dg_spec b).2.2 (by intro e;rw[e] at h2;simp at h2)
 rw[dv_dg] at h3
 have h4:4294967296^(dg a).length≤b*4294967296^((dg a).length-(dg b).length+1):=by
  rw[show(dg a).length=((dg b).length-1)+((dg a).length-(dg b).length+1) by omega,Nat.pow_add]
  rw[show(dg b).length-1+((dg a).length-(dg b).length+1)-(dg b).length+1=(dg a).length-(dg b).length+1 by omega]
  exact Nat.mul_le_mul_right _ h3
 rw[Nat.mul_right_comm]
 exact Nat.mul_lt_mul_of_pos_right (Nat.lt_of_lt_of_le h1 h4) (Nat.pow_pos (by decide))
theorem left32(x j:Nat):x*2^(32*j)=x*4294967296^j:=by rw[Nat.pow_mul]
theorem lead_lt{R L j:Nat}(h:R<4294967296^(L+j+1))(h1:1≤L):R/4294967296^(L+j-1)<18446744073709551616:=by
 rw[Nat.div_lt_iff_lt_mul (Nat.pow_pos (by decide)),show(18446744073709551616:Nat)=4294967296^2 from rfl,←Nat.pow_add]
 rwa [show 2+(L+j-1)=L+j+1 by omega]
theorem long_len{R v j L:Nat}(hL:L=(dg v).length)(hR:R<v*4294967296^(j+1)):R<4294967296^(L+j+1):=by
 have h:=dg_lt_pow v
 rw[←hL] at h
 rw[Nat.add_assoc,Nat.pow_add]
 exact Nat.lt_of_lt_of_le hR (Nat.mul_le_mul_right _ (Nat.le_of_lt h))
set_option maxHeartbeats 4000000 in
theorem q_long{GB:Gh}{a b ia ib:Nat}[ha:BN a ia][hb:BN b ib](hi:ia≤500000000)(hj:ib≤500000000)(h2:1≤(dg b).length)(hl:(dg b).length≤(dg a).length):PF GB Tryz.prog 238 [dN a,dN b] (.tp [dN (a/b),dN (a%b)]):=by
 have hla:=mapU_len (dg a)
 have hlb:=mapU_len (dg b)
 have hba:=dg_len_le ha.h
 have hba':(dg a).length≤20000000:=by omega
 refine fn Tryz.func238 J J Tryz.ntmps238 J J (fun C=>?_)
 refine ix _ rfl (mapU_getZ (k:=(dg b).length-1) (by omega) (by omega)) rfl<|cl (fu:=⟨0⟩) rfl (q_lz32 (dg_lt b ((dg b).length-1))) rfl<|?_
 obtain⟨s,hs⟩: ∃s:Nat,s=32-bl ((dg b).getD ((dg b).length-1) 0):=⟨_,rfl⟩
 have hs32:s≤32:=by omega
 refine eqF 22 (.d (vI (s:Nat))) rfl (by show FX.d (.v (.int _ _))= .d (.v (.int _ _));congr 3;have:=bl_le.2 (show(dg b).getD ((dg b).length-1) 0<2^32 from dg_lt b _);omega) ?_
 refine gx rfl<|cl rfl (q_Left (a:=b) (k:=s) (ia:=ib) (by omega) (by omega)) rfl<|cl (fu:=⟨0⟩) rfl (q_Left (a:=a) (k:=s) (ia:=ia) (by omega) (by omega)) rfl<|?_
 obtain⟨v,hv⟩: ∃v,v=b*2^s:=⟨_,rfl⟩
 obtain⟨R0,hR0⟩: ∃R0,R0=a*2^s:=⟨_,rfl⟩
 refine eqF 25 (.d (dN v)) rfl (by rw[hv]) ?_
 refine eqF 28 (.d (dN R0)) rfl (by rw[hR0]) ?_
 obtain⟨L,hL⟩: ∃L,L=(dg v).length:=⟨_,rfl⟩
 have hlv:((dg v).map dU).length=L:=by rw[mapU_len,hL]
 have hps:2^s≤2^32:=Nat.pow_le_pow_right (by decide) hs32
 have hpp:0<2^s:=Nat.pow_pos (by decide)
 have hst:=long_start (a:=a) (b:=b) (s:=s) hl h2
 rw[←hv,←hR0] at hst
 have hvb:v<2^(ib+32):=by rw[hv,Nat.pow_add];exact Nat.mul_lt_mul_of_lt_of_le hb.h hps (by decide)
 have hRb:R0<2^(ia+32):=by rw[hR0,Nat.pow_add];exact Nat.mul_lt_mul_of_lt_of_le ha.h hps (by decide)
 have hbp:0<b:=Nat.pos_of_ne_zero (fun q=>by subst q;rw[dg_zero] at h2;simp at h2)
 have hvp:0<v:=hv▸Nat.mul_pos hbp hpp
 have hLp:1≤L:=by rw[hL];exact dg_len_ge (k:=0) (by rw[Nat.pow_zero];exact hvp)
 have htop:=dg_top hL hLp
 haveI hvB:BN v (ib+32):=⟨hvb⟩
 have hLb:=dg_len_le hvb
 have hLb':L≤20000000:=by omega
 have htl:=dg_lt v (L-1)
 refine gx (fu:=⟨9⟩) rfl<|?_
 refine eqF 31 (.d (vI (L:Nat))) rfl (by rw[hlv];rfl) ?_
 refine gx rfl<|ix (fu:=⟨2⟩) _ rfl (mapU_getZ (k:=L-1) (by omega) (by omega)) rfl<|?_
 refine eqF 35 (.d (.v (.int .u64 (v/4294967296^(L-1):Nat)))) rfl (by rw[htop.1]) ?_
 rw[htop.1] at htl
 refine gx (fu:=⟨11⟩) rfl<|?_
 obtain⟨m,hm⟩: ∃m,m=(dg a).length-(dg b).length+1:=⟨_,rfl⟩
 rw[←hm] at hst
 have hrl:(List.replicate ((m:Nat):Int).toNat (DV.v (.int .u32 0))).length=m:=by rw[List.length_replicate,Int.toNat_natCast]
 refine eqF 41 (.d (vI (m:Nat))) rfl (by show FX.d (.v (.int _ _))= .d (.v (.int _ _));congr 3;omega) ?_
 refine gx rfl<|mk ((List.replicate m 0).map dU) J J (by rw[←mapU_rep];rfl) rfl<|?_
 refine lp (X:=List Nat×Nat×Nat) (fun⟨W,R,k⟩=>[(6, .d (vI (s:Nat))),(7, .d (dN v)),(8, .d (dN R)),(9, .d (.v (.int .u64 (v/4294967296^(L-1):Nat)))),(10, .rw 42),(11, .d (vI ((k:Nat)-1)))]) (fun⟨W,R,k⟩=>[(42,some (.b 279 1 (W.map dU) true))]) (fun⟨W,R,k⟩=>W.length=m∧DOk W∧k≤m∧R0=R+dv (W.drop k)*4294967296^k*v∧R<v*4294967296^k∧R≤R0) (fun⟨W,R,k⟩=>k) ⟨List.replicate m 0,R0,m⟩ rfl ⟨by simp, .replicate _,Nat.le_refl _,by simp[dv],hst,Nat.le_refl _⟩ (fun _=>rfl) (fun⟨W,R,k⟩ hk=>?_)
 dsimp only at hk⊢
 obtain⟨h1,h2',h3,h4,h5,h6⟩:=hk
 have hlw:=mapU_len W
 refine br (fu1:=⟨10⟩) J J J (fun hc47=>?_) (fun hc47=>?_)
 ·
  obtain⟨j,rfl⟩: ∃j,k=j+1:=⟨k-1,by omega⟩
  have hvj:0<v*4294967296^j:=Nat.mul_pos hvp (Nat.pow_pos (by decide))
  have hge:=guess_ge hL hLp h5
  have hlen:=long_len hL h5
  have hlr:((dg R).map dU).length=(dg R).length:=mapU_len _
  haveI hRB:BN R (ia+32):=⟨by omega⟩
  have hq32:R/(v*4294967296^j)<4294967296:=by omega
  have hz1:=Int.natCast_nonneg (R/4294967296^(L+j-1))
  have hz2:=Int.natCast_nonneg (R/4294967296^(L+j-1)/(v/4294967296^(L-1)))
  refine eqF 11 (.d (vI (j:Nat))) rfl (by show FX.d (.v (.int _ _))= .d (.v (.int _ _));congr 3;omega) ?_
  refine mg (fu:=⟨6⟩) (hv:=fun _ _=>by simp only[allP];exact⟨(by omega),(by have:=lead_lt hlen hLp;omega),(by omega)⟩) (X:=Unit) (fun _=>[(6, .d (vI (s:Nat))),(7, .d (dN v)),(8, .d (dN R)),(9, .d (.v (.int .u64 (v/4294967296^(L-1):Nat)))),(10, .rw 42),(11, .d (vI (j:Nat))),(12, .d (.v (.int .u64 (R/4294967296^(L+j-1):Nat))))]) (fun _=>[(42,some (.b 279 1 (W.map dU) true))]) (fun _=>True) [6,7,8,9,10,11,12] [42] rfl ?_ (fun _=>rfl) (fun _ hm=>?_)
  ·
   refine gx (fu:=⟨4⟩) rfl<|?_
   refine eqF 51 (.d (vI (L:Nat))) rfl (by rw[hlv];rfl) ?_
   refine gx (fu:=⟨2⟩) rfl<|?_
   refine eqF 53 (.d (vI (L+j:Nat))) rfl (by show FX.d (.v (.int _ _))= .d (.v (.int _ _));congr 3) ?_
   refine gx (fu:=⟨8⟩) rfl<|?_
   refine eqF 56 (.d (vI ((dg R).length:Nat))) rfl (by rw[hlr];rfl) ?_
   refine gx rfl<|?_
   refine br (fu2:=⟨6⟩) J J J (fun hc57=>?_) (fun hc57=>?_)
   ·
    have hd0:=dg_lt R (L+j-1)
    have hd1:=dg_lt R (L+j)
    refine ix (hv:=by simp only[allP];exact⟨⟨by omega,(by decide)⟩,by omega⟩) _ rfl (mapU_getZ (k:=L+j) (by omega) (by omega)) rfl<|ix (fu:=⟨3⟩) _ rfl (mapU_getZ (k:=L+j-1) (by omega) (by omega)) rfl<|?_
    refine eqF 70 (.d (.v (.int .u64 ((dg R).getD (L+j-1) 0+(dg R).getD (L+j) 0*4294967296:Nat)))) rfl (congrArg (fun z:Nat=>FX.d (.v (.int .u64 (z:Int)))) (by rw[shl_u64 _ 32 (by decide) (by show _*4294967296<_;omega) rfl,BitVec.or_comm];exact bv_or 64 ((dg R).getD (L+j-1) 0) ((dg R).getD (L+j) 0) 32 hd0 (by show _+_*4294967296<18446744073709551616;omega))) ?_
    refine gx rfl<|?_
    refine eqF 12 (.d (.v (.int .u64 (R/4294967296^(L+j-1):Nat)))) rfl (by rw[lead_eq (by omega) hlen]) ?_
    exact at_ () trivial
   ·
    refine eqF 74 (.d (vI ((dg R).length:Nat))) rfl (by rw[hlr];rfl) ?_
    refine gx rfl<|?_
    refine br J J J (fun hc75=>?_) (fun hc75=>?_)
    ·
     have hd0:=dg_lt R (L+j-1)
     refine ix _ rfl (mapU_getZ (k:=L+j-1) (by omega) (by omega)) rfl<|?_
     refine eqF 12 (.d (.v (.int .u64 (R/4294967296^(L+j-1):Nat)))) rfl (by rw[lead_eq (by omega) hlen,getD_out (by omega:(dg R).length≤L+j),Nat.zero_mul,Nat.add_zero]) ?_
     exact at_ () trivial
    ·
     refine eqF 12 (.d (.v (.int .u64 (R/4294967296^(L+j-1):Nat)))) rfl (by rw[lead_eq (by omega) hlen,getD_out (by omega:(dg R).length≤L+j),getD_out (by omega:(dg R).length≤L+j-1)];rfl) ?_
     exact at_ () trivial
  ·
   obtain⟨g0,hg0'⟩: ∃g0,g0=min (R/4294967296^(L+j-1)/(v/4294967296^(L-1))) 4294967295:=⟨_,rfl⟩
   rw[←hg0'] at hge
   have hg0:=hge
   have hg1:g0≤4294967295:=by omega
   refine eqF 85 (.d (.v (.int .u64 (g0:Nat)))) rfl (by show FX.d (.v (.int _ _))= .d (.v (.int _ _));congr 3;rw[←Int.natCast_ediv];split<;>omega) ?_
   refine gx rfl<|cl rfl (q_Word (u:=g0) (by omega)) rfl<|cl (fu:=⟨2⟩) rfl (q_Product (ia:=ib+32) (ib:=32) (hb:=⟨by show _<4294967296;omega⟩) (by omega) (by decide)) rfl<|?_
   refine eqF 91 (.d (vI (32*j:Nat))) rfl (by show FX.d (.v (.int _ _))= .d (.v (.int _ _));congr 3) ?_
   refine gx rfl<|cl (fu:=⟨0⟩) rfl (q_Left (k:=32*j) (ia:=ib+64) (ha:=⟨by rw[show ib+64=ib+32+32 by omega,Nat.pow_add];exact Nat.mul_lt_mul'' hvb (by show _<4294967296;omega)⟩) (by omega) (by omega)) rfl<|?_
   refine eqF 92 (.d (dN (v*4294967296^j*g0))) rfl (by rw[left32,Nat.mul_right_comm]) ?_
   refine gx rfl<|?_
   refine lp (X:=Nat) (fun g=>[(6, .d (vI (s:Nat))),(7, .d (dN v)),(8, .d (dN R)),(9, .d (.v (.int .u64 (v/4294967296^(L-1):Nat)))),(10, .rw 42),(11, .d (vI (j:Nat))),(14, .d (.v (.int .u64 (g:Nat)))),(15, .d (dN (v*4294967296^j*g)))]) (fun g=>[(42,some (.b 279 1 (W.map dU) true))]) (fun g=>R/(v*4294967296^j)≤g∧g≤4294967295) (fun g=>g) g0 rfl ⟨hg0,by omega⟩ (fun _=>rfl) (fun g hk=>?_)
   obtain⟨g1,g2⟩:=hk
   have hlw:=mapU_len W
   refine cl rfl (q_Cmp (a:=v*4294967296^j*g) (b:=R) (by have:=dg_len_of (a:=v*4294967296^j*g) (k:=L+j+1) (by have h1:=dg_lt_pow v;rw[←hL] at h1;rw[Nat.pow_succ,Nat.pow_add];exact Nat.mul_lt_mul'' (Nat.mul_lt_mul_of_pos_right h1 (Nat.pow_pos (by decide))) (by omega));omega) (by have:=dg_len_of hlen;omega)) rfl<|?_
   refine br (fu1:=⟨7⟩) (v1:=fun hc96=>by simp only[allP];exact(by have h:=guess_down hvj (cmpN_pos.1 hc96);have h1:1≤g:=Nat.lt_of_le_of_lt (Nat.zero_le _) h;omega)) (fu2:=⟨11⟩) J J J (fun hc96=>?_) (fun hc96=>?_)
   ·
    have hgd:=guess_down hvj (cmpN_pos.1 hc96)
    have hg1p:1≤g:=Nat.lt_of_le_of_lt (Nat.zero_le _) hgd
    refine eqF 98 (.d (.v (.int .u64 ((g-1:Nat):Int)))) rfl (by show FX.d (.v (.int _ _))= .d (.v (.int _ _));congr 3;omega) ?_
    refine gx rfl<|cl rfl (q_Word (u:=g-1) (by omega)) rfl<|cl (fu:=⟨2⟩) rfl (q_Product (ia:=ib+32) (ib:=32) (hb:=⟨by show _<4294967296;omega⟩) (by omega) (by decide)) rfl<|?_
    refine eqF 104 (.d (vI (32*j:Nat))) rfl (by show FX.d (.v (.int _ _))= .d (.v (.int _ _));congr 3) ?_
    refine gx rfl<|cl (fu:=⟨0⟩) rfl (q_Left (k:=32*j) (ia:=ib+64) (ha:=⟨by rw[show ib+64=ib+32+32 by omega,Nat.pow_add];exact Nat.mul_lt_mul'' hvb (by show _<4294967296;omega)⟩) (by omega) (by omega)) rfl<|?_
    refine eqF 105 (.d (dN (v*4294967296^j*(g-1)))) rfl (by rw[left32,Nat.mul_right_comm]) ?_
    refine gx rfl<|?_
    exact at_ (g-1) ⟨⟨by have h:=guess_down hvj (cmpN_pos.1 hc96);omega,by omega⟩,(by have:=guess_down hvj (cmpN_pos.1 hc96);omega)⟩
   ·
    have hgq:=guess_eq hvj g1 (Nat.le_of_not_lt fun q=>hc96 (cmpN_pos.2 q))
    refine eqF 109 (.d (dU g)) rfl (by show FX.d (.v (.int _ _))= .d (.v (.int _ _));congr 3;omega) ?_
    refine gx rfl<|sb _ ((W.set j (R/(v*4294967296^j))).map dU) rfl (mapU_getZ (k:=j) (by omega) (by omega)) rfl (by(rw[←hgq,Int.toNat_natCast,←mapU_set])<;>rfl) rfl<|?_
    refine cl (fu:=⟨0⟩) rfl (q_Less (a:=R) (b:=v*4294967296^j*g) (ia:=ia+32) (by rw[hgq];exact Nat.mul_div_le _ _) (by omega)) rfl<|?_
    refine eqF 113 (.d (dN (R-v*4294967296^j*(R/(v*4294967296^j))))) rfl (by rw[hgq]) ?_
    refine gx rfl<|?_
    exact at_ ⟨W.set j (R/(v*4294967296^j)),R-v*4294967296^j*(R/(v*4294967296^j)),j⟩ (by dsimp only;exact⟨⟨by simpa using h1,h2'.set _ (by omega),by omega,(long_inv (by omega) h4 hvj rfl).1,(long_inv (by omega) h4 hvj rfl).2,by omega⟩,(by omega)⟩)
 ·
  obtain rfl:k=0:=by omega
  rw[Nat.pow_zero,Nat.mul_one] at h5
  rw[Nat.pow_zero,Nat.mul_one,List.drop_zero,hR0,hv] at h4
  rw[hv] at h5
  have hend:=long_end h5 h4
  haveI hRB:BN R (ia+32):=⟨by omega⟩
  refine fz 42 J J<|cl rfl (q_Trim (ds:=W) (by omega)) rfl<|cl rfl (q_Right (a:=R) (k:=s) (ia:=ia+32) (by omega) (by omega)) rfl<|?_
  exact rz rfl (by show DV.tp [dLi _,dN _]= .tp [dN _,dN _];rw[dL_trim h2' hend.1,hend.2])
end Go.Sx
end

section
set_option maxRecDepth 100000
namespace Go.Sx
open Go Go.Proofs
theorem dg_len_mono{a b:Nat}(h:b≤a):(dg b).length≤(dg a).length:=dg_len_of (Nat.lt_of_le_of_lt h (dg_lt_pow a))
set_option maxHeartbeats 4000000 in
theorem q_Divide{GB:Gh}{a b ia ib:Nat}[ha:BN a ia][hb:BN b ib](hb0:0<b)(hi:ia≤500000000:=by decide)(hj:ib≤500000000:=by decide):PF GB Tryz.prog 188 [dN a,dN b] (.tp [dN (a/b),dN (a%b)]):=by
 have hla:=mapU_len (dg a)
 have hlb:=mapU_len (dg b)
 have hba:=dg_len_le ha.h
 have hbb:=dg_len_le hb.h
 have hba':(dg a).length≤20000000:=by omega
 have hbb':(dg b).length≤20000000:=by omega
 have hlb1:1≤(dg b).length:=dg_len_ge (k:=0) (by rw[Nat.pow_zero];exact hb0)
 refine fn (fu:=⟨7⟩) Tryz.func188 J J Tryz.ntmps188 J J (fun C=>?_)
 refine mg (X:=Unit) (fun _=>[(0, .d (dN a)),(1, .d (dN b))]) (fun _=>[]) (fun _=>True) [0,1] [] rfl ?_ (fun _=>rfl) (fun _ hm=>?_)
 ·
  refine gx rfl<|cl rfl (q_word (a:=a) (ia:=ia) (by omega)) rfl<|?_
  refine bd (fu1:=⟨0⟩) J J J (fun hc18=>?_) (fun hc18=>?_)
  ·
   refine eqF 6 (.d (.v (.int .u64 (a:Nat)))) rfl (by rw[if_pos hc18]) ?_
   refine gx rfl<|cl rfl (q_word (a:=b) (ia:=ib) (by omega)) rfl<|?_
   refine bd (fu1:=⟨0⟩) J J J (fun hc24=>?_) (fun hc24=>?_)
   ·
    refine eqF 8 (.d (.v (.int .u64 (b:Nat)))) rfl (by rw[if_pos hc24]) ?_
    have hdl:=Nat.div_le_self a b
    have hml:=Nat.mod_le a b
    refine gx (hv:=by simp only[allP];exact⟨(by omega),(by omega),(by omega)⟩) rfl<|cl (hv:=by simp only[allP];exact⟨(by omega),(by omega)⟩) rfl (q_Word (u:=a/b) (by omega)) rfl<|cl rfl (q_Word (u:=a%b) (by omega)) rfl<|?_
    exact rz J J
   ·
    exact at_ () trivial
  ·
   exact at_ () trivial
 ·
  refine cl rfl (q_Cmp (by omega) (by omega)) rfl<|?_
  refine br J J J (fun hc36=>?_) (fun hc36=>?_)
  ·
   have hab:=cmpN_neg.1 hc36
   refine ro0 J J<|ap _ J J (slOkU _) rfl<|?_
   refine fzE 39 rfl ?_
   exact rz rfl (by show DV.tp [_, .sl ([]++_)]= .tp [_,_];rw[Nat.div_eq_of_lt hab,Nat.mod_eq_of_lt hab,dN_zero];rfl)
  ·
   have hab:b≤a:=Nat.le_of_not_lt fun q=>hc36 (cmpN_neg.2 q)
   have hlab:(dg b).length≤(dg a).length:=dg_len_mono hab
   refine br (fu1:=⟨4⟩) J J J (fun hc42=>?_) (fun hc42=>?_)
   ·
    have hb1:b<4294967296:=by have:=dg_lt_pow b;rw[show(dg b).length=1 by omega] at this;omega
    have hbd:(dg b).getD 0 0=b:=dg_one_digit (by omega)
    refine eqF 44 (.d (vI ((dg a).length:Nat))) rfl (by rw[hla];rfl) ?_
    refine gx rfl<|mk (fu:=⟨13⟩) ((List.replicate (dg a).length 0).map dU) J J (by rw[←mapU_rep];rfl) rfl<|?_
    refine eqF 47 (.d (vI ((dg a).length:Nat))) rfl (by rw[hla];rfl) ?_
    refine gx rfl<|?_
    refine lp (X:=List Nat×Nat) (fun⟨W,k⟩=>[(0, .d (dN a)),(1, .d (dN b)),(10, .rw 45),(11, .d (dU (dv ((dg a).drop k)%b))),(12, .d (vI ((k:Nat)-1)))]) (fun⟨W,k⟩=>[(45,some (.b 279 1 (W.map dU) true))]) (fun⟨W,k⟩=>W.length=(dg a).length∧DOk W∧k≤(dg a).length∧dv (W.drop k)=dv ((dg a).drop k)/b) (fun⟨W,k⟩=>k) ⟨List.replicate (dg a).length 0,(dg a).length⟩ rfl ⟨by simp, .replicate _,Nat.le_refl _,by simp[dv]⟩ (fun _=>rfl) (fun⟨W,k⟩ hk=>?_) (hF:=(by refine⟨rfl,rfl,rfl,leI rfl (by simp[dv,dU]),leI rfl (by simp[vI]),?_⟩;repeat (first|exact trivial|refine And.intro rfl ?_)))
    try dsimp only at hk⊢
    obtain⟨h1,h2,h3,h4⟩:=hk
    have hlw:=mapU_len W
    refine br (fu1:=⟨0⟩) J J J (fun hc50=>?_) (fun hc50=>?_)
    ·
     obtain⟨k,rfl⟩: ∃j,k=j+1:=⟨k-1,by omega⟩
     have hsi:=short_inv hb0 (by omega) h1 h4
     have hrm:=Nat.mod_lt (dv ((dg a).drop (k+1))) hb0
     have hdk:=dg_lt a k
     have hqd:(dv ((dg a).drop (k+1))%b*4294967296+(dg a).getD k 0)/b<4294967296:=by rw[Nat.div_lt_iff_lt_mul hb0];have:=Nat.mul_le_mul_left 4294967296 (show dv ((dg a).drop (k+1))%b+1≤b from hrm);omega
     refine eqF 12 (.d (vI (k:Nat))) rfl (by show FX.d (.v (.int _ _))= .d (.v (.int _ _));congr 3;omega) ?_
     refine gx rfl<|ix _ rfl (mapU_getZ (k:=k) (by omega) (by omega)) rfl<|ix _ rfl (mapU_getZ (k:=0) rfl (by omega)) rfl<|cl rfl (q_Div32 (h:=dv ((dg a).drop (k+1))%b) (l:=(dg a).getD k 0) (y:=(dg b).getD 0 0) (by omega) hdk (by omega)) rfl<|?_
     refine sb (hv:=by simp only[allP];exact⟨by kernel_rfl,by omega⟩) _ ((W.set k ((dv ((dg a).drop (k+1))%b*4294967296+(dg a).getD k 0)/b)).map dU) rfl (mapU_getZ (k:=k) (by omega) (by omega)) rfl (by(rw[hbd,Int.toNat_natCast,←mapU_set])<;>rfl) rfl<|?_
     exact at_ ⟨W.set k ((dv ((dg a).drop (k+1))%b*4294967296+(dg a).getD k 0)/b),k⟩ (by dsimp only;exact⟨⟨by simpa using h1,h2.set _ hqd,by omega,hsi.1⟩,(by omega)⟩) (by refine⟨rfl,rfl,rfl,leI rfl (by rw[hsi.2,hbd]),leI rfl (by first|(simp[vI];done)|(simp[vI];omega)),?_⟩;repeat (first|exact trivial|refine And.intro rfl ?_))
    ·
     refine fz 45 J J<|cl rfl (q_Trim (ds:=W) (by omega)) rfl<|rf J J<|cl rfl (q_Trim (ds:=[dv ((dg a).drop k)%b]) (by simp)) rfl<|?_
     exact rz rfl (by show DV.tp [dLi _,dLi _]= .tp [_,_];obtain rfl:k=0:=(by omega);rw[List.drop_zero,List.drop_zero,dv_dg] at h4;rw[List.drop_zero,dv_dg];rw[dL_trim h2 h4,dL_trim (.cons (by have:=Nat.mod_lt a hb0;omega) .nil) (n:=a%b) (by simp[dv])])
   ·
    refine cl rfl (q_long (by omega) (by omega) hlb1 hlab) rfl<|?_
    exact rz J J
theorem gcd_next(x y:Nat):Nat.gcd y (x%y)=Nat.gcd x y:=by rw[Nat.gcd_comm x y,Nat.gcd_rec y x,Nat.gcd_comm]
set_option maxHeartbeats 4000000 in
theorem q_Common{GB:Gh}{a b ia ib:Nat}[ha:BN a ia][hb:BN b ib](hi:ia≤240000000:=by decide)(hj:ib≤240000000:=by decide):PF GB Tryz.prog 187 [dN a,dN b] (dN (Nat.gcd a b)):=by
 refine fn (fu:=⟨6⟩) Tryz.func187 J J Tryz.ntmps187 J J (fun C=>?_)
 refine mg (X:=Unit) (fun _=>[(0, .d (dN a)),(1, .d (dN b))]) (fun _=>[]) (fun _=>True) [0,1] [] rfl ?_ (fun _=>rfl) (fun _ hm=>?_)
 ·
  refine gx rfl<|cl rfl (q_word (a:=a) (ia:=ia) (by omega)) rfl<|?_
  refine bd (fu1:=⟨0⟩) J J J (fun hc16=>?_) (fun hc16=>?_)
  ·
   refine eqF 5 (.d (.v (.int .u64 (a:Nat)))) rfl (by rw[if_pos hc16]) ?_
   refine gx rfl<|cl rfl (q_word (a:=b) (ia:=ib) (by omega)) rfl<|?_
   refine bd (fu1:=⟨0⟩) J J J (fun hc22=>?_) (fun hc22=>?_)
   ·
    refine eqF 7 (.d (.v (.int .u64 (b:Nat)))) rfl (by rw[if_pos hc22]) ?_
    refine gx rfl<|?_
    refine lp (X:=Nat×Nat) (fun⟨x,y⟩=>[(5, .d (.v (.int .u64 (x:Nat)))),(7, .d (.v (.int .u64 (y:Nat))))]) (fun⟨x,y⟩=>[]) (fun⟨x,y⟩=>x<18446744073709551616∧y<18446744073709551616∧Nat.gcd x y=Nat.gcd a b) (fun⟨x,y⟩=>y) ⟨a,b⟩ rfl ⟨hc16,hc22,rfl⟩ (fun _=>rfl) (fun⟨x,y⟩ hk=>?_)
    try dsimp only at hk⊢
    obtain⟨h1,h2,h3⟩:=hk
    refine br (v1:=fun hc24=>by simp only[allP];exact⟨⟨(by omega),(by omega)⟩,by kernel_rfl⟩) J J J (fun hc24=>?_) (fun hc24=>?_)
    ·
     exact at_ ⟨y,x%y⟩ (by dsimp only;exact⟨⟨h2,by have:=Nat.mod_lt x (show 0<y by omega);omega,by rw[gcd_next,h3]⟩,(by exact Nat.mod_lt _ (by omega))⟩)
    ·
     refine cl rfl (q_Word (u:=x) h1) rfl<|?_
     exact rz rfl (by show dN x=_;rw[←h3,show y=0 by omega,Nat.gcd_zero_right])
   ·
    exact at_ () trivial
  ·
   exact at_ () trivial
 ·
  refine lp (fu:=⟨5⟩) (X:=Nat×Nat) (fun⟨x,y⟩=>[(0, .d (dN x)),(1, .d (dN y))]) (fun⟨x,y⟩=>[]) (fun⟨x,y⟩=>x<2^(ia+ib)∧y<2^(ia+ib)∧Nat.gcd x y=Nat.gcd a b) (fun⟨x,y⟩=>y) ⟨a,b⟩ rfl ⟨(ha.mono (by omega)).h,(hb.mono (by omega)).h,rfl⟩ (fun _=>rfl) (fun⟨x,y⟩ hk=>?_)
  try dsimp only at hk⊢
  obtain⟨h1,h2,h3⟩:=hk
  have hly:=mapU_len (dg y)
  haveI hx':BN x (ia+ib):=⟨h1⟩
  haveI hy':BN y (ia+ib):=⟨h2⟩
  refine eqF 32 (.d (vI ((dg y).length:Nat))) rfl (by rw[hly];rfl) ?_
  refine gx rfl<|?_
  refine br J J J (fun hc33=>?_) (fun hc33=>?_)
  ·
   have hy0:0<y:=Nat.pos_of_ne_zero fun q=>by subst q;rw[dg_zero] at hc33;simp at hc33
   refine cl rfl (q_Divide (a:=x) (b:=y) (ia:=ia+ib) (ib:=ia+ib) hy0 (by omega) (by omega)) rfl<|?_
   exact at_ ⟨y,x%y⟩ (by dsimp only;exact⟨⟨h2,by have:=Nat.mod_lt x hy0;omega,by rw[gcd_next,h3]⟩,(by exact Nat.mod_lt _ hy0)⟩)
  ·
   have hy0:y=0:=dg_len_zero.1 (by omega)
   have hlx:=dg_len_le h1
   have hmx:=mapU_len (dg x)
   refine ro0 J J<|ap _ J J (slOkU _) rfl<|?_
   refine fzE 44 rfl ?_
   exact rz rfl (by show DV.sl ([]++_)=_;rw[←h3,hy0,Nat.gcd_zero_right];rfl)
theorem eI_zv(neg:Bool)(m:Nat):eI (zv neg m)= .ag [.v (.bool (neg&&decide (0<m))),dN m]:=by unfold eI;rw[zv_abs,zv_neg_lt]
theorem zv_opp(z:Int):zv (!decide (z<0)) z.natAbs= -z:=by
 unfold zv
 by_cases h:z<0<;>simp[h]<;>omega
theorem zv_mulI(a b:Int):zv (!(decide (a<0)==decide (b<0))) (a.natAbs*b.natAbs)=a*b:=by
 have h:=zv_mul (decide (a<0)) (decide (b<0)) a.natAbs b.natAbs
 rw[zv_eta,zv_eta] at h
 exact h
theorem q_Make{GB:Gh}{neg:Bool}{m:Nat}:PF GB Tryz.prog 122 [.v (.bool neg),dN m] (eI (zv neg m)):=by
 have hl:=mapU_len (dg m)
 have hz:= @dg_len_zero m
 refine fn Tryz.func122 J J Tryz.ntmps122 J J (fun C=>?_)
 refine csb 6 J J J (fun hg6=>?_) (fun hg6=>?_)
 ·
  exact rz rfl (by rw[eI_zv,hg6];show DV.ag [.v (.bool _),_]= .ag [.v (.bool _),_];congr 4;rw[Bool.true_and];exact decide_eq_decide.2 (by omega))
 ·
  exact rz rfl (by rw[eI_zv,hg6];rfl)
end Go.Sx
end

section
set_option maxRecDepth 100000
namespace Go.Sx
open Go Go.Proofs
structure IvV where
 lo:RV
 hi:RV
 nl:Bool
 nh:Bool
def IvV.v(z:IvV):Value:= .agg ⟨[.int .i64 z.lo.n, .int .i64 z.lo.d, .pointer z.lo.p, .int .i64 z.hi.n, .int .i64 z.hi.d, .pointer z.hi.p, .bool z.nl, .bool z.nh]⟩
section
variable {P:Program} {C:Ctx} {n:Nat} {fr:Fr} {own own' own1:List Own} {G:Gh} {Φ:Act→World→Prop}
variable {dst:Option Nat} {t t' ty':TypeId} {pos:String} {af:Array Edge} {gd:Option (Nat×Bool)} {x y:Operand} {e s by_:Nat}
theorem chS{v:Value}{b off k:Nat}{cs cs':List Value}{ty:TypeId}{lo:Bool}(hx:opv fr x=some (.pointer (some ⟨b,off,none⟩)))(hy:opv fr y=some v)[hs:TyA P t k][ho:OAt own b cs ty lo]
  (hk:(cellsL v).length=k)(hl:off+k≤cs.length)(hf:(cellsL v).all flat=true)(hd:dstOk n dst=true)(h:St C n (put fr dst undef) own' G Φ)
  (hc:ovw cs off (cellsL v)=cs':=by first|(dsimp only[ovw,cellsL,zs1,zs2,Nat.reduceAdd,RV.v,LV.v,PV.v,IvV.v];done)|exact rfl)(hu:OUpd own b cs ty lo cs' own':=by repeat (first|exact .hd .. |apply OUpd.tl)):
  Ch P C n fr own G ⟨dst, .store t x y,ty',pos,af,gd⟩ Φ:=ch_store hx hy (hc▸hu) hk hl hf hd h
end
structure IsIv (k:Nat) (G:Gh) (z:IvV) (v:IvQ):Prop where
 lo:IsR k G z.lo v.lo
 hi:IsR k G z.hi v.hi
 nl:z.nl=v.nl
 nh:z.nh=v.nh
end Go.Sx
end

section
set_option maxRecDepth 100000
namespace Go.Sx
open Go Go.Proofs
def orQ:List Int→Int
 |[]=>0
 |x::t=>if x≠0 then x else orQ t
def cmpQ(l m:LnQ):Int:=orQ [rcmp l.a m.a,rcmp l.b m.b,rcmp l.c m.c]
end Go.Sx
end

section
set_option maxRecDepth 100000
namespace Go.Sx
open Go Go.Proofs
structure FrV where
 l:LV
 v:IvV
def FrV.val(z:FrV):Value:= .agg ⟨[.int .i64 z.l.a.n, .int .i64 z.l.a.d, .pointer z.l.a.p, .int .i64 z.l.b.n, .int .i64 z.l.b.d, .pointer z.l.b.p, .int .i64 z.l.c.n, .int .i64 z.l.c.d, .pointer z.l.c.p, .int .i64 z.v.lo.n, .int .i64 z.v.lo.d, .pointer z.v.lo.p, .int .i64 z.v.hi.n, .int .i64 z.v.hi.d, .pointer z.v.hi.p, .bool z.v.nl, .bool z.v.nh]⟩
structure IsFr (k:Nat) (G:Gh) (z:FrV) (f:FrQ):Prop where
 l:IsL k G z.l f.l
 v:IsIv (25*k+6) G z.v f.v
inductive All2 {α β:Type} (R:α→β→Prop):List α→List β→Prop
 |nil:All2 R [] []
 |cons {a b us bs} (h:R a b) (t:All2 R us bs):All2 R (a::us) (b::bs)
theorem All2.len{α β:Type}{R:α→β→Prop}{us:List α}{bs:List β}(h:All2 R us bs):us.length=bs.length:=by
 induction h with
 |nil=>rfl
 |cons _ _ ih=>simp[ih]
theorem All2.app{α β:Type}{R:α→β→Prop}{us us':List α}{bs bs':List β}(h:All2 R us bs)(k:All2 R us' bs'):All2 R (us++us') (bs++bs'):=by
 induction h with
 |nil=>exact k
 |cons h _ ih=>exact .cons h ih
structure IsC (k:Nat) (G:Gh) (x:SV) (c:CellQ):Prop where
 ex: ∃fs:List FrV,IsSl G 17 x (fs.map FrV.val)∧All2 (IsFr k G) fs c
end Go.Sx
end

section
set_option maxRecDepth 100000
namespace Go.Sx
open Go Go.Proofs
end Go.Sx
end

section
set_option maxRecDepth 100000
namespace Go.Sx
open Go Go.Proofs
section
variable {P:Program} {C:Ctx} {n:Nat} {fr:Fr} {own own':List Own} {G:Gh} {Φ:Act→World→Prop}
variable {dst:Option Nat} {t t' ty':TypeId} {pos:String} {af:Array Edge} {gd:Option (Nat×Bool)} {x y:Operand} {e s by_:Nat}
theorem st_apart{o1 o2:Own}{rest:List Own}(h:o1.b≠o2.b→St C n fr (o1::o2::rest) G Φ):St C n fr (o1::o2::rest) G Φ:=
 fun a w rl=>h ((List.pairwise_cons.1 rl.h.nd).1 _ List.mem_cons_self) a w rl
theorem yd_slice_loB[hT:TySl P t e s by_]{k:IntKind}{b off len cap:Nat}{l:Int}(hx:opv fr x=some (.slice (some ⟨b,off,none⟩) len cap))(hy:opv fr y=some (.int k l))(h0:0≤l)(h1:l≤len)(h2:l<cap):
  Yd P C fr own G ⟨dst, .slice t x (some y) none none,ty',pos,af,gd⟩ (.slice (some ⟨b,off+l.toNat*s,none⟩) (len-l.toNat) (cap-l.toNat)):=by
 have h:=yd_slice_lo (P:=P) (C:=C) (own:=own) (G:=G) (t:=t) (dst:=dst) (ty':=ty') (pos:=pos) (af:=af) (gd:=gd) (by_:=by_) hx hy h0 h1
 unfold slTo at h
 rw[if_neg (by omega)] at h
 simpa[addr_add] using h
end
end Go.Sx
end

section
set_option maxRecDepth 100000
namespace Go.Sx
open Go Go.Proofs
end Go.Sx
end

section
set_option maxRecDepth 100000
namespace Go.Sx
open Go Go.Proofs
section
variable {P:Program} {C:Ctx} {n:Nat} {fr:Fr} {own own':List Own} {G:Gh} {Φ:Act→World→Prop}
variable {dst:Option Nat} {t t' ty':TypeId} {pos:String} {af:Array Edge} {gd:Option (Nat×Bool)} {x y:Operand} {e s by_:Nat}
end
end Go.Sx
end

section
set_option maxRecDepth 100000
namespace Go.Sx
open Go Go.Proofs
end Go.Sx
end

section
set_option maxRecDepth 100000
namespace Go.Sx
open Go Go.Proofs
def IsT(k:Nat)(G:Gh):Tr→Option Addr→Prop
 | .leaf b,p=> ∃n,p=some ⟨n,0,none⟩∧G n=some [.int .i64 0, .int .i64 0, .pointer none, .int .i64 0, .int .i64 0, .pointer none, .int .i64 0, .int .i64 0, .pointer none, .pointer none, .pointer none, .bool b]
 | .node l x y,p=> ∃(n:Nat) (z:LV) (q r:Option Addr),p=some ⟨n,0,none⟩∧G n=some [.int .i64 z.a.n, .int .i64 z.a.d, .pointer z.a.p, .int .i64 z.b.n, .int .i64 z.b.d, .pointer z.b.p, .int .i64 z.c.n, .int .i64 z.c.d, .pointer z.c.p, .pointer q, .pointer r, .bool false]∧IsL k G z l∧IsT k G x q∧IsT k G y r
end Go.Sx
end

section
set_option maxRecDepth 100000
namespace Go.Sx
open Go Go.Proofs
structure ND where
 a:IV
 b:IV
 c:IV
 l:Int
 r:Int
def ND.val(z:ND):Value:= .agg ⟨[.bool z.a.neg, .slice z.a.a.a z.a.a.n z.a.a.c, .bool z.b.neg, .slice z.b.a.a z.b.a.n z.b.a.c, .bool z.c.neg, .slice z.c.a.a z.c.a.n z.c.a.c, .int .i64 z.l, .int .i64 z.r]⟩
structure IsND (k:Nat) (G:Gh) (z:ND) (n:NQ):Prop where
 a:IsI k G z.a n.l.a
 b:IsI k G z.b n.l.b
 c:IsI k G z.c n.l.c
 l:z.l=n.a
 r:z.r=n.b
structure IsNs (k:Nat) (G:Gh) (x:SV) (ns:List NQ):Prop where
 ex: ∃zs:List ND,IsSl G 8 x (zs.map ND.val)∧All2 (IsND k G) zs ns
def seenL(n i:Nat):List Value:=(List.range n).map fun j=> .bool (decide (j<i))
end Go.Sx
end

section
set_option maxRecDepth 100000
namespace Go.Sx
open Go Go.Proofs
end Go.Sx
end

section
set_option maxRecDepth 100000
namespace Go.Sx
open Go Go.Proofs
def apiClo(ob wb:Nat):Value:= .func (.func 111) #[] #[.pointer (some ⟨ob,0,none⟩), .pointer (some ⟨wb,0,none⟩)]
end Go.Sx
end

section
set_option maxRecDepth 100000
namespace Go.Sx
open Go Go.Proofs
structure PtV where
 x:SV
 p:Option Addr
def PtV.val(z:PtV):Value:= .agg ⟨[.slice z.x.a z.x.n z.x.c, .pointer z.p]⟩
structure IsPt (k:Nat) (G:Gh) (z:PtV) (b:Bool×CellQ):Prop where
 c:IsC k G z.x b.2
 t:IsT k G (.leaf b.1) z.p
structure IsPs (k:Nat) (G:Gh) (w:SV) (ps:List (Bool×CellQ)):Prop where
 ex: ∃zs:List PtV,IsSl G 2 w (zs.map PtV.val)∧All2 (IsPt k G) zs ps
end Go.Sx
end
