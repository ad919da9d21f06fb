/-
  Package nat: long division. Package nat: DivMod, Gcd. Package integer. Package integer: Add, Normal, FromInt, Int64. Package integer: Normal, FromInt, Int64. Package frac: the numbers, reduce. Package frac: the simple functions. Package frac: words. Package frac: lowest, Int, Neg, Inv. Package frac: Mul, Inv, Quo, Half. Package frac: Inv, Quo, Half, Add, Sub. Package frac: Add, Sub. Package frac: Sub, Cmp, Equal, Min, Max. Package frac: Min, Max. Package frac: Gcd. Package geo: lines; LnOf. Package geo: points and lines. Package geo: values, bases, points on lines. Numbers as deep values; bounds. Reference: digits (over deep values). Reference: natural numbers of any size: sign, Word, Cmp, Sum, Less.
-/
import Derived.Test.YtlnphbkcelfboaaGreatDoorMn8
set_option linter.unusedSimpArgs false
set_option linter.unusedVariables false
section
set_option maxRecDepth 100000
namespace Go.Sx
open Go Go.Proofs
theorem dg_len{V n:Nat}(h1:4294967296^(n-1)≤V)(h2:V<4294967296^n)(hn:0<n):(dg V).length=n:=by
 obtain⟨e,hk,hr⟩:=dg_spec V
 have hne:dg V≠[]:=fun h=>by
  rw[h] at e
  have:0<4294967296^(n-1):=Nat.pow_pos (by decide)
  simp[dv] at e;omega
 have h3:=nrm_ge hr hne
 have h4:=dv_lt hk
 rw[e] at h3 h4
 have h5:=(Nat.pow_lt_pow_iff_right (a:=4294967296) (by decide)).1 (Nat.lt_of_le_of_lt h3 h2)
 have h6:=(Nat.pow_lt_pow_iff_right (a:=4294967296) (by decide)).1 (Nat.lt_of_le_of_lt h1 h4)
 omega
theorem top_shift{t s:Nat}(h0:0<t)(ht:t<4294967296)(hs:s=32-bl t):s<32∧2147483648≤t*2^s∧(t+1)*2^s≤4294967296:=by
 have h1:bl t≤32:=bl_le.2 ht
 have h2:bl t≠0:=fun h=>by
  have:=lt_bl t
  rw[h] at this;omega
 have h3:=lt_bl t
 have h4: ¬t<2^(bl t-1):=fun h=>by
  have:=bl_le.2 h
  omega
 have e1:2^(bl t-1)*2^s=2147483648:=by rw[←Nat.pow_add,show bl t-1+s=31 by omega]
 have e2:2^bl t*2^s=4294967296:=by rw[←Nat.pow_add,show bl t+s=32 by omega]
 refine⟨by omega,?_,?_⟩
 ·rw[←e1];exact Nat.mul_le_mul_right _ (by omega)
 ·rw[←e2];exact Nat.mul_le_mul_right _ h3
theorem head1{us:List Nat}(h:DOk us)(i:Nat)(hd:us.length=i+1):dv us=us.getD i 0*4294967296^i+dv (us.take i):=by
 have h0:dv (us.drop (i+1))=0:=by rw[List.drop_of_length_le (by omega)];rfl
 rw[dv_split' us i,dv_dropS us i,h0,Nat.add_comm,Nat.mul_comm];rfl
theorem nrm_top{b:List Nat}(h:Nrm b)(i:Nat)(hi:b.length=i+1):0<b.getD i 0:=by
 rcases Nat.eq_zero_or_pos (b.getD i 0) with h0|h0
 ·exfalso
  apply h
  rw[List.getLast?_eq_getElem?,hi,show i+1-1=i from rfl]
  rw[List.getD,List.getElem?_eq_getElem (by omega)] at h0
  rw[List.getElem?_eq_getElem (by omega)]
  simpa using h0
 ·exact h0
theorem dv_zeros(a:List Nat)(k:Nat):dv (a++List.replicate k 0)=dv a:=by rw[dv_append,dv_replicate];simp
structure NatLong where
 us:List Nat
 qs:List Nat
 j:Nat
structure NatGuess where
 g:Nat
 r:Nat
structure NatMs where
 ws:List Nat
 k:Nat
 bo:Nat
 c:Nat
theorem and_mask{P:Program}{t:TypeId}(c:Nat)(h:c<18446744073709551616)(w:World):(binOp .and t (.int .u64 (c:Int)) (.int .u64 4294967295)).run P w= .ok (.int .u64 ((c%4294967296:Nat):Int)) w:=by
 have h1:(BitVec.ofInt 64 (c:Int) &&& BitVec.ofInt 64 4294967295).toNat=c%4294967296:=by
  rw[BitVec.toNat_and,BitVec.ofInt_natCast,BitVec.toNat_ofNat,Nat.mod_eq_of_lt (by omega),show(BitVec.ofInt 64 4294967295).toNat=2^32-1 from rfl,Nat.and_two_pow_sub_one_eq_mod]
 have h2:IntKind.u64.wrap ((c%4294967296:Nat):Int)=((c%4294967296:Nat):Int):=by rw[wrap_u64];omega
 simp only[binOp]
 show(Op.intBits .and .u64 (c:Int) 4294967295).run P w=_
 unfold Op.intBits
 show(pure (Value.int .u64 (IntKind.u64.wrap ((BitVec.ofInt 64 (c:Int) &&& BitVec.ofInt 64 4294967295).toNat:Int))):Sem Value).run P w=_
 rw[h1,h2,run_pure]
def msx(u m bo:Nat):Nat:=if m+bo≤u then u-(m+bo) else u+18446744073709551616-(m+bo)
theorem sub2(u m bo:Nat)(hu:u<4294967296)(hm:m<4294967296)(hb:bo≤1):IntKind.u64.wrap (IntKind.u64.wrap ((u:Int)-(m:Int))-(bo:Int))=((msx u m bo:Nat):Int):=by
 rw[wrap_u64,wrap_u64]
 unfold msx
 split<;>omega
theorem msx_spec(u m bo:Nat)(hu:u<4294967296)(hm:m<4294967296)(hb:bo≤1):msx u m bo%4294967296+(m+bo)=u+msx u m bo/9223372036854775808*4294967296∧msx u m bo/9223372036854775808≤1∧msx u m bo<18446744073709551616:=by
 unfold msx
 split<;>omega
set_option maxHeartbeats 2000000 in
theorem nat_long{A B G:Gh}{x y:SV}{a b:List Nat}{k1 k2:Nat}(hx:IsD A x a)(hy:IsD B y b)[GL A G][GL B G](hna:Nrm a)(hnb:Nrm b)(hb2:2≤b.length)(hle:dv b≤dv a)
  (hq:dv a/dv b<2^k1)(hr:dv a%dv b<2^k2)(hl:a.length≤112589990684):
  Fn Tryz.prog 285 [x.v,y.v] G (fun v G'=> ∃z r:SV,v= .tuple #[z.v,r.v]∧IsN k1 G' z (dv a/dv b)∧IsN k2 G' r (dv a%dv b)):=by
 have hxl:=hx.len
 have hyl:=hy.len
 obtain⟨n,hn⟩: ∃n,b.length=n+2:=⟨b.length-2,by omega⟩
 have hbp:0<dv b:=Nat.pos_of_ne_zero fun h=>by
  rw[nrm_zero hnb] at h
  rw[h] at hn;simp at hn
 have hnm:b.length≤a.length:=by
  rcases Nat.lt_or_ge a.length b.length with h|h
  ·have:=dv_len_lt hx.ok hnb h
   omega
  ·exact h
 have htp:=nrm_top hnb (n+1) hn
 have htl:=hy.ok.get (n+1)
 have hbv:=head1 hy.ok (n+1) hn
 have hbt:=dv_take_lt hy.ok (n+1)
 obtain⟨s,hs⟩: ∃s,s=32-bl (b.getD (n+1) 0):=⟨_,rfl⟩
 obtain⟨hs32,hs1,hs2⟩:=top_shift htp htl hs
 have hble:bl (b.getD (n+1) 0)≤32:=bl_le.2 htl
 have hpn:0<4294967296^(n+1):=Nat.pow_pos (by decide)
 have hps:0<2^s:=Nat.pow_pos (by decide)
 have hV1:2147483648*4294967296^(n+1)≤dv b*2^s:=by
  refine Nat.le_trans (Nat.mul_le_mul_right _ hs1) ?_
  rw[Nat.mul_assoc,Nat.mul_comm (2^s),←Nat.mul_assoc]
  exact Nat.mul_le_mul_right _ (by omega)
 have hV2:dv b*2^s<4294967296^(n+2):=by
  refine Nat.lt_of_lt_of_le (Nat.mul_lt_mul_of_pos_right (k:=2^s) (m:=(b.getD (n+1) 0+1)*4294967296^(n+1)) (by rw[Nat.add_mul,Nat.one_mul];omega) hps) ?_
  rw[Nat.mul_assoc,Nat.mul_comm (4294967296^(n+1)),←Nat.mul_assoc,powB (n+1),Nat.mul_comm _ 4294967296]
  exact Nat.mul_le_mul_right _ hs2
 have hVl:(dg (dv b*2^s)).length=n+2:=dg_len (by show 4294967296^(n+1)≤_;omega) hV2 (by omega)
 have hal:=dv_lt hx.ok
 have hU2:dv a*2^s<4294967296^(a.length+1):=by
  rw[powB]
  exact Nat.mul_lt_mul'' hal (Nat.lt_of_lt_of_le (Nat.pow_lt_pow_right (by decide) hs32) (by decide))
 have hUl1:(dg (dv a*2^s)).length≤a.length+1:=by
  have h1:=nrm_len (dg_spec (dv a*2^s)).2.2 (k:=32*(a.length+1)) (by rw[(dg_spec _).1,Nat.pow_mul];exact hU2)
  omega
 have hUl0:a.length≤(dg (dv a*2^s)).length:=by
  have hane:a≠[]:=fun h=>by
   have:=congrArg List.length h
   simp only[List.length_nil] at this;omega
  have h1:=nrm_ge hna hane
  have h2:=dv_lt (dg_spec (dv a*2^s)).2.1
  rw[(dg_spec _).1] at h2
  have h3:dv a≤dv a*2^s:=Nat.le_mul_of_pos_right _ hps
  have h4:=(Nat.pow_lt_pow_iff_right (a:=4294967296) (by decide)).1 (Nat.lt_of_le_of_lt (Nat.le_trans h1 h3) h2)
  omega
 have hU3:dv a*2^s<dv b*2^s*4294967296^(a.length-n-1):=by
  have h1:4294967296^(n+1)*4294967296^(a.length-n-1)=4294967296^a.length:=by rw[←Nat.pow_add,show n+1+(a.length-n-1)=a.length by omega]
  refine Nat.lt_of_lt_of_le (Nat.mul_lt_mul_of_pos_right hal hps) (Nat.le_trans (Nat.mul_le_mul_left _ (Nat.pow_le_pow_right (by decide) (show s≤31 by omega))) ?_)
  rw[←h1,Nat.mul_comm,←Nat.mul_assoc]
  exact Nat.mul_le_mul_right _ hV1
 have hta:=trimD_nrm hna
 have htb:=trimD_nrm hnb
 refine Fn.intro Tryz.func285 rfl rfl Tryz.ntmps285 rfl ?_
 intro C _ _
 refine sR<|sa rfl rfl<|sa rfl rfl<|zE<|st_scope<|sR<|sm rfl rfl<|sm rfl rfl<|slen rfl rfl<|sy (yd_sub64 rfl rfl) rfl<|?_
 refine sy (yd_ixD hy rfl rfl (by omega) (by omega)) rfl<|?_
 rw[show((y.n:Int)-1).toNat=n+1 by omega]
 refine sy (yd_ldD hy rfl (by omega)) rfl<|?_
 refine sc (zC rfl rfl (bits_lz32 htl) rfl ?_)
 rintro _ G1 _ rfl
 refine sy (yd_toU64 rfl) rfl<|?_
 rw[show(32-(bl (b.getD (n+1) 0):Int))=(s:Int) by omega]
 refine sa rfl rfl<|zE<|sR<|sm rfl rfl<|sm rfl rfl<|?_
 refine sc (zC rfl rfl (nat_Shl (kk:=32*(a.length+1)) hx hs32 (by rw[Nat.pow_mul];exact hU2) (by omega)) rfl ?_)
 rintro _ G2 _ ⟨u,rfl,hu,huc⟩
 have hul:=hu.len
 rw[hta] at huc
 refine sc (ch_slice (by rfl) (by rfl) (by rfl) (by rfl) rfl ?_)
 intro b3
 refine sc (ch_append_grow (z:= .int .u32 0) (m:=2) rfl rfl (src_D hu.d) (src_own inferInstance rfl) (by omega) (by decide) (by omega) rfl ?_)
 intro b4 cap h1
 have ecs:(dg (dv a*2^s)).map dI++[Value.int .u32 0, .int .u32 0]++zeros (.int .u32 0) (cap-(u.n+2))=(dg (dv a*2^s)++List.replicate (cap-u.n) 0).map dI:=by
  rw[zeros_dI,show cap-u.n=(cap-(u.n+2))+1+1 by omega,List.replicate_succ,List.replicate_succ]
  simp[dI]
 rw[ecs]
 clear ecs
 have hus:dv (dg (dv a*2^s)++List.replicate (cap-u.n) 0)=dv a*2^s:=by rw[dv_zeros,(dg_spec _).1]
 have huo:DOk (dg (dv a*2^s)++List.replicate (cap-u.n) 0):=(dg_spec _).2.1.append (.replicate _)
 have hulen:(dg (dv a*2^s)++List.replicate (cap-u.n) 0).length=cap:=by simp;omega
 generalize dg (dv a*2^s)++List.replicate (cap-u.n) 0=us0 at hus huo hulen⊢
 refine sm rfl rfl<|slen rfl rfl<|sy (yd_add64 rfl rfl) rfl<|sy (yd_slice_hi rfl rfl (by omega) (by omega)) rfl<|sa rfl rfl<|zE<|sR<|sm rfl rfl<|?_
 refine sm rfl rfl<|?_
 refine sc (zC rfl rfl (nat_Shl (kk:=32*(n+2)) hy hs32 (by rw[Nat.pow_mul];exact hV2) (by omega)) rfl ?_)
 rintro _ G4 _ ⟨v,rfl,hv,_⟩
 have hvl:=hv.len
 obtain⟨hvv,hvo,hvn⟩:=dg_spec (dv b*2^s)
 replace hv:=hv.d
 rw[hVl] at hvl
 generalize hvs:dg (dv b*2^s)=vs at*
 refine sa rfl rfl<|zE<|sR<|sm rfl rfl<|slen rfl rfl<|sa rfl rfl<|zE<|st_seq<|dr (fun _=>false) [(0,true),(1,true),(2,true),(3,true),(4,true),(5,true),(6,true),(7,true),(8,true),(9,true),(10,true),(11,true),(12,true),(13,true)] follows (by kernel_rfl)<|?_
 refine dM rfl rfl rfl<|dM rfl rfl rfl<|dy rfl (fun _=>yd_sub64 rfl rfl (by omega) (by omega)) rfl rfl<|dy rfl (fun _=>yd_ixD hv rfl rfl (by omega) (by omega)) rfl rfl<|?_
 rw[show((v.n:Int)-1).toNat=n+1 by omega]
 have hvt:=hvo.get (n+1)
 have hv2:=hvo.get n
 refine dy rfl (fun _=>yd_ldD hv rfl (by omega)) rfl rfl<|dy rfl (fun _=>yd_toU64 rfl (by omega) (by omega)) rfl rfl<|dM rfl rfl rfl<|dM rfl rfl rfl<|?_
 refine dy rfl (fun _=>yd_sub64 rfl rfl (by omega) (by omega)) rfl rfl<|dy rfl (fun _=>yd_ixD hv rfl rfl (by omega) (by omega)) rfl rfl<|?_
 rw[show((v.n:Int)-2).toNat=n by omega]
 refine dy rfl (fun _=>yd_ldD hv rfl (by omega)) rfl rfl<|?_
 refine dy rfl (fun _=>yd_toU64 rfl (by omega) (by omega)) rfl rfl<|dA rfl rfl rfl<|dA rfl rfl rfl<|dn<|sR<|sm rfl rfl<|?_
 refine slen rfl rfl<|sm rfl rfl<|sy (yd_sub64 rfl rfl) rfl<|?_
 obtain⟨l,hlq⟩: ∃l,a.length=n+1+l:=⟨a.length-n-1,by omega⟩
 rw[show a.length-n-1=l by omega] at hU3
 rw[show(((x.n:Int)+1).toNat:Int)-v.n=(l:Nat) by omega,show((x.n:Int)+1).toNat=a.length+1 by omega]
 refine sc (ch_make rfl rfl (by omega) (by omega) (by omega) (by rfl) rfl ?_)
 intro b5
 rw[zeros_dI,Int.toNat_natCast]
 refine st_drop [_,_] (.cons_cons _ (.cons_cons _ (.cons _ .slnil))) ?_
 refine sa rfl rfl<|zE<|st_seq<|st_label<|st_seq<|sR<|sm rfl rfl<|slen rfl rfl<|sy (yd_sub64 rfl rfl) rfl<|sa rfl rfl<|zE<|st_block<|?_
 refine st_loop (X:=NatLong) (fun q=>[(13, .int .i64 ((q.j:Int)-1)),(7, .slice (some ⟨b4,0,none⟩) (a.length+1) cap),(9, .int .i64 v.n),(10, .int .u64 (vs.getD (n+1) 0:Nat)),(11, .int .u64 (vs.getD n 0:Nat)),(8, .slice v.a v.n v.c),(12, .slice (some ⟨b5,0,none⟩) l l),(6, .int .u64 s)])
  (fun q=>[⟨b5,q.qs.map dI,279,true⟩,⟨b4,q.us.map dI,279,true⟩])
  (fun q _=>q.us.length=cap∧DOk q.us∧q.qs.length=l∧DOk q.qs∧q.j≤l∧(∀i,i<q.j→q.qs.getD i 0=0)∧dv a*2^s=dv q.us+dv vs*dv q.qs∧dv q.us<dv vs*4294967296^q.j) (fun q=>q.j) ⟨us0,List.replicate l 0,l⟩
  ⟨hulen,huo,by simp, .replicate _,Nat.le_refl _,fun i _=>by simp[List.getD,List.getElem?_replicate];split<;>rfl,by simp only[dv_replicate];omega,by simp only[hus,hvv];exact hU3⟩ (.cons rfl (.cons rfl (.cons rfl (.cons rfl (.cons rfl (.cons rfl (.cons rfl (.cons rfl .nil)))))))) rfl ?_
 rintro ⟨us,qs,j⟩ Gx _ ⟨hul2,huo2,hql,hqo,hjl,hq0,hinv,hlt⟩
 simp only[] at hul2 huo2 hql hqo hjl hq0 hinv hlt⊢
 refine st_seq<|sR<|sm rfl rfl<|sy (yd_geq rfl rfl) rfl<|zE<|?_
 refine st_condE rfl (fun hc=>?_) (fun hc=>?_) -- slot 68
 ·have hj0:j=0:=by omega
  subst hj0
  refine st_exit<|st_te<|st_te<|st_inBlock_eq<|st_seq<|?_
  refine st_freeze b5 (.hd ..) (fun G5 _ hgb5=>?_)
  refine st_freeze b4 (.hd ..) (fun G6 _ hgb4=>?_)
  refine dr (fun _=>false) [(0,true),(2,true),(3,true),(4,true),(5,true),(1,false),(6,false),(7,true),(8,true)] follows (by kernel_rfl)<|?_
  have hDq:IsD G6 ⟨some ⟨b5,0,none⟩,l,l⟩ qs:= .of_block hqo (hgb5.up (G:=G6)) hql.symm (Nat.le_refl _) (by rw[List.take_of_length_le (by simp)])
  have hut:dv (us.take (n+2))=dv us:=by
   have h0:=dv_split' us (n+2)
   rw[dv_drop0 (by rw[Nat.pow_zero,Nat.mul_one,hvv] at hlt;omega)] at h0
   omega
  have hDu:IsD G6 ⟨some ⟨b4,0,none⟩,n+2,cap⟩ (us.take (n+2)):= .of_block (huo2.take _) hgb4.h (by simp;omega) (by omega) (by rw[List.map_take,List.length_take,Nat.min_eq_left (by omega)])
  have hV0:0<dv vs:=by rw[hvv];exact Nat.mul_pos hbp hps
  rw[Nat.pow_zero,Nat.mul_one] at hlt
  have hdq:dv a/dv b=dv qs:=by
   rw[←Nat.mul_div_mul_right _ _ hps,hinv,←hvv,Nat.add_mul_div_left _ _ hV0,Nat.div_eq_of_lt hlt,Nat.zero_add]
  have hdr:dv a%dv b=dv (us.take (n+2))/2^s:=by
   have:dv us=dv a%dv b*2^s:=by
    rw[←Nat.mul_mod_mul_right,hinv,←hvv,Nat.add_mul_mod_self_left,Nat.mod_eq_of_lt hlt]
   rw[hut,this,Nat.mul_div_cancel _ hps]
  refine dM rfl rfl rfl<|dM rfl rfl rfl<|dM rfl rfl rfl<|dy rfl (fun _=>yd_slice_hi rfl rfl (by omega) (by omega)) rfl rfl<|?_
  rw[show(v.n:Int).toNat=n+2 by omega]
  refine dM rfl rfl rfl<|?_
  refine dc rfl rfl (zC rfl rfl (nat_trim hDq (by omega)) rfl ?_)
  rintro _ G7 _ rfl
  refine dr_s<|?_
  refine dc rfl rfl (zC rfl rfl (nat_Shr (kk:=k2) hDu hs32 (by rw[←hdr];exact hr) (by simp;omega)) rfl ?_)
  rintro _ G8 _ ⟨r,rfl,hr8⟩
  refine dr_s<|dA rfl rfl rfl<|dA rfl rfl rfl<|dn<|st_ret<|?_
  refine zD (.tmp rfl (.tmp rfl .nil)) ⟨⟨some ⟨b5,0,none⟩,(trimD qs).length,l⟩,r,rfl,?_,?_⟩
  ·rw[hdq]
   refine⟨?_,by rw[←hdq];exact hq⟩
   rw[dg_trim hqo]
   exact hDq.trim.up
  ·rw[hdr];exact hr8
 obtain⟨i,rfl⟩: ∃i,j=i+1:=⟨j-1,by omega⟩
 rw[show(((i+1:Nat):Int)-1)=i by omega]
 have hpi:0<4294967296^i:=Nat.pow_pos (by decide)
 -- the digits that the guess looks at
 obtain⟨p,hp⟩: ∃p,p=4294967296^(i+n):=⟨_,rfl⟩
 obtain⟨V,hV⟩: ∃V,V=dv vs*4294967296^i:=⟨_,rfl⟩
 have hvB:dv vs<4294967296^(n+2):=by rw[hvv];exact hV2
 have hvh:=head2 hvo n hvB
 have hltV:dv us<V*4294967296:=by rw[hV,Nat.mul_assoc,←powB];exact hlt
 have hV0:0<V:=by rw[hV];exact Nat.mul_pos (by rw[hvv];exact Nat.mul_pos hbp hps) hpi
 have hT0:0<vs.getD (n+1) 0:=nrm_top hvn (n+1) hVl
 have hVp:V=(vs.getD (n+1) 0*4294967296+vs.getD n 0)*p+dv (vs.take n)*4294967296^i:=by
  rw[hV,hvh,Nat.add_mul,hp,Nat.pow_add,Nat.mul_comm (4294967296^i),Nat.mul_assoc]
 have hv0:dv (vs.take n)*4294967296^i<p:=by
  rw[hp,Nat.pow_add,Nat.mul_comm]
  exact Nat.mul_lt_mul_of_pos_left (dv_take_lt hvo n) hpi
 have hM:dv us<4294967296^(i+n+3):=by
  refine Nat.lt_of_lt_of_le hlt ?_
  rw[show i+n+3=(n+2)+(i+1) by omega,Nat.pow_add 4294967296 (n+2) (i+1)]
  exact Nat.mul_le_mul_right _ (Nat.le_of_lt hvB)
 have huh:=head3 huo2 (i+n) hM
 rw[←hp] at huh
 have hu0:=dv_take_lt huo2 (i+n)
 rw[←hp] at hu0
 have hg0:=huo2.get (i+n)
 have hg1:=huo2.get (i+n+1)
 have hg2:=huo2.get (i+n+2)
 refine zK<|st_seq<|st_block<|st_seq<|dr (fun _=>false) [(0,true),(1,true),(2,true),(3,true),(4,true),(5,true),(6,true),(7,true),(8,true),(9,true),(10,true),(11,true),(12,true),(13,true),(14,true),(15,true),(16,true),(17,true)] follows (by kernel_rfl)<|?_
 refine dM rfl rfl rfl<|dM rfl rfl rfl<|dM rfl rfl rfl<|dy rfl (fun _=>yd_add64 rfl rfl (by omega) (by omega)) rfl rfl<|?_
 refine dy rfl (fun _=>yd_ixO rfl rfl (by omega) (by omega)) rfl rfl<|?_
 rw[show((i:Int)+(v.n:Int)).toNat=i+n+2 by omega]
 refine dy rfl (fun _=>yd_ldO rfl (by omega)) rfl rfl<|dy rfl (fun _=>yd_toU64 rfl (by omega) (by omega)) rfl rfl<|dy rfl (fun _=>yd_shl rfl rfl (by decide)) rfl rfl<|?_
 rw[shl_u64 (us.getD (i+n+2) 0) 32 (by decide) (by omega) rfl]
 refine dM rfl rfl rfl<|dM rfl rfl rfl<|dM rfl rfl rfl<|dy rfl (fun _=>yd_add64 rfl rfl (by omega) (by omega)) rfl rfl<|?_
 refine dy rfl (fun _=>yd_sub64 rfl rfl (by omega) (by omega)) rfl rfl<|dy rfl (fun _=>yd_ixO rfl rfl (by omega) (by omega)) rfl rfl<|?_
 rw[show((i:Int)+(v.n:Int)-1).toNat=i+n+1 by omega]
 refine dy rfl (fun _=>yd_ldO rfl (by omega)) rfl rfl<|?_
 refine dy rfl (fun _=>yd_toU64 rfl (by omega) (by omega)) rfl rfl<|dy rfl (fun _=>yd_int rfl rfl (or_add' (us.getD (i+n+1) 0) (us.getD (i+n+2) 0) 32 (by omega) (by omega))) rfl rfl<|dA rfl rfl rfl<|dn<|st_seq<|?_
 obtain⟨f,hf⟩: ∃f,f=us.getD (i+n+2) 0*4294967296+us.getD (i+n+1) 0:=⟨_,rfl⟩
 rw[show us.getD (i+n+1) 0+us.getD (i+n+2) 0*2^32=f by omega]
 rw[←hf] at huh
 have hfB:f<18446744073709551616:=by omega
 refine dr (fun _=>false) [(0,true),(1,true),(2,true),(3,true),(4,true),(5,true),(6,true),(7,true)] follows (by kernel_rfl)<|?_
 refine dM rfl rfl rfl<|dM rfl rfl rfl<|dy rfl (fun _=>yd_quoU rfl rfl (by omega) (by omega) (by omega)) rfl rfl<|dM rfl rfl rfl<|dM rfl rfl rfl<|?_
 refine dy rfl (fun _=>yd_remU rfl rfl (by omega) (by omega)) rfl rfl<|dA rfl rfl rfl<|dA rfl rfl rfl<|dn<|?_
 rw[show((f:Int)/((vs.getD (n+1) 0:Nat):Int))=((f/vs.getD (n+1) 0:Nat):Int) by rfl,show((f:Int)%((vs.getD (n+1) 0:Nat):Int))=((f%vs.getD (n+1) 0:Nat):Int) by rfl]
 -- GUESS
 have hUle:(f*4294967296+us.getD (i+n) 0)*p≤dv us:=by omega
 have hUlt:dv us<(f*4294967296+us.getD (i+n) 0+1)*p:=by rw[Nat.add_mul _ 1,Nat.one_mul];omega
 have hVle:(vs.getD (n+1) 0*4294967296+vs.getD n 0)*p≤V:=by rw[hVp];exact Nat.le_add_right _ _
 have hfT:f≤vs.getD (n+1) 0*4294967296+vs.getD n 0:=kn_f hUle hVp hv0 hltV
 refine st_cut Nat (fun g=>[(15, .int .u64 (g:Nat)),(13, .int .i64 i),(7, .slice (some ⟨b4,0,none⟩) (a.length+1) cap),(9, .int .i64 v.n),(10, .int .u64 (vs.getD (n+1) 0:Nat)),(11, .int .u64 (vs.getD n 0:Nat)),(8, .slice v.a v.n v.c),(12, .slice (some ⟨b5,0,none⟩) l l),(6, .int .u64 s)]) (fun _=>[⟨b5,qs.map dI,279,true⟩,⟨b4,us.map dI,279,true⟩]) (fun g _=>g<4294967296∧dv us<(g+1)*V∧g*V<dv us+V) ?_ ?_
 ·refine st_block<|?_
  refine st_loop (X:=NatGuess) (fun q=>[(15, .int .u64 q.g),(16, .int .u64 q.r),(13, .int .i64 i),(7, .slice (some ⟨b4,0,none⟩) (a.length+1) cap),(9, .int .i64 v.n),(10, .int .u64 (vs.getD (n+1) 0:Nat)),(11, .int .u64 (vs.getD n 0:Nat)),(8, .slice v.a v.n v.c),(12, .slice (some ⟨b5,0,none⟩) l l),(6, .int .u64 s)]) (fun _=>[⟨b5,qs.map dI,279,true⟩,⟨b4,us.map dI,279,true⟩]) (fun q _=>f=q.g*vs.getD (n+1) 0+q.r∧q.r<4294967296∧dv us<(q.g+1)*V) (fun q=>q.g) ⟨f/vs.getD (n+1) 0,f%vs.getD (n+1) 0⟩
   ⟨(Nat.div_add_mod' ..).symm,Nat.lt_trans (Nat.mod_lt _ hT0) hvt,kn_init hUlt hg0 hVle hT0⟩ (.cons rfl (.cons rfl (.cons rfl (.cons rfl (.cons rfl (.cons rfl (.cons rfl (.cons rfl (.cons rfl (.cons rfl .nil)))))))))) rfl ?_
  rintro ⟨g,r⟩ Gy _ ⟨hfg,hrB,hlo⟩
  simp only[] at hfg hrB hlo⊢
  have hgT:g*1≤g*vs.getD (n+1) 0:=Nat.mul_le_mul_left _ hT0
  refine st_seq<|sR<|sm rfl rfl<|sy (yd_shr rfl rfl (by decide)) rfl<|?_
  rw[shr_u64 g 32 (by decide) rfl]
  refine sy (yd_neq rfl rfl) rfl<|sm rfl rfl<|?_
  refine st_caseP 97 rfl (fun hg=>?_) (fun hg=>?_)
  ·have hgB:4294967296≤g:=by omega
   have hdec:dv us<g*V:=Nat.lt_of_lt_of_le hltV (by rw[Nat.mul_comm];exact Nat.mul_le_mul_right _ hgB)
   refine ss rfl rfl rfl rfl<|ss rfl rfl rfl rfl<|ss rfl rfl rfl rfl<|ss rfl rfl rfl rfl<|ss rfl rfl rfl rfl<|ss rfl rfl rfl rfl<|ss rfl rfl rfl rfl<|ss rfl rfl rfl rfl<|ss rfl rfl rfl rfl<|?_
   refine ss rfl rfl rfl rfl<|ss rfl rfl rfl rfl<|ss rfl rfl rfl rfl<|ss rfl rfl rfl rfl<|ss rfl rfl rfl rfl<|ss rfl rfl rfl rfl<|sy (yd_pickT rfl rfl) rfl<|zE<|st_condT rfl<|?_
   refine zK<|st_block<|?_
   obtain⟨g',rfl⟩: ∃g',g=g'+1:=⟨g-1,by rcases Nat.eq_zero_or_pos g with h|h;(rw[h,Nat.zero_mul] at hdec;omega);omega⟩
   refine sR<|sm rfl rfl<|sy (yd_subU rfl rfl (by omega) (by omega)) rfl<|sa rfl rfl<|zE<|sR<|sm rfl rfl<|sm rfl rfl<|sy (yd_addU rfl rfl) rfl<|?_
   refine sa rfl rfl<|zE<|sR<|sm rfl rfl<|sy (yd_shr rfl rfl (by decide)) rfl<|?_
   rw[show((g'+1:Nat):Int)-1=(g':Nat) by omega,show((r:Int)+((vs.getD (n+1) 0:Nat):Int))=((r+vs.getD (n+1) 0:Nat):Int) from rfl,shr_u64 (r+vs.getD (n+1) 0) 32 (by decide) rfl]
   have hfg':f=g'*vs.getD (n+1) 0+(r+vs.getD (n+1) 0):=by rw[hfg,Nat.add_mul,Nat.one_mul];omega
   refine sy (yd_neq rfl rfl) rfl<|zE<|?_
   refine st_condP rfl (fun hc3=>?_) (fun hc3=>?_) -- slot 121
   ·have hr3:4294967296≤r+vs.getD (n+1) 0:=by omega
    have hgB:g'<4294967296:=by
     rcases Nat.lt_or_ge g' 4294967296 with h|h
     ·exact h
     ·have:=Nat.mul_le_mul_right (vs.getD (n+1) 0) h
      omega
    have hgS:g'*vs.getD n 0≤(r+vs.getD (n+1) 0)*4294967296+us.getD (i+n) 0:=by
     have h1:=Nat.mul_le_mul (Nat.le_of_lt hgB) (Nat.le_of_lt hv2)
     omega
    refine st_exit<|st_inBlock_ne rfl<|st_te<|st_inBlock_eq<|?_
    exact st_at g' ⟨hgB,hdec,kn_hi hUle hVp hv0 hT0 hfg' hgB hgS⟩ (.cons rfl (.cons rfl (.cons rfl (.cons rfl (.cons rfl (.cons rfl (.cons rfl (.cons rfl (.cons rfl .nil))))))))) rfl
   refine zK<|?_
   exact st_again ⟨g',r+vs.getD (n+1) 0⟩ ⟨hfg',by show r+vs.getD (n+1) 0<_;omega,hdec⟩ (by show g'<g'+1;omega) (.cons rfl (.cons rfl (.cons rfl (.cons rfl (.cons rfl (.cons rfl (.cons rfl (.cons rfl (.cons rfl (.cons rfl .nil)))))))))) rfl
  have hgB:g<4294967296:=by omega
  have hgS:g*vs.getD n 0<4294967296*4294967296:=Nat.mul_lt_mul'' hgB hv2
  have e2:(g:Int)*((vs.getD n 0:Nat):Int)=((g*vs.getD n 0:Nat):Int):=rfl
  refine syg rfl rfl (yd_move rfl) rfl<|syg rfl rfl (yd_move rfl) rfl<|syg rfl rfl (yd_mulU rfl rfl (by rw[e2];omega) (by rw[e2];omega)) rfl<|syg rfl rfl (yd_move rfl) rfl<|syg rfl rfl (yd_shl rfl rfl (by decide)) rfl<|?_
  rw[shl_u64 r 32 (by decide) (by omega) rfl]
  refine syg rfl rfl (yd_move rfl) rfl<|syg rfl rfl (yd_move rfl) rfl<|syg rfl rfl (yd_move rfl) rfl<|syg rfl rfl (yd_add64 rfl rfl) rfl<|syg rfl rfl (yd_sub64 rfl rfl) rfl<|?_
  refine syg rfl rfl (yd_ixO rfl rfl (by omega) (by omega)) rfl<|?_
  rw[show((i:Int)+(v.n:Int)-2).toNat=i+n by omega]
  refine syg rfl rfl (yd_ldO rfl (by omega)) rfl<|syg rfl rfl (yd_toU64 rfl) rfl<|syg rfl rfl (yd_int rfl rfl (or_add' (us.getD (i+n) 0) r 32 (by omega) (by omega))) rfl<|?_
  refine syg rfl rfl (yd_gtr rfl rfl) rfl<|sy (yd_pickF rfl rfl) rfl<|zE<|?_
  rw[e2]
  refine st_condE rfl (fun hc2=>?_) (fun hc2=>?_) -- slot 113
  ·refine st_exit<|st_te<|st_te<|st_inBlock_eq<|?_
   exact st_at g ⟨hgB,hlo,kn_hi hUle hVp hv0 hT0 hfg hgB (by omega)⟩ (.cons rfl (.cons rfl (.cons rfl (.cons rfl (.cons rfl (.cons rfl (.cons rfl (.cons rfl (.cons rfl .nil))))))))) rfl
  have hdec:dv us<g*V:=kn_dec hUlt hVle hfg (by omega)
  refine zK<|st_block<|?_
  obtain⟨g',rfl⟩: ∃g',g=g'+1:=⟨g-1,by rcases Nat.eq_zero_or_pos g with h|h;(rw[h,Nat.zero_mul] at hdec;omega);omega⟩
  refine sR<|sm rfl rfl<|sy (yd_subU rfl rfl (by omega) (by omega)) rfl<|sa rfl rfl<|zE<|sR<|sm rfl rfl<|sm rfl rfl<|sy (yd_addU rfl rfl) rfl<|?_
  refine sa rfl rfl<|zE<|sR<|sm rfl rfl<|sy (yd_shr rfl rfl (by decide)) rfl<|?_
  rw[show((g'+1:Nat):Int)-1=(g':Nat) by omega,show((r:Int)+((vs.getD (n+1) 0:Nat):Int))=((r+vs.getD (n+1) 0:Nat):Int) from rfl,shr_u64 (r+vs.getD (n+1) 0) 32 (by decide) rfl]
  have hfg':f=g'*vs.getD (n+1) 0+(r+vs.getD (n+1) 0):=by rw[hfg,Nat.add_mul,Nat.one_mul];omega
  refine sy (yd_neq rfl rfl) rfl<|zE<|?_
  refine st_condP rfl (fun hc3=>?_) (fun hc3=>?_) -- slot 121
  ·have hr3:4294967296≤r+vs.getD (n+1) 0:=by omega
   have hgB:g'<4294967296:=by
    rcases Nat.lt_or_ge g' 4294967296 with h|h
    ·exact h
    ·have:=Nat.mul_le_mul_right (vs.getD (n+1) 0) h
     omega
   have hgS:g'*vs.getD n 0≤(r+vs.getD (n+1) 0)*4294967296+us.getD (i+n) 0:=by
    have h1:=Nat.mul_le_mul (Nat.le_of_lt hgB) (Nat.le_of_lt hv2)
    omega
   refine st_exit<|st_inBlock_ne rfl<|st_te<|st_inBlock_eq<|?_
   exact st_at g' ⟨hgB,hdec,kn_hi hUle hVp hv0 hT0 hfg' hgB hgS⟩ (.cons rfl (.cons rfl (.cons rfl (.cons rfl (.cons rfl (.cons rfl (.cons rfl (.cons rfl (.cons rfl .nil))))))))) rfl
  refine zK<|?_
  exact st_again ⟨g',r+vs.getD (n+1) 0⟩ ⟨hfg',by show r+vs.getD (n+1) 0<_;omega,hdec⟩ (by show g'<g'+1;omega) (.cons rfl (.cons rfl (.cons rfl (.cons rfl (.cons rfl (.cons rfl (.cons rfl (.cons rfl (.cons rfl (.cons rfl .nil)))))))))) rfl
 rintro g Gz _ ⟨hgB,hlo,hhi⟩
 -- SUB
 refine sR<|sa rfl rfl<|sa rfl rfl<|zE<|st_seq<|sR<|sm rfl rfl<|slen rfl rfl<|sm rfl rfl<|zE<|st_block<|?_
 refine st_loop (X:=NatMs) (fun q=>[(18, .int .u64 q.c),(17, .int .u64 q.bo),(124, .int .i64 q.k),(123, .int .i64 v.n),(122, .slice v.a v.n v.c),(15, .int .u64 (g:Nat)),(13, .int .i64 i),(7, .slice (some ⟨b4,0,none⟩) (a.length+1) cap),(9, .int .i64 v.n),(10, .int .u64 (vs.getD (n+1) 0:Nat)),(11, .int .u64 (vs.getD n 0:Nat)),(8, .slice v.a v.n v.c),(12, .slice (some ⟨b5,0,none⟩) l l),(6, .int .u64 s)]) (fun q=>[⟨b5,qs.map dI,279,true⟩,⟨b4,q.ws.map dI,279,true⟩])
  (fun q _=>q.ws.length=cap∧DOk q.ws∧q.k≤n+2∧q.bo≤1∧q.c<4294967296∧dv q.ws<4294967296^(i+n+3)∧dv q.ws+g*(dv (vs.take q.k)*4294967296^i)=dv us+(q.bo+q.c)*4294967296^(i+q.k)) (fun q=>n+2-q.k) ⟨us,0,0,0⟩
  ⟨hul2,huo2,Nat.zero_le _,Nat.zero_le _,by show(0:Nat)<4294967296;decide,hM,by simp[dv]⟩ (.cons rfl (.cons rfl (.cons rfl (.cons rfl (.cons rfl (.cons rfl (.cons rfl (.cons rfl (.cons rfl (.cons rfl (.cons rfl (.cons rfl (.cons rfl (.cons rfl .nil)))))))))))))) rfl ?_
 rintro ⟨ws,k,bo,c⟩ Gy _ ⟨hwl,hwo,hk,hbo,hc4,hwM,hw⟩
 simp only[] at hwl hwo hk hbo hc4 hwM hw⊢
 refine sR<|sy (yd_lss rfl rfl) rfl<|zE<|st_seq<|?_
 refine st_condE rfl (fun hkc=>?_) (fun hkc=>?_) -- slot 125
 ·have hkn:k=n+2:=by omega
  subst hkn
  rw[List.take_of_length_le (by omega),←hV] at hw
  refine st_exit<|st_te<|st_te<|st_inBlock_eq<|sR<|sm rfl rfl<|sm rfl rfl<|sm rfl rfl<|sy (yd_add64 rfl rfl) rfl<|sy (yd_ixO rfl rfl (by omega) (by omega)) rfl<|?_
  rw[show((i:Int)+(v.n:Int)).toNat=i+n+2 by omega]
  have hwg:=hwo.get (i+n+2)
  refine sy (yd_ldO rfl (by omega)) rfl<|sy (yd_toU64 rfl) rfl<|sm rfl rfl<|sy (yd_subw rfl rfl) rfl<|sm rfl rfl<|sy (yd_subw rfl rfl) rfl<|?_
  rw[sub2 _ _ _ hwg hc4 hbo]
  obtain⟨hx1,hx2,hx3⟩:=msx_spec (ws.getD (i+n+2) 0) c bo hwg hc4 hbo
  generalize msx (ws.getD (i+n+2) 0) c bo=xx at hx1 hx2 hx3⊢
  refine sa rfl rfl<|zE<|sR<|sm rfl rfl<|sm rfl rfl<|sm rfl rfl<|sy (yd_add64 rfl rfl) rfl<|sm rfl rfl<|sy (yd_toU32 rfl) rfl<|sy (yd_ixO rfl rfl (by omega) (by omega)) rfl<|?_
  rw[show((i:Int)+(v.n:Int)).toNat=i+n+2 by omega]
  refine sc (ch_storeD (d:=xx%4294967296) rfl rfl (by rw[Int.natCast_emod];rfl) (.tl _ _ _ _ _ _ _ _ (.hd ..)) (by omega) rfl ?_)
  have hs2:=dv_set ws (i+n+2) (xx%4294967296) (by omega)
  have hl2:=ms_last hs2 hw hx1
  rw[←powB] at hl2
  have hM2:=dv_set_lt (i:=i+n+2) (d:=xx%4294967296) hwo (Nat.mod_lt _ (by decide)) hwM (by omega)
  have ho2:=hwo.set (i+n+2) (d:=xx%4294967296) (Nat.mod_lt _ (by decide))
  have hn2:(ws.set (i+n+2) (xx%4294967296)).length=cap:=by rw[List.length_set];exact hwl
  generalize ws.set (i+n+2) (xx%4294967296)=ws2 at hl2 hM2 ho2 hn2⊢
  replace hl2:dv ws2+g*V=dv us+xx/9223372036854775808*4294967296^(i+n+3):=hl2
  have hqset: ∀d,dv (qs.set i d)=dv qs+4294967296^i*d:=fun d=>by
   have:=dv_set qs i d (by omega)
   rw[hq0 i (by omega)] at this
   simpa using this
  have hqz: ∀d i',i'<i→(qs.set i d).getD i' 0=0:=fun d i' h=>by
   have:=hq0 i' (by omega)
   simpa[List.getD,List.getElem?_set,show¬i=i' by omega] using this
  have hinv2: ∀d R,R+d*V=dv us→dv a*2^s=R+dv vs*dv (qs.set i d):=fun d R h=>by
   rw[hinv,←h,hqset,Nat.mul_add,←Nat.mul_assoc,←hV,Nat.mul_comm d];omega
  refine zE<|sR<|sm rfl rfl<|sm rfl rfl<|sm rfl rfl<|sy (yd_toU32 rfl) rfl<|sy (yd_ixO rfl rfl (by omega) (by omega)) rfl<|?_
  rw[Int.toNat_natCast]
  refine sc (ch_storeD (d:=g) rfl rfl (emod32 g hgB) (.hd ..) (by omega) rfl ?_)
  refine zE<|st_seq<|sR<|sm rfl rfl<|sy (yd_shr rfl rfl (by decide)) rfl<|?_
  rw[shr_u64 xx 63 (by decide) rfl]
  refine sy (yd_eql rfl rfl) rfl<|zE<|?_
  refine st_condP rfl (fun ht=>?_) (fun ht=>?_) -- slot 184
  ·have ht0:xx/2^63=0:=by omega
   rw[show xx/9223372036854775808=xx/2^63 from rfl,ht0,Nat.zero_mul,Nat.add_zero] at hl2
   refine st_exit<|st_te<|st_inBlock_eq<|st_region<|sm rfl rfl<|sy (yd_sub64 rfl rfl) rfl<|sa rfl rfl<|zE<|?_
   exact st_again ⟨ws2,qs.set i g,i⟩ ⟨hn2,ho2,by simpa using hql,hqo.set _ hgB,by show i≤l;omega,hqz g,hinv2 g _ hl2,by show dv ws2<_;rw[←hV];exact kn_rest hlo hl2⟩ (by show i<i+1;omega) (.cons rfl (.cons rfl (.cons rfl (.cons rfl (.cons rfl (.cons rfl (.cons rfl (.cons rfl .nil)))))))) rfl
  have ht1:xx/9223372036854775808=1:=by
   have:xx/9223372036854775808≠0:=fun h=>ht (by rw[show xx/2^63=xx/9223372036854775808 from rfl,h];rfl)
   omega
  rw[ht1,Nat.one_mul] at hl2
  obtain⟨g',rfl⟩: ∃g',g=g'+1:=⟨g-1,by rcases Nat.eq_zero_or_pos g with h|h;(rw[h,Nat.zero_mul] at hl2;omega);omega⟩
  refine zK<|sR<|sm rfl rfl<|sm rfl rfl<|sy (yd_ixO rfl rfl (by omega) (by omega)) rfl<|?_
  rw[Int.toNat_natCast]
  refine sy (yd_ldO rfl (by simp;omega)) rfl<|?_
  rw[show(qs.set i (g'+1)).getD i 0=g'+1 by simp[List.getD,List.getElem?_set,show i<qs.length by omega]]
  refine sy (yd_subw rfl rfl) rfl<|sy (yd_ixO rfl rfl (by omega) (by omega)) rfl<|?_
  rw[Int.toNat_natCast]
  refine sc (ch_storeD (d:=g') rfl rfl (by rw[wrap_u32];omega) (.hd ..) (by simp;omega) rfl ?_)
  rw[List.set_set]
  refine zE<|sR<|sa rfl rfl<|zE<|st_seq<|sR<|sm rfl rfl<|slen rfl rfl<|sm rfl rfl<|zE<|st_block<|?_
  refine st_loop (X:=NatMs) (fun q=>[(18, .int .u64 q.c),(193, .int .i64 q.k),(192, .int .i64 v.n),(191, .slice v.a v.n v.c),(13, .int .i64 i),(7, .slice (some ⟨b4,0,none⟩) (a.length+1) cap),(9, .int .i64 v.n),(10, .int .u64 (vs.getD (n+1) 0:Nat)),(11, .int .u64 (vs.getD n 0:Nat)),(8, .slice v.a v.n v.c),(12, .slice (some ⟨b5,0,none⟩) l l),(6, .int .u64 s)]) (fun q=>[⟨b5,(qs.set i g').map dI,279,true⟩,⟨b4,q.ws.map dI,279,true⟩])
   (fun q _=>q.ws.length=cap∧DOk q.ws∧q.k≤n+2∧q.c≤1∧dv q.ws<4294967296^(i+n+3)∧dv q.ws+q.c*4294967296^(i+q.k)=dv ws2+dv (vs.take q.k)*4294967296^i) (fun q=>n+2-q.k) ⟨ws2,0,0,0⟩
   ⟨hn2,ho2,Nat.zero_le _,Nat.zero_le _,hM2,by simp[dv]⟩ (.cons rfl (.cons rfl (.cons rfl (.cons rfl (.cons rfl (.cons rfl (.cons rfl (.cons rfl (.cons rfl (.cons rfl (.cons rfl (.cons rfl .nil)))))))))))) rfl ?_
  rintro ⟨wa,k,_,ca⟩ Gz _ ⟨hal2,hao,hak,hac,haM,ha⟩
  simp only[] at hal2 hao hak hac haM ha⊢
  refine sR<|sy (yd_lss rfl rfl) rfl<|zE<|st_seq<|?_
  refine st_condE rfl (fun hkd=>?_) (fun hkd=>?_) -- slot 194
  ·have hkn:k=n+2:=by omega
   subst hkn
   rw[List.take_of_length_le (by omega),←hV] at ha
   have hag:=hao.get (i+n+2)
   refine st_exit<|st_te<|st_te<|st_inBlock_eq<|st_region<|sm rfl rfl<|sm rfl rfl<|sm rfl rfl<|sy (yd_add64 rfl rfl) rfl<|sy (yd_ixO rfl rfl (by omega) (by omega)) rfl<|?_
   rw[show((i:Int)+(v.n:Int)).toNat=i+n+2 by omega]
   refine sy (yd_ldO rfl (by omega)) rfl<|sm rfl rfl<|sy (yd_toU32 rfl) rfl<|sy (yd_addw rfl rfl) rfl<|sy (yd_ixO rfl rfl (by omega) (by omega)) rfl<|?_
   rw[show((i:Int)+(v.n:Int)).toNat=i+n+2 by omega]
   refine sc (ch_storeD (d:=(wa.getD (i+n+2) 0+ca)%4294967296) rfl rfl (by rw[wrap_u32];omega) (.tl _ _ _ _ _ _ _ _ (.hd ..)) (by omega) rfl ?_)
   have hs4:=dv_set wa (i+n+2) ((wa.getD (i+n+2) 0+ca)%4294967296) (by omega)
   have hl4:=ab_last hs4 ha
   rw[←powB] at hl4
   have hM4:=dv_set_lt (i:=i+n+2) (d:=(wa.getD (i+n+2) 0+ca)%4294967296) hao (Nat.mod_lt _ (by decide)) haM (by omega)
   obtain⟨hR1,hR2⟩:=kn_back hhi hl2 hl4 hM2 hM4 (by omega) (Nat.succ_pos _)
   refine zE<|st_region<|sm rfl rfl<|sy (yd_sub64 rfl rfl) rfl<|sa rfl rfl<|zE<|?_
   exact st_again ⟨wa.set (i+n+2) ((wa.getD (i+n+2) 0+ca)%4294967296),qs.set i g',i⟩ ⟨by simpa using hal2,hao.set _ (Nat.mod_lt _ (by decide)),by simpa using hql,hqo.set _ (by omega),by show i≤l;omega,hqz g',hinv2 g' _ hR1,by show dv _<_;rw[←hV];exact hR2⟩ (by show i<i+1;omega) (.cons rfl (.cons rfl (.cons rfl (.cons rfl (.cons rfl (.cons rfl (.cons rfl (.cons rfl .nil)))))))) rfl
  have hvk:=hvo.get k
  have hag:=hao.get (i+k)
  refine zK<|st_seq<|st_block<|sR<|sm rfl rfl<|sy (yd_ixD hv rfl rfl (by omega) (by omega)) rfl<|?_
  rw[Int.toNat_natCast]
  refine sy (yd_ldD hv rfl (by omega)) rfl<|sa rfl rfl<|sa rfl rfl<|zE<|st_seq<|?_
  refine st_region<|sm rfl rfl<|sm rfl rfl<|sm rfl rfl<|sm rfl rfl<|sy (yd_add64 rfl rfl) rfl<|sy (yd_ixO rfl rfl (by omega) (by omega)) rfl<|?_
  rw[show((i:Int)+(k:Int)).toNat=i+k by omega]
  refine sy (yd_ldO rfl (by omega)) rfl<|sy (yd_toU64 rfl) rfl<|sm rfl rfl<|sy (yd_toU64 rfl) rfl<|sy (yd_addU rfl rfl) rfl<|sy (yd_addU rfl rfl) rfl<|?_
  rw[show(ca:Int)+(((wa.getD (i+k) 0:Nat):Int)+((vs.getD k 0:Nat):Int))=((ca+(wa.getD (i+k) 0+vs.getD k 0):Nat):Int) from rfl]
  refine sa rfl rfl<|zE<|sR<|sm rfl rfl<|sm rfl rfl<|sm rfl rfl<|sy (yd_add64 rfl rfl) rfl<|sm rfl rfl<|sy (yd_toU32 rfl) rfl<|sy (yd_ixO rfl rfl (by omega) (by omega)) rfl<|?_
  rw[show((i:Int)+(k:Int)).toNat=i+k by omega]
  refine sc (ch_storeD (d:=(ca+(wa.getD (i+k) 0+vs.getD k 0))%4294967296) rfl rfl (by rw[Int.natCast_emod];rfl) (.tl _ _ _ _ _ _ _ _ (.hd ..)) (by omega) rfl ?_)
  refine zE<|st_region<|sm rfl rfl<|sy (yd_shr rfl rfl (by decide)) rfl<|?_
  rw[shr_u64 (ca+(wa.getD (i+k) 0+vs.getD k 0)) 32 (by decide) rfl]
  refine sa rfl rfl<|zE<|st_region<|sy (yd_add64 rfl rfl) rfl<|sm rfl rfl<|zE<|?_
  refine st_again ⟨wa.set (i+k) ((ca+(wa.getD (i+k) 0+vs.getD k 0))%4294967296),k+1,0,(ca+(wa.getD (i+k) 0+vs.getD k 0))/2^32⟩ ⟨by simpa using hal2,hao.set _ (Nat.mod_lt _ (by decide)),by show k+1≤_;omega,by show(ca+(wa.getD (i+k) 0+vs.getD k 0))/4294967296≤1;omega,dv_set_lt hao (Nat.mod_lt _ (by decide)) haM (by omega),?_⟩ (by show n+2-(k+1)<n+2-k;omega) (.cons rfl (.cons rfl (.cons rfl (.cons rfl (.cons rfl (.cons rfl (.cons rfl (.cons rfl (.cons rfl (.cons rfl (.cons rfl (.cons rfl .nil)))))))))))) rfl
  show dv (wa.set (i+k) ((ca+(wa.getD (i+k) 0+vs.getD k 0))%4294967296))+((ca+(wa.getD (i+k) 0+vs.getD k 0))/4294967296)*4294967296^(i+k+1)=dv ws2+dv (vs.take (k+1))*4294967296^i
  rw[dv_take_succ,Nat.add_mul (dv (vs.take k)),powB,show 4294967296^k*vs.getD k 0*4294967296^i=vs.getD k 0*4294967296^(i+k) by rw[Nat.pow_add,Nat.mul_comm (4294967296^k),Nat.mul_assoc,Nat.mul_comm (4294967296^k)]]
  exact ab_step (dv_set wa (i+k) _ (by omega)) ha
 have hvk:=hvo.get k
 have hwg:=hwo.get (i+k)
 refine zK<|st_seq<|st_block<|sR<|sm rfl rfl<|sy (yd_ixD hv rfl rfl (by omega) (by omega)) rfl<|?_
 rw[Int.toNat_natCast]
 refine sy (yd_ldD hv rfl (by omega)) rfl<|sa rfl rfl<|sa rfl rfl<|zE<|st_seq<|?_
 have hgd:g*vs.getD k 0≤4294967295*4294967295:=Nat.mul_le_mul (by omega) (by omega)
 have e3:(g:Int)*((vs.getD k 0:Nat):Int)=((g*vs.getD k 0:Nat):Int):=rfl
 refine st_region<|sm rfl rfl<|sm rfl rfl<|sm rfl rfl<|sy (yd_toU64 rfl) rfl<|sy (yd_mulU rfl rfl (by rw[e3];omega) (by rw[e3];omega)) rfl<|?_
 rw[e3]
 refine sy (yd_addU rfl rfl) rfl<|?_
 rw[show(c:Int)+((g*vs.getD k 0:Nat):Int)=((c+g*vs.getD k 0:Nat):Int) from rfl]
 obtain⟨c1,hc1⟩: ∃c1,c1=c+g*vs.getD k 0:=⟨_,rfl⟩
 rw[←hc1]
 have hc1m:c1%4294967296<4294967296:=Nat.mod_lt _ (by decide)
 refine sa rfl rfl<|zE<|sR<|sm rfl rfl<|sm rfl rfl<|sm rfl rfl<|sy (yd_add64 rfl rfl) rfl<|sy (yd_ixO rfl rfl (by omega) (by omega)) rfl<|?_
 rw[show((i:Int)+(k:Int)).toNat=i+k by omega]
 refine sy (yd_ldO rfl (by omega)) rfl<|sy (yd_toU64 rfl) rfl<|sm rfl rfl<|sy (yd_int rfl rfl (and_mask c1 (by omega))) rfl<|sy (yd_subw rfl rfl) rfl<|sm rfl rfl<|sy (yd_subw rfl rfl) rfl<|?_
 rw[sub2 _ _ _ hwg hc1m hbo]
 obtain⟨hx1,hx2,hx3⟩:=msx_spec (ws.getD (i+k) 0) (c1%4294967296) bo hwg hc1m hbo
 generalize msx (ws.getD (i+k) 0) (c1%4294967296) bo=xx at hx1 hx2 hx3⊢
 refine sa rfl rfl<|?_
 refine zE<|sR<|sm rfl rfl<|sm rfl rfl<|sm rfl rfl<|sy (yd_add64 rfl rfl) rfl<|sm rfl rfl<|sy (yd_toU32 rfl) rfl<|sy (yd_ixO rfl rfl (by omega) (by omega)) rfl<|?_
 rw[show((i:Int)+(k:Int)).toNat=i+k by omega]
 refine sc (ch_storeD (d:=xx%4294967296) rfl rfl (by rw[Int.natCast_emod];rfl) (.tl _ _ _ _ _ _ _ _ (.hd ..)) (by omega) rfl ?_)
 refine zE<|sR<|sm rfl rfl<|sy (yd_shr rfl rfl (by decide)) rfl<|?_
 rw[shr_u64 xx 63 (by decide) rfl]
 refine sa rfl rfl<|zE<|st_region<|sm rfl rfl<|sy (yd_shr rfl rfl (by decide)) rfl<|?_
 rw[shr_u64 c1 32 (by decide) rfl]
 refine sa rfl rfl<|?_
 refine zE<|st_region<|sy (yd_add64 rfl rfl) rfl<|sm rfl rfl<|zE<|?_
 refine st_again ⟨ws.set (i+k) (xx%4294967296),k+1,xx/2^63,c1/2^32⟩ ⟨by simpa using hwl,hwo.set _ (Nat.mod_lt _ (by decide)),by show k+1≤_;omega,hx2,by show c1/4294967296<_;omega,dv_set_lt hwo (Nat.mod_lt _ (by decide)) hwM (by omega),?_⟩ (by show n+2-(k+1)<n+2-k;omega) (.cons rfl (.cons rfl (.cons rfl (.cons rfl (.cons rfl (.cons rfl (.cons rfl (.cons rfl (.cons rfl (.cons rfl (.cons rfl (.cons rfl (.cons rfl (.cons rfl .nil)))))))))))))) rfl
 show dv (ws.set (i+k) (xx%4294967296))+g*(dv (vs.take (k+1))*4294967296^i)=dv us+(xx/9223372036854775808+c1/4294967296)*4294967296^(i+k+1)
 rw[dv_take_succ,Nat.add_mul (dv (vs.take k)),powB,show 4294967296^k*vs.getD k 0*4294967296^i=vs.getD k 0*4294967296^(i+k) by rw[Nat.pow_add,Nat.mul_comm (4294967296^k),Nat.mul_assoc,Nat.mul_comm (4294967296^k)],Nat.mul_add,←Nat.mul_assoc g (vs.getD k 0)]
 exact ms_step (dv_set ws (i+k) _ (by omega)) hw hc1 hx1
end Go.Sx
end

section
set_option maxRecDepth 100000
namespace Go.Sx
open Go Go.Proofs
theorem nat_DivMod{A B G:Gh}{x y:SV}{a b:List Nat}{k1 k2:Nat}(hx:IsD A x a)(hy:IsD B y b)[GL A G][GL B G](hb0:0<dv b)
  (hq:dv a/dv b<2^k1)(hr:dv a%dv b<2^k2)(hl:a.length≤112589990684)(hl2:b.length≤112589990684):
  Fn Tryz.prog 252 [x.v,y.v] G (fun v G'=> ∃z r:SV,v= .tuple #[z.v,r.v, .bool true]∧IsN k1 G' z (dv a/dv b)∧IsN k2 G' r (dv a%dv b)):=by
 have hla:=trimD_len a
 have hlb:=trimD_len b
 have hca:=fun G1 (_:GL A G1)=>nat_trim (G:=G1) hx (by omega)
 have hcb:=fun G1 (_:GL B G1)=>nat_trim (G:=G1) hy (by omega)
 have hxt:=hx.trim
 have hyt:=hy.trim
 have hna:=Nrm.trimD a
 have hnb:=Nrm.trimD b
 rw[←dv_trimD a,←dv_trimD b] at hq hr⊢
 rw[←dv_trimD b] at hb0
 generalize trimD a=a' at*
 generalize trimD b=b' at*
 refine Fn.intro Tryz.func252 rfl rfl Tryz.ntmps252 rfl ?_
 intro C _ _
 refine sR<|sa rfl rfl<|sa rfl rfl<|sa rfl rfl<|zE<|sR<|sm rfl rfl<|?_
 refine sc (zC rfl rfl (hca _ inferInstance) rfl ?_)
 rintro _ G1 _ rfl
 refine sm rfl rfl<|?_
 refine sc (zC rfl rfl (hcb _ inferInstance) rfl ?_)
 rintro _ G2 _ rfl
 refine sa rfl rfl<|sa rfl rfl<|zE<|st_seq<|st_block<|sR<|sm rfl rfl<|slen rfl rfl<|sy (yd_eql rfl rfl) rfl<|sa rfl rfl<|zE<|?_
 refine st_condP rfl (fun hc=>?_) (fun hc=>?_) -- slot 15
 ·exfalso
  have:b'=[]:=List.eq_nil_of_length_eq_zero (by omega)
  rw[this] at hb0
  exact absurd hb0 (by simp[dv])
 refine sR<|sm rfl rfl<|sm rfl rfl<|?_
 refine sc (zC rfl rfl (nat_Cmp hxt hyt (by omega) (by omega)) rfl ?_)
 rintro _ G3 _ rfl
 refine sy (yd_lss rfl rfl) rfl<|sa rfl rfl<|zE<|?_
 refine st_condP rfl (fun hc2=>?_) (fun hc2=>?_) -- slot 19
 ·have hlt:dv a'<dv b':=by
   unfold cmpN at hc2
   split at hc2
   ·assumption
   ·split at hc2<;>omega
  refine sR<|sm rfl rfl<|?_
  refine sc (zC rfl rfl (nat_Clone hxt (by omega)) rfl ?_)
  rintro _ G4 _ ⟨z,rfl,hz⟩
  refine sa rfl rfl<|sa rfl rfl<|sa rfl rfl<|zE<|st_ret<|?_
  refine zD (.tmp rfl (.tmp rfl (.tmp rfl .nil))) ⟨⟨none,0,0⟩,z,rfl,?_,?_⟩
  ·rw[Nat.div_eq_of_lt hlt]
   exact⟨by unfold dg;exact .nil _,Nat.pow_pos (by decide)⟩
  ·rw[Nat.mod_eq_of_lt hlt] at hr⊢
   exact⟨by rw[dg_dv hxt.ok hna];exact hz,hr⟩
 have hle:dv b'≤dv a':=by
  unfold cmpN at hc2
  split at hc2
  ·omega
  ·omega
 refine sR<|sm rfl rfl<|slen rfl rfl<|sy (yd_eql rfl rfl) rfl<|sa rfl rfl<|zE<|?_
 refine st_condP rfl (fun hc3=>?_) (fun hc3=>?_) -- slot 26
 ·have hb1:b'.length=1:=by omega
  obtain⟨d,rfl⟩:=List.length_eq_one_iff.1 hb1
  have hdv:dv [d]=d:=by simp[dv]
  have hdB:=hyt.ok.head
  rw[hdv] at hb0 hq hr⊢
  refine sR<|sm rfl rfl<|sm rfl rfl<|sy (yd_ixD (z:=⟨y.a,1,y.c⟩) hyt rfl rfl (by omega) (by show(0:Int)<((1:Nat):Int);omega)) rfl<|sy (yd_ldD (i:=0) hyt rfl (by simp)) rfl<|?_
  rw[show [d].getD 0 0=d from rfl]
  refine sc (zC rfl rfl (nat_short (x:=⟨x.a,a'.length,x.c⟩) hxt hb0 hdB hq (by omega)) rfl ?_)
  rintro _ G5 _ ⟨z,rfl,hz⟩
  have hmB:dv a'%d<4294967296:=Nat.lt_trans (Nat.mod_lt _ hb0) hdB
  refine sm rfl rfl<|sx rfl rfl rfl<|sx rfl rfl rfl<|sa rfl rfl<|sa rfl rfl<|zE<|sR<|sm rfl rfl<|sm rfl rfl<|sy (yd_toU64 rfl) rfl<|?_
  refine sc (zC rfl rfl (nat_FromUint (by omega)) rfl ?_)
  rintro _ G6 _ ⟨r,rfl,hr6⟩
  refine sa rfl rfl<|sa rfl rfl<|sa rfl rfl<|zE<|st_ret<|?_
  exact zD (.tmp rfl (.tmp rfl (.tmp rfl .nil))) ⟨z,r,rfl,hz.up,hr6.mono hr⟩
 have hb2:2≤b'.length:=by omega
 refine zK<|sR<|sm rfl rfl<|sm rfl rfl<|?_
 refine sc (zC rfl rfl (nat_long (x:=⟨x.a,a'.length,x.c⟩) (y:=⟨y.a,b'.length,y.c⟩) hxt hyt hna hnb hb2 hle hq hr (by omega)) rfl ?_)
 rintro _ G7 _ ⟨z,r,rfl,hz,hr7⟩
 refine sm rfl rfl<|sx rfl rfl rfl<|sx rfl rfl rfl<|sa rfl rfl<|sa rfl rfl<|zE<|sR<|sm rfl rfl<|sm rfl rfl<|sa rfl rfl<|sa rfl rfl<|sa rfl rfl<|zE<|?_
 refine st_ret<|?_
 exact zD (.tmp rfl (.tmp rfl (.tmp rfl .nil))) ⟨z,r,rfl,hz,hr7⟩
theorem dg_len_le{u k:Nat}(h:u<2^k):32*(dg u).length≤k+31:=nrm_len (dg_spec u).2.2 (by rw[(dg_spec u).1];exact h)
theorem IsN.dvl{k:Nat}{G:Gh}{x:SV}{v:Nat}(_:IsN k G x v):dv (dg v)=v:=(dg_spec v).1
structure NatGcd where
 a:SV
 b:SV
 u:Nat
 v:Nat
theorem nat_Gcd{A B G:Gh}{x y:SV}{a b:List Nat}{k k0:Nat}(hx:IsD A x a)(hy:IsD B y b)[GL A G][GL B G](ha:dv a<2^k0)(hb:dv b<2^k0)(hk0:k0≤1099511627776)
  (hg0:Nat.gcd (dv a) (dv b)<2^k)(hl:a.length≤112589990684)(hl2:b.length≤112589990684):
  Fn Tryz.prog 251 [x.v,y.v] G (fun v G'=> ∃z:SV,v=z.v∧IsN k G' z (Nat.gcd (dv a) (dv b))):=by
 refine Fn.intro Tryz.func251 rfl rfl Tryz.ntmps251 rfl ?_
 intro C _ _
 refine sR<|sa rfl rfl<|zE<|sR<|sm rfl rfl<|?_
 refine sc (zC rfl rfl (nat_Norm hx ha (by omega)) rfl ?_)
 rintro _ G1 _ ⟨x1,rfl,hx1⟩
 refine sm rfl rfl<|?_
 refine sc (zC rfl rfl (nat_Norm hy hb (by omega)) rfl ?_)
 rintro _ G2 _ ⟨y1,rfl,hy1⟩
 generalize dv a=ua at*
 generalize dv b=ub at*
 refine sa rfl rfl<|sa rfl rfl<|zE<|st_seq<|st_block<|?_
 refine st_loop (X:=NatGcd) (fun q=>[(0, .slice q.a.a q.a.n q.a.c),(1, .slice q.b.a q.b.n q.b.c)]) (fun _=>[]) (fun q G=>IsN k0 G q.a q.u∧IsN k0 G q.b q.v∧Nat.gcd q.u q.v=Nat.gcd ua ub) (fun q=>q.v) ⟨x1,y1,ua,ub⟩
  ⟨hx1.up,hy1,rfl⟩ (.cons rfl (.cons rfl .nil)) rfl ?_
 rintro ⟨p,q,u,v⟩ Gx _ ⟨hp,hq,hgc⟩
 simp only[] at hp hq hgc⊢
 have hpl:=hp.len
 have hql:=hq.len
 have hpb:=dg_len_le hp.lt
 have hqb:=dg_len_le hq.lt
 refine st_seq<|sR<|sm rfl rfl<|slen rfl rfl<|sy (yd_gtr rfl rfl) rfl<|sm rfl rfl<|?_
 refine st_caseP 19 rfl (fun hg=>?_) (fun hg=>?_)
 ·refine ss rfl rfl rfl rfl<|ss rfl rfl rfl rfl<|ss rfl rfl rfl rfl<|sy (yd_pickT rfl rfl) rfl<|zE<|st_condT rfl<|zK<|st_block<|st_seq<|sR<|sm rfl rfl<|?_
  refine slen rfl rfl<|sy (yd_eql rfl rfl) rfl<|zE<|?_
  refine st_condP rfl (fun hc1=>?_) (fun hc1=>?_) -- slot 26
  ·refine sR<|sm rfl rfl<|sa rfl rfl<|zE<|st_ret<|?_
   have hv0:v=0:=by
    have:dg v=[]:=List.eq_nil_of_length_eq_zero (by omega)
    have h2:=hq.dvl
    rw[this] at h2
    exact h2.symm
   have hue:u=Nat.gcd ua ub:=by rw[←hgc,hv0,Nat.gcd_zero_right]
   exact zD (.tmp rfl .nil) ⟨p,rfl,by rw[←hue] at hg0⊢;exact hp.mono hg0⟩
  have hv0:0<v:=Nat.pos_of_ne_zero fun h=>by
   have h1:dg v=[]:=by rw[h];unfold dg;rfl
   rw[h1] at hql
   simp only[List.length_nil] at hql
   omega
  have hm:=Nat.mod_lt u hv0
  refine zK<|sR<|sm rfl rfl<|sm rfl rfl<|?_
  refine sc (zC rfl rfl (nat_DivMod (k1:=k0) (k2:=k0) hp.d hq.d (by rw[hq.dvl];exact hv0) (by rw[hp.dvl];exact Nat.lt_of_le_of_lt (Nat.div_le_self _ _) hp.lt) (by rw[hp.dvl,hq.dvl];exact Nat.lt_trans hm hq.lt) (by omega) (by omega)) rfl ?_)
  rintro _ G3 _ ⟨z,r,rfl,hz,hr⟩
  rw[hp.dvl,hq.dvl] at hr
  refine sm rfl rfl<|sx rfl rfl rfl<|sx rfl rfl rfl<|sx rfl rfl rfl<|sa rfl rfl<|sa rfl rfl<|sa rfl rfl<|zE<|st_region<|sm rfl rfl<|sm rfl rfl<|sa rfl rfl<|sa rfl rfl<|?_
  refine zE<|?_
  exact st_again ⟨q,r,v,u%v⟩ ⟨hq.up,hr,by show Nat.gcd v (u%v)=_;rw[←hgc,Nat.gcd_comm u,Nat.gcd_rec v u,Nat.gcd_comm]⟩ hm (.cons rfl (.cons rfl .nil)) rfl
 refine syg rfl rfl (yd_move rfl) rfl<|syg rfl rfl (yd_len rfl) rfl<|syg rfl rfl (yd_gtr rfl rfl) rfl<|sy (yd_pickF rfl rfl) rfl<|zE<|?_
 refine st_condE rfl (fun hc=>?_) (fun hc=>?_) -- slot 23
 ·have small: ∀{w:Nat},(dg w).length≤2→w<18446744073709551616:=fun{w} h=>by
   have h1:=dv_lt (dg_spec w).2.1
   rw[(dg_spec w).1] at h1
   exact Nat.lt_of_lt_of_le h1 (Nat.le_trans (Nat.pow_le_pow_right (by decide) h) (by decide))
  have hu64:u<18446744073709551616:=small (by omega)
  have hv64:v<18446744073709551616:=small (by omega)
  refine st_exit<|st_te<|st_te<|st_inBlock_eq<|sR<|sm rfl rfl<|?_
  refine sc (zC rfl rfl (nat_Uint hp.d (by omega)) rfl ?_)
  rintro _ G4 _ rfl
  rw[hp.dvl,if_pos hu64]
  refine sm rfl rfl<|sx rfl rfl rfl<|sx rfl rfl rfl<|sa rfl rfl<|sa rfl rfl<|zE<|sR<|sm rfl rfl<|?_
  refine sc (zC rfl rfl (nat_Uint hq.d (by omega)) rfl ?_)
  rintro _ G5 _ rfl
  rw[hq.dvl,if_pos hv64]
  refine sm rfl rfl<|sx rfl rfl rfl<|sx rfl rfl rfl<|sa rfl rfl<|sa rfl rfl<|zE<|st_seq<|st_block<|?_
  refine st_loop (X:=Nat×Nat) (fun q=>[(8, .int .u64 (q.1:Nat)),(10, .int .u64 (q.2:Nat))]) (fun _=>[]) (fun q _=>q.1<18446744073709551616∧q.2<18446744073709551616∧Nat.gcd q.1 q.2=Nat.gcd ua ub) (fun q=>q.2) (u,v)
   ⟨hu64,hv64,hgc⟩ (.cons rfl (.cons rfl .nil)) rfl ?_
  rintro ⟨u1,v1⟩ Gy _ ⟨hu1,hv1,hgc1⟩
  simp only[] at hu1 hv1 hgc1⊢
  refine st_seq<|sR<|sm rfl rfl<|sy (yd_neq rfl rfl) rfl<|zE<|?_
  refine st_condE rfl (fun hc5=>?_) (fun hc5=>?_) -- slot 48
  ·refine st_exit<|st_te<|st_te<|st_inBlock_eq<|sR<|sm rfl rfl<|?_
   refine sc (zC rfl rfl (nat_FromUint hu1) rfl ?_)
   rintro _ G6 _ ⟨z,rfl,hz⟩
   refine sa rfl rfl<|zE<|st_ret<|?_
   have hv0:v1=0:=by omega
   have hue:u1=Nat.gcd ua ub:=by rw[←hgc1,hv0,Nat.gcd_zero_right]
   exact zD (.tmp rfl .nil) ⟨z,rfl,by rw[←hue] at hg0⊢;exact hz.mono hg0⟩
  have hv0:0<v1:=by omega
  refine zK<|st_block<|dr (fun _=>false) [(0,true),(1,true),(2,true),(3,true),(4,true),(5,true)] follows (by kernel_rfl)<|dM rfl rfl rfl<|dM rfl rfl rfl<|?_
  refine dM rfl rfl rfl<|dy rfl (fun _=>yd_remU rfl rfl (by omega) (by omega)) rfl rfl<|dA rfl rfl rfl<|dA rfl rfl rfl<|dn<|?_
  exact st_again (v1,u1%v1) ⟨hv1,Nat.lt_trans (Nat.mod_lt _ hv0) hv1,by show Nat.gcd v1 (u1%v1)=_;rw[←hgc1,Nat.gcd_comm u1,Nat.gcd_rec v1 u1,Nat.gcd_comm]⟩ (by show u1%v1<v1;exact Nat.mod_lt _ hv0) (.cons rfl (.cons rfl .nil)) rfl
 refine zK<|st_block<|st_seq<|sR<|sm rfl rfl<|?_
 refine slen rfl rfl<|sy (yd_eql rfl rfl) rfl<|zE<|?_
 refine st_condP rfl (fun hc1=>?_) (fun hc1=>?_) -- slot 26
 ·refine sR<|sm rfl rfl<|sa rfl rfl<|zE<|st_ret<|?_
  have hv0:v=0:=by
   have:dg v=[]:=List.eq_nil_of_length_eq_zero (by omega)
   have h2:=hq.dvl
   rw[this] at h2
   exact h2.symm
  have hue:u=Nat.gcd ua ub:=by rw[←hgc,hv0,Nat.gcd_zero_right]
  exact zD (.tmp rfl .nil) ⟨p,rfl,by rw[←hue] at hg0⊢;exact hp.mono hg0⟩
 have hv0:0<v:=Nat.pos_of_ne_zero fun h=>by
  have h1:dg v=[]:=by rw[h];unfold dg;rfl
  rw[h1] at hql
  simp only[List.length_nil] at hql
  omega
 have hm:=Nat.mod_lt u hv0
 refine zK<|sR<|sm rfl rfl<|sm rfl rfl<|?_
 refine sc (zC rfl rfl (nat_DivMod (k1:=k0) (k2:=k0) hp.d hq.d (by rw[hq.dvl];exact hv0) (by rw[hp.dvl];exact Nat.lt_of_le_of_lt (Nat.div_le_self _ _) hp.lt) (by rw[hp.dvl,hq.dvl];exact Nat.lt_trans hm hq.lt) (by omega) (by omega)) rfl ?_)
 rintro _ G3 _ ⟨z,r,rfl,hz,hr⟩
 rw[hp.dvl,hq.dvl] at hr
 refine sm rfl rfl<|sx rfl rfl rfl<|sx rfl rfl rfl<|sx rfl rfl rfl<|sa rfl rfl<|sa rfl rfl<|sa rfl rfl<|zE<|st_region<|sm rfl rfl<|sm rfl rfl<|sa rfl rfl<|sa rfl rfl<|?_
 refine zE<|?_
 exact st_again ⟨q,r,v,u%v⟩ ⟨hq.up,hr,by show Nat.gcd v (u%v)=_;rw[←hgc,Nat.gcd_comm u,Nat.gcd_rec v u,Nat.gcd_comm]⟩ hm (.cons rfl (.cons rfl .nil)) rfl
end Go.Sx
end

section
set_option maxRecDepth 100000
namespace Go.Sx
open Go Go.Proofs
structure IV where
 neg:Bool
 a:SV
def IV.v(z:IV):Value:= .agg ⟨[.bool z.neg, .slice z.a.a z.a.n z.a.c]⟩
def zv(neg:Bool)(u:Nat):Int:=if neg then-(u:Int) else u
theorem zv_abs(neg:Bool)(u:Nat):(zv neg u).natAbs=u:=by cases neg<;>simp[zv]
theorem zv_neg(neg:Bool)(u:Nat):zv (!neg) u= -zv neg u:=by cases neg<;>simp[zv]
theorem zv_mul(n m:Bool)(u w:Nat):zv (n !=m) (u*w)=zv n u*zv m w:=by cases n<;>cases m<;>simp[zv,Int.neg_mul,Int.mul_neg]
theorem zv_neg_lt(neg:Bool)(u:Nat):decide (zv neg u<0)=(neg&&decide (0<u)):=by
 cases neg<;>simp[zv]
theorem zv_eta(m:Int):zv (decide (m<0)) m.natAbs=m:=by
 unfold zv
 by_cases h:m<0<;>simp[h]<;>omega
structure IsI (k:Nat) (G:Gh) (z:IV) (m:Int):Prop where
 neg:z.neg=decide (m<0)
 abs:IsN k G z.a m.natAbs
theorem IsI.up{k:Nat}{A G:Gh}{z:IV}{m:Int}(h:IsI k A z m)[GL A G]:IsI k G z m:=⟨h.neg,h.abs.up⟩
end Go.Sx
end

section
set_option maxRecDepth 100000
namespace Go.Sx
open Go Go.Proofs
theorem zv_add_same(n:Bool)(u w:Nat):zv n (u+w)=zv n u+zv n w:=by cases n<;>simp[zv]<;>omega
end Go.Sx
end

section
set_option maxRecDepth 100000
namespace Go.Sx
open Go Go.Proofs
theorem wrap_i64(p:Int):IntKind.i64.wrap p=(p+9223372036854775808)%18446744073709551616-9223372036854775808:=by
 have e:IntKind.i64.wrap p=if(true&&decide (p%2^64≥2^(64-1)))=true then p%2^64-2^64 else p%2^64:=rfl
 rw[e,show(2:Int)^64=18446744073709551616 by decide,show(2:Int)^(64-1)=9223372036854775808 by decide,Bool.true_and]
 by_cases h:p%18446744073709551616≥9223372036854775808
 ·rw[decide_eq_true h,if_pos rfl];omega
 ·rw[decide_eq_false h,if_neg (by decide)];omega
end Go.Sx
end

section
set_option maxRecDepth 100000
namespace Go.Sx
open Go Go.Proofs
structure RV where
 n:Int
 d:Int
 p:Option Addr
def RV.v(z:RV):Value:= .agg ⟨[.int .i64 z.n, .int .i64 z.d, .pointer z.p]⟩
structure SmallR (z:RV) (q:Rat):Prop where
 p:z.p=none
 n:z.n=q.num
 d:z.d=(q.den:Int)-1
 b1:q.num.natAbs<4611686018427387904
 b2:q.den<4611686018427387904
structure BigR (k:Nat) (G:Gh) (z:RV) (q:Rat):Prop where
 n:z.n=0
 d:z.d=0
 ex: ∃(b:Nat) (x:IV) (y:SV),z.p=some ⟨b,0,none⟩∧G b=some [.bool x.neg, .slice x.a.a x.a.n x.a.c, .slice y.a y.n y.c]∧IsI k G x q.num∧IsN k G y q.den
 no: ¬(q.num.natAbs<4611686018427387904∧q.den<4611686018427387904)
def IsR(k:Nat)(G:Gh)(z:RV)(q:Rat):Prop:=q.num.natAbs<2^k∧q.den<2^k∧(SmallR z q∨BigR k G z q)
theorem zv_div{neg:Bool}{u g:Nat}(h:g∣u):zv neg (u/g)=zv neg u/(g:Int):=by
 cases neg
 ·simp[zv]
 ·simp only[zv,if_true]
  rw[Int.neg_ediv_of_dvd (Int.natCast_dvd_natCast.2 h),Int.natCast_ediv]
theorem rat_num{m:Int}{e:Nat}(he:0<e):(mkRat m e).num=m/((Nat.gcd m.natAbs e:Nat):Int)∧(mkRat m e).den=e/Nat.gcd m.natAbs e:=by
 rw[Rat.num_mkRat,Rat.den_mkRat,if_neg (by omega),if_neg (by omega),Nat.gcd_comm]
 exact⟨rfl,rfl⟩
theorem bl_le62{x:Nat}:(((bl x:Nat):Int)≤62)↔x<4611686018427387904:=by
 have:bl x≤62↔x<2^62:=bl_le
 omega
structure FracRed where
 x:SV
 y:SV
 ds:List Nat
 es:List Nat
end Go.Sx
end

section
set_option maxRecDepth 100000
namespace Go.Sx
open Go Go.Proofs
end Go.Sx
end

section
set_option maxRecDepth 100000
namespace Go.Sx
open Go Go.Proofs
theorem bits_Mul64'{G:Gh}{x y:Nat}(hx:x<18446744073709551616)(hy:y<18446744073709551616):Fn Tryz.prog 89 [.int .u64 (x:Nat), .int .u64 (y:Nat)] G (fun v _=>v= .tuple #[.int .u64 ((x*y/18446744073709551616:Nat):Int), .int .u64 ((x*y%18446744073709551616:Nat):Int)]):=
 Fn.of_calls (G:=G) (callable_of Tryz.func89 rfl rfl) (fun w=>Tryz.bits_Mul64 x y hx hy w)
theorem mul_signs(a b:Int):a*b=if(a<0)↔(b<0) then((a.natAbs*b.natAbs:Nat):Int) else-((a.natAbs*b.natAbs:Nat):Int):=by
 rcases(by omega:a<0∨0≤a) with h|h<;>rcases(by omega:b<0∨0≤b) with h2|h2
 ·rw[if_pos (by simp[h,h2]),Int.natCast_mul,Int.ofNat_natAbs_of_nonpos (Int.le_of_lt h),Int.ofNat_natAbs_of_nonpos (Int.le_of_lt h2),Int.neg_mul_neg]
 ·rw[if_neg (by simp[h];omega),Int.natCast_mul,Int.ofNat_natAbs_of_nonpos (Int.le_of_lt h),Int.natAbs_of_nonneg h2,Int.neg_mul,Int.neg_neg]
 ·rw[if_neg (by simp[h2];omega),Int.natCast_mul,Int.natAbs_of_nonneg h,Int.ofNat_natAbs_of_nonpos (Int.le_of_lt h2),Int.mul_neg,Int.neg_neg]
 ·rw[if_pos (by constructor<;>intro<;>omega),Int.natCast_mul,Int.natAbs_of_nonneg h,Int.natAbs_of_nonneg h2]
end Go.Sx
end

section
set_option maxRecDepth 100000
namespace Go.Sx
open Go Go.Proofs
theorem i64_small{p:Int}(h:p.natAbs<9223372036854775808):IntKind.i64.wrap p=p:=by rw[wrap_i64];omega
end Go.Sx
end

section
set_option maxRecDepth 100000
namespace Go.Sx
open Go Go.Proofs
end Go.Sx
end

section
set_option maxRecDepth 100000
namespace Go.Sx
open Go Go.Proofs
theorem mkRat_neg_abs{n:Int}{d:Nat}(h:n<0):mkRat (-(d:Int)) n.natAbs=Rat.divInt (d:Int) n:=by
 rw[←Rat.divInt_ofNat,Int.ofNat_natAbs_of_nonpos (Int.le_of_lt h),Rat.neg_divInt_neg]
theorem rat_inv_num{q:Rat}(h:q.num<0):(q⁻¹).num= -(q.den:Int)∧(q⁻¹).den=q.num.natAbs:=by
 rw[Rat.num_inv,Rat.den_inv,if_neg (by omega),Int.sign_eq_neg_one_of_neg h]
 omega
theorem rat_inv_pos{q:Rat}(h:0<q.num):(q⁻¹).num=(q.den:Int)∧(q⁻¹).den=q.num.natAbs:=by
 rw[Rat.num_inv,Rat.den_inv,if_neg (by omega),Int.sign_eq_one_of_pos h]
 omega
end Go.Sx
end

section
set_option maxRecDepth 100000
namespace Go.Sx
open Go Go.Proofs
theorem rat_int{q:Rat}(h:q.den=1):q=(q.num:Int):=by
 conv=>lhs;rw[←Rat.mkRat_self q,h,Rat.mkRat_one]
end Go.Sx
end

section
set_option maxRecDepth 100000
namespace Go.Sx
open Go Go.Proofs
def rcmp(a b:Rat):Int:=if a<b then-1 else if b<a then 1 else 0
theorem sub_num_neg(a b:Rat):(a-b).num<0↔a<b:=by
 rw[←Rat.not_le,Rat.le_iff_sub_nonneg,←Rat.num_nonneg];omega
theorem sub_num_pos(a b:Rat):0<(a-b).num↔b<a:=by
 have h:=sub_num_neg b a
 have h2:(b-a).num= -(a-b).num:=by rw[←Rat.neg_num,Rat.neg_sub]
 rw[h2] at h
 rw[←h];omega
theorem sign_sub(a b:Rat):Int.sign (a-b).num=rcmp a b:=by
 unfold rcmp
 split
 ·rename_i h;exact Int.sign_eq_neg_one_of_neg ((sub_num_neg a b).2 h)
 ·rename_i h
  split
  ·rename_i h2;exact Int.sign_eq_one_of_pos ((sub_num_pos a b).2 h2)
  ·rename_i h2
   rw[←sub_num_neg] at h
   rw[←sub_num_pos] at h2
   rw[show(a-b).num=0 by omega];rfl
theorem lt_same{a b:Rat}(h:a.den=b.den):a<b↔a.num<b.num:=by
 rw[Rat.lt_iff,h]
 have:(0:Int)<b.den:=by have:=b.den_pos;omega
 exact⟨fun h2=>Int.lt_of_mul_lt_mul_right h2 (Int.le_of_lt this),fun h2=>Int.mul_lt_mul_of_pos_right h2 this⟩
theorem rcmp_eq(a b:Rat):rcmp a b=0↔a=b:=by
 unfold rcmp
 constructor
 ·intro h
  split at h
  ·omega
  ·rename_i h1
   split at h
   ·omega
   ·rename_i h2
    exact Rat.le_antisymm (Rat.not_lt.1 h2) (Rat.not_lt.1 h1)
 ·intro h
  subst h
  rw[if_neg (Rat.not_lt.2 Rat.le_refl),if_neg (Rat.not_lt.2 Rat.le_refl)]
end Go.Sx
end

section
set_option maxRecDepth 100000
namespace Go.Sx
open Go Go.Proofs
theorem rcmp_pos(a b:Rat):0<rcmp a b↔b<a:=by
 unfold rcmp
 constructor
 ·intro h
  split at h
  ·omega
  ·split at h
   ·assumption
   ·omega
 ·intro h
  rw[if_neg (fun h2=>Rat.not_lt.2 (Rat.le_of_lt h) h2),if_pos h];decide
theorem rcmp_neg(a b:Rat):rcmp a b<0↔a<b:=by
 unfold rcmp
 constructor
 ·intro h
  split at h
  ·assumption
  ·split at h<;>omega
 ·intro h
  rw[if_pos h];decide
end Go.Sx
end

section
set_option maxRecDepth 100000
namespace Go.Sx
open Go Go.Proofs
def rgcd(a b:Rat):Rat:=mkRat ((Nat.gcd (a.num.natAbs*b.den) (b.num.natAbs*a.den):Nat):Int) (a.den*b.den)
theorem rgcd_int(a b:Int):rgcd a b=((Nat.gcd a.natAbs b.natAbs:Nat):Int):=by
 unfold rgcd
 show mkRat ((Nat.gcd (a.natAbs*1) (b.natAbs*1):Nat):Int) (1*1)=_
 rw[Nat.mul_one,Nat.mul_one,Nat.mul_one,Rat.mkRat_one]
theorem gcd_lt{a b m:Nat}(ha:a<m)(hb:b<m):Nat.gcd a b<m:=by
 rcases Nat.eq_zero_or_pos a with h|h
 ·rw[h,Nat.gcd_zero_left];exact hb
 ·exact Nat.lt_of_le_of_lt (Nat.gcd_le_left _ h) ha
end Go.Sx
end

section
set_option maxRecDepth 100000
namespace Go.Sx
open Go Go.Proofs
structure LV where
 a:RV
 b:RV
 c:RV
def LV.v(z:LV):Value:= .agg ⟨[.int .i64 z.a.n, .int .i64 z.a.d, .pointer z.a.p, .int .i64 z.b.n, .int .i64 z.b.d, .pointer z.b.p, .int .i64 z.c.n, .int .i64 z.c.d, .pointer z.c.p]⟩
structure LnQ where
 a:Int
 b:Int
 c:Int
structure IsL (k:Nat) (G:Gh) (z:LV) (l:LnQ):Prop where
 a:IsR k G z.a (l.a:Rat)
 b:IsR k G z.b (l.b:Rat)
 c:IsR k G z.c (l.c:Rat)
def LnQ.ok(l:LnQ):Prop:= ¬(l.a=0∧l.b=0)∧Nat.gcd (Nat.gcd l.a.natAbs l.b.natAbs) l.c.natAbs=1
def okI(neg:Bool)(ds:List Nat):Prop:=Nrm ds∧(neg=true→ds≠[])
end Go.Sx
end

section
set_option maxRecDepth 100000
namespace Go.Sx
open Go Go.Proofs
structure PV where
 x:RV
 y:RV
def PV.v(z:PV):Value:= .agg ⟨[.int .i64 z.x.n, .int .i64 z.x.d, .pointer z.x.p, .int .i64 z.y.n, .int .i64 z.y.d, .pointer z.y.p]⟩
structure PtQ where
 x:Rat
 y:Rat
structure IsP (k:Nat) (G:Gh) (z:PV) (p:PtQ):Prop where
 x:IsR k G z.x p.x
 y:IsR k G z.y p.y
theorem rat_neg_int(a:Int): -(a:Rat)=((-a:Int):Rat):=rfl
def LnQ.rev(l:LnQ):LnQ:=⟨-l.a, -l.b, -l.c⟩
def LnQ.nor(l:LnQ):PtQ:=⟨l.a,l.b⟩
def LnQ.dir(l:LnQ):PtQ:=⟨l.b, -(l.a:Rat)⟩
def PtQ.dot(p q:PtQ):Rat:=p.x*q.x+p.y*q.y
def PtQ.cross(p q:PtQ):Rat:=p.x*q.y-p.y*q.x
def PtQ.scale(p:PtQ)(c:Rat):PtQ:=⟨p.x*c,p.y*c⟩
def PtQ.add(p q:PtQ):PtQ:=⟨p.x+q.x,p.y+q.y⟩
end Go.Sx
end

section
set_option maxRecDepth 100000
namespace Go.Sx
open Go Go.Proofs
def LnQ.value(l:LnQ)(p:PtQ):Rat:=l.nor.dot p+(l.c:Rat)
def LnQ.base(l:LnQ):PtQ:=l.nor.scale (-(l.c:Rat)/l.nor.dot l.nor)
def LnQ.at(l:LnQ)(t:Rat):PtQ:=l.base.add (l.dir.scale t)
end Go.Sx
end

section
set_option maxRecDepth 100000
namespace Go.Sx
open Go
def dU(d:Nat):DV:= .v (.int .u32 (d:Int))
def dLi(ds:List Nat):DV:= .sl (ds.map dU)
def dN(n:Nat):DV:= .sl ((dg n).map dU)
def dD(n:Nat):DV:= .sl (if n=1 then [] else(dg n).map dU)
def eI(m:Int):DV:= .ag [.v (.bool (decide (m<0))),dN m.natAbs]
def eQ(q:Rat):DV:= .ag [.v (.bool (decide (q.num<0))),dN q.num.natAbs,dD q.den]
def eP(p:PtQ):DV:= .ag [.v (.bool (decide (p.x.num<0))),dN p.x.num.natAbs,dD p.x.den, .v (.bool (decide (p.y.num<0))),dN p.y.num.natAbs,dD p.y.den]
def eL(l:LnQ):DV:= .ag [.v (.bool (decide (l.a<0))),dN l.a.natAbs, .v (.bool (decide (l.b<0))),dN l.b.natAbs, .v (.bool (decide (l.c<0))),dN l.c.natAbs]
def eR(q:Rat):DV:= .ag [.v (.bool (decide (q.num<0))),dN q.num.natAbs,dN q.den]
def ePt(p:PtQ):DV:= .ag [.v (.bool (decide (p.x.num<0))),dN p.x.num.natAbs,dN p.x.den, .v (.bool (decide (p.y.num<0))),dN p.y.num.natAbs,dN p.y.den]
def vI(n:Int):DV:= .v (.int .i64 n)
def vB(b:Bool):DV:= .v (.bool b)
theorem dN_dg(n:Nat):dN n=dLi (dg n):=rfl
theorem dL_dv{ds:List Nat}(h:DOk ds):dLi (trimD ds)=dN (dv ds):=by unfold dLi dN;rw[dg_trim h]
theorem mapU_get{ds:List Nat}{i:Nat}(h:i<ds.length):(ds.map dU)[i]? =some (dU (ds.getD i 0)):=by
 rw[List.getElem?_map,List.getElem?_eq_getElem h,List.getD_eq_getElem?_getD,List.getElem?_eq_getElem h];rfl
theorem mapU_getI{ds:List Nat}{i:Nat}(h:i<ds.length):(ds.map dU)[(i:Int).toNat]? =some (dU (ds.getD i 0)):=by rw[Int.toNat_natCast];exact mapU_get h
theorem mapU_set(ds:List Nat)(i d:Nat):(ds.map dU).set i (.v (.int .u32 (d:Int)))=(ds.set i d).map dU:=by rw[List.map_set];rfl
theorem mapU_rep(n:Nat):List.replicate n (DV.v (.int .u32 0))=(List.replicate n 0).map dU:=by rw[List.map_replicate];rfl
theorem slOkU(ds:List Nat):slOk 1 (ds.map dU):=fun d hd=>by
 obtain⟨n,_,rfl⟩:=List.mem_map.1 hd;exact⟨rfl,rfl⟩
theorem dg_lt(n:Nat)(i:Nat):(dg n).getD i 0<4294967296:=(dg_spec n).2.1.get i
theorem dg_zero:dg 0=[]:=by rw[dg,dif_pos rfl]
theorem dg_one:dg 1=[1]:=by rw[dg,dif_neg (by decide)];simp[dg_zero]
theorem dg_len_zero{n:Nat}:(dg n).length=0↔n=0:=by
 constructor
 ·intro h
  have:=(dg_spec n).1
  rw[List.eq_nil_of_length_eq_zero h] at this
  exact this.symm
 ·rintro rfl;rw[dg_zero];rfl
theorem dN_zero:dN 0= .sl []:=by unfold dN;rw[dg_zero];rfl
/-! ### bridges -/
theorem isl_mapU{G:Gh}: ∀{ds:List Nat} {es:List Value},IsLs G (ds.map dU) es↔es=ds.map dI
 |[],es=>isl_nil
 |d::t,es=>by
  rw[List.map_cons,isl_cons]
  constructor
  ·rintro ⟨y,n,rfl,h1,h2⟩
   rw[is_v.1 h1,isl_mapU.1 h2];rfl
  ·rintro rfl
   exact⟨_,_,rfl,is_v.2 rfl,isl_mapU.2 rfl⟩
theorem is_dL{G:Gh}{ds:List Nat}{v:Value}:Is G (dLi ds) v↔ ∃x:SV,v= .slice x.a x.n x.c∧IsSl G 1 x (ds.map dI):=by
 unfold dLi
 rw[is_sl]
 constructor
 ·rintro ⟨s,x,es,rfl,h1,h2⟩
  have:=isl_mapU.1 h2
  subst this
  refine⟨x,rfl,?_⟩
  rcases sl_stride (s:=1) h1 h2 (slOkU ds) with h|h
  ·rw[h] at h1⊢
   exact⟨h1.len,h1.cap, .inl rfl⟩
  ·subst h;exact h1
 ·rintro ⟨x,rfl,h⟩
  exact⟨1,x,_,rfl,h,isl_mapU.2 rfl⟩
theorem is_dN{G:Gh}{n k:Nat}{v:Value}(hk:n<2^k):Is G (dN n) v↔ ∃x:SV,v= .slice x.a x.n x.c∧IsN k G x n:=by
 rw[dN_dg,is_dL]
 constructor
 ·rintro ⟨x,rfl,h⟩
  exact⟨x,rfl,⟨(dg_spec n).2.1,h⟩,hk⟩
 ·rintro ⟨x,rfl,h⟩
  exact⟨x,rfl,h.d.sl⟩
/-! ### spelled otherwise -/
theorem sd_eq(k:Nat){GB:Gh}{C:Ctx}{n:Nat}{fr:FrF}{own:List OwnD}{bs:List BufD}{Φ:Act→World→Prop}{f:FV}(f':FV)(hl:lookF fr k=some f)(e:f=f')(h:SD GB C n E0 ((k,f')::fr) own bs Φ):SD GB C n E0 fr own bs Φ:=
 sd_re k hl rfl (fun G y hy=>e▸hy) h
theorem sd_bh{GB:Gh}{C:Ctx}{n:Nat}{E:Ext}{fr:FrF}{own:List OwnD}{bs:List BufD}{Φ:Act→World→Prop}{w:SV}{s:Nat}{ty:TypeId}{ds:List DV}{lo:Bool}(ds':List DV)(e:ds=ds')(h:SD GB C n E fr own (⟨w,s,ty,ds',lo⟩::bs) Φ):SD GB C n E fr own (⟨w,s,ty,ds,lo⟩::bs) Φ:=e▸h
theorem mapU_getZ{ds:List Nat}{i:Int}{k:Nat}(hi:i=k)(h:k<ds.length):(ds.map dU)[i.toNat]? =some (dU (ds.getD k 0)):=by subst hi;exact mapU_getI h
/-! ### bounds -/
class BN (n:Nat) (k:outParam Nat):Prop where h:n<2^k
class BI (m:Int) (k:outParam Nat):Prop where h:m.natAbs<2^k
class BQ (q:Rat) (k:outParam Nat):Prop where
 hn:q.num.natAbs<2^k
 hd:q.den<2^k
theorem BN.mono{n k k':Nat}(h:BN n k)(hk:k≤k'):BN n k':=⟨Nat.lt_of_lt_of_le h.h (Nat.pow_le_pow_right (by decide) hk)⟩
theorem mul_lt_pow{a b i j:Nat}(h:a<2^i)(k:b<2^j):a*b<2^(i+j):=by rw[Nat.pow_add];exact Nat.mul_lt_mul'' h k
theorem add_lt_pow{a b i j:Nat}(h:a<2^i)(k:b<2^j):a+b<2^(i+j+1):=by
 have h1:2^i≤2^(i+j):=Nat.pow_le_pow_right (by decide) (by omega)
 have h2:2^j≤2^(i+j):=Nat.pow_le_pow_right (by decide) (by omega)
 rw[Nat.pow_succ];omega
instance BN.mul (a b i j:Nat) [h:BN a i] [k:BN b j]:BN (a*b) (i+j):=⟨mul_lt_pow h.h k.h⟩
instance BN.add (a b i j:Nat) [h:BN a i] [k:BN b j]:BN (a+b) (i+j+1):=⟨add_lt_pow h.h k.h⟩
instance BN.sub (a b i:Nat) [h:BN a i]:BN (a-b) i:=⟨by have:=h.h;omega⟩
instance BN.div (a b i:Nat) [h:BN a i]:BN (a/b) i:=⟨Nat.lt_of_le_of_lt (Nat.div_le_self _ _) h.h⟩
instance BN.abs (m:Int) (i:Nat) [h:BI m i]:BN m.natAbs i:=⟨h.h⟩
instance BN.den (q:Rat) (i:Nat) [h:BQ q i]:BN q.den i:=⟨h.hd⟩
theorem gcd_lt'{a b i j:Nat}(h:a<2^i)(k:b<2^j):Nat.gcd a b<2^(i+j):=by
 have h1:2^i≤2^(i+j):=Nat.pow_le_pow_right (by decide) (by omega)
 have h2:2^j≤2^(i+j):=Nat.pow_le_pow_right (by decide) (by omega)
 rcases Nat.eq_zero_or_pos a with h0|h0
 ·subst h0;rw[Nat.gcd_zero_left];omega
 ·have:=Nat.gcd_le_left b h0;omega
instance BN.gcd (a b i j:Nat) [h:BN a i] [k:BN b j]:BN (Nat.gcd a b) (i+j):=⟨gcd_lt' h.h k.h⟩
instance BN.one:BN 1 1:=⟨by decide⟩
instance BN.zero:BN 0 0:=⟨by decide⟩
instance BI.mul (a b:Int) (i j:Nat) [h:BI a i] [k:BI b j]:BI (a*b) (i+j):=⟨by rw[Int.natAbs_mul];exact mul_lt_pow h.h k.h⟩
instance BI.add (a b:Int) (i j:Nat) [h:BI a i] [k:BI b j]:BI (a+b) (i+j+1):=⟨Nat.lt_of_le_of_lt (Int.natAbs_add_le a b) (add_lt_pow h.h k.h)⟩
instance BI.sub (a b:Int) (i j:Nat) [h:BI a i] [k:BI b j]:BI (a-b) (i+j+1):=⟨Nat.lt_of_le_of_lt (Int.natAbs_sub_le a b) (add_lt_pow h.h k.h)⟩
instance BI.neg (a:Int) (i:Nat) [h:BI a i]:BI (-a) i:=⟨by rw[Int.natAbs_neg];exact h.h⟩
instance BI.num (q:Rat) (i:Nat) [h:BQ q i]:BI q.num i:=⟨h.hn⟩
instance BI.nat (n:Nat) (i:Nat) [h:BN n i]:BI (n:Int) i:=⟨by rw[Int.natAbs_natCast];exact h.h⟩
theorem den_pos'(q:Rat):0<q.den:=Nat.pos_of_ne_zero q.den_nz
theorem mkRat_bd{m:Int}{d i:Nat}(hd:0<d)(h:m.natAbs<2^i)(k:d<2^i):BQ (mkRat m d) i:=by
 refine⟨?_,?_⟩
 ·rw[Rat.num_mkRat,if_neg (by omega)]
  have:=Int.natAbs_ediv_le_natAbs m (d.gcd m.natAbs:Nat)
  omega
 ·rw[Rat.den_mkRat,if_neg (by omega)]
  have:=Nat.div_le_self d (d.gcd m.natAbs)
  omega
theorem BQ.mono{q:Rat}{k k':Nat}(h:BQ q k)(hk:k≤k'):BQ q k':=⟨Nat.lt_of_lt_of_le h.hn (Nat.pow_le_pow_right (by decide) hk),Nat.lt_of_lt_of_le h.hd (Nat.pow_le_pow_right (by decide) hk)⟩
theorem rat_mul_mk(p q:Rat):p*q=mkRat (p.num*q.num) (p.den*q.den):=by rw[Rat.mul_def,Rat.normalize_eq_mkRat]
theorem rat_add_mk(p q:Rat):p+q=mkRat (p.num*q.den+q.num*p.den) (p.den*q.den):=by rw[Rat.add_def,Rat.normalize_eq_mkRat]
instance BQ.mul (p q:Rat) (i j:Nat) [h:BQ p i] [k:BQ q j]:BQ (p*q) (i+j):=by
 rw[rat_mul_mk]
 exact mkRat_bd (Nat.mul_pos (den_pos' p) (den_pos' q)) (BI.mul p.num q.num i j).h (mul_lt_pow h.hd k.hd)
instance BQ.add (p q:Rat) (i j:Nat) [h:BQ p i] [k:BQ q j]:BQ (p+q) (i+j+1):=by
 rw[rat_add_mk]
 refine mkRat_bd (Nat.mul_pos (den_pos' p) (den_pos' q)) ?_ ?_
 ·have h1:=mul_lt_pow h.hn k.hd
  have h2:=mul_lt_pow k.hn h.hd
  have h3:(p.num*q.den+q.num*p.den).natAbs≤(p.num*q.den).natAbs+(q.num*p.den).natAbs:=Int.natAbs_add_le ..
  rw[Int.natAbs_mul,Int.natAbs_mul,Int.natAbs_natCast,Int.natAbs_natCast] at h3
  rw[Nat.add_comm j i] at h2
  rw[Nat.pow_succ];omega
 ·have h1:=mul_lt_pow h.hd k.hd
  rw[Nat.pow_succ];omega
instance BQ.neg (p:Rat) (i:Nat) [h:BQ p i]:BQ (-p) i:=⟨by rw[Rat.neg_num,Int.natAbs_neg];exact h.hn,by rw[Rat.neg_den];exact h.hd⟩
instance BQ.sub (p q:Rat) (i j:Nat) [h:BQ p i] [k:BQ q j]:BQ (p-q) (i+j+1):=by
 rw[Rat.sub_eq_add_neg]
 exact BQ.add p (-q) i j
instance BQ.ofInt (m:Int) (i:Nat) [h:BI m i]:BQ (m:Rat) (i+1):=by
 refine⟨?_,?_⟩
 ·rw[Rat.num_intCast];have:=h.h;rw[Nat.pow_succ];omega
 ·rw[Rat.den_intCast];have:0<2^i:=Nat.pow_pos (by decide);rw[Nat.pow_succ];omega
end Go.Sx
end

section
set_option maxRecDepth 100000
namespace Go.Sx
open Go Go.Proofs
def andN(p q:Int):Nat:=(BitVec.ofInt 32 p &&& BitVec.ofInt 32 q).toNat
def orN(p q:Int):Nat:=(BitVec.ofInt 32 p ||| BitVec.ofInt 32 q).toNat
def xorN(p q:Int):Nat:=(BitVec.ofInt 32 p^^^BitVec.ofInt 32 q).toNat
theorem trim_zero{ds:List Nat}{n:Nat}(h:0<n∧n≤ds.length)(hz:ds.getD (n-1) 0=0):trimD (ds.take n)=trimD (ds.take (n-1)):=by
 obtain⟨m,rfl⟩: ∃m,n=m+1:=⟨n-1,by omega⟩
 rw[List.take_succ_eq_append_getElem (by omega),Nat.add_sub_cancel]
 rw[Nat.add_sub_cancel,List.getD_eq_getElem?_getD,List.getElem?_eq_getElem (by omega)] at hz
 simp only[Option.getD_some] at hz
 rw[hz,trimD_snoc0]
theorem trim_stop{ds:List Nat}{n:Nat}(h:n≤ds.length)(hz:0<n→ds.getD (n-1) 0≠0):trimD (ds.take n)=ds.take n:=by
 rcases Nat.eq_zero_or_pos n with h0|h0
 ·subst h0;simp[trimD]
 ·obtain⟨m,rfl⟩: ∃m,n=m+1:=⟨n-1,by omega⟩
  have hz:=hz h0
  rw[List.take_succ_eq_append_getElem (by omega)]
  rw[Nat.add_sub_cancel,List.getD_eq_getElem?_getD,List.getElem?_eq_getElem (by omega)] at hz
  exact trimD_snoc (by simpa using hz)
theorem q_Add32{GB:Gh}{x y c:Nat}(hx:x<4294967296)(hy:y<4294967296)(hc:c≤1):PF GB Tryz.prog 266 [.v (.int .u32 (x:Int)), .v (.int .u32 (y:Int)), .v (.int .u32 (c:Int))] (.tp [.v (.int .u32 (((x+y+c)%4294967296:Nat):Int)), .v (.int .u32 (((x+y+c)/4294967296:Nat):Int))]):=by
 refine fn (hv:=by simp only[allP];exact⟨⟨⟨⟨⟨by omega,by omega⟩,by omega⟩,by omega⟩,by omega⟩,(by decide)⟩) Tryz.func266 rfl rfl Tryz.ntmps266 rfl rfl (fun C=>?_)
 exact rz rfl (by
  have e1:((x:Int)+y+c)%4294967296=(((x+y+c)%4294967296:Nat):Int):=by omega
  have e2:((x:Int)+y+c).fdiv (2^min (32:Int).toNat IntKind.u64.bits)%4294967296=(((x+y+c)/4294967296:Nat):Int):=by
   rw[show(2:Int)^min (32:Int).toNat IntKind.u64.bits=((4294967296:Nat):Int) from rfl,Int.fdiv_eq_ediv_of_nonneg _ (by decide)]
   omega
  show DV.tp [.v (.int _ _), .v (.int _ _)]=_
  rw[e1,e2])
theorem msb_ofInt(n:Nat)(h:n<4294967296):(BitVec.ofInt 32 (n:Int)).msb=decide (2147483648≤n):=by
 rw[show BitVec.ofInt 32 (n:Int)=BitVec.ofNat 32 n from BitVec.ofInt_natCast ..]
 rw[BitVec.msb_eq_decide,BitVec.toNat_ofNat,Nat.mod_eq_of_lt (by simpa using h)]
theorem toNat_msb(b:BitVec 32):b.toNat/2147483648=if b.msb then 1 else 0:=by
 have:=b.isLt
 rw[BitVec.msb_eq_decide]
 simp only[decide_eq_true_eq,Nat.reduceSub,Nat.reducePow] at*
 split<;>omega
theorem bv_toNat_ofInt(b:BitVec 32):BitVec.ofInt 32 (b.toNat:Int)=b:=by rw[BitVec.ofInt_natCast,BitVec.ofNat_toNat,BitVec.setWidth_eq]
theorem sub_borrow{x y c:Nat}(hx:x<4294967296)(hy:y<4294967296)(hc:c≤1):
  ((orN (andN (xorN IntKind.u32.max x:Nat) y:Nat) (andN (xorN IntKind.u32.max (xorN x y:Nat):Nat) (IntKind.u32.wrap (IntKind.u32.wrap ((x:Int)-y)-c)):Nat):Nat):Int).fdiv (2^min (31:Int).toNat IntKind.u32.bits)=(((if x<y+c then 1 else 0):Nat):Int):=by
 rw[show((2:Int)^min (31:Int).toNat IntKind.u32.bits)=((2147483648:Nat):Int) from rfl,Int.fdiv_eq_ediv_of_nonneg _ (by decide),←Int.natCast_ediv]
 congr 1
 have hd: ∃d:Nat,d<4294967296∧IntKind.u32.wrap (IntKind.u32.wrap ((x:Int)-y)-c)=(d:Int)∧((x≥y+c∧d=x-(y+c))∨(x<y+c∧d=x+4294967296-(y+c))):=by
  rw[wrap_u32,wrap_u32]
  refine⟨((((x:Int)-y)%4294967296-c)%4294967296).toNat,by omega,by omega,by omega⟩
 obtain⟨d,hd1,hd2,hd3⟩:=hd
 rw[hd2]
 unfold orN andN xorN
 simp only[bv_toNat_ofInt]
 rw[toNat_msb]
 simp only[BitVec.msb_or,BitVec.msb_and,BitVec.msb_xor,msb_ofInt x hx,msb_ofInt y hy,msb_ofInt d hd1]
 have h1:(BitVec.ofInt 32 IntKind.u32.max).msb=true:=by decide
 rw[h1]
 rcases Nat.lt_or_ge x 2147483648 with a|a<;>rcases Nat.lt_or_ge y 2147483648 with b|b<;>rcases Nat.lt_or_ge d 2147483648 with e|e<;>
  simp[Nat.not_le.2, *]<;>(first|omega|(split<;>omega))
theorem sub_diff{x y c:Nat}(hx:x<4294967296)(hy:y<4294967296)(hc:c≤1):IntKind.u32.wrap (IntKind.u32.wrap ((x:Int)-y)-c)=(((if x<y+c then x+4294967296-(y+c) else x-(y+c)):Nat):Int):=by
 rw[wrap_u32,wrap_u32]
 split<;>omega
theorem q_Sub32{GB:Gh}{x y c:Nat}(hx:x<4294967296)(hy:y<4294967296)(hc:c≤1):PF GB Tryz.prog 267 [.v (.int .u32 (x:Int)), .v (.int .u32 (y:Int)), .v (.int .u32 (c:Int))] (.tp [.v (.int .u32 (((if x<y+c then x+4294967296-(y+c) else x-(y+c)):Nat):Int)), .v (.int .u32 (((if x<y+c then 1 else 0):Nat):Int))]):=by
 refine fn (fu:=⟨10⟩) Tryz.func267 rfl rfl Tryz.ntmps267 rfl rfl (fun C=>?_)
 refine sw (fu:=⟨1⟩) _ rfl (wrap_u32 _).symm rfl<|sw (fu:=⟨6⟩) _ rfl (wrap_u32 _).symm rfl<|nt (fu:=⟨4⟩) _ rfl rfl rfl<|xr (fu:=⟨0⟩) _ rfl rfl rfl<|nt _ rfl rfl rfl<|?_
 exact rz rfl (by have h1:=sub_borrow hx hy hc;unfold orN andN xorN at h1;show DV.tp [.v (.int _ _), .v (.int _ _)]=_;rw[h1,sub_diff hx hy hc])
theorem q_Trim{GB:Gh}{ds:List Nat}(hl:ds.length≤1125899906842624):PF GB Tryz.prog 185 [dLi ds] (dLi (trimD ds)):=by
 refine fn Tryz.func185 rfl rfl Tryz.ntmps185 rfl rfl (fun C=>?_)
 refine lp (X:=Nat) (fun n=>[(0, .d (dLi ds)),(3, .d (vI (n:Nat)))]) (fun n=>[]) (fun n=>n≤ds.length∧trimD ds=trimD (ds.take n)) (fun n=>n) ds.length rfl ⟨Nat.le_refl _,by rw[List.take_length]⟩ (fun _=>rfl) (fun n hk=>?_)
 obtain⟨h1,h2⟩:=hk
 refine cs 8 rfl rfl rfl (fun hg8=>?_) (fun hg8=>?_)
 ·
  refine ix _ rfl (mapU_getZ (k:=n-1) (by omega) (by omega)) rfl<|?_
  refine br rfl rfl rfl (fun hc15=>?_) (fun hc15=>?_)
  ·
   have hz:ds.getD (n-1) 0=0:=by omega
   exact at_ (n-1) ⟨⟨by omega,by rw[h2,trim_zero (by omega) hz]⟩,(by omega)⟩
  ·
   refine sc' 0 n _ rfl rfl rfl rfl (slOkU _) (by omega) (by simp;omega) rfl<|?_
   exact rz rfl (by have:=trim_stop h1 (fun _ h=>hc15 (by omega));rw[←h2] at this;show DV.sl _=_;simp[dLi,this])
 ·
  refine sc' 0 n _ rfl rfl rfl rfl (slOkU _) (by omega) (by simp;omega) rfl<|?_
  exact rz rfl (by obtain rfl:n=0:=(by omega);show DV.sl _=_;simp[dLi,h2,trimD])
end Go.Sx
end

section
set_option maxRecDepth 100000
namespace Go.Sx
open Go Go.Proofs
theorem dg_len_bd{a k:Nat}(h:a<2^k)(hk:k≤1000000000):(dg a).length≤100000000:=by have:=dg_len_le h;omega
theorem dv_dg(a:Nat):dv (dg a)=a:=(dg_spec a).1
theorem dg_ok(a:Nat):DOk (dg a):=(dg_spec a).2.1
theorem mapU_len(ds:List Nat):(ds.map dU).length=ds.length:=List.length_map ..
theorem take_all{ds:List Nat}{n:Nat}(h:ds.length≤n):ds.take n=ds:=List.take_of_length_le h
theorem getD_out{ds:List Nat}{i:Nat}(h:ds.length≤i):ds.getD i 0=0:=by
 rw[List.getD_eq_getElem?_getD,List.getElem?_eq_none h];rfl
theorem dL_trim{ds:List Nat}{n:Nat}(h:DOk ds)(e:dv ds=n):dLi (trimD ds)=dN n:=by rw[dL_dv h,e]
theorem cmpN_lt{a b:Nat}(h:a<b):cmpN a b= -1:=by unfold cmpN;rw[if_pos h]
theorem cmpN_gt{a b:Nat}(h:b<a):cmpN a b=1:=by unfold cmpN;rw[if_neg (by omega),if_neg (by omega)]
theorem cmpN_eq{a b:Nat}(h:a=b):cmpN a b=0:=by unfold cmpN;rw[if_neg (by omega),if_pos h]
theorem sign_subN(m n:Nat):Int.sign ((m:Int)-n)=cmpN m n:=by
 unfold cmpN
 split
 ·exact Int.sign_eq_neg_one_of_neg (by omega)
 ·split
  ·rw[show(m:Int)-n=0 by omega];rfl
  ·exact Int.sign_eq_one_of_pos (by omega)
theorem cmpN_len{a b:Nat}(h:(dg a).length≠(dg b).length):cmpN (dg a).length (dg b).length=cmpN a b:=by
 rcases Nat.lt_or_gt_of_ne h with h|h
 ·have:=dv_len_lt (dg_ok a) (dg_spec b).2.2 h
  rw[dv_dg,dv_dg] at this
  rw[cmpN_lt h,cmpN_lt this]
 ·have:=dv_len_lt (dg_ok b) (dg_spec a).2.2 h
  rw[dv_dg,dv_dg] at this
  rw[cmpN_gt h,cmpN_gt this]
theorem cmp_dig{a b i:Nat}(hl:(dg a).length=(dg b).length)(hi:i<(dg a).length)(hs:(dg a).drop (i+1)=(dg b).drop (i+1)):
  ((dg a).getD i 0<(dg b).getD i 0→a<b)∧((dg b).getD i 0<(dg a).getD i 0→b<a)∧((dg a).getD i 0=(dg b).getD i 0→(dg a).drop i=(dg b).drop i):=by
 refine⟨fun h=>?_,fun h=>?_,fun h=>?_⟩
 ·have:=dv_cmp (dg_ok a) (dg_ok b) i hi (by omega) hl hs h
  rwa [dv_dg,dv_dg] at this
 ·have:=dv_cmp (dg_ok b) (dg_ok a) i (by omega) hi hl.symm hs.symm h
  rwa [dv_dg,dv_dg] at this
 ·rw[List.drop_eq_getElem_cons hi,List.drop_eq_getElem_cons (by omega:i<(dg b).length),hs]
  rw[List.getD_eq_getElem?_getD,List.getD_eq_getElem?_getD,List.getElem?_eq_getElem hi,List.getElem?_eq_getElem (by omega:i<(dg b).length)] at h
  simp only[Option.getD_some] at h
  rw[h]
theorem q_sign{GB:Gh}{z:Int}:PF GB Tryz.prog 257 [vI z] (vI z.sign):=by
 refine fn Tryz.func257 rfl rfl Tryz.ntmps257 rfl rfl (fun C=>?_)
 refine br rfl rfl rfl (fun hc4=>?_) (fun hc4=>?_)
 ·
  exact rz rfl (by show DV.v (.int _ 1)=DV.v (.int _ _);rw[Int.sign_eq_one_of_pos (by omega)])
 ·
  refine br rfl rfl rfl (fun hc6=>?_) (fun hc6=>?_)
  ·
   exact rz rfl (by show DV.v (.int _ (-1))=DV.v (.int _ _);rw[Int.sign_eq_neg_one_of_neg (by omega)])
  ·
   exact rz rfl (by show DV.v (.int _ 0)=DV.v (.int _ _);rw[show z=0 by omega];rfl)
theorem u64_split(u:Nat):dv [u%4294967296,u/4294967296]=u:=by simp only[dv];omega
theorem u64_ok{u:Nat}(h:u<18446744073709551616):DOk [u%4294967296,u/4294967296]:= .cons (by omega) (.cons (by omega) .nil)
theorem fdiv32(u:Nat):(u:Int).fdiv (2^min (32:Int).toNat IntKind.u64.bits)=((u/4294967296:Nat):Int):=by
 rw[show(2:Int)^min (32:Int).toNat IntKind.u64.bits=((4294967296:Nat):Int) from rfl,Int.fdiv_eq_ediv_of_nonneg _ (by decide)];rfl
theorem q_Word{GB:Gh}{u:Nat}(hu:u<18446744073709551616):PF GB Tryz.prog 184 [.v (.int .u64 (u:Int))] (dN u):=by
 refine fn (fu:=⟨11⟩) (hv:=by simp only[allP];exact(by decide)) Tryz.func184 rfl rfl Tryz.ntmps184 rfl rfl (fun C=>?_)
 refine eqF 6 (.d (.v (.int .u64 (u/4294967296:Nat)))) rfl (by rw[fdiv32]) ?_
 refine gx rfl<|rf (fu:=⟨0⟩) rfl rfl<|?_
 refine eqF 8 (.d (dLi [u%4294967296,u/4294967296])) rfl (by show FX.d (.sl [.v (.int _ _), .v (.int _ _)])= .d (.sl [.v (.int _ _), .v (.int _ _)]);congr 6;omega) ?_
 refine gx rfl<|cl rfl (q_Trim (ds:=[u%4294967296,u/4294967296]) (by simp)) rfl<|?_
 exact rz rfl (dL_trim (u64_ok hu) (u64_split u))
theorem q_One{GB:Gh}:PF GB Tryz.prog 186 [] (dN 1):=by
 refine fn Tryz.func186 rfl rfl Tryz.ntmps186 rfl rfl (fun C=>?_)
 refine rf rfl rfl<|?_
 exact rz rfl (by unfold dN;rw[dg_one];rfl)
theorem q_Cmp{GB:Gh}{a b:Nat}(ha:(dg a).length≤100000000)(hb:(dg b).length≤100000000):PF GB Tryz.prog 218 [dN a,dN b] (vI (cmpN a b)):=by
 have hla:=mapU_len (dg a)
 have hlb:=mapU_len (dg b)
 refine fn Tryz.func218 rfl rfl Tryz.ntmps218 rfl rfl (fun C=>?_)
 refine br rfl rfl rfl (fun hc10=>?_) (fun hc10=>?_)
 ·
  refine cl rfl q_sign rfl<|?_
  exact rz rfl (by show DV.v (.int _ _)=DV.v (.int _ _);rw[hla,hlb,sign_subN,cmpN_len (by omega)])
 ·
  have hl:(dg a).length=(dg b).length:=by omega
  refine lp (X:=Nat) (fun k=>[(0, .d (dN a)),(1, .d (dN b)),(5, .d (vI ((k:Nat)-1)))]) (fun k=>[]) (fun k=>k≤(dg a).length∧(dg a).drop k=(dg b).drop k) (fun k=>k) (dg a).length rfl ⟨Nat.le_refl _,by rw[List.drop_length,hl,List.drop_length]⟩ (fun _=>rfl) (fun k hk=>?_)
  obtain⟨h1,h2⟩:=hk
  refine br rfl rfl rfl (fun hc21=>?_) (fun hc21=>?_)
  ·
   obtain⟨k,rfl⟩: ∃m,k=m+1:=⟨k-1,by omega⟩
   refine ix _ rfl (mapU_getZ (k:=k) (by omega) (by omega)) rfl<|ix _ rfl (mapU_getZ (k:=k) (by omega) (by omega)) rfl<|?_
   refine br rfl rfl rfl (fun hc32=>?_) (fun hc32=>?_)
   ·
    exact rz rfl (by show DV.v (.int _ 1)=DV.v (.int _ _);rw[cmpN_gt ((cmp_dig hl (by omega) h2).2.1 (by omega))])
   ·
    refine ix _ rfl (mapU_getZ (k:=k) (by omega) (by omega)) rfl<|ix _ rfl (mapU_getZ (k:=k) (by omega) (by omega)) rfl<|?_
    refine br rfl rfl rfl (fun hc41=>?_) (fun hc41=>?_)
    ·
     exact rz rfl (by show DV.v (.int _ (-1))=DV.v (.int _ _);rw[cmpN_lt ((cmp_dig hl (by omega) h2).1 (by omega))])
    ·
     exact at_ k ⟨⟨by omega,(cmp_dig (i:=k) hl (by omega) h2).2.2 (by omega)⟩,(by omega)⟩
  ·
   exact rz rfl (by show DV.v (.int _ 0)=DV.v (.int _ _);rw[cmpN_eq];obtain rfl:k=0:=(by omega);rw[List.drop_zero,List.drop_zero] at h2;rw[←dv_dg a,h2,dv_dg])
theorem sum_inv{A B W:List Nat}{i c:Nat}(hi:i<W.length)(h:dv (W.take i)+4294967296^i*c=dv (A.take i)+dv (B.take i)):
  dv ((W.set i ((A.getD i 0+B.getD i 0+c)%4294967296)).take (i+1))+4294967296^(i+1)*((A.getD i 0+B.getD i 0+c)/4294967296)=dv (A.take (i+1))+dv (B.take (i+1)):=by
 rw[dv_set_take hi,dv_take_succ A,dv_take_succ B,Nat.pow_succ,show A.getD i 0+B.getD i 0+c=c+A.getD i 0+B.getD i 0 by omega]
 exact add_step h
theorem sum_end{a b n:Nat}{W:List Nat}{c:Nat}(hn:n=max (dg a).length (dg b).length)(hl:W.length=n+1)(h:dv (W.take n)+4294967296^n*c=dv ((dg a).take n)+dv ((dg b).take n)):dv (W.set n c)=a+b:=by
 have e:=dv_set_take (ws:=W) (k:=n) (d:=c) (by omega)
 rw[take_all (by rw[List.length_set];omega)] at e
 rw[e,h,take_all (by omega),take_all (by omega),dv_dg,dv_dg]
set_option maxHeartbeats 1000000 in
theorem q_Sum{GB:Gh}{a b ia ib:Nat}[ha:BN a ia][hb:BN b ib](hi:ia≤1000000000:=by decide)(hj:ib≤1000000000:=by decide):PF GB Tryz.prog 234 [dN a,dN b] (dN (a+b)):=by
 have hla:=mapU_len (dg a)
 have hlb:=mapU_len (dg b)
 have hba:=dg_len_bd ha.h hi
 have hbb:=dg_len_bd hb.h hj
 refine fn (fu:=⟨12⟩) Tryz.func234 rfl rfl Tryz.ntmps234 rfl rfl (fun C=>?_)
 obtain⟨n,hn⟩: ∃n,n=max (dg a).length (dg b).length:=⟨_,rfl⟩
 refine eqF 15 (.d (vI (n:Nat))) rfl (by show FX.d (.v (.int _ _))= .d (.v (.int _ _));congr 3;split<;>omega) ?_
 refine gx rfl<|mk ((List.replicate (n+1) 0).map dU) rfl rfl (by rw[←mapU_rep];rfl) rfl<|?_
 refine lp (X:=List Nat×Nat×Nat) (fun⟨W,c,i⟩=>[(0, .d (dN a)),(1, .d (dN b)),(5, .d (vI (n:Nat))),(6, .rw 18),(7, .d (.v (.int .u32 (c:Nat)))),(8, .d (vI (i:Nat)))]) (fun⟨W,c,i⟩=>[(18,some (.b 279 1 (W.map dU) true))]) (fun⟨W,c,i⟩=>W.length=n+1∧DOk W∧c≤1∧i≤n∧dv (W.take i)+4294967296^i*c=dv ((dg a).take i)+dv ((dg b).take i)) (fun⟨W,c,i⟩=>n-i) ⟨List.replicate (n+1) 0,0,0⟩ rfl ⟨by simp, .replicate _,by omega,by omega,by simp[dv]⟩ (fun _=>rfl) (fun⟨W,c,i⟩ hk=>?_)
 dsimp only at hk⊢
 obtain⟨h1,h2,h3,h4,h5⟩:=hk
 have hlw:=mapU_len W
 have hda:=dg_lt a i
 have hdb:=dg_lt b i
 refine br (fu1:=⟨11⟩) rfl rfl rfl (fun hc21=>?_) (fun hc21=>?_)
 ·
  refine mg (fu:=⟨1⟩) (X:=Unit) (fun _=>[(0, .d (dN a)),(1, .d (dN b)),(5, .d (vI (n:Nat))),(6, .rw 18),(7, .d (.v (.int .u32 (c:Nat)))),(8, .d (vI (i:Nat))),(9, .d (dU ((dg a).getD i 0))),(10, .d (.v (.int .u32 0)))]) (fun _=>[(18,some (.b 279 1 (W.map dU) true))]) (fun _=>True) [0,1,5,6,7,8,9,10] [18] rfl ?_ (fun _=>rfl) (fun _ hm=>?_)
  ·
   refine gx rfl<|?_
   refine br rfl rfl rfl (fun hc27=>?_) (fun hc27=>?_)
   ·
    refine ix _ rfl (mapU_getI (by omega)) rfl<|?_
    exact at_ () trivial
   ·
    refine eqF 9 (.d (dU ((dg a).getD i 0))) rfl (by rw[getD_out (by omega)];rfl) ?_
    exact at_ () trivial
  ·
   refine mg (X:=Unit) (fun _=>[(0, .d (dN a)),(1, .d (dN b)),(5, .d (vI (n:Nat))),(6, .rw 18),(7, .d (.v (.int .u32 (c:Nat)))),(8, .d (vI (i:Nat))),(9, .d (dU ((dg a).getD i 0))),(10, .d (dU ((dg b).getD i 0)))]) (fun _=>[(18,some (.b 279 1 (W.map dU) true))]) (fun _=>True) [0,1,5,6,7,8,9,10] [18] rfl ?_ (fun _=>rfl) (fun _ hm=>?_)
   ·
    refine gx rfl<|?_
    refine br rfl rfl rfl (fun hc35=>?_) (fun hc35=>?_)
    ·
     refine ix _ rfl (mapU_getI (by omega)) rfl<|?_
     exact at_ () trivial
    ·
     refine eqF 10 (.d (dU ((dg b).getD i 0))) rfl (by rw[getD_out (by omega)];rfl) ?_
     exact at_ () trivial
   ·
    refine cl rfl (q_Add32 (by omega) (by omega) (by omega)) rfl<|sb _ ((W.set i (((dg a).getD i 0+(dg b).getD i 0+c)%4294967296)).map dU) rfl (mapU_getI (by omega)) rfl (by rw[←mapU_set];rfl) rfl<|?_
    exact at_ ⟨W.set i (((dg a).getD i 0+(dg b).getD i 0+c)%4294967296),((dg a).getD i 0+(dg b).getD i 0+c)/4294967296,i+1⟩ (by dsimp only;exact⟨⟨by simpa using h1,h2.set _ (by omega),by omega,by omega,sum_inv (by omega) h5⟩,(by omega)⟩)
 ·
  obtain rfl:i=n:=by omega
  refine sb _ ((W.set i c).map dU) rfl (mapU_getI (by omega)) rfl (by rw[←mapU_set];rfl) rfl<|fz 18 rfl rfl<|cl rfl (q_Trim (ds:=W.set i c) (by simp;omega)) rfl<|?_
  exact rz rfl (dL_trim (h2.set _ (by omega)) (sum_end hn h1 h5))
theorem less_inv{A B W:List Nat}{i c d c2:Nat}(hA:DOk A)(hB:DOk B)(hi:i<W.length)(hc:c≤1)(h:dv (W.take i)+dv (B.take i)=dv (A.take i)+4294967296^i*c)
  (hd:d=if A.getD i 0<B.getD i 0+c then A.getD i 0+4294967296-(B.getD i 0+c) else A.getD i 0-(B.getD i 0+c))(hc2:c2=if A.getD i 0<B.getD i 0+c then 1 else 0):
  dv ((W.set i d).take (i+1))+dv (B.take (i+1))=dv (A.take (i+1))+4294967296^(i+1)*c2:=by
 have h1:=hA.get i
 have h2:=hB.get i
 rw[dv_set_take hi,dv_take_succ A,dv_take_succ B,Nat.pow_succ]
 split at hd
 ·rename_i q
  rw[if_pos q] at hc2
  subst hc2 hd
  rw[Nat.add_comm (B.getD i 0) c]
  exact sub_yes h (by omega) (by omega)
 ·rename_i q
  rw[if_neg q] at hc2
  subst hc2 hd
  rw[Nat.add_comm (B.getD i 0) c]
  exact sub_no h (by omega)
theorem less_end{a b c:Nat}{W:List Nat}(hw:DOk W)(hl:W.length=(dg a).length)(hb:b≤a)(h:dv (W.take (dg a).length)+dv ((dg b).take (dg a).length)=dv ((dg a).take (dg a).length)+4294967296^(dg a).length*c):dv W=a-b:=by
 have hlb:(dg b).length≤(dg a).length:=by
  rcases Nat.lt_or_ge (dg a).length (dg b).length with q|q
  ·have:=dv_len_lt (dg_ok a) (dg_spec b).2.2 q
   rw[dv_dg,dv_dg] at this
   omega
  ·exact q
 rw[take_all (by omega),take_all hlb,take_all (Nat.le_refl _),dv_dg,dv_dg] at h
 have h2:=dv_lt hw
 rw[hl] at h2
 rcases Nat.eq_zero_or_pos c with q|q
 ·subst q;omega
 ·have:4294967296^(dg a).length*1≤4294967296^(dg a).length*c:=Nat.mul_le_mul_left _ q
  omega
set_option maxHeartbeats 1000000 in
theorem q_Less{GB:Gh}{a b ia:Nat}[ha:BN a ia](hb:b≤a)(hi:ia≤1000000000:=by decide):PF GB Tryz.prog 235 [dN a,dN b] (dN (a-b)):=by
 have hla:=mapU_len (dg a)
 have hlb:=mapU_len (dg b)
 have hba:=dg_len_bd ha.h hi
 refine fn (fu:=⟨9⟩) Tryz.func235 rfl rfl Tryz.ntmps235 rfl rfl (fun C=>?_)
 refine eqF 10 (.d (vI ((dg a).length:Nat))) rfl (by rw[hla];rfl) ?_
 refine gx rfl<|mk (fu:=⟨13⟩) ((List.replicate (dg a).length 0).map dU) rfl rfl (by rw[←mapU_rep];rfl) rfl<|?_
 refine eqF 13 (.d (vI ((dg a).length:Nat))) rfl (by rw[hla];rfl) ?_
 refine gx rfl<|?_
 refine lp (X:=List Nat×Nat×Nat) (fun⟨W,c,i⟩=>[(0, .d (dN a)),(1, .d (dN b)),(5, .rw 11),(6, .d (.v (.int .u32 (c:Nat)))),(13, .d (vI ((dg a).length:Nat))),(14, .d (vI (i:Nat)))]) (fun⟨W,c,i⟩=>[(11,some (.b 279 1 (W.map dU) true))]) (fun⟨W,c,i⟩=>W.length=(dg a).length∧DOk W∧c≤1∧i≤(dg a).length∧dv (W.take i)+dv ((dg b).take i)=dv ((dg a).take i)+4294967296^i*c) (fun⟨W,c,i⟩=>(dg a).length-i) ⟨List.replicate (dg a).length 0,0,0⟩ rfl ⟨by simp, .replicate _,by omega,by omega,by simp[dv]⟩ (fun _=>rfl) (fun⟨W,c,i⟩ hk=>?_)
 dsimp only at hk⊢
 obtain⟨h1,h2,h3,h4,h5⟩:=hk
 have hlw:=mapU_len W
 have hda:=dg_lt a i
 have hdb:=dg_lt b i
 refine br (fu1:=⟨16⟩) rfl rfl rfl (fun hc15=>?_) (fun hc15=>?_)
 ·
  refine mg (X:=Unit) (fun _=>[(0, .d (dN a)),(1, .d (dN b)),(5, .rw 11),(6, .d (.v (.int .u32 (c:Nat)))),(13, .d (vI ((dg a).length:Nat))),(14, .d (vI (i:Nat))),(7, .d (vI (i:Nat))),(8, .d (dU ((dg b).getD i 0)))]) (fun _=>[(11,some (.b 279 1 (W.map dU) true))]) (fun _=>True) [0,1,5,6,13,14,7,8] [11] rfl ?_ (fun _=>rfl) (fun _ hm=>?_)
  ·
   refine gx rfl<|?_
   refine br rfl rfl rfl (fun hc20=>?_) (fun hc20=>?_)
   ·
    refine ix _ rfl (mapU_getI (by omega)) rfl<|?_
    exact at_ () trivial
   ·
    refine eqF 8 (.d (dU ((dg b).getD i 0))) rfl (by rw[getD_out (by omega)];rfl) ?_
    exact at_ () trivial
  ·
   refine ix _ rfl (mapU_getI (by omega)) rfl<|cl rfl (q_Sub32 (by omega) (by omega) (by omega)) rfl<|sb _ ((W.set i (if(dg a).getD i 0<(dg b).getD i 0+c then(dg a).getD i 0+4294967296-((dg b).getD i 0+c) else(dg a).getD i 0-((dg b).getD i 0+c))).map dU) rfl (mapU_getI (by omega)) rfl (by rw[←mapU_set];rfl) rfl<|?_
   exact at_ ⟨W.set i (if(dg a).getD i 0<(dg b).getD i 0+c then(dg a).getD i 0+4294967296-((dg b).getD i 0+c) else(dg a).getD i 0-((dg b).getD i 0+c)),(if(dg a).getD i 0<(dg b).getD i 0+c then 1 else 0),i+1⟩ (by dsimp only;exact⟨⟨by simpa using h1,h2.set _ (by split<;>omega),by split<;>omega,by omega,less_inv (dg_ok a) (dg_ok b) (by omega) h3 h5 rfl rfl⟩,(by omega)⟩)
 ·
  obtain rfl:i=(dg a).length:=by omega
  refine fz 11 rfl rfl<|cl rfl (q_Trim (ds:=W) (by omega)) rfl<|?_
  exact rz rfl (dL_trim h2 (less_end h2 h1 hb h5))
end Go.Sx
end
