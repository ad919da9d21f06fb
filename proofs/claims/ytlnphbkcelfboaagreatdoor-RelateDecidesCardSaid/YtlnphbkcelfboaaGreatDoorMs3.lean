/-
  Package nat: words, the number of digits, comparison. Package nat: sum, difference, product. Package nat: the product, division by one digit, shifts. Package nat: division by one digit, shifts by less than a digit. Plain arithmetic of long division in base 2^32. Package nat: shift to the right. Scopes and labels; more of numbers in base 2^32.
-/
import Derived.Test.YtlnphbkcelfboaaGreatDoorMs2
import Derived.Scope
set_option linter.unusedSimpArgs false
set_option linter.unusedVariables false
section
set_option maxRecDepth 100000
namespace Go.Sx
open Go Go.Proofs
/-! ### the number of binary digits -/
def bl(x:Nat):Nat:=if x=0 then 0 else Nat.log2 x+1
theorem lt_bl(x:Nat):x<2^bl x:=by
 unfold bl
 split
 ·rename_i h;subst h;decide
 ·exact Nat.lt_log2_self
theorem bl_le{x k:Nat}:bl x≤k↔x<2^k:=by
 constructor
 ·intro h;exact Nat.lt_of_lt_of_le (lt_bl x) (Nat.pow_le_pow_right (by omega) h)
 ·intro h
  unfold bl
  split
  ·omega
  ·rename_i h0
   have:=(Nat.log2_lt h0).2 h
   omega
theorem bl_half{x:Nat}(h:x≠0):bl x=1+bl (x/2):=by
 have h1: ∀k,bl x≤k+1↔bl (x/2)≤k:=fun k=>by
  rw[bl_le,bl_le,Nat.pow_succ];omega
 have h2:bl x≠0:=fun e=>by
  have:=lt_bl x;rw[e] at this;simp at this;exact h this
 have h3:=(h1 (bl (x/2))).2 (Nat.le_refl _)
 have h4:=(h1 (bl x-1)).1 (by omega)
 omega
theorem bitLenAux_eq: ∀(f x:Nat),x<2^f→Lib.bitLenAux f x=bl x
 |0,x,h=>by
  have:x=0:=by simpa using h
  subst this;rfl
 |f+1,x,h=>by
  unfold Lib.bitLenAux
  split
  ·rename_i h0;subst h0;rfl
  ·rename_i h0
   rw[bitLenAux_eq f (x/2) (by rw[Nat.pow_succ] at h;omega),bl_half h0]
theorem bitLen_eq{x:Nat}(h:x<2^64):Lib.bitLen x=bl x:=bitLenAux_eq 64 x h
theorem bl_shift{x k:Nat}(d:Nat)(h:x<2^k)(hd:d≠0):bl (x+2^k*d)=k+bl d:=by
 have h1: ∀j,bl (x+2^k*d)≤k+j↔bl d≤j:=fun j=>by
  rw[bl_le,bl_le,Nat.pow_add]
  constructor
  ·intro h'
   exact Nat.lt_of_mul_lt_mul_left (a:=2^k) (by omega)
  ·intro h'
   have:2^k*(d+1)≤2^k*2^j:=Nat.mul_le_mul_left _ h'
   rw[Nat.mul_add] at this
   omega
 have h2:k<bl (x+2^k*d):=by
  rcases Nat.lt_or_ge k (bl (x+2^k*d)) with h'|h'
  ·exact h'
  ·have:=bl_le.1 h'
   have h3:2^k*1≤2^k*d:=Nat.mul_le_mul_left _ (by omega)
   omega
 have h3:=(h1 (bl d)).2 (Nat.le_refl _)
 have h4:=(h1 (bl (x+2^k*d)-k)).1 (by omega)
 omega
theorem bl_dv{ds:List Nat}(h:DOk ds)(hn:Nrm ds)(hne:ds≠[]):bl (dv ds)=32*(ds.length-1)+bl (ds.getD (ds.length-1) 0):=by
 rcases List.eq_nil_or_concat ds with rfl|⟨l,d,rfl⟩
 ·exact absurd rfl hne
 ·rw[List.concat_eq_append] at*
  have hd:d≠0:=fun e=>by subst e;simp[Nrm] at hn
  have hl:DOk l:=fun x hx=>h x (List.mem_append_left _ hx)
  have h1:=dv_lt hl
  rw[dv_append]
  have h2:(4294967296:Nat)^l.length=2^(32*l.length):=by rw[Nat.pow_mul]
  rw[h2] at h1⊢
  have h3:dv [d]=d:=by simp[dv]
  rw[h3,bl_shift d h1 hd]
  have h4:(l++[d]).length-1=l.length:=by simp
  rw[h4,List.getD_eq_getElem?_getD,List.getElem?_append_right (Nat.le_refl _)]
  simp
theorem callable_of{P:Program}{f:FuncId}{fn:Func}{c:Code}(h:P.funcs[f]? =some fn)(hb:fn.body=some c)(hn:(fn.name== "runtime.NumGoroutine")=false):Callable P f:=⟨fn,h,hn,by rw[hb];rfl⟩
theorem bits_lz32{G:Gh}{x:Nat}(hx:x<4294967296):Fn Tryz.prog 268 [.int .u32 (x:Int)] G (fun v _=>v= .int .i64 (32-(bl x:Int))):=by
 have h:=Fn.of_calls (G:=G) (callable_of Tryz.func268 J J) (fun w=>Tryz.bits_LeadingZeros32 (x:Int) w (by omega) (by omega))
 rw[Int.toNat_natCast,bitLen_eq (Nat.lt_trans hx (by decide))] at h
 exact h
/-! ### FromUint, Uint, Bits -/
theorem nat_FromUint{G:Gh}{u:Nat}(hu:u<18446744073709551616):Fn Tryz.prog 256 [.int .u64 (u:Int)] G (fun v G'=> ∃z:SV,v=z.v∧IsN 64 G' z u):=by
 refine Fn.intro Tryz.func256 J J Tryz.ntmps256 rfl ?_
 intro C _ _
 refine sR<|sa J J<|zE<|sR<|sm J J<|sy (yd_toU32 rfl) rfl<|sm J J<|?_
 refine sy (yd_shr J J (by decide)) rfl<|sy (yd_toU32 rfl) rfl<|?_
 refine sc (ch_slice (by rfl) (by rfl) (by rfl) (by rfl) rfl ?_)
 intro b1
 refine st_freeze b1 (.hd ..) (fun G1 _ hgb=>?_)
 have h1:((u:Int)%4294967296)=((u%4294967296:Nat):Int):=by omega
 have h2:((u:Int).fdiv (2^min (32:Int).toNat IntKind.u64.bits)%4294967296)=((u/4294967296:Nat):Int):=by
  have:(2^min (32:Int).toNat IntKind.u64.bits:Int)=4294967296:=by decide
  rw[this,Int.fdiv_eq_ediv_of_nonneg _ (by omega)]
  omega
 have hok:DOk [u%4294967296,u/4294967296]:= .cons (by omega) (.cons (by omega) .nil)
 have hd:IsD G1 ⟨some ⟨b1,0,none⟩,2,2⟩ [u%4294967296,u/4294967296]:= .of_block hok hgb.h rfl (Nat.le_refl _) (by rw[h1,h2];rfl)
 have hv:dv [u%4294967296,u/4294967296]=u:=by simp only[dv];omega
 refine sc (zC J J (nat_trim hd (by simp)) rfl ?_)
 rintro _ G2 _ rfl
 refine sa J J<|zE<|st_ret<|?_
 refine zD (.tmp rfl .nil) ⟨⟨some ⟨b1,0,none⟩,(trimD [u%4294967296,u/4294967296]).length,2⟩,rfl,?_⟩
 have:=hd.trim.up (G:=G2)
 rw[←dg_trim hok,hv] at this
 exact⟨by rw[←dg_trim hok,hv];exact this,Nat.lt_of_lt_of_le hu (by decide)⟩
theorem or_add{P:Program}{t:TypeId}(a b k:Nat)(ha:a<2^k)(h:a+b*2^k<18446744073709551616)(w:World):(binOp .or t (.int .u64 (a:Int)) (.int .u64 ((b*2^k:Nat):Int))).run P w= .ok (.int .u64 ((a+b*2^k:Nat):Int)) w:=by
 have h1:(BitVec.ofInt 64 (a:Int) ||| BitVec.ofInt 64 ((b*2^k:Nat):Int)).toNat=a+b*2^k:=by
  rw[BitVec.toNat_or,BitVec.ofInt_natCast,BitVec.ofInt_natCast,BitVec.toNat_ofNat,BitVec.toNat_ofNat,Nat.mod_eq_of_lt (by omega),Nat.mod_eq_of_lt (by omega)]
  rw[←Nat.shiftLeft_eq,Nat.or_comm,←Nat.shiftLeft_add_eq_or_of_lt ha,Nat.shiftLeft_eq]
  omega
 have h2:IntKind.u64.wrap ((a+b*2^k:Nat):Int)=((a+b*2^k:Nat):Int):=by rw[wrap_u64];omega
 simp only[binOp]
 show(Op.intBits .or .u64 (a:Int) ((b*2^k:Nat):Int)).run P w=_
 unfold Op.intBits
 show(pure (Value.int .u64 (IntKind.u64.wrap ((BitVec.ofInt 64 (a:Int) ||| BitVec.ofInt 64 ((b*2^k:Nat):Int)).toNat:Int))):Sem Value).run P w=_
 rw[h1,h2,run_pure]
theorem nat_Uint{A G:Gh}{x:SV}{ds:List Nat}(hx:IsD A x ds)[GL A G](hb:ds.length≤1125899906842624):Fn Tryz.prog 254 [x.v] G (fun v _=>v= .tuple #[.int .u64 ((if dv ds<18446744073709551616 then dv ds else 0:Nat):Int), .bool (decide (dv ds<18446744073709551616))]):=by
 have htl:=trimD_len ds
 have hdv:=dv_trimD ds
 have hok:=hx.ok.trimD
 have hnr:=Nrm.trimD ds
 have hxt:=hx.trim
 have hcall:=fun G1 (_:GL A G1)=>nat_trim (G:=G1) hx (by omega)
 generalize trimD ds=es at*
 have hlen:=hxt.len
 rw[←hdv]
 have hbig:(if dv es<18446744073709551616 then dv es else 0)=if es.length≤2 then dv es else 0:=by
  by_cases h2:es.length≤2
  ·have h3:=dv_lt hok
   have h4:(4294967296:Nat)^es.length≤4294967296^2:=Nat.pow_le_pow_right (by omega) h2
   rw[if_pos h2,if_pos (by omega)]
  ·have h3:=nrm_ge hnr (fun e=>by subst e;simp at h2)
   have h4:(4294967296:Nat)^2≤4294967296^(es.length-1):=Nat.pow_le_pow_right (by omega) (by omega)
   rw[if_neg h2,if_neg (by omega)]
 have hbig2:decide (dv es<18446744073709551616)=decide (es.length≤2):=by
  rw[decide_eq_decide]
  by_cases h2:es.length≤2
  ·have h3:=dv_lt hok
   have h4:(4294967296:Nat)^es.length≤4294967296^2:=Nat.pow_le_pow_right (by omega) h2
   exact⟨fun _=>h2,fun _=>by omega⟩
  ·have h3:=nrm_ge hnr (fun e=>by subst e;simp at h2)
   have h4:(4294967296:Nat)^2≤4294967296^(es.length-1):=Nat.pow_le_pow_right (by omega) (by omega)
   exact⟨fun _=>by omega,fun h=>absurd h h2⟩
 rw[hbig,hbig2]
 refine Fn.intro Tryz.func254 J J Tryz.ntmps254 rfl ?_
 intro C _ _
 refine sR<|sa J J<|sa J J<|zE<|sR<|sm J J<|?_
 refine sc (zC J J (hcall _ inferInstance) rfl ?_)
 rintro _ G1 _ rfl
 refine sa J J<|zE<|st_seq<|sR<|sm J J<|slen J J<|sy (yd_gtr J J) rfl<|zE<|?_
 refine st_condP rfl (fun hc=>?_) (fun hc=>?_) -- slot 11
 ·refine sR<|sa J J<|sa J J<|zE<|st_ret<|?_
  refine zD (.tmp rfl (.tmp rfl .nil)) ?_
  have: ¬es.length≤2:=by omega
  simp[tupled,this]
 have h2:es.length≤2:=by omega
 refine zK<|sR<|sa J J<|zE<|st_seq<|sR<|sm J J<|slen J J<|sm J J<|zE<|st_block<|?_
 refine st_loop (X:=Nat) (fun k=>[(14, .int .i64 k),(13, .int .i64 es.length),(12, .slice x.a es.length x.c),(4, .int .u64 ((dv (es.take k):Nat):Int))]) (fun _=>[]) (fun k _=>k≤es.length) (fun k=>es.length-k) 0 (Nat.zero_le _) (.cons rfl (.cons rfl (.cons rfl (.cons rfl .nil)))) rfl ?_
 rintro k Gx _ hk
 refine sR<|sy (yd_lss J J) rfl<|zE<|st_seq<|?_
 refine st_condE rfl (fun hc=>?_) (fun hc=>?_) -- slot 15
 ·refine st_exit<|st_te<|st_te<|st_inBlock_eq<|sR<|sm J J<|sa J J<|sa J J<|zE<|st_ret<|?_
  refine zD (.tmp rfl (.tmp rfl .nil)) ?_
  have hk':k=es.length:=by omega
  subst hk'
  simp[tupled,h2]
 have hk':k<es.length:=by omega
 have hdk:=hok.get k
 have hdt:=dv_lt (hok.take k)
 rw[List.length_take,Nat.min_eq_left (by omega)] at hdt
 have hds:=dv_take_succ es k
 have hd2:=dv_lt (hok.take (k+1))
 rw[List.length_take,Nat.min_eq_left (by omega)] at hd2
 have hp2:(4294967296:Nat)^(k+1)≤4294967296^2:=Nat.pow_le_pow_right (by omega) (by omega)
 have hpk:(4294967296:Nat)^k=2^(32*k):=by rw[Nat.pow_mul]
 refine zK<|st_seq<|st_block<|sR<|sm J J<|sy (yd_ixD (z:=⟨x.a,es.length,x.c⟩) hxt J J (by omega) (by show(k:Int)<(es.length:Nat);omega)) rfl<|sy (yd_ldD hxt rfl (by omega)) rfl<|sa J J<|sa J J<|zE<|st_region<|?_
 refine sm J J<|sm J J<|sy (yd_toU64 rfl (by omega) (by rw[Int.toNat_natCast];omega)) rfl<|sm J J<|sy (yd_mul64 J J (by omega) (by omega)) rfl<|?_
 have hsh:IntKind.u64.wrap (((es.getD (k:Int).toNat 0:Nat):Int)*2^min ((32:Int)*(k:Int)).toNat IntKind.u64.bits)=((es.getD k 0*2^(32*k):Nat):Int):=by
  have e1:((32:Int)*(k:Int)).toNat=32*k:=by omega
  rw[e1,Int.toNat_natCast,Nat.min_eq_left (by show 32*k≤64;omega),wrap_u64]
  have e2:((es.getD k 0:Nat):Int)*2^(32*k)=((es.getD k 0*2^(32*k):Nat):Int):=by push_cast;rfl
  rw[e2]
  have e3:es.getD k 0*2^(32*k)<18446744073709551616:=by rw[←hpk,Nat.mul_comm];omega
  omega
 refine sy (yd_shl J J (by omega)) rfl<|?_
 rw[hsh]
 refine sy (yd_int J J (or_add (dv (es.take k)) (es.getD k 0) (32*k) (by rw[←hpk];exact hdt) (by rw[←hpk,Nat.mul_comm];omega))) rfl<|sa J J<|zE<|st_region<|sy (yd_add64 J J) rfl<|sm J J<|zE<|?_
 refine st_again (k+1) (by omega) (by omega) (.cons rfl (.cons rfl (.cons rfl (.cons ?_ .nil)))) rfl
 rw[hds,hpk,Nat.mul_comm (2^(32*k))]
 rfl
theorem nat_Bits{A G:Gh}{x:SV}{ds:List Nat}(hx:IsD A x ds)[GL A G](hb:ds.length≤1125899906842624):Fn Tryz.prog 250 [x.v] G (fun v _=>v= .int .i64 ((bl (dv ds):Nat):Int)):=by
 have htl:=trimD_len ds
 have hdv:=dv_trimD ds
 have hok:=hx.ok.trimD
 have hnr:=Nrm.trimD ds
 have hxt:=hx.trim
 have hcall:=fun G1 (_:GL A G1)=>nat_trim (G:=G1) hx (by omega)
 generalize trimD ds=es at*
 have hlen:=hxt.len
 rw[←hdv]
 refine Fn.intro Tryz.func250 J J Tryz.ntmps250 rfl ?_
 intro C _ _
 refine sR<|sa J J<|zE<|sR<|sm J J<|?_
 refine sc (zC J J (hcall _ inferInstance) rfl ?_)
 rintro _ G1 _ rfl
 refine sa J J<|zE<|st_seq<|sR<|sm J J<|slen J J<|sy (yd_eql J J) rfl<|zE<|?_
 refine st_condP rfl (fun hc=>?_) (fun hc=>?_) -- slot 7
 ·refine sR<|sa J J<|zE<|st_ret<|?_
  refine zD (.tmp rfl .nil) ?_
  have:es=[]:=List.eq_nil_of_length_eq_zero (by omega)
  subst this
  rfl
 have hne:0<es.length:=by omega
 have hkt:((es.length:Int)-1).toNat=es.length-1:=by omega
 have hg:=hok.get (es.length-1)
 have hbl:bl (es.getD (es.length-1) 0)≤32:=bl_le.2 (by omega)
 refine zK<|sR<|sm J J<|slen J J<|sy (yd_mul64 J J (by omega) (by omega)) rfl<|sm J J<|sm J J<|slen J J<|sy (yd_sub64 J J) rfl<|?_
 refine sy (yd_ixD (z:=⟨x.a,es.length,x.c⟩) hxt J J (by omega) (by show _<((es.length:Nat):Int);omega)) rfl<|sy (yd_ldD hxt rfl (by omega)) rfl<|?_
 rw[hkt]
 refine sc (zC J J (bits_lz32 hg) rfl ?_)
 rintro _ G2 _ rfl
 refine sy (yd_sub64 J J) rfl<|sa J J<|zE<|st_ret<|?_
 refine zD (.tmp rfl .nil) ?_
 rw[bl_dv hok hnr (fun e=>by subst e;simp at hne)]
 simp only[tupled,Value.int.injEq,true_and]
 omega
def cmpN(a b:Nat):Int:=if a<b then-1 else if a=b then 0 else 1
theorem nat_Cmp{A B G:Gh}{x y:SV}{ds es:List Nat}(hx:IsD A x ds)(hy:IsD B y es)[GL A G][GL B G](hb:ds.length≤1125899906842624)(hb2:es.length≤1125899906842624):
  Fn Tryz.prog 282 [x.v,y.v] G (fun v _=>v= .int .i64 (cmpN (dv ds) (dv es))):=by
 have htl:=trimD_len ds
 have htl2:=trimD_len es
 have hcall:=fun G1 (_:GL A G1)=>nat_trim (G:=G1) hx (by omega)
 have hcall2:=fun G1 (_:GL B G1)=>nat_trim (G:=G1) hy (by omega)
 have hxt:=hx.trim
 have hyt:=hy.trim
 have hok:=hx.ok.trimD
 have hok2:=hy.ok.trimD
 have hnr:=Nrm.trimD ds
 have hnr2:=Nrm.trimD es
 rw[←dv_trimD ds,←dv_trimD es]
 generalize trimD ds=a at*
 generalize trimD es=b at*
 refine Fn.intro Tryz.func282 J J Tryz.ntmps282 rfl ?_
 intro C _ _
 refine sR<|sa J J<|zE<|sR<|sm J J<|?_
 refine sc (zC J J (hcall _ inferInstance) rfl ?_)
 rintro _ G1 _ rfl
 refine sm J J<|?_
 refine sc (zC J J (hcall2 _ inferInstance) rfl ?_)
 rintro _ G2 _ rfl
 refine sa J J<|sa J J<|zE<|st_seq<|sR<|sm J J<|slen J J<|sm J J<|slen J J<|sy (yd_neq J J) rfl<|zE<|?_
 refine st_condP rfl (fun hc=>?_) (fun hc=>?_) -- slot 14
 ·refine st_seq<|sR<|sm J J<|slen J J<|sm J J<|slen J J<|sy (yd_lss J J) rfl<|zE<|?_
  refine st_condP rfl (fun hc2=>?_) (fun hc2=>?_) -- slot 19
  ·refine sR<|sa J J<|zE<|st_ret<|?_
   refine zD (.tmp rfl .nil) ?_
   have:=dv_len_lt hok hnr2 (by omega)
   simp[tupled,cmpN,this]
  refine zK<|sR<|sa J J<|zE<|st_ret<|?_
  refine zD (.tmp rfl .nil) ?_
  have:=dv_len_lt hok2 hnr (by omega)
  have h1: ¬dv a<dv b:=by omega
  have h2: ¬dv a=dv b:=by omega
  simp[tupled,cmpN,h1,h2]
 have hl:a.length=b.length:=by omega
 refine zK<|st_seq<|sR<|sm J J<|slen J J<|sy (yd_sub64 J J) rfl<|sa J J<|zE<|st_block<|?_
 refine st_loop (X:=Nat) (fun k=>[(5, .int .i64 (k-1)),(0, .slice x.a a.length x.c),(1, .slice y.a b.length y.c)]) (fun _=>[]) (fun k _=>k≤a.length∧a.drop k=b.drop k) (fun k=>k) a.length ⟨Nat.le_refl _,by rw[List.drop_length,hl,List.drop_length]⟩ (.cons rfl (.cons rfl (.cons rfl .nil))) rfl ?_
 rintro k Gx _ ⟨hk,hd⟩
 refine st_seq<|sR<|sm J J<|sy (yd_geq J J) rfl<|zE<|?_
 refine st_condE rfl (fun hc=>?_) (fun hc=>?_) -- slot 24
 ·refine st_exit<|st_te<|st_te<|st_inBlock_eq<|sR<|sa J J<|zE<|st_ret<|?_
  refine zD (.tmp rfl .nil) ?_
  have:k=0:=by omega
  subst this
  have hab:a=b:=by simpa using hd
  subst hab
  simp[tupled,cmpN]
 have hk1:0<k:=by omega
 have hkt:((k:Int)-1).toNat=k-1:=by omega
 have hga:=hok.get (k-1)
 have hgb:=hok2.get (k-1)
 have hk2:k-1+1=k:=by omega
 refine zK<|st_seq<|st_block<|st_block<|st_seq<|dr (fun _=>false) [(0,true),(1,true),(2,true),(3,true),(4,true),(5,true),(6,true),(7,true),(8,true),(9,true)] follows (by kernel_rfl)<|?_
 refine dM J J J<|dM J J J<|dy rfl (fun _=>yd_ixD (z:=⟨x.a,a.length,x.c⟩) hxt J J (by omega) (by show _<((a.length:Nat):Int);omega)) J J<|dy rfl (fun _=>yd_ldD hxt rfl (by omega)) J J<|?_
 refine dM J J J<|dM J J J<|dy rfl (fun _=>yd_ixD (z:=⟨y.a,b.length,y.c⟩) hyt J J (by omega) (by show _<((b.length:Nat):Int);omega)) J J<|dy rfl (fun _=>yd_ldD hyt rfl (by omega)) J J<|?_
 refine dy rfl (fun _=>yd_lss J J) J J<|dA J J J<|dn<|?_
 refine st_condP rfl (fun hc2=>?_) (fun hc2=>?_) -- slot 27
 ·refine sR<|sa J J<|zE<|st_ret<|?_
  refine zD (.tmp rfl .nil) ?_
  rw[hkt] at hc2
  have:=dv_cmp hok hok2 (k-1) (by omega) (by omega) hl (by rw[hk2];exact hd) (by omega)
  simp[tupled,cmpN,this]
 refine st_seq<|dr (fun _=>false) [(0,true),(1,true),(2,true),(3,true),(4,true),(5,true),(6,true),(7,true),(8,true),(9,true)] follows (by kernel_rfl)<|dM J J J<|?_
 refine dM J J J<|dy rfl (fun _=>yd_ixD (z:=⟨x.a,a.length,x.c⟩) hxt J J (by omega) (by show _<((a.length:Nat):Int);omega)) J J<|dy rfl (fun _=>yd_ldD hxt rfl (by omega)) J J<|dM J J J<|?_
 refine dM J J J<|dy rfl (fun _=>yd_ixD (z:=⟨y.a,b.length,y.c⟩) hyt J J (by omega) (by show _<((b.length:Nat):Int);omega)) J J<|dy rfl (fun _=>yd_ldD hyt rfl (by omega)) J J<|dy rfl (fun _=>yd_gtr J J) J J<|?_
 refine dA J J J<|dn<|?_
 rw[hkt] at*
 refine st_condP rfl (fun hc3=>?_) (fun hc3=>?_) -- slot 37
 ·refine sR<|sa J J<|zE<|st_ret<|?_
  refine zD (.tmp rfl .nil) ?_
  have:=dv_cmp hok2 hok (k-1) (by omega) (by omega) hl.symm (by rw[hk2];exact hd.symm) (by omega)
  have h1: ¬dv a<dv b:=by omega
  have h2: ¬dv a=dv b:=by omega
  simp[tupled,cmpN,h1,h2]
 refine zK<|st_region<|sm J J<|sy (yd_sub64 J J) rfl<|sa J J<|zE<|?_
 refine st_again (k-1) ⟨by omega,?_⟩ (by omega) (.cons (by rw[show((k-1:Nat):Int)=(k:Int)-1 by omega];rfl) (.cons rfl (.cons rfl .nil))) rfl
 have heq:a.getD (k-1) 0=b.getD (k-1) 0:=by omega
 rw[List.getD_eq_getElem?_getD,List.getD_eq_getElem?_getD,List.getElem?_eq_getElem (by omega),List.getElem?_eq_getElem (by omega)] at heq
 rw[List.drop_eq_getElem_cons (by omega:k-1<a.length),List.drop_eq_getElem_cons (by omega:k-1<b.length),hk2,hd]
 congr 1
end Go.Sx
end

section
set_option maxRecDepth 100000
namespace Go.Sx
open Go Go.Proofs
theorem getD_ge{ds:List Nat}{k:Nat}(h:ds.length≤k):ds.getD k 0=0:=by
 rw[List.getD_eq_getElem?_getD,List.getElem?_eq_none h];rfl
theorem getD_rep(n k:Nat):(List.replicate n 0).getD k 0=0:=by
 rw[List.getD_eq_getElem?_getD]
 by_cases h:k<n
 ·simp[h]
 ·rw[List.getElem?_eq_none (by simpa using h)];rfl
theorem add_lt{a b c:Nat}(ha:a<4294967296)(hb:b<4294967296)(hc:c≤1):(c+a+b)/4294967296≤1:=by omega
structure NatAdd where
 ws:List Nat
 k:Nat
 c:Nat
set_option maxHeartbeats 1000000 in
theorem nat_Add{A B G:Gh}{x y:SV}{ds es:List Nat}{kk:Nat}(hx:IsD A x ds)(hy:IsD B y es)[GL A G][GL B G](hk:dv ds+dv es<2^kk)(hb:ds.length≤1125899906842)(hb2:es.length≤1125899906842):
  Fn Tryz.prog 279 [x.v,y.v] G (fun v G'=> ∃z:SV,v=z.v∧IsN kk G' z (dv ds+dv es)):=by
 have hlen:=hx.len
 have hlen2:=hy.len
 refine Fn.intro Tryz.func279 J J Tryz.ntmps279 rfl ?_
 intro C _ _
 refine sR<|sa J J<|zE<|?_
 refine st_cut ((SV×List Nat)×(SV×List Nat)) (fun q=>[(0, .slice q.1.1.a q.1.1.n q.1.1.c),(1, .slice q.2.1.a q.2.1.n q.2.1.c)]) (fun _=>[])
  (fun q G=>IsD G q.1.1 q.1.2∧IsD G q.2.1 q.2.2∧dv q.1.2+dv q.2.2=dv ds+dv es∧q.2.2.length≤q.1.2.length∧q.1.2.length≤1125899906842) ?_ ?_
 ·refine sR<|sm J J<|slen J J<|sm J J<|slen J J<|sy (yd_lss J J) rfl<|zE<|?_
  refine st_condP rfl (fun hc=>?_) (fun hc=>?_) -- slot 13
  ·refine st_region<|sm J J<|sm J J<|sa J J<|sa J J<|zE<|?_
   exact st_at ((y,es),(x,ds)) ⟨hy.up,hx.up,by simp;omega,by simp;omega,by simp;omega⟩ (.cons rfl (.cons rfl .nil)) rfl
  refine zK<|?_
  exact st_at ((x,ds),(y,es)) ⟨hx.up,hy.up,rfl,by simp;omega,by simp;omega⟩ (.cons rfl (.cons rfl .nil)) rfl
 rintro ⟨⟨x,a⟩,⟨y,b⟩⟩ Gx _ ⟨hx,hy,hsum,hle,hba⟩
 rw[←hsum] at hk⊢
 clear hlen hlen2 hsum
 have hlen:=hx.len
 have hlen2:=hy.len
 simp only[] at hx hy hle hba hlen hlen2 hk⊢
 refine sR<|sm J J<|slen J J<|sy (yd_add64 J J) rfl<|?_
 refine sc (ch_make J J (by omega) (by omega) (by omega) (by rfl) rfl ?_)
 intro b1
 rw[zeros_dI,show((x.n:Int)+1).toNat=a.length+1 by omega]
 refine sa J J<|zE<|sR<|sa J J<|zE<|st_seq<|sR<|sm J J<|slen J J<|sm J J<|zE<|st_block<|?_
 refine st_loop (X:=NatAdd) (fun q=>[(22, .int .i64 q.k),(21, .int .i64 x.n),(20, .slice x.a x.n x.c),(6, .int .u64 q.c),(0, .slice x.a x.n x.c),(1, .slice y.a y.n y.c),(5, .slice (some ⟨b1,0,none⟩) (a.length+1) (a.length+1))])
  (fun q=>[⟨b1,q.ws.map dI,279,true⟩])
  (fun q _=>q.k≤a.length∧q.ws.length=a.length+1∧DOk q.ws∧q.c≤1∧dv (q.ws.take q.k)+4294967296^q.k*q.c=dv (a.take q.k)+dv (b.take q.k)) (fun q=>a.length-q.k) ⟨List.replicate (a.length+1) 0,0,0⟩
  ⟨Nat.zero_le _,by simp, .replicate _,Nat.zero_le _,by simp[dv]⟩ (.cons rfl (.cons rfl (.cons rfl (.cons rfl (.cons rfl (.cons rfl (.cons rfl .nil))))))) rfl ?_
 rintro ⟨ws,k,c⟩ Gy _ ⟨hka,hwl,hwo,hc1,hinv⟩
 simp only[] at hka hwl hwo hc1 hinv⊢
 refine sR<|sy (yd_lss J J) rfl<|zE<|st_seq<|?_
 refine st_condE rfl (fun hc=>?_) (fun hc=>?_) -- slot 23
 ·have hkn:k=a.length:=by omega
  refine st_exit<|st_te<|st_te<|st_inBlock_eq<|sR<|sm J J<|sm J J<|slen J J<|sm J J<|sy (yd_toU32 rfl) rfl<|?_
  refine sy (yd_ixO J J (by omega) (by omega)) rfl<|?_
  refine sc (ch_storeD (d:=c) J J (by omega) (.hd ..) (by omega) rfl ?_)
  rw[show(x.n:Int).toNat=a.length by omega]
  refine zE<|sR<|sm J J<|?_
  refine st_freeze b1 (.hd ..) (fun G1 _ hgb=>?_)
  have hwo2:DOk (ws.set a.length c):=hwo.set _ (by omega)
  have hD:IsD G1 ⟨some ⟨b1,0,none⟩,a.length+1,a.length+1⟩ (ws.set a.length c):= .of_block hwo2 hgb.h (by simp[hwl]) (Nat.le_refl _) (by rw[List.take_of_length_le (by simp)])
  have hdv:dv (ws.set a.length c)=dv a+dv b:=by
   have h1:=dv_set_take (ws:=ws) (k:=a.length) (d:=c) (by omega)
   rw[List.take_of_length_le (by simp;omega)] at h1
   rw[h1,←hkn,hinv,hkn,List.take_of_length_le (Nat.le_refl _),List.take_of_length_le hle]
  refine sc (zC J J (nat_trim hD (by simp;omega)) rfl ?_)
  rintro _ G2 _ rfl
  refine sa J J<|zE<|st_ret<|?_
  refine zD (.tmp rfl .nil) ⟨⟨some ⟨b1,0,none⟩,(trimD (ws.set a.length c)).length,a.length+1⟩,rfl,?_⟩
  have h3:=hD.trim.up (G:=G2)
  rw[←hdv] at hk⊢
  exact⟨by rw[dg_trim hwo2];exact h3,hk⟩
 have hka':k<a.length:=by omega
 have hga:=hx.ok.get k
 have hgb:=hy.ok.get k
 refine zK<|st_seq<|st_block<|sR<|sm J J<|sy (yd_ixD hx J J (by omega) (by omega)) rfl<|sy (yd_ldD hx rfl (by omega)) rfl<|sa J J<|sa J J<|zE<|st_seq<|?_
 refine st_region<|sm J J<|sm J J<|sy (yd_toU64 rfl (by omega) (by rw[Int.toNat_natCast];omega)) rfl<|sy (yd_addU J J (by omega) (by rw[Int.toNat_natCast];omega)) rfl<|sa J J<|zE<|?_
 rw[Int.toNat_natCast]
 refine st_cut Unit (fun _=>[(22, .int .i64 k),(7, .int .i64 k),(21, .int .i64 x.n),(20, .slice x.a x.n x.c),(6, .int .u64 ((c+a.getD k 0+b.getD k 0:Nat):Int)),(0, .slice x.a x.n x.c),(1, .slice y.a y.n y.c),(5, .slice (some ⟨b1,0,none⟩) (a.length+1) (a.length+1))]) (fun _=>[⟨b1,ws.map dI,279,true⟩]) (fun _ _=>True) ?_ ?_
 ·refine sR<|sm J J<|sm J J<|slen J J<|sy (yd_lss J J) rfl<|zE<|?_
  refine st_condP rfl (fun hc2=>?_) (fun hc2=>?_) -- slot 34
  ·refine st_region<|sm J J<|sm J J<|sm J J<|sy (yd_ixD hy J J (by omega) (by omega)) rfl<|sy (yd_ldD hy rfl (by omega)) rfl<|sy (yd_toU64 rfl (by omega) (by rw[Int.toNat_natCast];omega)) rfl<|?_
   rw[Int.toNat_natCast]
   refine sy (yd_addU J J) rfl<|sa J J<|zE<|?_
   exact st_at () trivial (.cons rfl (.cons rfl (.cons rfl (.cons rfl (.cons (by rw[Int.natCast_add,Int.natCast_add];rfl) (.cons rfl (.cons rfl (.cons rfl .nil)))))))) rfl
  refine zK<|?_
  have h0:b.getD k 0=0:=getD_ge (by omega)
  exact st_at () trivial (.cons rfl (.cons rfl (.cons rfl (.cons rfl (.cons (by rw[h0,Nat.add_zero,Int.natCast_add];rfl) (.cons rfl (.cons rfl (.cons rfl .nil)))))))) rfl
 rintro _ Gz _ _
 generalize hcc:c+a.getD k 0+b.getD k 0=cc
 have hcb:cc/4294967296≤1:=by rw[←hcc];exact add_lt hga hgb hc1
 refine sR<|sm J J<|sm J J<|sm J J<|sy (yd_toU32 rfl) rfl<|sy (yd_ixO J J (by omega) (by omega)) rfl<|?_
 rw[Int.toNat_natCast]
 refine sc (ch_storeD (d:=cc%4294967296) J J (by omega) (.hd ..) (by omega) rfl ?_)
 refine zE<|st_region<|sm J J<|sy (yd_shr J J (by decide)) rfl<|sa J J<|zE<|st_region<|sy (yd_add64 J J) rfl<|sm J J<|zE<|?_
 have hsh:((cc:Int).fdiv (2^min (32:Int).toNat IntKind.u64.bits))=((cc/4294967296:Nat):Int):=by
  have:(2^min (32:Int).toNat IntKind.u64.bits:Int)=4294967296:=by decide
  rw[this,Int.fdiv_eq_ediv_of_nonneg _ (by omega)];rfl
 rw[hsh]
 refine st_again ⟨ws.set k (cc%4294967296),k+1,cc/4294967296⟩ ⟨by show k+1≤_;omega,by simp[hwl],hwo.set _ (by omega),hcb,?_⟩ (by show a.length-(k+1)<a.length-k;omega) (.cons rfl (.cons rfl (.cons rfl (.cons rfl (.cons rfl (.cons rfl (.cons rfl .nil))))))) rfl
 show dv ((ws.set k (cc%4294967296)).take (k+1))+4294967296^(k+1)*(cc/4294967296)=dv (a.take (k+1))+dv (b.take (k+1))
 rw[dv_set_take (by omega),dv_take_succ a,dv_take_succ b,←hcc,Nat.pow_succ]
 exact add_step hinv
structure NatSub where
 ws:List Nat
 k:Nat
 c:Nat
theorem shr63(p:Int)(h0:0≤p):p.fdiv (2^min (63:Int).toNat IntKind.u64.bits)=p/9223372036854775808:=by
 have:(2^min (63:Int).toNat IntKind.u64.bits:Int)=9223372036854775808:=by decide
 rw[this,Int.fdiv_eq_ediv_of_nonneg _ (by omega)]
theorem shr32(p:Nat):((p:Int).fdiv (2^min (32:Int).toNat IntKind.u64.bits))=((p/4294967296:Nat):Int):=by
 have:(2^min (32:Int).toNat IntKind.u64.bits:Int)=4294967296:=by decide
 rw[this,Int.fdiv_eq_ediv_of_nonneg _ (by omega)];rfl
set_option maxHeartbeats 1000000 in
theorem nat_less{A B G:Gh}{x y:SV}{a b:List Nat}{kk:Nat}(hx:IsD A x a)(hy:IsD B y b)[GL A G][GL B G](hle:b.length≤a.length)(hge:dv b≤dv a)(hk:dv a<2^kk)(hba:a.length≤1125899906842):
  Fn Tryz.prog 295 [x.v,y.v] G (fun v G'=> ∃z:SV,v=z.v∧IsN kk G' z (dv a-dv b)):=by
 have hlen:=hx.len
 have hlen2:=hy.len
 refine Fn.intro Tryz.func295 J J Tryz.ntmps295 rfl ?_
 intro C _ _
 refine sR<|sa J J<|zE<|sR<|sm J J<|slen J J<|?_
 refine sc (ch_make J J (by omega) (by omega) (by omega) (by rfl) rfl ?_)
 intro b1
 rw[zeros_dI,show(x.n:Int).toNat=a.length by omega]
 refine sa J J<|zE<|sR<|sa J J<|zE<|st_seq<|sR<|sm J J<|slen J J<|sm J J<|zE<|st_block<|?_
 refine st_loop (X:=NatSub) (fun q=>[(16, .int .i64 q.k),(15, .int .i64 x.n),(14, .slice x.a x.n x.c),(6, .int .u64 q.c),(1, .slice y.a y.n y.c),(5, .slice (some ⟨b1,0,none⟩) a.length a.length)])
  (fun q=>[⟨b1,q.ws.map dI,279,true⟩])
  (fun q _=>q.k≤a.length∧q.ws.length=a.length∧DOk q.ws∧q.c≤1∧dv (q.ws.take q.k)+dv (b.take q.k)=dv (a.take q.k)+4294967296^q.k*q.c) (fun q=>a.length-q.k) ⟨List.replicate a.length 0,0,0⟩
  ⟨Nat.zero_le _,by simp, .replicate _,Nat.zero_le _,by simp[dv]⟩ (.cons rfl (.cons rfl (.cons rfl (.cons rfl (.cons rfl (.cons rfl .nil)))))) rfl ?_
 rintro ⟨ws,k,c⟩ Gy _ ⟨hka,hwl,hwo,hc1,hinv⟩
 simp only[] at hka hwl hwo hc1 hinv⊢
 refine sR<|sy (yd_lss J J) rfl<|zE<|st_seq<|?_
 refine st_condE rfl (fun hc=>?_) (fun hc=>?_) -- slot 17
 ·have hkn:k=a.length:=by omega
  refine st_exit<|st_te<|st_te<|st_inBlock_eq<|sR<|sm J J<|?_
  refine st_freeze b1 (.hd ..) (fun G1 _ hgb=>?_)
  have hD:IsD G1 ⟨some ⟨b1,0,none⟩,a.length,a.length⟩ ws:= .of_block hwo hgb.h hwl.symm (Nat.le_refl _) (by rw[List.take_of_length_le (by simp)])
  have hdv:dv ws=dv a-dv b:=by
   rw[hkn,List.take_of_length_le (by omega),List.take_of_length_le hle,List.take_of_length_le (Nat.le_refl _)] at hinv
   have h2:=dv_lt hwo
   rw[hwl] at h2
   rcases Nat.eq_zero_or_pos c with h0|h0
   ·subst h0;omega
   ·have:c=1:=by omega
    subst this;omega
  refine sc (zC J J (nat_trim hD (by omega)) rfl ?_)
  rintro _ G2 _ rfl
  refine sa J J<|zE<|st_ret<|?_
  refine zD (.tmp rfl .nil) ⟨⟨some ⟨b1,0,none⟩,(trimD ws).length,a.length⟩,rfl,?_⟩
  have h3:=hD.trim.up (G:=G2)
  rw[←hdv]
  exact⟨by rw[dg_trim hwo];exact h3,by omega⟩
 have hka':k<a.length:=by omega
 have hga:=hx.ok.get k
 have hgb:=hy.ok.get k
 refine zK<|st_seq<|st_block<|sR<|sm J J<|sy (yd_ixD hx J J (by omega) (by omega)) rfl<|sy (yd_ldD hx rfl (by omega)) rfl<|sa J J<|sa J J<|zE<|st_seq<|?_
 rw[Int.toNat_natCast]
 refine st_region<|sm J J<|sa J J<|zE<|?_
 refine st_cut Unit (fun _=>[(16, .int .i64 k),(7, .int .i64 k),(15, .int .i64 x.n),(14, .slice x.a x.n x.c),(8, .int .u32 ((a.getD k 0:Nat):Int)),(9, .int .u64 ((c+b.getD k 0:Nat):Int)),(1, .slice y.a y.n y.c),(5, .slice (some ⟨b1,0,none⟩) a.length a.length)]) (fun _=>[⟨b1,ws.map dI,279,true⟩]) (fun _ _=>True) ?_ ?_
 ·refine sR<|sm J J<|sm J J<|slen J J<|sy (yd_lss J J) rfl<|zE<|?_
  refine st_condP rfl (fun hc2=>?_) (fun hc2=>?_) -- slot 25
  ·refine st_region<|sm J J<|sm J J<|sm J J<|sy (yd_ixD hy J J (by omega) (by omega)) rfl<|sy (yd_ldD hy rfl (by omega)) rfl<|sy (yd_toU64 rfl (by omega) (by rw[Int.toNat_natCast];omega)) rfl<|?_
   rw[Int.toNat_natCast]
   refine sy (yd_addU J J) rfl<|sa J J<|zE<|?_
   exact st_at () trivial (.cons rfl (.cons rfl (.cons rfl (.cons rfl (.cons rfl (.cons (by rw[Int.natCast_add];rfl) (.cons rfl (.cons rfl .nil)))))))) rfl
  refine zK<|?_
  have h0:b.getD k 0=0:=getD_ge (by omega)
  exact st_at () trivial (.cons rfl (.cons rfl (.cons rfl (.cons rfl (.cons rfl (.cons (by rw[h0,Nat.add_zero];rfl) (.cons rfl (.cons rfl .nil)))))))) rfl
 rintro _ Gz _ _
 generalize htt:c+b.getD k 0=tt
 have htb:tt≤4294967296:=by omega
 refine sR<|sm J J<|sy (yd_toU64 rfl) rfl<|sm J J<|sy (yd_subw J J) rfl<|sa J J<|zE<|sR<|sm J J<|sm J J<|sm J J<|?_
 rw[wrap_u64]
 refine sy (yd_toU32 rfl) rfl<|sy (yd_ixO J J (by omega) (by omega)) rfl<|?_
 rw[Int.toNat_natCast]
 by_cases hno:tt≤a.getD k 0
 ·refine sc (ch_storeD (d:=a.getD k 0-tt) J J (by omega) (.hd ..) (by omega) rfl ?_)
  refine zE<|st_region<|sm J J<|sy (yd_shr J J (by decide)) rfl<|sa J J<|zE<|st_region<|sy (yd_add64 J J) rfl<|sm J J<|zE<|?_
  rw[shr63 _ (by omega),show(((a.getD k 0:Nat):Int)-(tt:Int))%18446744073709551616/9223372036854775808=((0:Nat):Int) by omega]
  refine st_again ⟨ws.set k (a.getD k 0-tt),k+1,0⟩ ⟨by show k+1≤_;omega,by simp[hwl],hwo.set _ (by omega),Nat.zero_le _,?_⟩ (by show a.length-(k+1)<a.length-k;omega) (.cons rfl (.cons rfl (.cons rfl (.cons rfl (.cons rfl (.cons rfl .nil)))))) rfl
  show dv ((ws.set k (a.getD k 0-tt)).take (k+1))+dv (b.take (k+1))=dv (a.take (k+1))+4294967296^(k+1)*0
  rw[dv_set_take (by omega),dv_take_succ a,dv_take_succ b,←htt,Nat.pow_succ]
  exact sub_no hinv (by omega)
 ·refine sc (ch_storeD (d:=a.getD k 0+4294967296-tt) J J (by omega) (.hd ..) (by omega) rfl ?_)
  refine zE<|st_region<|sm J J<|sy (yd_shr J J (by decide)) rfl<|sa J J<|zE<|st_region<|sy (yd_add64 J J) rfl<|sm J J<|zE<|?_
  rw[shr63 _ (by omega),show(((a.getD k 0:Nat):Int)-(tt:Int))%18446744073709551616/9223372036854775808=((1:Nat):Int) by omega]
  refine st_again ⟨ws.set k (a.getD k 0+4294967296-tt),k+1,1⟩ ⟨by show k+1≤_;omega,by simp[hwl],hwo.set _ (by omega),Nat.le_refl _,?_⟩ (by show a.length-(k+1)<a.length-k;omega) (.cons rfl (.cons rfl (.cons rfl (.cons rfl (.cons rfl (.cons rfl .nil)))))) rfl
  show dv ((ws.set k (a.getD k 0+4294967296-tt)).take (k+1))+dv (b.take (k+1))=dv (a.take (k+1))+4294967296^(k+1)*1
  rw[dv_set_take (by omega),dv_take_succ a,dv_take_succ b,←htt,Nat.pow_succ]
  exact sub_yes hinv (by omega) (by omega)
theorem nat_Sub{A B G:Gh}{x y:SV}{ds es:List Nat}{kk:Nat}(hx:IsD A x ds)(hy:IsD B y es)[GL A G][GL B G](hk:dv ds<2^kk)(hb:ds.length≤1125899906842)(hb2:es.length≤1125899906842):
  Fn Tryz.prog 280 [x.v,y.v] G (fun v G'=> ∃z:SV,v= .tuple #[z.v, .bool (decide (dv es≤dv ds))]∧IsN kk G' z (dv ds-dv es)):=by
 refine Fn.intro Tryz.func280 J J Tryz.ntmps280 rfl ?_
 intro C _ _
 refine sR<|sa J J<|sa J J<|zE<|st_seq<|sR<|sm J J<|sm J J<|?_
 refine sc (zC J J (nat_Cmp hx hy (by omega) (by omega)) rfl ?_)
 rintro _ G1 _ rfl
 refine sy (yd_lss J J) rfl<|zE<|?_
 refine st_condP rfl (fun hc=>?_) (fun hc=>?_) -- slot 9
 ·have hlt:dv ds<dv es:=by
   unfold cmpN at hc
   split at hc
   ·assumption
   ·split at hc<;>omega
  refine sR<|sa J J<|sa J J<|zE<|st_ret<|?_
  refine zD (.tmp rfl (.tmp rfl .nil)) ⟨⟨none,0,0⟩,?_,?_⟩
  ·have: ¬dv es≤dv ds:=by omega
   simp[tupled,SV.v,this]
  ·rw[Nat.sub_eq_zero_of_le (by omega)]
   exact⟨by unfold dg;exact .nil _,Nat.pow_pos (by omega)⟩
 have hge:dv es≤dv ds:=by
  unfold cmpN at hc
  split at hc
  ·omega
  ·omega
 have htl:=trimD_len ds
 have htl2:=trimD_len es
 refine zK<|sR<|sm J J<|?_
 refine sc (zC J J (nat_trim hx (by omega)) rfl ?_)
 rintro _ G2 _ rfl
 refine sm J J<|?_
 refine sc (zC J J (nat_trim hy (by omega)) rfl ?_)
 rintro _ G3 _ rfl
 have hl:(trimD es).length≤(trimD ds).length:=by
  rcases Nat.lt_or_ge (trimD ds).length (trimD es).length with h|h
  ·have:=dv_len_lt hx.ok.trimD (Nrm.trimD es) h
   rw[dv_trimD,dv_trimD] at this;omega
  ·exact h
 refine sc (zC J J (nat_less (kk:=kk) hx.trim hy.trim hl (by rw[dv_trimD,dv_trimD];exact hge) (by rw[dv_trimD];exact hk) (by omega)) rfl ?_)
 rintro _ G4 _ ⟨z,rfl,hz⟩
 refine sa J J<|sa J J<|zE<|st_ret<|?_
 refine zD (.tmp rfl (.tmp rfl .nil)) ⟨z,by simp[tupled,hge],?_⟩
 rw[dv_trimD,dv_trimD] at hz
 exact hz
end Go.Sx
end

section
set_option maxRecDepth 100000
namespace Go.Sx
open Go Go.Proofs
structure NatMulO where
 ws:List Nat
 i:Nat
structure NatMulI where
 ws:List Nat
 k:Nat
 c:Nat
theorem mul_c{x y w c:Nat}(hx:x<4294967296)(hy:y<4294967296)(hw:w<4294967296)(hc:c<4294967296):c+x*y+w<18446744073709551616:=by
 have:x*y≤4294967295*4294967295:=Nat.mul_le_mul (by omega) (by omega)
 omega
theorem set_getD{ws:List Nat}{i j d:Nat}(h:i≠j):(ws.set i d).getD j 0=ws.getD j 0:=by
 rw[List.getD_eq_getElem?_getD,List.getD_eq_getElem?_getD,List.getElem?_set_ne h]
set_option maxHeartbeats 1000000 in
theorem nat_Mul{A B G:Gh}{x y:SV}{ds es:List Nat}{kk:Nat}(hx:IsD A x ds)(hy:IsD B y es)[GL A G][GL B G](hk:dv ds*dv es<2^kk)(hb:ds.length≤562949953421)(hb2:es.length≤562949953421):
  Fn Tryz.prog 249 [x.v,y.v] G (fun v G'=> ∃z:SV,v=z.v∧IsN kk G' z (dv ds*dv es)):=by
 have htl:=trimD_len ds
 have htl2:=trimD_len es
 have hcall:=fun G1 (_:GL A G1)=>nat_trim (G:=G1) hx (by omega)
 have hcall2:=fun G1 (_:GL B G1)=>nat_trim (G:=G1) hy (by omega)
 have hxt:=hx.trim
 have hyt:=hy.trim
 rw[←dv_trimD ds,←dv_trimD es] at hk⊢
 generalize trimD ds=a at*
 generalize trimD es=b at*
 have hok:=hxt.ok
 have hok2:=hyt.ok
 refine Fn.intro Tryz.func249 J J Tryz.ntmps249 rfl ?_
 intro C _ _
 refine sR<|sa J J<|zE<|sR<|sm J J<|?_
 refine sc (zC J J (hcall _ inferInstance) rfl ?_)
 rintro _ G1 _ rfl
 refine sm J J<|?_
 refine sc (zC J J (hcall2 _ inferInstance) rfl ?_)
 rintro _ G2 _ rfl
 refine sa J J<|sa J J<|zE<|sR<|sm J J<|slen J J<|sm J J<|slen J J<|sy (yd_add64 J J) rfl<|?_
 refine sc (ch_make J J (by omega) (by omega) (by omega) (by rfl) rfl ?_)
 intro b3
 rw[zeros_dI,show((a.length:Int)+(b.length:Int)).toNat=a.length+b.length by omega]
 refine sa J J<|zE<|st_seq<|sR<|sm J J<|slen J J<|sm J J<|zE<|st_block<|?_
 refine st_loop (X:=NatMulO) (fun q=>[(23, .int .i64 q.i),(22, .int .i64 a.length),(21, .slice x.a a.length x.c),(1, .slice y.a b.length y.c),(5, .slice (some ⟨b3,0,none⟩) (a.length+b.length) (a.length+b.length))])
  (fun q=>[⟨b3,q.ws.map dI,279,true⟩])
  (fun q _=>q.i≤a.length∧q.ws.length=a.length+b.length∧DOk q.ws∧(∀j,q.i+b.length≤j→q.ws.getD j 0=0)∧dv q.ws=dv (a.take q.i)*dv b) (fun q=>a.length-q.i) ⟨List.replicate (a.length+b.length) 0,0⟩
  ⟨Nat.zero_le _,by simp, .replicate _,fun j _=>getD_rep _ _,by simp[dv,dv_replicate]⟩ (.cons rfl (.cons rfl (.cons rfl (.cons rfl (.cons rfl .nil))))) rfl ?_
 rintro ⟨ws,i⟩ Gy _ ⟨hia,hwl,hwo,hz,hinv⟩
 simp only[] at hia hwl hwo hz hinv⊢
 refine sR<|sy (yd_lss J J) rfl<|zE<|st_seq<|?_
 refine st_condE rfl (fun hc=>?_) (fun hc=>?_) -- slot 24
 ·have hin:i=a.length:=by omega
  refine st_exit<|st_te<|st_te<|st_inBlock_eq<|sR<|sm J J<|?_
  refine st_freeze b3 (.hd ..) (fun G3 _ hgb=>?_)
  have hD:IsD G3 ⟨some ⟨b3,0,none⟩,a.length+b.length,a.length+b.length⟩ ws:= .of_block hwo hgb.h hwl.symm (Nat.le_refl _) (by rw[List.take_of_length_le (by simp)])
  have hdv:dv ws=dv a*dv b:=by rw[hinv,hin,List.take_of_length_le (Nat.le_refl _)]
  refine sc (zC J J (nat_trim hD (by omega)) rfl ?_)
  rintro _ G4 _ rfl
  refine sa J J<|zE<|st_ret<|?_
  refine zD (.tmp rfl .nil) ⟨⟨some ⟨b3,0,none⟩,(trimD ws).length,a.length+b.length⟩,rfl,?_⟩
  have h3:=hD.trim.up (G:=G4)
  rw[←hdv] at hk⊢
  exact⟨by rw[dg_trim hwo];exact h3,hk⟩
 have hia':i<a.length:=by omega
 have hga:=hok.get i
 refine zK<|st_seq<|st_block<|sR<|sm J J<|sy (yd_ixD (z:=⟨x.a,a.length,x.c⟩) hxt J J (by omega) (by show(i:Int)<(a.length:Nat);omega)) rfl<|sy (yd_ldD hxt rfl (by omega)) rfl<|sa J J<|sa J J<|zE<|st_seq<|?_
 rw[Int.toNat_natCast]
 refine st_region<|sa J J<|zE<|st_seq<|sR<|sm J J<|slen J J<|sm J J<|zE<|st_block<|?_
 refine st_loop (X:=NatMulI) (fun q=>[(30, .int .i64 q.k),(29, .int .i64 b.length),(28, .slice y.a b.length y.c),(8, .int .u64 q.c),(7, .int .u32 ((a.getD i 0:Nat):Int)),(5, .slice (some ⟨b3,0,none⟩) (a.length+b.length) (a.length+b.length)),(6, .int .i64 i),(23, .int .i64 i),(22, .int .i64 a.length),(21, .slice x.a a.length x.c),(1, .slice y.a b.length y.c)])
  (fun q=>[⟨b3,q.ws.map dI,279,true⟩])
  (fun q _=>q.k≤b.length∧q.ws.length=a.length+b.length∧DOk q.ws∧q.c<4294967296∧(∀j,i+b.length≤j→q.ws.getD j 0=0)∧dv q.ws+4294967296^(i+q.k)*q.c=dv (a.take i)*dv b+4294967296^i*(a.getD i 0*dv (b.take q.k))) (fun q=>b.length-q.k) ⟨ws,0,0⟩
  ⟨Nat.zero_le _,hwl,hwo,Nat.zero_lt_succ _,hz,by simp[dv,hinv]⟩ (.cons rfl (.cons rfl (.cons rfl (.cons rfl (.cons rfl (.cons rfl (.cons rfl (.cons rfl (.cons rfl (.cons rfl (.cons rfl .nil))))))))))) rfl ?_
 clear hz hwl hwo hinv ws
 rintro ⟨ws,k,c⟩ Gz _ ⟨hkb,hwl,hwo,hcc,hz,hinv⟩
 simp only[] at hkb hwl hwo hcc hz hinv⊢
 refine sR<|sy (yd_lss J J) rfl<|zE<|st_seq<|?_
 refine st_condE rfl (fun hc2=>?_) (fun hc2=>?_) -- slot 31
 ·have hkn:k=b.length:=by omega
  have e1:((i:Int)+(b.length:Int)).toNat=i+b.length:=by omega
  refine st_exit<|st_te<|st_te<|st_inBlock_eq<|st_region<|sm J J<|sm J J<|sm J J<|slen J J<|sy (yd_add64 J J) rfl<|sm J J<|sy (yd_toU32 rfl) rfl<|?_
  refine sy (yd_ixO J J (by omega) (by omega)) rfl<|?_
  rw[e1]
  refine sc (ch_storeD (d:=c) J J (by omega) (.hd ..) (by omega) rfl ?_)
  refine zE<|st_region<|sy (yd_add64 J J) rfl<|sm J J<|zE<|?_
  refine st_again ⟨ws.set (i+b.length) c,i+1⟩ ⟨by show i+1≤_;omega,by simp[hwl],hwo.set _ hcc,fun j hj=>?_,?_⟩ (by show a.length-(i+1)<a.length-i;omega) (.cons rfl (.cons rfl (.cons rfl (.cons rfl (.cons rfl .nil))))) rfl
  ·have hj':i+1+b.length≤j:=hj
   show(ws.set (i+b.length) c).getD j 0=0
   rw[set_getD (by omega)];exact hz j (by omega)
  ·show dv (ws.set (i+b.length) c)=dv (a.take (i+1))*dv b
   have h1:=dv_set ws (i+b.length) c (by omega)
   rw[hz (i+b.length) (Nat.le_refl _),Nat.mul_zero,Nat.add_zero] at h1
   rw[h1,←hkn,hinv,hkn,List.take_of_length_le (Nat.le_refl _),dv_take_succ,Nat.add_mul,Nat.mul_assoc]
 have hkb':k<b.length:=by omega
 have hgb:=hok2.get k
 have hgw:=hwo.get (i+k)
 have hm:=mul_c hga hgb hgw hcc
 have e1:((i:Int)+(k:Int)).toNat=i+k:=by omega
 have e2:((a.getD i 0:Nat):Int)*((b.getD k 0:Nat):Int)=((a.getD i 0*b.getD k 0:Nat):Int):=by rw[Int.natCast_mul]
 refine zK<|st_seq<|st_block<|sR<|sm J J<|sy (yd_ixD (z:=⟨y.a,b.length,y.c⟩) hyt J J (by omega) (by show(k:Int)<(b.length:Nat);omega)) rfl<|sy (yd_ldD hyt rfl (by omega)) rfl<|sa J J<|sa J J<|zE<|st_seq<|?_
 rw[Int.toNat_natCast]
 refine st_region<|sm J J<|sm J J<|sy (yd_toU64 rfl) rfl<|sm J J<|sy (yd_toU64 rfl) rfl<|sy (yd_mulU J J (by rw[e2];omega) (by rw[e2];omega)) rfl<|?_
 rw[e2]
 refine sm J J<|sm J J<|sm J J<|sy (yd_add64 J J) rfl<|sy (yd_ixO J J (by omega) (by omega)) rfl<|?_
 rw[e1]
 refine sy (yd_ldO rfl (by omega)) rfl<|sy (yd_toU64 rfl) rfl<|?_
 refine sy (yd_addU J J) rfl<|sy (yd_addU J J) rfl<|sa J J<|zE<|sR<|sm J J<|sm J J<|sm J J<|?_
 rw[show(c:Int)+(((a.getD i 0*b.getD k 0:Nat):Int)+((ws.getD (i+k) 0:Nat):Int))=((c+a.getD i 0*b.getD k 0+ws.getD (i+k) 0:Nat):Int) by omega]
 generalize hcc2:c+a.getD i 0*b.getD k 0+ws.getD (i+k) 0=cc
 rw[hcc2] at hm
 refine sy (yd_add64 J J) rfl<|sm J J<|sy (yd_toU32 rfl) rfl<|sy (yd_ixO J J (by omega) (by omega)) rfl<|?_
 rw[e1]
 refine sc (ch_storeD (d:=cc%4294967296) J J (by omega) (.hd ..) (by omega) rfl ?_)
 refine zE<|st_region<|sm J J<|sy (yd_shr J J (by decide)) rfl<|sa J J<|zE<|st_region<|sy (yd_add64 J J) rfl<|sm J J<|zE<|?_
 rw[shr32]
 refine st_again ⟨ws.set (i+k) (cc%4294967296),k+1,cc/4294967296⟩ ⟨by show k+1≤_;omega,by simp[hwl],hwo.set _ (by omega),by show cc/4294967296<_;omega,fun j hj=>?_,?_⟩ (by show b.length-(k+1)<b.length-k;omega) (.cons rfl (.cons rfl (.cons rfl (.cons rfl (.cons rfl (.cons rfl (.cons rfl (.cons rfl (.cons rfl (.cons rfl (.cons rfl .nil))))))))))) rfl
 ·show(ws.set (i+k) (cc%4294967296)).getD j 0=0
  rw[set_getD (by omega)];exact hz j hj
 ·show dv (ws.set (i+k) (cc%4294967296))+4294967296^(i+(k+1))*(cc/4294967296)=dv (a.take i)*dv b+4294967296^i*(a.getD i 0*dv (b.take (k+1)))
  have h1:=dv_set ws (i+k) (cc%4294967296) (by omega)
  rw[←hcc2] at h1⊢
  have h2:=mul_step h1 hinv
  rw[←Nat.add_assoc,Nat.pow_succ,h2,dv_take_succ,Nat.mul_add,Nat.mul_add,Nat.pow_add]
  have:4294967296^i*(a.getD i 0*(4294967296^k*b.getD k 0))=4294967296^i*4294967296^k*(a.getD i 0*b.getD k 0):=by
   rw[Nat.mul_left_comm (a.getD i 0),←Nat.mul_assoc]
  rw[this,Nat.add_assoc]
end Go.Sx
end

section
set_option maxRecDepth 100000
namespace Go.Sx
open Go Go.Proofs
theorem or_add'{P:Program}{t:TypeId}(a b k:Nat)(ha:a<2^k)(h:a+b*2^k<18446744073709551616)(w:World):(binOp .or t (.int .u64 ((b*2^k:Nat):Int)) (.int .u64 (a:Int))).run P w= .ok (.int .u64 ((a+b*2^k:Nat):Int)) w:=by
 have h1:(BitVec.ofInt 64 ((b*2^k:Nat):Int) ||| BitVec.ofInt 64 (a:Int)).toNat=a+b*2^k:=by
  rw[BitVec.toNat_or,BitVec.ofInt_natCast,BitVec.ofInt_natCast,BitVec.toNat_ofNat,BitVec.toNat_ofNat,Nat.mod_eq_of_lt (by omega),Nat.mod_eq_of_lt (by omega)]
  rw[←Nat.shiftLeft_eq,←Nat.shiftLeft_add_eq_or_of_lt ha,Nat.shiftLeft_eq]
  omega
 have h2:IntKind.u64.wrap ((a+b*2^k:Nat):Int)=((a+b*2^k:Nat):Int):=by rw[wrap_u64];omega
 simp only[binOp]
 show(Op.intBits .or .u64 ((b*2^k:Nat):Int) (a:Int)).run P w=_
 unfold Op.intBits
 show(pure (Value.int .u64 (IntKind.u64.wrap ((BitVec.ofInt 64 ((b*2^k:Nat):Int) ||| BitVec.ofInt 64 (a:Int)).toNat:Int))):Sem Value).run P w=_
 rw[h1,h2,run_pure]
theorem or_add32{P:Program}{t:TypeId}(a b k:Nat)(ha:a<2^k)(h:a+b*2^k<4294967296)(w:World):(binOp .or t (.int .u32 (a:Int)) (.int .u32 ((b*2^k:Nat):Int))).run P w= .ok (.int .u32 ((a+b*2^k:Nat):Int)) w:=by
 have h1:(BitVec.ofInt 32 (a:Int) ||| BitVec.ofInt 32 ((b*2^k:Nat):Int)).toNat=a+b*2^k:=by
  rw[BitVec.toNat_or,BitVec.ofInt_natCast,BitVec.ofInt_natCast,BitVec.toNat_ofNat,BitVec.toNat_ofNat,Nat.mod_eq_of_lt (by omega),Nat.mod_eq_of_lt (by omega)]
  rw[←Nat.shiftLeft_eq,Nat.or_comm,←Nat.shiftLeft_add_eq_or_of_lt ha,Nat.shiftLeft_eq]
  omega
 have h2:IntKind.u32.wrap ((a+b*2^k:Nat):Int)=((a+b*2^k:Nat):Int):=by rw[wrap_u32];omega
 simp only[binOp]
 show(Op.intBits .or .u32 (a:Int) ((b*2^k:Nat):Int)).run P w=_
 unfold Op.intBits
 show(pure (Value.int .u32 (IntKind.u32.wrap ((BitVec.ofInt 32 (a:Int) ||| BitVec.ofInt 32 ((b*2^k:Nat):Int)).toNat:Int))):Sem Value).run P w=_
 rw[h1,h2,run_pure]
theorem shl_u64(d k:Nat)(hk:k<64)(h:d*2^k<18446744073709551616){q:Int}(hq:q.toNat=k):IntKind.u64.wrap ((d:Int)*2^min q.toNat IntKind.u64.bits)=((d*2^k:Nat):Int):=by
 rw[hq,Nat.min_eq_left (by show k≤64;omega),wrap_u64]
 have e2:(d:Int)*2^k=((d*2^k:Nat):Int):=by push_cast;rfl
 rw[e2];omega
theorem shr_u64(d k:Nat)(hk:k<64){q:Int}(hq:q.toNat=k):(d:Int).fdiv (2^min q.toNat IntKind.u64.bits)=((d/2^k:Nat):Int):=by
 rw[hq,Nat.min_eq_left (by show k≤64;omega),Int.fdiv_eq_ediv_of_nonneg _ (Int.le_of_lt (Int.pow_pos (by decide)))]
 push_cast;rfl
theorem emod32(q:Nat)(h:q<4294967296):(q:Int)%4294967296=q:=by omega
structure NatShort where
 ws:List Nat
 k:Nat
 r:Nat
set_option maxHeartbeats 1000000 in
theorem nat_short{A G:Gh}{x:SV}{a:List Nat}{d kk:Nat}(hx:IsD A x a)[GL A G](hd0:0<d)(hd:d<4294967296)(hk:dv a/d<2^kk)(hb:a.length≤1125899906842):
  Fn Tryz.prog 284 [x.v, .int .u32 (d:Int)] G (fun v G'=> ∃z:SV,v= .tuple #[z.v, .int .u32 ((dv a%d:Nat):Int)]∧IsN kk G' z (dv a/d)):=by
 have hlen:=hx.len
 refine Fn.intro Tryz.func284 J J Tryz.ntmps284 rfl ?_
 intro C _ _
 refine sR<|sa J J<|sa J J<|zE<|sR<|sm J J<|slen J J<|?_
 refine sc (ch_make J J (by omega) (by omega) (by omega) (by rfl) rfl ?_)
 intro b1
 rw[zeros_dI,show(x.n:Int).toNat=a.length by omega]
 refine sa J J<|zE<|sR<|sa J J<|zE<|st_seq<|sR<|sm J J<|slen J J<|sy (yd_sub64 J J) rfl<|?_
 refine sa J J<|zE<|st_block<|?_
 refine st_loop (X:=NatShort) (fun q=>[(8, .int .i64 (q.k-1)),(7, .int .u64 q.r),(0, .slice x.a x.n x.c),(6, .slice (some ⟨b1,0,none⟩) a.length a.length),(1, .int .u32 d)])
  (fun q=>[⟨b1,q.ws.map dI,279,true⟩])
  (fun q _=>q.k≤a.length∧q.ws.length=a.length∧DOk q.ws∧q.r<d∧dv (a.drop q.k)=d*dv (q.ws.drop q.k)+q.r) (fun q=>q.k) ⟨List.replicate a.length 0,a.length,0⟩
  ⟨Nat.le_refl _,by simp, .replicate _,hd0,by simp[dv]⟩ (.cons (by rw[hlen];rfl) (.cons rfl (.cons rfl (.cons rfl (.cons rfl .nil))))) rfl ?_
 rintro ⟨ws,k,r⟩ Gy _ ⟨hka,hwl,hwo,hr,hinv⟩
 simp only[] at hka hwl hwo hr hinv⊢
 refine st_seq<|sR<|sm J J<|sy (yd_geq J J) rfl<|zE<|?_
 refine st_condE rfl (fun hc=>?_) (fun hc=>?_) -- slot 17
 ·have hk0:k=0:=by omega
  refine st_exit<|st_te<|st_te<|st_inBlock_eq<|sR<|sm J J<|?_
  refine st_freeze b1 (.hd ..) (fun G1 _ hgb=>?_)
  have hD:IsD G1 ⟨some ⟨b1,0,none⟩,a.length,a.length⟩ ws:= .of_block hwo hgb.h hwl.symm (Nat.le_refl _) (by rw[List.take_of_length_le (by simp)])
  subst hk0
  simp only[List.drop_zero] at hinv
  have hdv:dv a/d=dv ws:=by rw[hinv,Nat.mul_add_div hd0,Nat.div_eq_of_lt hr,Nat.add_zero]
  have hdm:dv a%d=r:=by rw[hinv,Nat.mul_add_mod,Nat.mod_eq_of_lt hr]
  refine sc (zC J J (nat_trim hD (by omega)) rfl ?_)
  rintro _ G2 _ rfl
  refine sm J J<|sy (yd_toU32 rfl) rfl<|sa J J<|sa J J<|zE<|st_ret<|?_
  refine zD (.tmp rfl (.tmp rfl .nil)) ⟨⟨some ⟨b1,0,none⟩,(trimD ws).length,a.length⟩,?_,?_⟩
  ·rw[hdm,show(r:Int)%4294967296=r by omega];rfl
  have h3:=hD.trim.up (G:=G2)
  exact⟨by rw[hdv,dg_trim hwo];exact h3,hk⟩
 have hk1:0<k:=by omega
 have hkt:((k:Int)-1).toNat=k-1:=by omega
 have hga:=hx.ok.get (k-1)
 have hv:a.getD (k-1) 0+r*2^32<d*4294967296:=by
  have:(r+1)*4294967296≤d*4294967296:=Nat.mul_le_mul_right _ hr
  rw[Nat.add_mul] at this
  omega
 have hv2:a.getD (k-1) 0+r*2^32<18446744073709551616:=by omega
 refine zK<|st_seq<|st_block<|sR<|sm J J<|sy (yd_shl J J (by decide)) rfl<|sm J J<|sm J J<|sy (yd_ixD hx J J (by omega) (by omega)) rfl<|?_
 rw[shl_u64 r 32 (by decide) (by omega) rfl]
 refine sy (yd_ldD hx rfl (by omega)) rfl<|sy (yd_toU64 rfl (by omega) (by rw[hkt];omega)) rfl<|?_
 rw[hkt]
 refine sy (yd_int J J (or_add' (a.getD (k-1) 0) r 32 (by omega) hv2)) rfl<|?_
 generalize hvv:a.getD (k-1) 0+r*2^32=vv at*
 have hq:vv/d<4294967296:=Nat.div_lt_of_lt_mul hv
 have hrr:=Nat.mod_lt vv hd0
 refine sa J J<|zE<|sR<|sm J J<|sm J J<|sm J J<|sm J J<|?_
 refine sy (yd_toU64 rfl) rfl<|sy (yd_quoU J J (by omega) (by omega) (by omega)) rfl<|sy (yd_toU32 rfl) rfl<|sy (yd_ixO J J (by omega) (by omega)) rfl<|?_
 rw[hkt]
 have e1:(vv:Int)/(d:Int)%4294967296=((vv/d:Nat):Int):=by
  have e0:(vv:Int)/(d:Int)=((vv/d:Nat):Int):=(Int.natCast_ediv vv d).symm
  rw[e0];exact emod32 _ hq
 refine sc (ch_storeD (d:=vv/d) J J e1 (.hd ..) (by omega) rfl ?_)
 refine zE<|st_region<|sm J J<|sm J J<|sy (yd_toU64 rfl) rfl<|sy (yd_remU J J (by omega) (by omega)) rfl<|sa J J<|zE<|st_region<|sm J J<|?_
 refine sy (yd_sub64 J J) rfl<|sa J J<|zE<|?_
 refine st_again ⟨ws.set (k-1) (vv/d),k-1,vv%d⟩ ⟨by show k-1≤_;omega,by simp[hwl],hwo.set _ hq,hrr,?_⟩ (by show k-1<k;omega) (.cons (by rw[show((k-1:Nat):Int)=(k:Int)-1 by omega];rfl) (.cons (by rw[Int.natCast_emod];rfl) (.cons rfl (.cons rfl (.cons rfl .nil))))) rfl
 show dv (a.drop (k-1))=d*dv ((ws.set (k-1) (vv/d)).drop (k-1))+vv%d
 have hk2:k-1+1=k:=by omega
 rw[List.drop_eq_getElem_cons (by omega:k-1<a.length),List.drop_eq_getElem_cons (by simp;omega:k-1<(ws.set (k-1) (vv/d)).length),hk2,List.getElem_set_self,List.drop_set_of_lt (by omega)]
 have e3:a[k-1]'(by omega)=a.getD (k-1) 0:=by rw[List.getD_eq_getElem?_getD,List.getElem?_eq_getElem (by omega)];rfl
 simp only[dv,e3,hinv]
 have h1:=Nat.div_add_mod vv d
 have h2:d*(vv/d+4294967296*dv (ws.drop k))=d*(vv/d)+4294967296*(d*dv (ws.drop k)):=by rw[Nat.mul_add,Nat.mul_left_comm]
 rw[h2,Nat.mul_add]
 omega
section
variable {P:Program} {C:Ctx} {n:Nat} {fr:Fr} {own:List Own} {G:Gh} {dst:Option Nat} {t t1 t2 ty':TypeId} {pos:String} {af:Array Edge} {gd:Option (Nat×Bool)} {x y:Operand}
theorem yd_min{k:IntKind}{p q:Int}(hx:opv fr x=some (.int k p))(hy:opv fr y=some (.int k q)):
  Yd P C fr own G ⟨dst, .call ⟨.builtin .min, #[x,y], #[t1,t2]⟩,ty',pos,af,gd⟩ (.int k (if q<p then q else p)):=by
 intro a w hf hh
 simp only[execOp,resolve,List.map_toArray,List.map_cons,List.map_nil,opv_eval hf hx,opv_eval hf hy]
 have h1:(Builtin.min_ #[t1,t2] ty' #[.int k p, .int k q]).run P w= .ok (.int k (if q<p then q else p)) w:=by
  simp[Builtin.min_,Builtin.min2,run_pure]
 exact value_of h1
end
structure NatShift where
 ws:List Nat
 i:Nat
set_option maxHeartbeats 1000000 in
theorem nat_Shl{A G:Gh}{x:SV}{ds:List Nat}{k kk:Nat}(hx:IsD A x ds)[GL A G](hk32:k<32)(hk:dv ds*2^k<2^kk)(hb:ds.length≤1125899906842):
  Fn Tryz.prog 296 [x.v, .int .u64 (k:Int)] G (fun v G'=> ∃z:SV,v=z.v∧IsN kk G' z (dv ds*2^k)∧z.c≤(trimD ds).length+1):=by
 have htl:=trimD_len ds
 have hcall:=fun G1 (_:GL A G1)=>nat_trim (G:=G1) hx (by omega)
 have hxt:=hx.trim
 rw[←dv_trimD ds] at hk⊢
 generalize trimD ds=a at*
 have hok:=hxt.ok
 refine Fn.intro Tryz.func296 J J Tryz.ntmps296 rfl ?_
 intro C _ _
 refine sR<|sa J J<|zE<|sR<|sm J J<|?_
 refine sc (zC J J (hcall _ inferInstance) rfl ?_)
 rintro _ G1 _ rfl
 refine sm J J<|sy (yd_min J J) rfl<|?_
 rw[if_neg (by omega: ¬(1048576:Int)<(k:Int))]
 refine sa J J<|sa J J<|zE<|st_seq<|sR<|sm J J<|slen J J<|sy (yd_eql J J) rfl<|zE<|?_
 refine st_condP rfl (fun hc=>?_) (fun hc=>?_) -- slot 17
 ·refine sR<|sa J J<|zE<|st_ret<|?_
  have:a=[]:=List.eq_nil_of_length_eq_zero (by omega)
  subst this
  refine zD (.tmp rfl .nil) ⟨⟨none,0,0⟩,rfl,?_⟩
  have e0:dv []*2^k=0:=by simp[dv]
  rw[e0]
  exact⟨⟨by unfold dg;exact .nil _,Nat.pow_pos (by omega)⟩,Nat.zero_le _⟩
 refine zK<|sR<|sm J J<|sy (yd_quoU J J (by omega) (by omega) (by decide)) rfl<|sy (yd_toI64 rfl) rfl<|sm J J<|sy (yd_remU J J (by omega) (by decide)) rfl<|?_
 rw[show(k:Int)/32=0 by omega,show(k:Int)%32=k by omega]
 refine sa J J<|sa J J<|zE<|sR<|sm J J<|slen J J<|sm J J<|sy (yd_add64 J J) rfl<|sy (yd_add64 J J) rfl<|?_
 refine sc (ch_make J J (by omega) (by omega) (by omega) (by rfl) rfl ?_)
 intro b2
 rw[zeros_dI,show((a.length:Int)+0+1).toNat=a.length+1 by omega]
 refine sa J J<|zE<|st_seq<|sR<|sm J J<|slen J J<|sm J J<|zE<|st_block<|?_
 refine st_loop (X:=NatShift) (fun q=>[(31, .int .i64 q.i),(30, .int .i64 a.length),(29, .slice x.a a.length x.c),(6, .int .u64 k),(7, .slice (some ⟨b2,0,none⟩) (a.length+1) (a.length+1)),(5, .int .i64 0)])
  (fun q=>[⟨b2,q.ws.map dI,279,true⟩])
  (fun q _=>q.i≤a.length∧q.ws.length=a.length+1∧DOk q.ws∧(∀j,q.i<j→q.ws.getD j 0=0)∧q.ws.getD q.i 0<2^k∧dv q.ws=dv (a.take q.i)*2^k) (fun q=>a.length-q.i) ⟨List.replicate (a.length+1) 0,0⟩
  ⟨Nat.zero_le _,by simp, .replicate _,fun j _=>getD_rep _ _,by rw[getD_rep];exact Nat.pow_pos (by omega),by simp[dv,dv_replicate]⟩ (.cons rfl (.cons rfl (.cons rfl (.cons rfl (.cons rfl (.cons rfl .nil)))))) rfl ?_
 rintro ⟨ws,i⟩ Gy _ ⟨hia,hwl,hwo,hz,hwi,hinv⟩
 simp only[] at hia hwl hwo hz hwi hinv⊢
 refine sR<|sy (yd_lss J J) rfl<|zE<|st_seq<|?_
 refine st_condE rfl (fun hc=>?_) (fun hc=>?_) -- slot 32
 ·have hin:i=a.length:=by omega
  refine st_exit<|st_te<|st_te<|st_inBlock_eq<|sR<|sm J J<|?_
  refine st_freeze b2 (.hd ..) (fun G3 _ hgb=>?_)
  have hD:IsD G3 ⟨some ⟨b2,0,none⟩,a.length+1,a.length+1⟩ ws:= .of_block hwo hgb.h hwl.symm (Nat.le_refl _) (by rw[List.take_of_length_le (by simp)])
  have hdv:dv a*2^k=dv ws:=by rw[hinv,hin,List.take_of_length_le (Nat.le_refl _)]
  refine sc (zC J J (nat_trim hD (by omega)) rfl ?_)
  rintro _ G4 _ rfl
  refine sa J J<|zE<|st_ret<|?_
  refine zD (.tmp rfl .nil) ⟨⟨some ⟨b2,0,none⟩,(trimD ws).length,a.length+1⟩,rfl,?_⟩
  have h3:=hD.trim.up (G:=G4)
  rw[hdv] at hk⊢
  exact⟨⟨by rw[dg_trim hwo];exact h3,hk⟩,Nat.le_refl _⟩
 have hia':i<a.length:=by omega
 have hga:=hok.get i
 have hp32:(2:Nat)^k≤2^31:=Nat.pow_le_pow_right (by omega) (by omega)
 have hp0:0<(2:Nat)^k:=Nat.pow_pos (by omega)
 have hvb:a.getD i 0*2^k<4294967296*2^k:=Nat.mul_lt_mul_of_pos_right hga hp0
 have hv64:a.getD i 0*2^k<18446744073709551616:=by omega
 refine zK<|st_seq<|st_block<|sR<|sm J J<|sy (yd_ixD (z:=⟨x.a,a.length,x.c⟩) hxt J J (by omega) (by show(i:Int)<(a.length:Nat);omega)) rfl<|sy (yd_ldD hxt rfl (by omega)) rfl<|sa J J<|sa J J<|zE<|st_seq<|?_
 rw[Int.toNat_natCast]
 refine st_region<|sm J J<|sy (yd_toU64 rfl) rfl<|sm J J<|sy (yd_shl J J (by omega)) rfl<|?_
 rw[shl_u64 (a.getD i 0) k (by omega) hv64 (Int.toNat_natCast k)]
 -- the low digit is a multiple of 2^k
 have hlow:a.getD i 0*2^k%4294967296=a.getD i 0%2^(32-k)*2^k:=by
  have:4294967296=2^(32-k)*2^k:=by rw[←Nat.pow_add,show 32-k+k=32 by omega]
  rw[this,Nat.mul_mod_mul_right]
 have hlt:a.getD i 0*2^k%4294967296<4294967296:=Nat.mod_lt _ (by decide)
 have hsum:ws.getD i 0+a.getD i 0%2^(32-k)*2^k<4294967296:=by
  have h1:a.getD i 0%2^(32-k)<2^(32-k):=Nat.mod_lt _ (Nat.pow_pos (by omega))
  have h2:(a.getD i 0%2^(32-k)+1)*2^k≤2^(32-k)*2^k:=Nat.mul_le_mul_right _ h1
  rw[←Nat.pow_add,show 32-k+k=32 by omega,Nat.add_mul] at h2
  omega
 refine sa J J<|zE<|sR<|sm J J<|?_
 refine sm J J<|sm J J<|sy (yd_add64 J J) rfl<|sy (yd_ixO J J (by omega) (by omega)) rfl<|?_
 rw[show((i:Int)+0).toNat=i by omega]
 refine sy (yd_ldO rfl (by omega)) rfl<|sm J J<|sy (yd_toU32 rfl) rfl<|?_
 rw[show((a.getD i 0*2^k:Nat):Int)%4294967296=((a.getD i 0%2^(32-k)*2^k:Nat):Int) by rw[←hlow];rfl]
 refine sy (yd_int J J (or_add32 (ws.getD i 0) (a.getD i 0%2^(32-k)) k hwi hsum)) rfl<|sy (yd_ixO J J (by omega) (by omega)) rfl<|?_
 rw[show((i:Int)+0).toNat=i by omega]
 refine sc (ch_storeD (d:=ws.getD i 0+a.getD i 0%2^(32-k)*2^k) J J J (.hd ..) (by omega) rfl ?_)
 refine zE<|st_region<|sm J J<|sm J J<|sm J J<|sy (yd_add64 J J) rfl<|sy (yd_add64 J J) rfl<|sm J J<|sy (yd_shr J J (by decide)) rfl<|?_
 rw[shr32]
 have hhi:a.getD i 0*2^k/4294967296<2^k:=Nat.div_lt_of_lt_mul hvb
 refine sy (yd_toU32 rfl) rfl<|sy (yd_ixO J J (by omega) (by omega)) rfl<|?_
 rw[show((i:Int)+0+1).toNat=i+1 by omega]
 refine sc (ch_storeD (d:=a.getD i 0*2^k/4294967296) J J (by omega) (.hd ..) (by simp;omega) rfl ?_)
 refine zE<|st_region<|sy (yd_add64 J J) rfl<|sm J J<|zE<|?_
 refine st_again ⟨(ws.set i (ws.getD i 0+a.getD i 0%2^(32-k)*2^k)).set (i+1) (a.getD i 0*2^k/4294967296),i+1⟩ ⟨by show i+1≤_;omega,by simp[hwl],(hwo.set _ hsum).set _ (by omega),fun j hj=>?_,?_,?_⟩ (by show a.length-(i+1)<a.length-i;omega) (.cons rfl (.cons rfl (.cons rfl (.cons rfl (.cons rfl (.cons rfl .nil)))))) rfl
 ·have hj':i+1<j:=hj
  show((ws.set i _).set (i+1) _).getD j 0=0
  rw[set_getD (by omega),set_getD (by omega)];exact hz j (by omega)
 ·show((ws.set i _).set (i+1) (a.getD i 0*2^k/4294967296)).getD (i+1) 0<2^k
  rw[List.getD_eq_getElem?_getD,List.getElem?_set_self (by simp;omega)]
  exact hhi
 ·show dv ((ws.set i (ws.getD i 0+a.getD i 0%2^(32-k)*2^k)).set (i+1) (a.getD i 0*2^k/4294967296))=dv (a.take (i+1))*2^k
  have h1:=dv_set (ws.set i (ws.getD i 0+a.getD i 0%2^(32-k)*2^k)) (i+1) (a.getD i 0*2^k/4294967296) (by simp;omega)
  rw[set_getD (by omega),hz (i+1) (by omega),Nat.mul_zero,Nat.add_zero] at h1
  have h2:=dv_set ws i (ws.getD i 0+a.getD i 0%2^(32-k)*2^k) (by omega)
  rw[Nat.mul_add] at h2
  rw[h1,dv_take_succ,Nat.add_mul,←hinv,Nat.mul_assoc,mul_split (4294967296^i) (a.getD i 0*2^k),←hlow] at*
  rw[Nat.pow_succ]
  omega
end Go.Sx
end

section
namespace Go.Sx
theorem powB(i:Nat):(4294967296:Nat)^(i+1)=4294967296^i*4294967296:=Nat.pow_succ ..
theorem kn_init{U p V T S first third:Nat}(hU:U<(first*4294967296+third+1)*p)(h3:third<4294967296)(hV:(T*4294967296+S)*p≤V)(hT:0<T):
  U<(first/T+1)*V:=by
 have h1:first+1≤(first/T+1)*T:=by
  have:=Nat.lt_mul_div_succ first hT
  rw[Nat.mul_comm];omega
 calc U<(first*4294967296+third+1)*p:=hU
  _≤((first+1)*4294967296)*p:=Nat.mul_le_mul_right _ (by omega)
  _≤(((first/T+1)*T)*4294967296)*p:=Nat.mul_le_mul_right _ (Nat.mul_le_mul_right _ h1)
  _=(first/T+1)*((T*4294967296)*p):=by rw[Nat.mul_assoc (first/T+1),Nat.mul_assoc (first/T+1)]
  _≤(first/T+1)*V:=Nat.mul_le_mul_left _ (Nat.le_trans (Nat.mul_le_mul_right _ (Nat.le_add_right _ _)) hV)
theorem kn_f{U p V T S first third v0:Nat}(hU:(first*4294967296+third)*p≤U)(hV:V=(T*4294967296+S)*p+v0)(hv:v0<p)(hlt:U<V*4294967296):first≤T*4294967296+S:=by
 rcases Nat.lt_or_ge (T*4294967296+S) first with h|h
 ·exfalso
  have h1:(T*4294967296+S+1)*p≤first*p:=Nat.mul_le_mul_right p h
  rw[Nat.add_mul _ 1,Nat.one_mul] at h1
  rw[Nat.add_mul,Nat.mul_right_comm] at hU
  have:0≤third*p:=Nat.zero_le _
  omega
 ·exact h
theorem kn_dec{U p V T S first third g r:Nat}(hU:U<(first*4294967296+third+1)*p)(hV:(T*4294967296+S)*p≤V)(hg:first=g*T+r)(hc:r*4294967296+third<g*S):U<g*V:=by
 refine Nat.lt_of_lt_of_le hU (Nat.le_trans (Nat.mul_le_mul_right p (m:=g*(T*4294967296+S)) ?_) ?_)
 ·rw[Nat.mul_add,←Nat.mul_assoc,hg,Nat.add_mul];omega
 ·rw[Nat.mul_assoc];exact Nat.mul_le_mul_left _ hV
theorem kn_hi{U p V T S first third g r v0:Nat}(hU:(first*4294967296+third)*p≤U)(hV:V=(T*4294967296+S)*p+v0)(hv:v0<p)(hT:0<T)(hg:first=g*T+r)(hgB:g<4294967296)(hc:g*S≤r*4294967296+third):g*V<U+V:=by
 have h1:g*((T*4294967296+S)*p)≤U:=by
  rw[←Nat.mul_assoc]
  refine Nat.le_trans (Nat.mul_le_mul_right p ?_) hU
  rw[Nat.mul_add,←Nat.mul_assoc,hg,Nat.add_mul];omega
 have h2:g*v0≤4294967295*v0:=Nat.mul_le_mul_right _ (by omega)
 have h3:4294967296*p≤V:=by
  rw[hV]
  refine Nat.le_trans (Nat.mul_le_mul_right p ?_) (Nat.le_add_right _ _)
  omega
 have h4:g*V=g*((T*4294967296+S)*p)+g*v0:=by rw[←Nat.mul_add,←hV]
 omega
theorem kn_rest{U V R g:Nat}(h:U<(g+1)*V)(hr:R+g*V=U):R<V:=by
 rw[Nat.add_mul,Nat.one_mul] at h
 omega
theorem kn_back{U V R R' g w M:Nat}(h2:g*V<U+V)(hr:R+g*V=U+M)(hb:R'+w*M=R+V)(hR:R<M)(hR':R'<M)(hw:w≤1)(hg:0<g):R'+(g-1)*V=U∧R'<V:=by
 have hgv:g*V=(g-1)*V+V:=by
  conv=>lhs;rw[show g=(g-1)+1 by omega,Nat.add_mul,Nat.one_mul]
 have:w=1:=by
  rcases Nat.lt_or_ge w 1 with h|h
  ·have:w=0:=by omega
   subst this
   omega
  ·omega
 subst this
 omega
theorem dv_dropS(us:List Nat)(i:Nat):dv (us.drop i)=us.getD i 0+4294967296*dv (us.drop (i+1)):=by
 rcases Nat.lt_or_ge i us.length with h|h
 ·rw[List.drop_eq_getElem_cons h];simp[dv,List.getD,List.getElem?_eq_getElem h]
 ·rw[List.drop_of_length_le h,List.drop_of_length_le (by omega)]
  simp[dv,List.getElem?_eq_none h,List.getD]
theorem dv_split'(us:List Nat)(i:Nat):dv us=dv (us.take i)+4294967296^i*dv (us.drop i):=by
 rcases Nat.lt_or_ge us.length i with h|h
 ·rw[List.take_of_length_le (by omega),List.drop_of_length_le (by omega)];simp[dv]
 ·exact dv_split us i h
theorem dv_take_lt{us:List Nat}(h:DOk us)(i:Nat):dv (us.take i)<4294967296^i:=by
 refine Nat.lt_of_lt_of_le (dv_lt (h.take i)) (Nat.pow_le_pow_right (by decide) ?_)
 simp[List.length_take];omega
theorem dv_drop0{us:List Nat}{i:Nat}(hd:dv us<4294967296^i):dv (us.drop i)=0:=by
 have h:=dv_split' us i
 rcases Nat.eq_zero_or_pos (dv (us.drop i)) with h0|h0
 ·exact h0
 ·have:=Nat.mul_le_mul_left (4294967296^i) h0
  omega
theorem ms_step{W W' U E p u x bo b c c1 g d:Nat}(hs:W'+p*u=W+p*x)(hw:W+E=U+(bo+c)*p)(hc:c1=c+g*d)(hx:x+(c1%4294967296+bo)=u+b*4294967296):
  W'+(E+g*d*p)=U+(b+c1/4294967296)*(p*4294967296):=by
 have h1:=congrArg (p* ·) hx
 simp only[Nat.mul_add] at h1
 have h2:p*c1=p*(c1%4294967296)+p*(c1/4294967296)*4294967296:=by
  rw[Nat.mul_assoc,←Nat.mul_add,Nat.mod_add_div']
 have h3:p*c1=p*c+p*(g*d):=by rw[hc,Nat.mul_add]
 rw[Nat.add_mul,Nat.mul_comm bo,Nat.mul_comm c] at hw
 rw[Nat.mul_comm (g*d),Nat.add_mul,←Nat.mul_assoc b,←Nat.mul_assoc (c1/4294967296),Nat.mul_comm b,Nat.mul_comm (c1/4294967296)]
 rw[←Nat.mul_assoc] at h1
 omega
theorem ms_last{W W' U E p u x bo b c:Nat}(hs:W'+p*u=W+p*x)(hw:W+E=U+(bo+c)*p)(hx:x+(c+bo)=u+b*4294967296):W'+E=U+b*(p*4294967296):=by
 have h1:=congrArg (p* ·) hx
 simp only[Nat.mul_add] at h1
 rw[Nat.add_mul,Nat.mul_comm bo,Nat.mul_comm c] at hw
 rw[←Nat.mul_assoc b,Nat.mul_comm b]
 rw[←Nat.mul_assoc] at h1
 omega
theorem ab_step{W W' R E p u d c:Nat}(hs:W'+p*u=W+p*((c+(u+d))%4294967296))(hw:W+c*p=R+E):W'+(c+(u+d))/4294967296*(p*4294967296)=R+(E+d*p):=by
 have h2:p*(c+(u+d))=p*((c+(u+d))%4294967296)+p*((c+(u+d))/4294967296)*4294967296:=by
  rw[Nat.mul_assoc,←Nat.mul_add,Nat.mod_add_div']
 rw[Nat.mul_add p c,Nat.mul_add p u] at h2
 rw[Nat.mul_comm c] at hw
 rw[Nat.mul_comm d,←Nat.mul_assoc,Nat.mul_comm _ p]
 omega
theorem ab_last{W W' R p u c:Nat}(hs:W'+p*u=W+p*((u+c)%4294967296))(hw:W+c*p=R):W'+(u+c)/4294967296*(p*4294967296)=R:=by
 have h2:p*(u+c)=p*((u+c)%4294967296)+p*((u+c)/4294967296)*4294967296:=by
  rw[Nat.mul_assoc,←Nat.mul_add,Nat.mod_add_div']
 rw[Nat.mul_add p u] at h2
 rw[Nat.mul_comm c] at hw
 rw[←Nat.mul_assoc,Nat.mul_comm _ p]
 omega
theorem head3{us:List Nat}(h:DOk us)(i:Nat)(hd:dv us<4294967296^(i+3)):
  dv us=((us.getD (i+2) 0*4294967296+us.getD (i+1) 0)*4294967296+us.getD i 0)*4294967296^i+dv (us.take i):=by
 have h0:=dv_drop0 hd
 rw[dv_split' us i,dv_dropS us i,dv_dropS us (i+1),dv_dropS us (i+2),h0,Nat.add_comm,Nat.mul_comm]
 congr 2
 omega
theorem head2{us:List Nat}(h:DOk us)(i:Nat)(hd:dv us<4294967296^(i+2)):
  dv us=(us.getD (i+1) 0*4294967296+us.getD i 0)*4294967296^i+dv (us.take i):=by
 have h0:=dv_drop0 hd
 rw[dv_split' us i,dv_dropS us i,dv_dropS us (i+1),h0,Nat.add_comm,Nat.mul_comm]
 congr 2
 omega
theorem dv_set_lt{us:List Nat}{k i d:Nat}(h:DOk us)(hd:d<4294967296)(hk:dv us<4294967296^k)(hi:i<k):dv (us.set i d)<4294967296^k:=by
 rw[dv_split' _ k,List.drop_set,if_pos hi,dv_drop0 hk,Nat.mul_zero,Nat.add_zero]
 exact dv_take_lt (h.set i hd) k
end Go.Sx
end

section
set_option maxRecDepth 100000
namespace Go.Sx
open Go Go.Proofs
theorem shr_digit(p k a1 a2 E:Nat)(hk:k<32)(h1:a1<4294967296)(hp:p=2^k):(a1+4294967296*(a2+4294967296*E))/p=(a1+a2*4294967296)/p%4294967296+4294967296*((a2+4294967296*E)/p):=by
 subst hp
 have hp0:0<(2:Nat)^k:=Nat.pow_pos (by omega)
 have hB:4294967296=2^(32-k)*2^k:=by rw[←Nat.pow_add,show 32-k+k=32 by omega]
 -- the quotient and the rest of the quotient by the base
 have hq:(a1+4294967296*(a2+4294967296*E))/2^k/4294967296=(a2+4294967296*E)/2^k:=by
  rw[Nat.div_div_eq_div_mul,Nat.mul_comm (2^k),←Nat.div_div_eq_div_mul,Nat.add_mul_div_left _ _ (by decide),Nat.div_eq_of_lt h1,Nat.zero_add]
 have hr:(a1+4294967296*(a2+4294967296*E))/2^k%4294967296=(a1+a2*4294967296)/2^k%4294967296:=by
  have e1:a1+4294967296*(a2+4294967296*E)=(a1+a2*4294967296)+2^k*(2^(32-k)*(4294967296*E)):=by
   rw[←Nat.mul_assoc (2^k),Nat.mul_comm (2^k) (2^(32-k)),←hB]
   omega
  rw[e1,Nat.add_mul_div_left _ _ hp0]
  rw[show 2^(32-k)*(4294967296*E)=4294967296*(2^(32-k)*E) by rw[Nat.mul_left_comm]]
  rw[Nat.add_mul_mod_self_left]
 have h:=Nat.mod_add_div ((a1+4294967296*(a2+4294967296*E))/2^k) 4294967296
 rw[hq,hr] at h
 exact h.symm
theorem dv_drop(a:List Nat)(i:Nat):dv (a.drop i)=a.getD i 0+4294967296*dv (a.drop (i+1)):=by
 by_cases h:i<a.length
 ·rw[List.drop_eq_getElem_cons h,List.getD_eq_getElem?_getD,List.getElem?_eq_getElem h];rfl
 ·rw[List.drop_of_length_le (by omega),List.drop_of_length_le (by omega),getD_ge (by omega)];rfl
theorem shr_step{a:List Nat}(ha:DOk a)(k i:Nat)(hk:k<32):dv (a.drop i)/2^k=(a.getD i 0+a.getD (i+1) 0*4294967296)/2^k%4294967296+4294967296*(dv (a.drop (i+1))/2^k):=by
 rw[dv_drop a i,dv_drop a (i+1)]
 exact shr_digit _ k _ _ _ hk (ha.get i) rfl
set_option maxHeartbeats 1000000 in
theorem nat_Shr{A G:Gh}{x:SV}{ds:List Nat}{k kk:Nat}(hx:IsD A x ds)[GL A G](hk32:k<32)(hk:dv ds/2^k<2^kk)(hb:ds.length≤1125899906842):
  Fn Tryz.prog 297 [x.v, .int .u64 (k:Int)] G (fun v G'=> ∃z:SV,v=z.v∧IsN kk G' z (dv ds/2^k)):=by
 have htl:=trimD_len ds
 have hcall:=fun G1 (_:GL A G1)=>nat_trim (G:=G1) hx (by omega)
 have hxt:=hx.trim
 rw[←dv_trimD ds] at hk⊢
 generalize trimD ds=a at*
 have hok:=hxt.ok
 refine Fn.intro Tryz.func297 J J Tryz.ntmps297 rfl ?_
 intro C _ _
 refine sR<|sa J J<|zE<|sR<|sm J J<|?_
 refine sc (zC J J (hcall _ inferInstance) rfl ?_)
 rintro _ G1 _ rfl
 refine sa J J<|zE<|st_seq<|sR<|sm J J<|sy (yd_quoU J J (by omega) (by omega) (by decide)) rfl<|sm J J<|slen J J<|sy (yd_toU64 rfl) rfl<|?_
 rw[show(k:Int)/32=0 by omega]
 refine sy (yd_geq J J) rfl<|zE<|?_
 refine st_condP rfl (fun hc=>?_) (fun hc=>?_) -- slot 17
 ·refine sR<|sa J J<|zE<|st_ret<|?_
  have:a=[]:=List.eq_nil_of_length_eq_zero (by omega)
  subst this
  refine zD (.tmp rfl .nil) ⟨⟨none,0,0⟩,rfl,?_⟩
  have e0:dv []/2^k=0:=by simp[dv]
  rw[e0]
  exact⟨by unfold dg;exact .nil _,Nat.pow_pos (by omega)⟩
 refine zK<|sR<|sm J J<|sy (yd_quoU J J (by omega) (by omega) (by decide)) rfl<|sy (yd_toI64 rfl) rfl<|sm J J<|sy (yd_remU J J (by omega) (by decide)) rfl<|?_
 rw[show(k:Int)/32=0 by omega,show(k:Int)%32=k by omega]
 refine sa J J<|sa J J<|zE<|sR<|sm J J<|slen J J<|sm J J<|sy (yd_sub64 J J) rfl<|?_
 refine sc (ch_make J J (by omega) (by omega) (by omega) (by rfl) rfl ?_)
 intro b2
 rw[zeros_dI,show((a.length:Int)-0).toNat=a.length by omega]
 refine sa J J<|zE<|st_seq<|sR<|sm J J<|slen J J<|sm J J<|zE<|st_block<|?_
 refine st_loop (X:=NatShift) (fun q=>[(30, .int .i64 q.i),(29, .int .i64 a.length),(0, .slice x.a a.length x.c),(5, .int .i64 0),(7, .slice (some ⟨b2,0,none⟩) a.length a.length),(6, .int .u64 k)])
  (fun q=>[⟨b2,q.ws.map dI,279,true⟩])
  (fun q _=>q.i≤a.length∧q.ws.length=a.length∧DOk q.ws∧dv a/2^k=dv (q.ws.take q.i)+4294967296^q.i*(dv (a.drop q.i)/2^k)) (fun q=>a.length-q.i) ⟨List.replicate a.length 0,0⟩
  ⟨Nat.zero_le _,by simp, .replicate _,by simp[dv]⟩ (.cons rfl (.cons rfl (.cons rfl (.cons rfl (.cons rfl (.cons rfl .nil)))))) rfl ?_
 rintro ⟨ws,i⟩ Gy _ ⟨hia,hwl,hwo,hinv⟩
 simp only[] at hia hwl hwo hinv⊢
 refine sR<|sy (yd_lss J J) rfl<|zE<|st_seq<|?_
 refine st_condE rfl (fun hc=>?_) (fun hc=>?_) -- slot 31
 ·have hin:i=a.length:=by omega
  refine st_exit<|st_te<|st_te<|st_inBlock_eq<|sR<|sm J J<|?_
  refine st_freeze b2 (.hd ..) (fun G3 _ hgb=>?_)
  have hD:IsD G3 ⟨some ⟨b2,0,none⟩,a.length,a.length⟩ ws:= .of_block hwo hgb.h hwl.symm (Nat.le_refl _) (by rw[List.take_of_length_le (by simp)])
  have hdv:dv a/2^k=dv ws:=by
   rw[hinv,hin,List.take_of_length_le (by omega),List.drop_length]
   simp[dv]
  refine sc (zC J J (nat_trim hD (by omega)) rfl ?_)
  rintro _ G4 _ rfl
  refine sa J J<|zE<|st_ret<|?_
  refine zD (.tmp rfl .nil) ⟨⟨some ⟨b2,0,none⟩,(trimD ws).length,a.length⟩,rfl,?_⟩
  have h3:=hD.trim.up (G:=G4)
  rw[hdv] at hk⊢
  exact⟨by rw[dg_trim hwo];exact h3,hk⟩
 have hia':i<a.length:=by omega
 have hga:=hok.get i
 have hga2:=hok.get (i+1)
 refine zK<|st_seq<|st_block<|sR<|sm J J<|sa J J<|zE<|sR<|sm J J<|sm J J<|sm J J<|sy (yd_add64 J J) rfl<|?_
 refine sy (yd_ixD (z:=⟨x.a,a.length,x.c⟩) hxt J J (by omega) (by show((i:Int)+0)<(a.length:Nat);omega)) rfl<|?_
 rw[show((i:Int)+0).toNat=i by omega]
 refine sy (yd_ldD hxt rfl (by omega)) rfl<|sy (yd_toU64 rfl) rfl<|sa J J<|zE<|?_
 refine st_cut Unit (fun _=>[(30, .int .i64 i),(8, .int .i64 i),(29, .int .i64 a.length),(0, .slice x.a a.length x.c),(5, .int .i64 0),(7, .slice (some ⟨b2,0,none⟩) a.length a.length),(6, .int .u64 k),(9, .int .u64 ((a.getD i 0+a.getD (i+1) 0*2^32:Nat):Int))]) (fun _=>[⟨b2,ws.map dI,279,true⟩]) (fun _ _=>True) ?_ ?_
 ·refine sR<|sm J J<|sm J J<|sy (yd_add64 J J) rfl<|sy (yd_add64 J J) rfl<|sm J J<|slen J J<|sy (yd_lss J J) rfl<|?_
  refine zE<|?_
  refine st_condP rfl (fun hc2=>?_) (fun hc2=>?_) -- slot 46
  ·refine st_region<|sm J J<|sm J J<|sm J J<|sm J J<|sy (yd_add64 J J) rfl<|sy (yd_add64 J J) rfl<|sy (yd_ixD (z:=⟨x.a,a.length,x.c⟩) hxt J J (by omega) (by show((i:Int)+0+1)<(a.length:Nat);omega)) rfl<|?_
   rw[show((i:Int)+0+1).toNat=i+1 by omega]
   refine sy (yd_ldD hxt rfl (by omega)) rfl<|sy (yd_toU64 rfl) rfl<|sy (yd_shl J J (by decide)) rfl<|?_
   rw[shl_u64 (a.getD (i+1) 0) 32 (by decide) (by omega) rfl]
   refine sy (yd_int J J (or_add (a.getD i 0) (a.getD (i+1) 0) 32 (by omega) (by omega))) rfl<|sa J J<|zE<|?_
   exact st_at () trivial (.cons rfl (.cons rfl (.cons rfl (.cons rfl (.cons rfl (.cons rfl (.cons rfl (.cons rfl .nil)))))))) rfl
  refine zK<|?_
  have h0:a.getD (i+1) 0=0:=getD_ge (by omega)
  exact st_at () trivial (.cons rfl (.cons rfl (.cons rfl (.cons rfl (.cons rfl (.cons rfl (.cons rfl (.cons (by rw[h0,Nat.zero_mul,Nat.add_zero];rfl) .nil)))))))) rfl
 rintro _ Gz _ _
 refine st_region<|sm J J<|sm J J<|sm J J<|sm J J<|sy (yd_shr J J (by omega)) rfl<|?_
 rw[shr_u64 _ k (by omega) (Int.toNat_natCast k)]
 refine sy (yd_toU32 rfl) rfl<|sy (yd_ixO J J (by omega) (by omega)) rfl<|?_
 rw[Int.toNat_natCast]
 refine sc (ch_storeD (d:=(a.getD i 0+a.getD (i+1) 0*2^32)/2^k%4294967296) J J (by rw[Int.natCast_emod];rfl) (.hd ..) (by omega) rfl ?_)
 refine zE<|st_region<|sy (yd_add64 J J) rfl<|sm J J<|zE<|?_
 refine st_again ⟨ws.set i ((a.getD i 0+a.getD (i+1) 0*2^32)/2^k%4294967296),i+1⟩ ⟨by show i+1≤_;omega,by simp[hwl],hwo.set _ (Nat.mod_lt _ (by decide)),?_⟩ (by show a.length-(i+1)<a.length-i;omega) (.cons rfl (.cons rfl (.cons rfl (.cons rfl (.cons rfl (.cons rfl .nil)))))) rfl
 show dv a/2^k=dv ((ws.set i ((a.getD i 0+a.getD (i+1) 0*2^32)/2^k%4294967296)).take (i+1))+4294967296^(i+1)*(dv (a.drop (i+1))/2^k)
 rw[hinv,dv_set_take (by omega),shr_step hok k i hk32,powB i,Nat.mul_add,Nat.mul_assoc,Nat.add_assoc]
end Go.Sx
end

section
namespace Go.Sx
open Go
section
variable {P:Program} {C:Ctx} {n:Nat} {fr:Fr} {own:List Own} {G:Gh}
theorem st_scope{c:Code}{Q:Exit→Act→World→Prop}(h:St C n fr own G (c.wp P (Exit.noGoto Q))):St C n fr own G ((Code.scope c).wp P Q):=
 fun a w rl=>wp_scope_straight (h a w rl)
theorem st_label{l:Nat}{Q:Exit→Act→World→Prop}(h:St C n fr own G (Q .normal)):St C n fr own G ((Code.label l).wp P Q):=
 fun a w rl=>wp_label (h a w rl)
def notGoto:Exit→Bool
 | .goto _=>false
 |_=>true
end
end Go.Sx
end
