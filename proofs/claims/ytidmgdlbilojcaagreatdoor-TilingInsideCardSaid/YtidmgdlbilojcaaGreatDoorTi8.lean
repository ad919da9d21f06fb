import Derived.Test.YtidmgdlbilojcaaGreatDoorTi7
import Derived.Shelf.Small.Bits
import Derived.Shelf.Strconv.Itoa0
import Derived.Shelf.Bits.Mul64
import Derived.Test.YtidmgdlbilojcaaGreatDoorProg
set_option linter.unusedSimpArgs false
set_option maxHeartbeats 1000000
set_option maxRecDepth 100000
set_option linter.unusedVariables false
section
namespace Go.Sx
open Go Go.Proofs Tryz
theorem arC{ds:List Nat}{k:Nat}(hk:k<ds.length)(h:trimD ds=trimD (ds.take (k+1)))(h0:ds.getD k 0=0):trimD ds=trimD (ds.take k):=by
 rw[h,fR hk]
 have:ds[k]=0:=by rw[aX,aQ hk] at h0;simpa using h0
 rw[this,ai4]
theorem art{ds:List Nat}{k:Nat}(hk:k<ds.length)(h:trimD ds=trimD (ds.take (k+1)))(h0:ds.getD k 0≠0):trimD ds=ds.take (k+1):=by
 rw[h,fR hk]
 have:ds[k]≠0:=by rw[aX,aQ hk] at h0;simpa using h0
 exact ahU this
theorem aa2{A G:Gh}{x:SV}{ds:List Nat}(hx:IsD A x ds)[GL A G](hb:ds.length≤1125899906842624):Fn prog 218 [x.v] G (fun v _=>v= .slice x.a (trimD ds).length x.c):=by
 have hlen:=hx.len
 have hcap:=hx.sl.cap
 refine Fn.intro func218 J J ntmps218 rfl ?_
 intro C _ _
 refine sR<|sa J J<|zE<|aan<|aat<|?_
 refine acm (X:=Nat) (fun k=>[(0, .slice x.a k x.c)]) (fun _=>[]) (fun k _=>k≤ds.length∧trimD ds=trimD (ds.take k)) (fun k=>k) ds.length ⟨aM _,by simp⟩ (hlen▸ .cons rfl .nil) rfl ?_
 rintro k Gx _ ⟨hk,ht⟩
 refine aan<|sR<|sm J J<|ads J J<|sy (ahc J J) rfl<|sm J J<|?_
 refine aci 6 rfl (fun hg=>?_) (fun hg=>?_)
 ·have hk1:k-1<ds.length:=by omega
  have hkt:((k:Int)-1).toNat=k-1:=by omega
  have hk2:k=k-1+1:=by omega
  refine syg J J (aaQ rfl) rfl<|syg J J (aaQ rfl) rfl<|syg J J (aew rfl) rfl<|syg J J (aba J J) rfl<|?_
  refine syg J J (ab3 (z:=⟨x.a,k,x.c⟩) (hx.take k hk) J J (by omega) (by show _<(k:Int);omega)) rfl<|syg J J (ab2 hx rfl (by omega)) rfl<|syg J J (ab9 J J) rfl<|sy (ac9 J J) rfl<|zE<|?_
  rw[hkt]
  refine abC rfl (fun hc=>?_) (fun hc=>?_) -- slot 14
  ·refine abI<|abY<|abY<|aau<|sR<|sm J J<|sa J J<|zE<|aaH<|?_
   have hs:=art hk1 (hk2▸ht) (fun e=>hc (by rw[e];rfl))
   refine zD (.tmp rfl .nil) ?_
   rw[hs,←hk2]
   simp[ab0,hk]
  refine zK<|aat<|aao<|sm J J<|sm J J<|ads J J<|sy (aba J J) rfl<|sy (ac6 J J (by omega) (by omega)) rfl<|?_
  refine sa J J<|zE<|?_
  exact aa6 (k-1) ⟨by omega,arC hk1 (hk2▸ht) (by omega)⟩ (by omega) (.cons (by rw[←hkt];rfl) .nil) rfl
 refine ss J J J J<|ss J J J J<|ss J J J J<|ss J J J J<|ss J J J J<|ss J J J J<|?_
 refine ss J J J J<|sy (abD J J) rfl<|zE<|agW rfl<|abI<|abY<|abY<|aau<|sR<|sm J J<|sa J J<|zE<|aaH<|?_
 have hk0:k=0:=by omega
 subst hk0
 refine zD (.tmp rfl .nil) ?_
 rw[ht]
 rfl
theorem arZ{A G:Gh}{x:SV}{ds:List Nat}(hx:IsD A x ds)[GL A G](hb:ds.length≤1125899906842624):Fn prog 265 [x.v] G (fun v _=>v= .bool (decide (Nrm ds))):=by
 have hlen:=hx.len
 refine Fn.intro func265 J J ntmps265 rfl ?_
 intro C _ _
 refine sR<|sa J J<|zE<|sR<|sm J J<|ads J J<|sy (ab9 J J) rfl<|sm J J<|?_
 refine aci 6 rfl (fun hg=>?_) (fun hg=>?_)
 ·refine ss J J J J<|ss J J J J<|ss J J J J<|ss J J J J<|ss J J J J<|ss J J J J<|ss J J J J<|sy (ac9 J J) rfl<|sa J J<|?_
  refine zE<|aaH<|?_
  refine zD (.tmp rfl .nil) ?_
  have:ds=[]:=bS (by omega)
  subst this
  simp[ab0,Nrm]
 have hne:0<ds.length:=by omega
 have hkt:((x.n:Int)-1).toNat=ds.length-1:=by omega
 refine syg J J (aaQ rfl) rfl<|syg J J (aaQ rfl) rfl<|syg J J (aew rfl) rfl<|syg J J (aba J J) rfl<|syg J J (ab3 hx J J (by omega) (by omega)) rfl<|?_
 refine syg J J (ab2 hx rfl (by omega)) rfl<|syg J J (aia J J) rfl<|sy (abD J J) rfl<|sa J J<|zE<|aaH<|?_
 refine zD (.tmp rfl .nil) ?_
 rw[hkt]
 simp only[ab0,Value.bool.injEq,decide_eq_decide,Nrm,lK,aX,aQ (show ds.length-1<ds.length by omega),lV,ne_eq,Option.some.injEq]
 exact not_congr (by omega)
theorem aBU(ds:List Nat): ∀v∈ds.map dI,flat v=true:=fun v hv=>by
 obtain⟨d,_,rfl⟩:=bJ.1 hv;rfl
theorem amB{A G:Gh}{x:SV}{ds:List Nat}(hx:IsD A x ds)[GL A G](hb:ds.length≤1125899906842):Fn prog 219 [x.v] G (fun v G'=> ∃z:SV,v=z.v∧IsD G' z ds):=by
 have hlen:=hx.len
 refine Fn.intro func219 J J ntmps219 rfl ?_
 intro C _ _
 refine sR<|sa J J<|zE<|aan<|sR<|sm J J<|sy (ayt J J) rfl<|zE<|?_
 refine awT rfl (fun hc=>?_) (fun hc=>?_)
 ·refine sR<|sa J J<|zE<|aaH<|?_
  refine zD (.tmp rfl .nil) ⟨⟨none,0,0⟩,rfl,?_⟩
  rcases hx.sl.mem with h|⟨b,off,cs,ha,_⟩
  ·have:ds=[]:=by simpa using h
   subst this;exact .nil _
  ·rw[ha] at hc;cases hc
 refine zK<|sR<|?_
 refine sc (anf rfl ?_)
 intro b1
 refine sm J J<|?_
 refine sc (agS (xs:=[]) (rest:=[]) (ys:=ds.map dI) J J (.hd ..) J J (aM _) (aEi hx) (by simp[hlen]) (aBU ds) (by decide) (by omega) J J ?_)
 intro b cap rest h1 h2
 refine sa J J<|zE<|acr b (.hd ..) (fun G' _ hgb=>?_)
 refine aaH<|?_
 refine zD (.tmp rfl .nil) ⟨⟨some ⟨b,0,none⟩,x.n,cap⟩,by simp[ab0,SV.v],?_⟩
 exact .of_block hx.ok hgb.h hlen (by omega) (by simp)
theorem amr{A G:Gh}{x:SV}{ds:List Nat}{k:Nat}(hx:IsD A x ds)[GL A G](hk:dv ds<2^k)(hb:ds.length≤1125899906842):Fn prog 164 [x.v] G (fun v G'=> ∃z:SV,v=z.v∧IsN k G' z (dv ds)):=by
 have htl:=abw ds
 refine Fn.intro func164 J J ntmps164 rfl ?_
 intro C _ _
 refine sR<|sa J J<|zE<|sR<|sm J J<|?_
 refine sc (zC J J (aa2 hx (by omega)) rfl ?_)
 rintro _ G1 _ rfl
 refine sc (zC J J (amB hx.trim (by omega)) rfl ?_)
 rintro _ G2 _ ⟨z,rfl,hz⟩
 refine sa J J<|zE<|aaH<|?_
 refine zD (.tmp rfl .nil) ⟨z,rfl,?_⟩
 exact⟨by rw[adv hx.ok];exact hz,hk⟩
end Go.Sx
end
section
namespace Go.Proofs
open Go.Shelf
def Tryz.lays128_ren:Go.Shelf.Ren:=⟨fun|128=>274|n=>n,fun|51=>215|3=>3|4=>4|46=>216|5=>5|9=>9|n=>n,fun|n=>n⟩
def Tryz.lays125_ren:Go.Shelf.Ren:=⟨fun|125=>246|128=>274|129=>292|n=>n,fun|46=>216|3=>3|51=>215|53=>214|4=>4|5=>5|9=>9|n=>n,fun|n=>n⟩
def Tryz.lays133_ren:Go.Shelf.Ren:=⟨fun|133=>231|128=>274|n=>n,fun|51=>215|3=>3|4=>4|46=>216|5=>5|9=>9|n=>n,fun|n=>n⟩
theorem Tryz.lays133:Go.Proofs.Lays.n133 Tryz.prog Tryz.lays133_ren:={
 mixed:=by kernel_rfl
 f128:=Tryz.func274.trans (congrArg some (by kernel_rfl))
 f133:=Tryz.func231.trans (congrArg some (by kernel_rfl))
 t3:=Tryz.underlying3
 a3:=Tryz.isAgg3
 z3:=Tryz.sizeOf3
 v3:=Tryz.zeroValue3
 t4:=Tryz.underlying4
 a4:=Tryz.isAgg4
 z4:=Tryz.sizeOf4
 v4:=Tryz.zeroValue4
 t5:=Tryz.underlying5
 a5:=Tryz.isAgg5
 z5:=Tryz.sizeOf5
 v5:=Tryz.zeroValue5
 t9:=Tryz.underlying9
 a9:=Tryz.isAgg9
 z9:=Tryz.sizeOf9
 v9:=Tryz.zeroValue9
 t46:=Tryz.underlying216
 a46:=Tryz.isAgg216
 z46:=Tryz.sizeOf216
 v46:=Tryz.zeroValue216
 t51:=Tryz.underlying215
 a51:=Tryz.isAgg215
 z51:=Tryz.sizeOf215
 v51:=Tryz.zeroValue215}
theorem Tryz.bits_LeadingZeros32(x:Int)(w:World)(h0:0≤x)(h1:x≤4294967295):
  Calls Tryz.prog 231 #[.int .u32 x] w fun e w'=>e= .returned (.int .i64 (32-(Lib.bitLen x.toNat:Int)))∧w'=w:=Any.bits_LeadingZeros32 Tryz.lays133 x w h0 h1
def Tryz.lays129_ren:Go.Shelf.Ren:=⟨fun|129=>292|n=>n,fun|53=>214|3=>3|4=>4|46=>216|5=>5|9=>9|n=>n,fun|n=>n⟩
def Tryz.lays264_ren:Go.Shelf.Ren:=⟨fun|264=>212|n=>n,fun|53=>214|46=>216|n=>n,fun|n=>n⟩
theorem Tryz.lays264:Go.Proofs.Lays.n264 Tryz.prog Tryz.lays264_ren:={
 mixed:=by kernel_rfl
 f264:=Tryz.func212.trans (congrArg some (by kernel_rfl))
 t46:=Tryz.underlying216
 a46:=Tryz.isAgg216
 z46:=Tryz.sizeOf216
 v46:=Tryz.zeroValue216
 t53:=Tryz.underlying214
 a53:=Tryz.isAgg214
 z53:=Tryz.sizeOf214
 v53:=Tryz.zeroValue214}
open Go.RowKit Go.Lib in
theorem Tryz.bits_Mul64(x y:Nat)(hx:x<18446744073709551616)(hy:y<18446744073709551616)(w:World):
  Calls Tryz.prog 212 #[.int .u64 x, .int .u64 y] w fun e w'=>e= .returned (.tuple #[.int .u64 ((x*y/18446744073709551616:Nat):Int), .int .u64 ((x*y%18446744073709551616:Nat):Int)])∧w'=w:=Any.bits_Mul64 Tryz.lays264 x y hx hy w
end Go.Proofs
end
section
namespace Go.Sx
open Go Go.Proofs Tryz
def bl(x:Nat):Nat:=if x=0 then 0 else Nat.log2 x+1
theorem awO(x:Nat):x<2^bl x:=by
 unfold bl
 split
 ·rename_i h;subst h;decide
 ·exact Nat.lt_log2_self
theorem ahx{x k:Nat}:bl x≤k↔x<2^k:=by
 constructor
 ·intro h;exact dX (awO x) (bT (by omega) h)
 ·intro h
  unfold bl
  split
  ·omega
  ·rename_i h0
   have:=(Nat.log2_lt h0).2 h
   omega
theorem aBo{x:Nat}(h:x≠0):bl x=1+bl (x/2):=by
 have h1: ∀k,bl x≤k+1↔bl (x/2)≤k:=fun k=>by
  rw[ahx,ahx,fZ];omega
 have h2:bl x≠0:=fun e=>by
  have:=awO x;rw[e] at this;simp at this;exact h this
 have h3:=(h1 (bl (x/2))).2 (aM _)
 have h4:=(h1 (bl x-1)).1 (by omega)
 omega
theorem ah6: ∀(f x:Nat),x<2^f→Lib.bitLenAux f x=bl x
 |0,x,h=>by
  have:x=0:=by simpa using h
  subst this;rfl
 |f+1,x,h=>by
  unfold Lib.bitLenAux
  split
  ·rename_i h0;subst h0;rfl
  ·rename_i h0
   rw[ah6 f (x/2) (by rw[fZ] at h;omega),aBo h0]
theorem auE{x:Nat}(h:x<2^64):Lib.bitLen x=bl x:=ah6 64 x h
theorem axc{x k:Nat}(d:Nat)(h:x<2^k)(hd:d≠0):bl (x+2^k*d)=k+bl d:=by
 have h1: ∀j,bl (x+2^k*d)≤k+j↔bl d≤j:=fun j=>by
  rw[ahx,ahx,fV]
  constructor
  ·intro h'
   exact Nat.lt_of_mul_lt_mul_left (a:=2^k) (by omega)
  ·intro h'
   have:2^k*(d+1)≤2^k*2^j:=eY _ h'
   rw[dJ] at this
   omega
 have h2:k<bl (x+2^k*d):=by
  rcases iZ k (bl (x+2^k*d)) with h'|h'
  ·exact h'
  ·have:=ahx.1 h'
   have h3:2^k*1≤2^k*d:=eY _ (by omega)
   omega
 have h3:=(h1 (bl d)).2 (aM _)
 have h4:=(h1 (bl (x+2^k*d)-k)).1 (by omega)
 omega
theorem aGw{ds:List Nat}(h:DOk ds)(hn:Nrm ds)(hne:ds≠[]):bl (dv ds)=32*(ds.length-1)+bl (ds.getD (ds.length-1) 0):=by
 rcases rY ds with rfl|⟨l,d,rfl⟩
 ·exact absurd rfl hne
 ·rw[rU] at*
  have hd:d≠0:=fun e=>by subst e;simp[Nrm] at hn
  have hl:DOk l:=fun x hx=>h x (bU _ hx)
  have h1:=aey hl
  rw[aes]
  have h2:(4294967296:Nat)^l.length=2^(32*l.length):=by rw[pV]
  rw[h2] at h1⊢
  have h3:dv [d]=d:=by simp[dv]
  rw[h3,axc d h1 hd]
  have h4:(l++[d]).length-1=l.length:=by simp
  rw[h4,aX,gJ (aM _)]
  simp
theorem ajS{P:Program}{f:FuncId}{fn:Func}{c:Code}(h:P.funcs[f]? =some fn)(hb:fn.body=some c)(hn:(fn.name== "runtime.NumGoroutine")=false):acP P f:=⟨fn,h,hn,by rw[hb];rfl⟩
theorem aj5{G:Gh}{x:Nat}(hx:x<4294967296):Fn prog 231 [.int .u32 (x:Int)] G (fun v _=>v= .int .i64 (32-(bl x:Int))):=by
 have h:=Fn.of_calls (G:=G) (ajS func231 J J) (fun w=>Tryz.bits_LeadingZeros32 (x:Int) w (by omega) (by omega))
 rw[bK,auE (pT hx (by decide))] at h
 exact h
theorem afx{G:Gh}{u:Nat}(hu:u<18446744073709551616):Fn prog 165 [.int .u64 (u:Int)] G (fun v G'=> ∃z:SV,v=z.v∧IsN 64 G' z u):=by
 refine Fn.intro func165 J J ntmps165 rfl ?_
 intro C _ _
 refine sR<|sa J J<|zE<|sR<|sm J J<|sy (abm rfl) rfl<|sm J J<|?_
 refine sy (adJ J J (by decide)) rfl<|sy (abm rfl) rfl<|?_
 refine sc (alp (by rfl) (by rfl) (by rfl) (by rfl) rfl ?_)
 intro b1
 refine acr b1 (.hd ..) (fun G1 _ hgb=>?_)
 have h1:((u:Int)%4294967296)=((u%4294967296:Nat):Int):=by omega
 have h2:((u:Int).fdiv (2^min (32:Int).toNat IntKind.u64.bits)%4294967296)=((u/4294967296:Nat):Int):=by
  have:(2^min (32:Int).toNat IntKind.u64.bits:Int)=4294967296:=by decide
  rw[this,gV _ (by omega)]
  omega
 have hok:DOk [u%4294967296,u/4294967296]:= .cons (by omega) (.cons (by omega) .nil)
 have hd:IsD G1 ⟨some ⟨b1,0,none⟩,2,2⟩ [u%4294967296,u/4294967296]:= .of_block hok hgb.h rfl (aM _) (by rw[h1,h2];rfl)
 have hv:dv [u%4294967296,u/4294967296]=u:=by simp only[dv];omega
 refine sc (zC J J (aa2 hd (by simp)) rfl ?_)
 rintro _ G2 _ rfl
 refine sa J J<|zE<|aaH<|?_
 refine zD (.tmp rfl .nil) ⟨⟨some ⟨b1,0,none⟩,(trimD [u%4294967296,u/4294967296]).length,2⟩,rfl,?_⟩
 have:=hd.trim.up (G:=G2)
 rw[←adv hok,hv] at this
 exact⟨by rw[←adv hok,hv];exact this,dX hu (by decide)⟩
theorem ayV{P:Program}{t:TypeId}(a b k:Nat)(ha:a<2^k)(h:a+b*2^k<18446744073709551616)(w:World):(binOp .or t (.int .u64 (a:Int)) (.int .u64 ((b*2^k:Nat):Int))).run P w= .ok (.int .u64 ((a+b*2^k:Nat):Int)) w:=by
 have h1:(BitVec.ofInt 64 (a:Int) ||| BitVec.ofInt 64 ((b*2^k:Nat):Int)).toNat=a+b*2^k:=by
  rw[BitVec.toNat_or,BitVec.ofInt_natCast,BitVec.ofInt_natCast,BitVec.toNat_ofNat,BitVec.toNat_ofNat,dV (by omega),dV (by omega)]
  rw[←lW,Nat.or_comm,←lT ha,lW]
  omega
 have h2:IntKind.u64.wrap ((a+b*2^k:Nat):Int)=((a+b*2^k:Nat):Int):=by rw[ab6];omega
 simp only[binOp]
 show(Op.intBits .or .u64 (a:Int) ((b*2^k:Nat):Int)).run P w=_
 unfold Op.intBits
 show(pure (Value.int .u64 (IntKind.u64.wrap ((BitVec.ofInt 64 (a:Int) ||| BitVec.ofInt 64 ((b*2^k:Nat):Int)).toNat:Int))):Sem Value).run P w=_
 rw[h1,h2,run_pure]
theorem alD{A G:Gh}{x:SV}{ds:List Nat}(hx:IsD A x ds)[GL A G](hb:ds.length≤1125899906842624):Fn prog 204 [x.v] G (fun v _=>v= .tuple #[.int .u64 ((if dv ds<18446744073709551616 then dv ds else 0:Nat):Int), .bool (decide (dv ds<18446744073709551616))]):=by
 have htl:=abw ds
 have hdv:=abb ds
 have hok:=hx.ok.trimD
 have hnr:=Nrm.trimD ds
 have hxt:=hx.trim
 have hcall:=fun G1 (_:GL A G1)=>aa2 (G:=G1) hx (by omega)
 generalize trimD ds=es at*
 have hlen:=hxt.len
 rw[←hdv]
 have hbig:(if dv es<18446744073709551616 then dv es else 0)=if es.length≤2 then dv es else 0:=by
  by_cases h2:es.length≤2
  ·have h3:=aey hok
   have h4:(4294967296:Nat)^es.length≤4294967296^2:=bT (by omega) h2
   rw[if_pos h2,if_pos (by omega)]
  ·have h3:=af3 hnr (fun e=>by subst e;simp at h2)
   have h4:(4294967296:Nat)^2≤4294967296^(es.length-1):=bT (by omega) (by omega)
   rw[if_neg h2,if_neg (by omega)]
 have hbig2:decide (dv es<18446744073709551616)=decide (es.length≤2):=by
  rw[decide_eq_decide]
  by_cases h2:es.length≤2
  ·have h3:=aey hok
   have h4:(4294967296:Nat)^es.length≤4294967296^2:=bT (by omega) h2
   exact⟨fun _=>h2,fun _=>by omega⟩
  ·have h3:=af3 hnr (fun e=>by subst e;simp at h2)
   have h4:(4294967296:Nat)^2≤4294967296^(es.length-1):=bT (by omega) (by omega)
   exact⟨fun _=>by omega,fun h=>absurd h h2⟩
 rw[hbig,hbig2]
 refine Fn.intro func204 J J ntmps204 rfl ?_
 intro C _ _
 refine sR<|sa J J<|sa J J<|zE<|sR<|sm J J<|?_
 refine sc (zC J J (hcall _ inferInstance) rfl ?_)
 rintro _ G1 _ rfl
 refine sa J J<|zE<|aan<|sR<|sm J J<|ads J J<|sy (ahc J J) rfl<|zE<|?_
 refine aaE rfl (fun hc=>?_) (fun hc=>?_) -- slot 11
 ·refine sR<|sa J J<|sa J J<|zE<|aaH<|?_
  refine zD (.tmp rfl (.tmp rfl .nil)) ?_
  have: ¬es.length≤2:=by omega
  simp[ab0,this]
 have h2:es.length≤2:=by omega
 refine zK<|sR<|sa J J<|zE<|aan<|sR<|sm J J<|ads J J<|sm J J<|zE<|aat<|?_
 refine acm (X:=Nat) (fun k=>[(14, .int .i64 k),(13, .int .i64 es.length),(12, .slice x.a es.length x.c),(4, .int .u64 ((dv (es.take k):Nat):Int))]) (fun _=>[]) (fun k _=>k≤es.length) (fun k=>es.length-k) 0 (bX _) (.cons rfl (.cons rfl (.cons rfl (.cons rfl .nil)))) rfl ?_
 rintro k Gx _ hk
 refine sR<|sy (acu J J) rfl<|zE<|aan<|?_
 refine abC rfl (fun hc=>?_) (fun hc=>?_) -- slot 15
 ·refine abI<|abY<|abY<|aau<|sR<|sm J J<|sa J J<|sa J J<|zE<|aaH<|?_
  refine zD (.tmp rfl (.tmp rfl .nil)) ?_
  have hk':k=es.length:=by omega
  subst hk'
  simp[ab0,h2]
 have hk':k<es.length:=by omega
 have hdk:=hok.get k
 have hdt:=aey (hok.take k)
 rw[cJ,fM (by omega)] at hdt
 have hds:=aax es k
 have hd2:=aey (hok.take (k+1))
 rw[cJ,fM (by omega)] at hd2
 have hp2:(4294967296:Nat)^(k+1)≤4294967296^2:=bT (by omega) (by omega)
 have hpk:(4294967296:Nat)^k=2^(32*k):=by rw[pV]
 refine zK<|aan<|aat<|sR<|sm J J<|sy (ab3 (z:=⟨x.a,es.length,x.c⟩) hxt J J (by omega) (by show(k:Int)<(es.length:Nat);omega)) rfl<|sy (ab2 hxt rfl (by omega)) rfl<|sa J J<|sa J J<|zE<|aao<|?_
 refine sm J J<|sm J J<|sy (aaK rfl (by omega) (by rw[bK];omega)) rfl<|sm J J<|sy (aqD J J (by omega) (by omega)) rfl<|?_
 have hsh:IntKind.u64.wrap (((es.getD (k:Int).toNat 0:Nat):Int)*2^min ((32:Int)*(k:Int)).toNat IntKind.u64.bits)=((es.getD k 0*2^(32*k):Nat):Int):=by
  have e1:((32:Int)*(k:Int)).toNat=32*k:=by omega
  rw[e1,bK,fM (by show 32*k≤64;omega),ab6]
  have e2:((es.getD k 0:Nat):Int)*2^(32*k)=((es.getD k 0*2^(32*k):Nat):Int):=by push_cast;rfl
  rw[e2]
  have e3:es.getD k 0*2^(32*k)<18446744073709551616:=by rw[←hpk,bL];omega
  omega
 refine sy (ajU J J (by omega)) rfl<|?_
 rw[hsh]
 refine sy (aca J J (ayV (dv (es.take k)) (es.getD k 0) (32*k) (by rw[←hpk];exact hdt) (by rw[←hpk,bL];omega))) rfl<|sa J J<|zE<|aao<|sy (aas J J) rfl<|sm J J<|zE<|?_
 refine aa6 (k+1) (by omega) (by omega) (.cons rfl (.cons rfl (.cons rfl (.cons ?_ .nil)))) rfl
 rw[hds,hpk,bL (2^(32*k))]
 rfl
theorem av8{A G:Gh}{x:SV}{ds:List Nat}(hx:IsD A x ds)[GL A G](hb:ds.length≤1125899906842624):Fn prog 200 [x.v] G (fun v _=>v= .int .i64 ((bl (dv ds):Nat):Int)):=by
 have htl:=abw ds
 have hdv:=abb ds
 have hok:=hx.ok.trimD
 have hnr:=Nrm.trimD ds
 have hxt:=hx.trim
 have hcall:=fun G1 (_:GL A G1)=>aa2 (G:=G1) hx (by omega)
 generalize trimD ds=es at*
 have hlen:=hxt.len
 rw[←hdv]
 refine Fn.intro func200 J J ntmps200 rfl ?_
 intro C _ _
 refine sR<|sa J J<|zE<|sR<|sm J J<|?_
 refine sc (zC J J (hcall _ inferInstance) rfl ?_)
 rintro _ G1 _ rfl
 refine sa J J<|zE<|aan<|sR<|sm J J<|ads J J<|sy (ab9 J J) rfl<|zE<|?_
 refine aaE rfl (fun hc=>?_) (fun hc=>?_) -- slot 7
 ·refine sR<|sa J J<|zE<|aaH<|?_
  refine zD (.tmp rfl .nil) ?_
  have:es=[]:=bS (by omega)
  subst this
  rfl
 have hne:0<es.length:=by omega
 have hkt:((es.length:Int)-1).toNat=es.length-1:=by omega
 have hg:=hok.get (es.length-1)
 have hbl:bl (es.getD (es.length-1) 0)≤32:=ahx.2 (by omega)
 refine zK<|sR<|sm J J<|ads J J<|sy (aqD J J (by omega) (by omega)) rfl<|sm J J<|sm J J<|ads J J<|sy (aba J J) rfl<|?_
 refine sy (ab3 (z:=⟨x.a,es.length,x.c⟩) hxt J J (by omega) (by show _<((es.length:Nat):Int);omega)) rfl<|sy (ab2 hxt rfl (by omega)) rfl<|?_
 rw[hkt]
 refine sc (zC J J (aj5 hg) rfl ?_)
 rintro _ G2 _ rfl
 refine sy (aba J J) rfl<|sa J J<|zE<|aaH<|?_
 refine zD (.tmp rfl .nil) ?_
 rw[aGw hok hnr (fun e=>by subst e;simp at hne)]
 simp only[ab0,Value.int.injEq,true_and]
 omega
def ahC(a b:Nat):Int:=if a<b then-1 else if a=b then 0 else 1
theorem as3{A B G:Gh}{x y:SV}{ds es:List Nat}(hx:IsD A x ds)(hy:IsD B y es)[GL A G][GL B G](hb:ds.length≤1125899906842624)(hb2:es.length≤1125899906842624):
  Fn prog 250 [x.v,y.v] G (fun v _=>v= .int .i64 (ahC (dv ds) (dv es))):=by
 have htl:=abw ds
 have htl2:=abw es
 have hcall:=fun G1 (_:GL A G1)=>aa2 (G:=G1) hx (by omega)
 have hcall2:=fun G1 (_:GL B G1)=>aa2 (G:=G1) hy (by omega)
 have hxt:=hx.trim
 have hyt:=hy.trim
 have hok:=hx.ok.trimD
 have hok2:=hy.ok.trimD
 have hnr:=Nrm.trimD ds
 have hnr2:=Nrm.trimD es
 rw[←abb ds,←abb es]
 generalize trimD ds=a at*
 generalize trimD es=b at*
 refine Fn.intro func250 J J ntmps250 rfl ?_
 intro C _ _
 refine sR<|sa J J<|zE<|sR<|sm J J<|?_
 refine sc (zC J J (hcall _ inferInstance) rfl ?_)
 rintro _ G1 _ rfl
 refine sm J J<|?_
 refine sc (zC J J (hcall2 _ inferInstance) rfl ?_)
 rintro _ G2 _ rfl
 refine sa J J<|sa J J<|zE<|aan<|sR<|sm J J<|ads J J<|sm J J<|ads J J<|sy (aia J J) rfl<|zE<|?_
 refine aaE rfl (fun hc=>?_) (fun hc=>?_) -- slot 14
 ·refine aan<|sR<|sm J J<|ads J J<|sm J J<|ads J J<|sy (acu J J) rfl<|zE<|?_
  refine aaE rfl (fun hc2=>?_) (fun hc2=>?_) -- slot 19
  ·refine sR<|sa J J<|zE<|aaH<|?_
   refine zD (.tmp rfl .nil) ?_
   have:=acW hok hnr2 (by omega)
   simp[ab0,ahC,this]
  refine zK<|sR<|sa J J<|zE<|aaH<|?_
  refine zD (.tmp rfl .nil) ?_
  have:=acW hok2 hnr (by omega)
  have h1: ¬dv a<dv b:=by omega
  have h2: ¬dv a=dv b:=by omega
  simp[ab0,ahC,h1,h2]
 have hl:a.length=b.length:=by omega
 refine zK<|aan<|sR<|sm J J<|ads J J<|sy (aba J J) rfl<|sa J J<|zE<|aat<|?_
 refine acm (X:=Nat) (fun k=>[(5, .int .i64 (k-1)),(0, .slice x.a a.length x.c),(1, .slice y.a b.length y.c)]) (fun _=>[]) (fun k _=>k≤a.length∧a.drop k=b.drop k) (fun k=>k) a.length ⟨aM _,by rw[dR,hl,dR]⟩ (.cons rfl (.cons rfl (.cons rfl .nil))) rfl ?_
 rintro k Gx _ ⟨hk,hd⟩
 refine aan<|sR<|sm J J<|sy (ahY J J) rfl<|zE<|?_
 refine abC rfl (fun hc=>?_) (fun hc=>?_) -- slot 24
 ·refine abI<|abY<|abY<|aau<|sR<|sa J J<|zE<|aaH<|?_
  refine zD (.tmp rfl .nil) ?_
  have:k=0:=by omega
  subst this
  have hab:a=b:=by simpa using hd
  subst hab
  simp[ab0,ahC]
 have hk1:0<k:=by omega
 have hkt:((k:Int)-1).toNat=k-1:=by omega
 have hga:=hok.get (k-1)
 have hgb:=hok2.get (k-1)
 have hk2:k-1+1=k:=by omega
 refine zK<|aan<|aat<|aat<|aan<|dr (fun _=>false) [(0,true),(1,true),(2,true),(3,true),(4,true),(5,true),(6,true),(7,true),(8,true),(9,true)] follows (by kernel_rfl)<|?_
 refine dM J J J<|dM J J J<|dy rfl (fun _=>ab3 (z:=⟨x.a,a.length,x.c⟩) hxt J J (by omega) (by show _<((a.length:Nat):Int);omega)) J J<|dy rfl (fun _=>ab2 hxt rfl (by omega)) J J<|?_
 refine dM J J J<|dM J J J<|dy rfl (fun _=>ab3 (z:=⟨y.a,b.length,y.c⟩) hyt J J (by omega) (by show _<((b.length:Nat):Int);omega)) J J<|dy rfl (fun _=>ab2 hyt rfl (by omega)) J J<|?_
 refine dy rfl (fun _=>acu J J) J J<|dA J J J<|dn<|?_
 refine aaE rfl (fun hc2=>?_) (fun hc2=>?_) -- slot 27
 ·refine sR<|sa J J<|zE<|aaH<|?_
  refine zD (.tmp rfl .nil) ?_
  rw[hkt] at hc2
  have:=aqY hok hok2 (k-1) (by omega) (by omega) hl (by rw[hk2];exact hd) (by omega)
  simp[ab0,ahC,this]
 refine aan<|dr (fun _=>false) [(0,true),(1,true),(2,true),(3,true),(4,true),(5,true),(6,true),(7,true),(8,true),(9,true)] follows (by kernel_rfl)<|dM J J J<|?_
 refine dM J J J<|dy rfl (fun _=>ab3 (z:=⟨x.a,a.length,x.c⟩) hxt J J (by omega) (by show _<((a.length:Nat):Int);omega)) J J<|dy rfl (fun _=>ab2 hxt rfl (by omega)) J J<|dM J J J<|?_
 refine dM J J J<|dy rfl (fun _=>ab3 (z:=⟨y.a,b.length,y.c⟩) hyt J J (by omega) (by show _<((b.length:Nat):Int);omega)) J J<|dy rfl (fun _=>ab2 hyt rfl (by omega)) J J<|dy rfl (fun _=>ahc J J) J J<|?_
 refine dA J J J<|dn<|?_
 rw[hkt] at*
 refine aaE rfl (fun hc3=>?_) (fun hc3=>?_) -- slot 37
 ·refine sR<|sa J J<|zE<|aaH<|?_
  refine zD (.tmp rfl .nil) ?_
  have:=aqY hok2 hok (k-1) (by omega) (by omega) hl.symm (by rw[hk2];exact hd.symm) (by omega)
  have h1: ¬dv a<dv b:=by omega
  have h2: ¬dv a=dv b:=by omega
  simp[ab0,ahC,h1,h2]
 refine zK<|aao<|sm J J<|sy (aba J J) rfl<|sa J J<|zE<|?_
 refine aa6 (k-1) ⟨by omega,?_⟩ (by omega) (.cons (by rw[show((k-1:Nat):Int)=(k:Int)-1 by omega];rfl) (.cons rfl (.cons rfl .nil))) rfl
 have heq:a.getD (k-1) 0=b.getD (k-1) 0:=by omega
 rw[aX,aX,aQ (by omega),aQ (by omega)] at heq
 rw[bQ (by omega:k-1<a.length),bQ (by omega:k-1<b.length),hk2,hd]
 congr 1
theorem alu{ds:List Nat}{k:Nat}(h:ds.length≤k):ds.getD k 0=0:=by
 rw[aX,cN h];rfl
theorem alB(n k:Nat):(List.replicate n 0).getD k 0=0:=by
 rw[aX]
 by_cases h:k<n
 ·simp[h]
 ·rw[cN (by simpa using h)];rfl
theorem aDq{a b c:Nat}(ha:a<4294967296)(hb:b<4294967296)(hc:c≤1):(c+a+b)/4294967296≤1:=by omega
structure aE5 where
 ws:List Nat
 k:Nat
 c:Nat
theorem aBV{A B G:Gh}{x y:SV}{ds es:List Nat}{kk:Nat}(hx:IsD A x ds)(hy:IsD B y es)[GL A G][GL B G](hk:dv ds+dv es<2^kk)(hb:ds.length≤1125899906842)(hb2:es.length≤1125899906842):
  Fn prog 216 [x.v,y.v] G (fun v G'=> ∃z:SV,v=z.v∧IsN kk G' z (dv ds+dv es)):=by
 have hlen:=hx.len
 have hlen2:=hy.len
 refine Fn.intro func216 J J ntmps216 rfl ?_
 intro C _ _
 refine sR<|sa J J<|zE<|?_
 refine ane ((SV×List Nat)×(SV×List Nat)) (fun q=>[(0, .slice q.1.1.a q.1.1.n q.1.1.c),(1, .slice q.2.1.a q.2.1.n q.2.1.c)]) (fun _=>[])
  (fun q G=>IsD G q.1.1 q.1.2∧IsD G q.2.1 q.2.2∧dv q.1.2+dv q.2.2=dv ds+dv es∧q.2.2.length≤q.1.2.length∧q.1.2.length≤1125899906842) ?_ ?_
 ·refine sR<|sm J J<|ads J J<|sm J J<|ads J J<|sy (acu J J) rfl<|zE<|?_
  refine aaE rfl (fun hc=>?_) (fun hc=>?_) -- slot 13
  ·refine aao<|sm J J<|sm J J<|sa J J<|sa J J<|zE<|?_
   exact ajZ ((y,es),(x,ds)) ⟨hy.up,hx.up,by simp;omega,by simp;omega,by simp;omega⟩ (.cons rfl (.cons rfl .nil)) rfl
  refine zK<|?_
  exact ajZ ((x,ds),(y,es)) ⟨hx.up,hy.up,rfl,by simp;omega,by simp;omega⟩ (.cons rfl (.cons rfl .nil)) rfl
 rintro ⟨⟨x,a⟩,⟨y,b⟩⟩ Gx _ ⟨hx,hy,hsum,hle,hba⟩
 rw[←hsum] at hk⊢
 clear hlen hlen2 hsum
 have hlen:=hx.len
 have hlen2:=hy.len
 simp only[] at hx hy hle hba hlen hlen2 hk⊢
 refine sR<|sm J J<|ads J J<|sy (aas J J) rfl<|?_
 refine sc (ae0 J J (by omega) (by omega) (by omega) (by rfl) rfl ?_)
 intro b1
 rw[ad3,show((x.n:Int)+1).toNat=a.length+1 by omega]
 refine sa J J<|zE<|sR<|sa J J<|zE<|aan<|sR<|sm J J<|ads J J<|sm J J<|zE<|aat<|?_
 refine acm (X:=aE5) (fun q=>[(22, .int .i64 q.k),(21, .int .i64 x.n),(20, .slice x.a x.n x.c),(6, .int .u64 q.c),(0, .slice x.a x.n x.c),(1, .slice y.a y.n y.c),(5, .slice (some ⟨b1,0,none⟩) (a.length+1) (a.length+1))])
  (fun q=>[⟨b1,q.ws.map dI,215,true⟩])
  (fun q _=>q.k≤a.length∧q.ws.length=a.length+1∧DOk q.ws∧q.c≤1∧dv (q.ws.take q.k)+4294967296^q.k*q.c=dv (a.take q.k)+dv (b.take q.k)) (fun q=>a.length-q.k) ⟨List.replicate (a.length+1) 0,0,0⟩
  ⟨bX _,by simp, .replicate _,bX _,by simp[dv]⟩ (.cons rfl (.cons rfl (.cons rfl (.cons rfl (.cons rfl (.cons rfl (.cons rfl .nil))))))) rfl ?_
 rintro ⟨ws,k,c⟩ Gy _ ⟨hka,hwl,hwo,hc1,hinv⟩
 simp only[] at hka hwl hwo hc1 hinv⊢
 refine sR<|sy (acu J J) rfl<|zE<|aan<|?_
 refine abC rfl (fun hc=>?_) (fun hc=>?_) -- slot 23
 ·have hkn:k=a.length:=by omega
  refine abI<|abY<|abY<|aau<|sR<|sm J J<|sm J J<|ads J J<|sm J J<|sy (abm rfl) rfl<|?_
  refine sy (abp J J (by omega) (by omega)) rfl<|?_
  refine sc (aa9 (d:=c) J J (by omega) (.hd ..) (by omega) rfl ?_)
  rw[show(x.n:Int).toNat=a.length by omega]
  refine zE<|sR<|sm J J<|?_
  refine acr b1 (.hd ..) (fun G1 _ hgb=>?_)
  have hwo2:DOk (ws.set a.length c):=hwo.set _ (by omega)
  have hD:IsD G1 ⟨some ⟨b1,0,none⟩,a.length+1,a.length+1⟩ (ws.set a.length c):= .of_block hwo2 hgb.h (by simp[hwl]) (aM _) (by rw[aR (by simp)])
  have hdv:dv (ws.set a.length c)=dv a+dv b:=by
   have h1:=abj (ws:=ws) (k:=a.length) (d:=c) (by omega)
   rw[aR (by simp;omega)] at h1
   rw[h1,←hkn,hinv,hkn,aR (aM _),aR hle]
  refine sc (zC J J (aa2 hD (by simp;omega)) rfl ?_)
  rintro _ G2 _ rfl
  refine sa J J<|zE<|aaH<|?_
  refine zD (.tmp rfl .nil) ⟨⟨some ⟨b1,0,none⟩,(trimD (ws.set a.length c)).length,a.length+1⟩,rfl,?_⟩
  have h3:=hD.trim.up (G:=G2)
  rw[←hdv] at hk⊢
  exact⟨by rw[adv hwo2];exact h3,hk⟩
 have hka':k<a.length:=by omega
 have hga:=hx.ok.get k
 have hgb:=hy.ok.get k
 refine zK<|aan<|aat<|sR<|sm J J<|sy (ab3 hx J J (by omega) (by omega)) rfl<|sy (ab2 hx rfl (by omega)) rfl<|sa J J<|sa J J<|zE<|aan<|?_
 refine aao<|sm J J<|sm J J<|sy (aaK rfl (by omega) (by rw[bK];omega)) rfl<|sy (aee J J (by omega) (by rw[bK];omega)) rfl<|sa J J<|zE<|?_
 rw[bK]
 refine ane Unit (fun _=>[(22, .int .i64 k),(7, .int .i64 k),(21, .int .i64 x.n),(20, .slice x.a x.n x.c),(6, .int .u64 ((c+a.getD k 0+b.getD k 0:Nat):Int)),(0, .slice x.a x.n x.c),(1, .slice y.a y.n y.c),(5, .slice (some ⟨b1,0,none⟩) (a.length+1) (a.length+1))]) (fun _=>[⟨b1,ws.map dI,215,true⟩]) (fun _ _=>True) ?_ ?_
 ·refine sR<|sm J J<|sm J J<|ads J J<|sy (acu J J) rfl<|zE<|?_
  refine aaE rfl (fun hc2=>?_) (fun hc2=>?_) -- slot 34
  ·refine aao<|sm J J<|sm J J<|sm J J<|sy (ab3 hy J J (by omega) (by omega)) rfl<|sy (ab2 hy rfl (by omega)) rfl<|sy (aaK rfl (by omega) (by rw[bK];omega)) rfl<|?_
   rw[bK]
   refine sy (aee J J) rfl<|sa J J<|zE<|?_
   exact ajZ () trivial (.cons rfl (.cons rfl (.cons rfl (.cons rfl (.cons (by rw[sX,sX];rfl) (.cons rfl (.cons rfl (.cons rfl .nil)))))))) rfl
  refine zK<|?_
  have h0:b.getD k 0=0:=alu (by omega)
  exact ajZ () trivial (.cons rfl (.cons rfl (.cons rfl (.cons rfl (.cons (by rw[h0,dY,sX];rfl) (.cons rfl (.cons rfl (.cons rfl .nil)))))))) rfl
 rintro _ Gz _ _
 generalize hcc:c+a.getD k 0+b.getD k 0=cc
 have hcb:cc/4294967296≤1:=by rw[←hcc];exact aDq hga hgb hc1
 refine sR<|sm J J<|sm J J<|sm J J<|sy (abm rfl) rfl<|sy (abp J J (by omega) (by omega)) rfl<|?_
 rw[bK]
 refine sc (aa9 (d:=cc%4294967296) J J (by omega) (.hd ..) (by omega) rfl ?_)
 refine zE<|aao<|sm J J<|sy (adJ J J (by decide)) rfl<|sa J J<|zE<|aao<|sy (aas J J) rfl<|sm J J<|zE<|?_
 have hsh:((cc:Int).fdiv (2^min (32:Int).toNat IntKind.u64.bits))=((cc/4294967296:Nat):Int):=by
  have:(2^min (32:Int).toNat IntKind.u64.bits:Int)=4294967296:=by decide
  rw[this,gV _ (by omega)];rfl
 rw[hsh]
 refine aa6 ⟨ws.set k (cc%4294967296),k+1,cc/4294967296⟩ ⟨by show k+1≤_;omega,by simp[hwl],hwo.set _ (by omega),hcb,?_⟩ (by show a.length-(k+1)<a.length-k;omega) (.cons rfl (.cons rfl (.cons rfl (.cons rfl (.cons rfl (.cons rfl (.cons rfl .nil))))))) rfl
 show dv ((ws.set k (cc%4294967296)).take (k+1))+4294967296^(k+1)*(cc/4294967296)=dv (a.take (k+1))+dv (b.take (k+1))
 rw[abj (by omega),aax a,aax b,←hcc,fZ]
 exact apX hinv
structure aDS where
 ws:List Nat
 k:Nat
 c:Nat
theorem aEe(p:Int)(h0:0≤p):p.fdiv (2^min (63:Int).toNat IntKind.u64.bits)=p/9223372036854775808:=by
 have:(2^min (63:Int).toNat IntKind.u64.bits:Int)=9223372036854775808:=by decide
 rw[this,gV _ (by omega)]
theorem aEf(p:Nat):((p:Int).fdiv (2^min (32:Int).toNat IntKind.u64.bits))=((p/4294967296:Nat):Int):=by
 have:(2^min (32:Int).toNat IntKind.u64.bits:Int)=4294967296:=by decide
 rw[this,gV _ (by omega)];rfl
theorem awl{A B G:Gh}{x y:SV}{a b:List Nat}{kk:Nat}(hx:IsD A x a)(hy:IsD B y b)[GL A G][GL B G](hle:b.length≤a.length)(hge:dv b≤dv a)(hk:dv a<2^kk)(hba:a.length≤1125899906842):
  Fn prog 263 [x.v,y.v] G (fun v G'=> ∃z:SV,v=z.v∧IsN kk G' z (dv a-dv b)):=by
 have hlen:=hx.len
 have hlen2:=hy.len
 refine Fn.intro func263 J J ntmps263 rfl ?_
 intro C _ _
 refine sR<|sa J J<|zE<|sR<|sm J J<|ads J J<|?_
 refine sc (ae0 J J (by omega) (by omega) (by omega) (by rfl) rfl ?_)
 intro b1
 rw[ad3,show(x.n:Int).toNat=a.length by omega]
 refine sa J J<|zE<|sR<|sa J J<|zE<|aan<|sR<|sm J J<|ads J J<|sm J J<|zE<|aat<|?_
 refine acm (X:=aDS) (fun q=>[(16, .int .i64 q.k),(15, .int .i64 x.n),(14, .slice x.a x.n x.c),(6, .int .u64 q.c),(1, .slice y.a y.n y.c),(5, .slice (some ⟨b1,0,none⟩) a.length a.length)])
  (fun q=>[⟨b1,q.ws.map dI,215,true⟩])
  (fun q _=>q.k≤a.length∧q.ws.length=a.length∧DOk q.ws∧q.c≤1∧dv (q.ws.take q.k)+dv (b.take q.k)=dv (a.take q.k)+4294967296^q.k*q.c) (fun q=>a.length-q.k) ⟨List.replicate a.length 0,0,0⟩
  ⟨bX _,by simp, .replicate _,bX _,by simp[dv]⟩ (.cons rfl (.cons rfl (.cons rfl (.cons rfl (.cons rfl (.cons rfl .nil)))))) rfl ?_
 rintro ⟨ws,k,c⟩ Gy _ ⟨hka,hwl,hwo,hc1,hinv⟩
 simp only[] at hka hwl hwo hc1 hinv⊢
 refine sR<|sy (acu J J) rfl<|zE<|aan<|?_
 refine abC rfl (fun hc=>?_) (fun hc=>?_) -- slot 17
 ·have hkn:k=a.length:=by omega
  refine abI<|abY<|abY<|aau<|sR<|sm J J<|?_
  refine acr b1 (.hd ..) (fun G1 _ hgb=>?_)
  have hD:IsD G1 ⟨some ⟨b1,0,none⟩,a.length,a.length⟩ ws:= .of_block hwo hgb.h hwl.symm (aM _) (by rw[aR (by simp)])
  have hdv:dv ws=dv a-dv b:=by
   rw[hkn,aR (by omega),aR hle,aR (aM _)] at hinv
   have h2:=aey hwo
   rw[hwl] at h2
   rcases eK c with h0|h0
   ·subst h0;omega
   ·have:c=1:=by omega
    subst this;omega
  refine sc (zC J J (aa2 hD (by omega)) rfl ?_)
  rintro _ G2 _ rfl
  refine sa J J<|zE<|aaH<|?_
  refine zD (.tmp rfl .nil) ⟨⟨some ⟨b1,0,none⟩,(trimD ws).length,a.length⟩,rfl,?_⟩
  have h3:=hD.trim.up (G:=G2)
  rw[←hdv]
  exact⟨by rw[adv hwo];exact h3,by omega⟩
 have hka':k<a.length:=by omega
 have hga:=hx.ok.get k
 have hgb:=hy.ok.get k
 refine zK<|aan<|aat<|sR<|sm J J<|sy (ab3 hx J J (by omega) (by omega)) rfl<|sy (ab2 hx rfl (by omega)) rfl<|sa J J<|sa J J<|zE<|aan<|?_
 rw[bK]
 refine aao<|sm J J<|sa J J<|zE<|?_
 refine ane Unit (fun _=>[(16, .int .i64 k),(7, .int .i64 k),(15, .int .i64 x.n),(14, .slice x.a x.n x.c),(8, .int .u32 ((a.getD k 0:Nat):Int)),(9, .int .u64 ((c+b.getD k 0:Nat):Int)),(1, .slice y.a y.n y.c),(5, .slice (some ⟨b1,0,none⟩) a.length a.length)]) (fun _=>[⟨b1,ws.map dI,215,true⟩]) (fun _ _=>True) ?_ ?_
 ·refine sR<|sm J J<|sm J J<|ads J J<|sy (acu J J) rfl<|zE<|?_
  refine aaE rfl (fun hc2=>?_) (fun hc2=>?_) -- slot 25
  ·refine aao<|sm J J<|sm J J<|sm J J<|sy (ab3 hy J J (by omega) (by omega)) rfl<|sy (ab2 hy rfl (by omega)) rfl<|sy (aaK rfl (by omega) (by rw[bK];omega)) rfl<|?_
   rw[bK]
   refine sy (aee J J) rfl<|sa J J<|zE<|?_
   exact ajZ () trivial (.cons rfl (.cons rfl (.cons rfl (.cons rfl (.cons rfl (.cons (by rw[sX];rfl) (.cons rfl (.cons rfl .nil)))))))) rfl
  refine zK<|?_
  have h0:b.getD k 0=0:=alu (by omega)
  exact ajZ () trivial (.cons rfl (.cons rfl (.cons rfl (.cons rfl (.cons rfl (.cons (by rw[h0,dY];rfl) (.cons rfl (.cons rfl .nil)))))))) rfl
 rintro _ Gz _ _
 generalize htt:c+b.getD k 0=tt
 have htb:tt≤4294967296:=by omega
 refine sR<|sm J J<|sy (aaK rfl) rfl<|sm J J<|sy (agn J J) rfl<|sa J J<|zE<|sR<|sm J J<|sm J J<|sm J J<|?_
 rw[ab6]
 refine sy (abm rfl) rfl<|sy (abp J J (by omega) (by omega)) rfl<|?_
 rw[bK]
 by_cases hno:tt≤a.getD k 0
 ·refine sc (aa9 (d:=a.getD k 0-tt) J J (by omega) (.hd ..) (by omega) rfl ?_)
  refine zE<|aao<|sm J J<|sy (adJ J J (by decide)) rfl<|sa J J<|zE<|aao<|sy (aas J J) rfl<|sm J J<|zE<|?_
  rw[aEe _ (by omega),show(((a.getD k 0:Nat):Int)-(tt:Int))%18446744073709551616/9223372036854775808=((0:Nat):Int) by omega]
  refine aa6 ⟨ws.set k (a.getD k 0-tt),k+1,0⟩ ⟨by show k+1≤_;omega,by simp[hwl],hwo.set _ (by omega),bX _,?_⟩ (by show a.length-(k+1)<a.length-k;omega) (.cons rfl (.cons rfl (.cons rfl (.cons rfl (.cons rfl (.cons rfl .nil)))))) rfl
  show dv ((ws.set k (a.getD k 0-tt)).take (k+1))+dv (b.take (k+1))=dv (a.take (k+1))+4294967296^(k+1)*0
  rw[abj (by omega),aax a,aax b,←htt,fZ]
  exact ayp hinv (by omega)
 ·refine sc (aa9 (d:=a.getD k 0+4294967296-tt) J J (by omega) (.hd ..) (by omega) rfl ?_)
  refine zE<|aao<|sm J J<|sy (adJ J J (by decide)) rfl<|sa J J<|zE<|aao<|sy (aas J J) rfl<|sm J J<|zE<|?_
  rw[aEe _ (by omega),show(((a.getD k 0:Nat):Int)-(tt:Int))%18446744073709551616/9223372036854775808=((1:Nat):Int) by omega]
  refine aa6 ⟨ws.set k (a.getD k 0+4294967296-tt),k+1,1⟩ ⟨by show k+1≤_;omega,by simp[hwl],hwo.set _ (by omega),aM _,?_⟩ (by show a.length-(k+1)<a.length-k;omega) (.cons rfl (.cons rfl (.cons rfl (.cons rfl (.cons rfl (.cons rfl .nil)))))) rfl
  show dv ((ws.set k (a.getD k 0+4294967296-tt)).take (k+1))+dv (b.take (k+1))=dv (a.take (k+1))+4294967296^(k+1)*1
  rw[abj (by omega),aax a,aax b,←htt,fZ]
  exact au2 hinv (by omega) (by omega)
theorem aAY{A B G:Gh}{x y:SV}{ds es:List Nat}{kk:Nat}(hx:IsD A x ds)(hy:IsD B y es)[GL A G][GL B G](hk:dv ds<2^kk)(hb:ds.length≤1125899906842)(hb2:es.length≤1125899906842):
  Fn prog 217 [x.v,y.v] G (fun v G'=> ∃z:SV,v= .tuple #[z.v, .bool (decide (dv es≤dv ds))]∧IsN kk G' z (dv ds-dv es)):=by
 refine Fn.intro func217 J J ntmps217 rfl ?_
 intro C _ _
 refine sR<|sa J J<|sa J J<|zE<|aan<|sR<|sm J J<|sm J J<|?_
 refine sc (zC J J (as3 hx hy (by omega) (by omega)) rfl ?_)
 rintro _ G1 _ rfl
 refine sy (acu J J) rfl<|zE<|?_
 refine aaE rfl (fun hc=>?_) (fun hc=>?_) -- slot 9
 ·have hlt:dv ds<dv es:=by
   unfold ahC at hc
   split at hc
   ·assumption
   ·split at hc<;>omega
  refine sR<|sa J J<|sa J J<|zE<|aaH<|?_
  refine zD (.tmp rfl (.tmp rfl .nil)) ⟨⟨none,0,0⟩,?_,?_⟩
  ·have: ¬dv es≤dv ds:=by omega
   simp[ab0,SV.v,this]
  ·rw[Nat.sub_eq_zero_of_le (by omega)]
   exact⟨by unfold dg;exact .nil _,eX (by omega)⟩
 have hge:dv es≤dv ds:=by
  unfold ahC at hc
  split at hc
  ·omega
  ·omega
 have htl:=abw ds
 have htl2:=abw es
 refine zK<|sR<|sm J J<|?_
 refine sc (zC J J (aa2 hx (by omega)) rfl ?_)
 rintro _ G2 _ rfl
 refine sm J J<|?_
 refine sc (zC J J (aa2 hy (by omega)) rfl ?_)
 rintro _ G3 _ rfl
 have hl:(trimD es).length≤(trimD ds).length:=by
  rcases iZ (trimD ds).length (trimD es).length with h|h
  ·have:=acW hx.ok.trimD (Nrm.trimD es) h
   rw[abb,abb] at this;omega
  ·exact h
 refine sc (zC J J (awl (kk:=kk) hx.trim hy.trim hl (by rw[abb,abb];exact hge) (by rw[abb];exact hk) (by omega)) rfl ?_)
 rintro _ G4 _ ⟨z,rfl,hz⟩
 refine sa J J<|sa J J<|zE<|aaH<|?_
 refine zD (.tmp rfl (.tmp rfl .nil)) ⟨z,by simp[ab0,hge],?_⟩
 rw[abb,abb] at hz
 exact hz
structure aBG where
 ws:List Nat
 i:Nat
structure azR where
 ws:List Nat
 k:Nat
 c:Nat
theorem aGf{x y w c:Nat}(hx:x<4294967296)(hy:y<4294967296)(hw:w<4294967296)(hc:c<4294967296):c+x*y+w<18446744073709551616:=by
 have:x*y≤4294967295*4294967295:=lR (by omega) (by omega)
 omega
theorem agz{ws:List Nat}{i j d:Nat}(h:i≠j):(ws.set i d).getD j 0=ws.getD j 0:=by
 rw[aX,aX,List.getElem?_set_ne h]
theorem aA9{A B G:Gh}{x y:SV}{ds es:List Nat}{kk:Nat}(hx:IsD A x ds)(hy:IsD B y es)[GL A G][GL B G](hk:dv ds*dv es<2^kk)(hb:ds.length≤562949953421)(hb2:es.length≤562949953421):
  Fn prog 161 [x.v,y.v] G (fun v G'=> ∃z:SV,v=z.v∧IsN kk G' z (dv ds*dv es)):=by
 have htl:=abw ds
 have htl2:=abw es
 have hcall:=fun G1 (_:GL A G1)=>aa2 (G:=G1) hx (by omega)
 have hcall2:=fun G1 (_:GL B G1)=>aa2 (G:=G1) hy (by omega)
 have hxt:=hx.trim
 have hyt:=hy.trim
 rw[←abb ds,←abb es] at hk⊢
 generalize trimD ds=a at*
 generalize trimD es=b at*
 have hok:=hxt.ok
 have hok2:=hyt.ok
 refine Fn.intro func161 J J ntmps161 rfl ?_
 intro C _ _
 refine sR<|sa J J<|zE<|sR<|sm J J<|?_
 refine sc (zC J J (hcall _ inferInstance) rfl ?_)
 rintro _ G1 _ rfl
 refine sm J J<|?_
 refine sc (zC J J (hcall2 _ inferInstance) rfl ?_)
 rintro _ G2 _ rfl
 refine sa J J<|sa J J<|zE<|sR<|sm J J<|ads J J<|sm J J<|ads J J<|sy (aas J J) rfl<|?_
 refine sc (ae0 J J (by omega) (by omega) (by omega) (by rfl) rfl ?_)
 intro b3
 rw[ad3,show((a.length:Int)+(b.length:Int)).toNat=a.length+b.length by omega]
 refine sa J J<|zE<|aan<|sR<|sm J J<|ads J J<|sm J J<|zE<|aat<|?_
 refine acm (X:=aBG) (fun q=>[(23, .int .i64 q.i),(22, .int .i64 a.length),(21, .slice x.a a.length x.c),(1, .slice y.a b.length y.c),(5, .slice (some ⟨b3,0,none⟩) (a.length+b.length) (a.length+b.length))])
  (fun q=>[⟨b3,q.ws.map dI,215,true⟩])
  (fun q _=>q.i≤a.length∧q.ws.length=a.length+b.length∧DOk q.ws∧(∀j,q.i+b.length≤j→q.ws.getD j 0=0)∧dv q.ws=dv (a.take q.i)*dv b) (fun q=>a.length-q.i) ⟨List.replicate (a.length+b.length) 0,0⟩
  ⟨bX _,by simp, .replicate _,fun j _=>alB _ _,by simp[dv,acI]⟩ (.cons rfl (.cons rfl (.cons rfl (.cons rfl (.cons rfl .nil))))) rfl ?_
 rintro ⟨ws,i⟩ Gy _ ⟨hia,hwl,hwo,hz,hinv⟩
 simp only[] at hia hwl hwo hz hinv⊢
 refine sR<|sy (acu J J) rfl<|zE<|aan<|?_
 refine abC rfl (fun hc=>?_) (fun hc=>?_) -- slot 24
 ·have hin:i=a.length:=by omega
  refine abI<|abY<|abY<|aau<|sR<|sm J J<|?_
  refine acr b3 (.hd ..) (fun G3 _ hgb=>?_)
  have hD:IsD G3 ⟨some ⟨b3,0,none⟩,a.length+b.length,a.length+b.length⟩ ws:= .of_block hwo hgb.h hwl.symm (aM _) (by rw[aR (by simp)])
  have hdv:dv ws=dv a*dv b:=by rw[hinv,hin,aR (aM _)]
  refine sc (zC J J (aa2 hD (by omega)) rfl ?_)
  rintro _ G4 _ rfl
  refine sa J J<|zE<|aaH<|?_
  refine zD (.tmp rfl .nil) ⟨⟨some ⟨b3,0,none⟩,(trimD ws).length,a.length+b.length⟩,rfl,?_⟩
  have h3:=hD.trim.up (G:=G4)
  rw[←hdv] at hk⊢
  exact⟨by rw[adv hwo];exact h3,hk⟩
 have hia':i<a.length:=by omega
 have hga:=hok.get i
 refine zK<|aan<|aat<|sR<|sm J J<|sy (ab3 (z:=⟨x.a,a.length,x.c⟩) hxt J J (by omega) (by show(i:Int)<(a.length:Nat);omega)) rfl<|sy (ab2 hxt rfl (by omega)) rfl<|sa J J<|sa J J<|zE<|aan<|?_
 rw[bK]
 refine aao<|sa J J<|zE<|aan<|sR<|sm J J<|ads J J<|sm J J<|zE<|aat<|?_
 refine acm (X:=azR) (fun q=>[(30, .int .i64 q.k),(29, .int .i64 b.length),(28, .slice y.a b.length y.c),(8, .int .u64 q.c),(7, .int .u32 ((a.getD i 0:Nat):Int)),(5, .slice (some ⟨b3,0,none⟩) (a.length+b.length) (a.length+b.length)),(6, .int .i64 i),(23, .int .i64 i),(22, .int .i64 a.length),(21, .slice x.a a.length x.c),(1, .slice y.a b.length y.c)])
  (fun q=>[⟨b3,q.ws.map dI,215,true⟩])
  (fun q _=>q.k≤b.length∧q.ws.length=a.length+b.length∧DOk q.ws∧q.c<4294967296∧(∀j,i+b.length≤j→q.ws.getD j 0=0)∧dv q.ws+4294967296^(i+q.k)*q.c=dv (a.take i)*dv b+4294967296^i*(a.getD i 0*dv (b.take q.k))) (fun q=>b.length-q.k) ⟨ws,0,0⟩
  ⟨bX _,hwl,hwo,Nat.zero_lt_succ _,hz,by simp[dv,hinv]⟩ (.cons rfl (.cons rfl (.cons rfl (.cons rfl (.cons rfl (.cons rfl (.cons rfl (.cons rfl (.cons rfl (.cons rfl (.cons rfl .nil))))))))))) rfl ?_
 clear hz hwl hwo hinv ws
 rintro ⟨ws,k,c⟩ Gz _ ⟨hkb,hwl,hwo,hcc,hz,hinv⟩
 simp only[] at hkb hwl hwo hcc hz hinv⊢
 refine sR<|sy (acu J J) rfl<|zE<|aan<|?_
 refine abC rfl (fun hc2=>?_) (fun hc2=>?_) -- slot 31
 ·have hkn:k=b.length:=by omega
  have e1:((i:Int)+(b.length:Int)).toNat=i+b.length:=by omega
  refine abI<|abY<|abY<|aau<|aao<|sm J J<|sm J J<|sm J J<|ads J J<|sy (aas J J) rfl<|sm J J<|sy (abm rfl) rfl<|?_
  refine sy (abp J J (by omega) (by omega)) rfl<|?_
  rw[e1]
  refine sc (aa9 (d:=c) J J (by omega) (.hd ..) (by omega) rfl ?_)
  refine zE<|aao<|sy (aas J J) rfl<|sm J J<|zE<|?_
  refine aa6 ⟨ws.set (i+b.length) c,i+1⟩ ⟨by show i+1≤_;omega,by simp[hwl],hwo.set _ hcc,fun j hj=>?_,?_⟩ (by show a.length-(i+1)<a.length-i;omega) (.cons rfl (.cons rfl (.cons rfl (.cons rfl (.cons rfl .nil))))) rfl
  ·have hj':i+1+b.length≤j:=hj
   show(ws.set (i+b.length) c).getD j 0=0
   rw[agz (by omega)];exact hz j (by omega)
  ·show dv (ws.set (i+b.length) c)=dv (a.take (i+1))*dv b
   have h1:=afp ws (i+b.length) c (by omega)
   rw[hz (i+b.length) (aM _),pY,dY] at h1
   rw[h1,←hkn,hinv,hkn,aR (aM _),aax,cS,bN]
 have hkb':k<b.length:=by omega
 have hgb:=hok2.get k
 have hgw:=hwo.get (i+k)
 have hm:=aGf hga hgb hgw hcc
 have e1:((i:Int)+(k:Int)).toNat=i+k:=by omega
 have e2:((a.getD i 0:Nat):Int)*((b.getD k 0:Nat):Int)=((a.getD i 0*b.getD k 0:Nat):Int):=by rw[iU]
 refine zK<|aan<|aat<|sR<|sm J J<|sy (ab3 (z:=⟨y.a,b.length,y.c⟩) hyt J J (by omega) (by show(k:Int)<(b.length:Nat);omega)) rfl<|sy (ab2 hyt rfl (by omega)) rfl<|sa J J<|sa J J<|zE<|aan<|?_
 rw[bK]
 refine aao<|sm J J<|sm J J<|sy (aaK rfl) rfl<|sm J J<|sy (aaK rfl) rfl<|sy (aow J J (by rw[e2];omega) (by rw[e2];omega)) rfl<|?_
 rw[e2]
 refine sm J J<|sm J J<|sm J J<|sy (aas J J) rfl<|sy (abp J J (by omega) (by omega)) rfl<|?_
 rw[e1]
 refine sy (af6 rfl (by omega)) rfl<|sy (aaK rfl) rfl<|?_
 refine sy (aee J J) rfl<|sy (aee J J) rfl<|sa J J<|zE<|sR<|sm J J<|sm J J<|sm J J<|?_
 rw[show(c:Int)+(((a.getD i 0*b.getD k 0:Nat):Int)+((ws.getD (i+k) 0:Nat):Int))=((c+a.getD i 0*b.getD k 0+ws.getD (i+k) 0:Nat):Int) by omega]
 generalize hcc2:c+a.getD i 0*b.getD k 0+ws.getD (i+k) 0=cc
 rw[hcc2] at hm
 refine sy (aas J J) rfl<|sm J J<|sy (abm rfl) rfl<|sy (abp J J (by omega) (by omega)) rfl<|?_
 rw[e1]
 refine sc (aa9 (d:=cc%4294967296) J J (by omega) (.hd ..) (by omega) rfl ?_)
 refine zE<|aao<|sm J J<|sy (adJ J J (by decide)) rfl<|sa J J<|zE<|aao<|sy (aas J J) rfl<|sm J J<|zE<|?_
 rw[aEf]
 refine aa6 ⟨ws.set (i+k) (cc%4294967296),k+1,cc/4294967296⟩ ⟨by show k+1≤_;omega,by simp[hwl],hwo.set _ (by omega),by show cc/4294967296<_;omega,fun j hj=>?_,?_⟩ (by show b.length-(k+1)<b.length-k;omega) (.cons rfl (.cons rfl (.cons rfl (.cons rfl (.cons rfl (.cons rfl (.cons rfl (.cons rfl (.cons rfl (.cons rfl (.cons rfl .nil))))))))))) rfl
 ·show(ws.set (i+k) (cc%4294967296)).getD j 0=0
  rw[agz (by omega)];exact hz j hj
 ·show dv (ws.set (i+k) (cc%4294967296))+4294967296^(i+(k+1))*(cc/4294967296)=dv (a.take i)*dv b+4294967296^i*(a.getD i 0*dv (b.take (k+1)))
  have h1:=afp ws (i+k) (cc%4294967296) (by omega)
  rw[←hcc2] at h1⊢
  have h2:=apY h1 hinv
  rw[←jU,fZ,h2,aax,dJ,dJ,fV]
  have:4294967296^i*(a.getD i 0*(4294967296^k*b.getD k 0))=4294967296^i*4294967296^k*(a.getD i 0*b.getD k 0):=by
   rw[kM (a.getD i 0),←bN]
  rw[this,jU]
theorem apn{P:Program}{t:TypeId}(a b k:Nat)(ha:a<2^k)(h:a+b*2^k<18446744073709551616)(w:World):(binOp .or t (.int .u64 ((b*2^k:Nat):Int)) (.int .u64 (a:Int))).run P w= .ok (.int .u64 ((a+b*2^k:Nat):Int)) w:=by
 have h1:(BitVec.ofInt 64 ((b*2^k:Nat):Int) ||| BitVec.ofInt 64 (a:Int)).toNat=a+b*2^k:=by
  rw[BitVec.toNat_or,BitVec.ofInt_natCast,BitVec.ofInt_natCast,BitVec.toNat_ofNat,BitVec.toNat_ofNat,dV (by omega),dV (by omega)]
  rw[←lW,←lT ha,lW]
  omega
 have h2:IntKind.u64.wrap ((a+b*2^k:Nat):Int)=((a+b*2^k:Nat):Int):=by rw[ab6];omega
 simp only[binOp]
 show(Op.intBits .or .u64 ((b*2^k:Nat):Int) (a:Int)).run P w=_
 unfold Op.intBits
 show(pure (Value.int .u64 (IntKind.u64.wrap ((BitVec.ofInt 64 ((b*2^k:Nat):Int) ||| BitVec.ofInt 64 (a:Int)).toNat:Int))):Sem Value).run P w=_
 rw[h1,h2,run_pure]
theorem aw2{P:Program}{t:TypeId}(a b k:Nat)(ha:a<2^k)(h:a+b*2^k<4294967296)(w:World):(binOp .or t (.int .u32 (a:Int)) (.int .u32 ((b*2^k:Nat):Int))).run P w= .ok (.int .u32 ((a+b*2^k:Nat):Int)) w:=by
 have h1:(BitVec.ofInt 32 (a:Int) ||| BitVec.ofInt 32 ((b*2^k:Nat):Int)).toNat=a+b*2^k:=by
  rw[BitVec.toNat_or,BitVec.ofInt_natCast,BitVec.ofInt_natCast,BitVec.toNat_ofNat,BitVec.toNat_ofNat,dV (by omega),dV (by omega)]
  rw[←lW,Nat.or_comm,←lT ha,lW]
  omega
 have h2:IntKind.u32.wrap ((a+b*2^k:Nat):Int)=((a+b*2^k:Nat):Int):=by rw[acQ];omega
 simp only[binOp]
 show(Op.intBits .or .u32 (a:Int) ((b*2^k:Nat):Int)).run P w=_
 unfold Op.intBits
 show(pure (Value.int .u32 (IntKind.u32.wrap ((BitVec.ofInt 32 (a:Int) ||| BitVec.ofInt 32 ((b*2^k:Nat):Int)).toNat:Int))):Sem Value).run P w=_
 rw[h1,h2,run_pure]
theorem aeg(d k:Nat)(hk:k<64)(h:d*2^k<18446744073709551616){q:Int}(hq:q.toNat=k):IntKind.u64.wrap ((d:Int)*2^min q.toNat IntKind.u64.bits)=((d*2^k:Nat):Int):=by
 rw[hq,fM (by show k≤64;omega),ab6]
 have e2:(d:Int)*2^k=((d*2^k:Nat):Int):=by push_cast;rfl
 rw[e2];omega
theorem aeX(d k:Nat)(hk:k<64){q:Int}(hq:q.toNat=k):(d:Int).fdiv (2^min q.toNat IntKind.u64.bits)=((d/2^k:Nat):Int):=by
 rw[hq,fM (by show k≤64;omega),gV _ (pR (Int.pow_pos (by decide)))]
 push_cast;rfl
theorem ay0(q:Nat)(h:q<4294967296):(q:Int)%4294967296=q:=by omega
structure awJ where
 ws:List Nat
 k:Nat
 r:Nat
theorem asO{A G:Gh}{x:SV}{a:List Nat}{d kk:Nat}(hx:IsD A x a)[GL A G](hd0:0<d)(hd:d<4294967296)(hk:dv a/d<2^kk)(hb:a.length≤1125899906842):
  Fn prog 251 [x.v, .int .u32 (d:Int)] G (fun v G'=> ∃z:SV,v= .tuple #[z.v, .int .u32 ((dv a%d:Nat):Int)]∧IsN kk G' z (dv a/d)):=by
 have hlen:=hx.len
 refine Fn.intro func251 J J ntmps251 rfl ?_
 intro C _ _
 refine sR<|sa J J<|sa J J<|zE<|sR<|sm J J<|ads J J<|?_
 refine sc (ae0 J J (by omega) (by omega) (by omega) (by rfl) rfl ?_)
 intro b1
 rw[ad3,show(x.n:Int).toNat=a.length by omega]
 refine sa J J<|zE<|sR<|sa J J<|zE<|aan<|sR<|sm J J<|ads J J<|sy (aba J J) rfl<|?_
 refine sa J J<|zE<|aat<|?_
 refine acm (X:=awJ) (fun q=>[(8, .int .i64 (q.k-1)),(7, .int .u64 q.r),(0, .slice x.a x.n x.c),(6, .slice (some ⟨b1,0,none⟩) a.length a.length),(1, .int .u32 d)])
  (fun q=>[⟨b1,q.ws.map dI,215,true⟩])
  (fun q _=>q.k≤a.length∧q.ws.length=a.length∧DOk q.ws∧q.r<d∧dv (a.drop q.k)=d*dv (q.ws.drop q.k)+q.r) (fun q=>q.k) ⟨List.replicate a.length 0,a.length,0⟩
  ⟨aM _,by simp, .replicate _,hd0,by simp[dv]⟩ (.cons (by rw[hlen];rfl) (.cons rfl (.cons rfl (.cons rfl (.cons rfl .nil))))) rfl ?_
 rintro ⟨ws,k,r⟩ Gy _ ⟨hka,hwl,hwo,hr,hinv⟩
 simp only[] at hka hwl hwo hr hinv⊢
 refine aan<|sR<|sm J J<|sy (ahY J J) rfl<|zE<|?_
 refine abC rfl (fun hc=>?_) (fun hc=>?_) -- slot 17
 ·have hk0:k=0:=by omega
  refine abI<|abY<|abY<|aau<|sR<|sm J J<|?_
  refine acr b1 (.hd ..) (fun G1 _ hgb=>?_)
  have hD:IsD G1 ⟨some ⟨b1,0,none⟩,a.length,a.length⟩ ws:= .of_block hwo hgb.h hwl.symm (aM _) (by rw[aR (by simp)])
  subst hk0
  simp only[iX] at hinv
  have hdv:dv a/d=dv ws:=by rw[hinv,Nat.mul_add_div hd0,jJ hr,dY]
  have hdm:dv a%d=r:=by rw[hinv,Nat.mul_add_mod,dV hr]
  refine sc (zC J J (aa2 hD (by omega)) rfl ?_)
  rintro _ G2 _ rfl
  refine sm J J<|sy (abm rfl) rfl<|sa J J<|sa J J<|zE<|aaH<|?_
  refine zD (.tmp rfl (.tmp rfl .nil)) ⟨⟨some ⟨b1,0,none⟩,(trimD ws).length,a.length⟩,?_,?_⟩
  ·rw[hdm,show(r:Int)%4294967296=r by omega];rfl
  have h3:=hD.trim.up (G:=G2)
  exact⟨by rw[hdv,adv hwo];exact h3,hk⟩
 have hk1:0<k:=by omega
 have hkt:((k:Int)-1).toNat=k-1:=by omega
 have hga:=hx.ok.get (k-1)
 have hv:a.getD (k-1) 0+r*2^32<d*4294967296:=by
  have:(r+1)*4294967296≤d*4294967296:=bW _ hr
  rw[cS] at this
  omega
 have hv2:a.getD (k-1) 0+r*2^32<18446744073709551616:=by omega
 refine zK<|aan<|aat<|sR<|sm J J<|sy (ajU J J (by decide)) rfl<|sm J J<|sm J J<|sy (ab3 hx J J (by omega) (by omega)) rfl<|?_
 rw[aeg r 32 (by decide) (by omega) rfl]
 refine sy (ab2 hx rfl (by omega)) rfl<|sy (aaK rfl (by omega) (by rw[hkt];omega)) rfl<|?_
 rw[hkt]
 refine sy (aca J J (apn (a.getD (k-1) 0) r 32 (by omega) hv2)) rfl<|?_
 generalize hvv:a.getD (k-1) 0+r*2^32=vv at*
 have hq:vv/d<4294967296:=sZ hv
 have hrr:=cY vv hd0
 refine sa J J<|zE<|sR<|sm J J<|sm J J<|sm J J<|sm J J<|?_
 refine sy (aaK rfl) rfl<|sy (ahA J J (by omega) (by omega) (by omega)) rfl<|sy (abm rfl) rfl<|sy (abp J J (by omega) (by omega)) rfl<|?_
 rw[hkt]
 have e1:(vv:Int)/(d:Int)%4294967296=((vv/d:Nat):Int):=by
  have e0:(vv:Int)/(d:Int)=((vv/d:Nat):Int):=(pS vv d).symm
  rw[e0];exact ay0 _ hq
 refine sc (aa9 (d:=vv/d) J J e1 (.hd ..) (by omega) rfl ?_)
 refine zE<|aao<|sm J J<|sm J J<|sy (aaK rfl) rfl<|sy (ahB J J (by omega) (by omega)) rfl<|sa J J<|zE<|aao<|sm J J<|?_
 refine sy (aba J J) rfl<|sa J J<|zE<|?_
 refine aa6 ⟨ws.set (k-1) (vv/d),k-1,vv%d⟩ ⟨by show k-1≤_;omega,by simp[hwl],hwo.set _ hq,hrr,?_⟩ (by show k-1<k;omega) (.cons (by rw[show((k-1:Nat):Int)=(k:Int)-1 by omega];rfl) (.cons (by rw[oJ];rfl) (.cons rfl (.cons rfl (.cons rfl .nil))))) rfl
 show dv (a.drop (k-1))=d*dv ((ws.set (k-1) (vv/d)).drop (k-1))+vv%d
 have hk2:k-1+1=k:=by omega
 rw[bQ (by omega:k-1<a.length),bQ (by simp;omega:k-1<(ws.set (k-1) (vv/d)).length),hk2,List.getElem_set_self,qZ (by omega)]
 have e3:a[k-1]'(by omega)=a.getD (k-1) 0:=by rw[aX,aQ (by omega)];rfl
 simp only[dv,e3,hinv]
 have h1:=qY vv d
 have h2:d*(vv/d+4294967296*dv (ws.drop k))=d*(vv/d)+4294967296*(d*dv (ws.drop k)):=by rw[dJ,kM]
 rw[h2,dJ]
 omega
section
variable {P:Program} {C:Ctx} {n:Nat} {fr:Fr} {own:List Own} {G:Gh} {dst:Option Nat} {t t1 t2 ty':TypeId} {pos:String} {af:Array Edge} {gd:Option (Nat×Bool)} {x y:Operand}
theorem aDv{k:IntKind}{p q:Int}(hx:opv fr x=some (.int k p))(hy:opv fr y=some (.int k q)):
  Yd P C fr own G ⟨dst, .call ⟨.builtin .min, #[x,y], #[t1,t2]⟩,ty',pos,af,gd⟩ (.int k (if q<p then q else p)):=by
 intro a w hf hh
 simp only[execOp,resolve,gW,cK,jV,aad hf hx,aad hf hy]
 have h1:(Builtin.min_ #[t1,t2] ty' #[.int k p, .int k q]).run P w= .ok (.int k (if q<p then q else p)) w:=by
  simp[Builtin.min_,Builtin.min2,run_pure]
 exact aap h1
end
structure apN where
 ws:List Nat
 i:Nat
theorem au6{A G:Gh}{x:SV}{ds:List Nat}{k kk:Nat}(hx:IsD A x ds)[GL A G](hk32:k<32)(hk:dv ds*2^k<2^kk)(hb:ds.length≤1125899906842):
  Fn prog 293 [x.v, .int .u64 (k:Int)] G (fun v G'=> ∃z:SV,v=z.v∧IsN kk G' z (dv ds*2^k)∧z.c≤(trimD ds).length+1):=by
 have htl:=abw ds
 have hcall:=fun G1 (_:GL A G1)=>aa2 (G:=G1) hx (by omega)
 have hxt:=hx.trim
 rw[←abb ds] at hk⊢
 generalize trimD ds=a at*
 have hok:=hxt.ok
 refine Fn.intro func293 J J ntmps293 rfl ?_
 intro C _ _
 refine sR<|sa J J<|zE<|sR<|sm J J<|?_
 refine sc (zC J J (hcall _ inferInstance) rfl ?_)
 rintro _ G1 _ rfl
 refine sm J J<|sy (aDv J J) rfl<|?_
 rw[if_neg (by omega: ¬(1048576:Int)<(k:Int))]
 refine sa J J<|sa J J<|zE<|aan<|sR<|sm J J<|ads J J<|sy (ab9 J J) rfl<|zE<|?_
 refine aaE rfl (fun hc=>?_) (fun hc=>?_) -- slot 17
 ·refine sR<|sa J J<|zE<|aaH<|?_
  have:a=[]:=bS (by omega)
  subst this
  refine zD (.tmp rfl .nil) ⟨⟨none,0,0⟩,rfl,?_⟩
  have e0:dv []*2^k=0:=by simp[dv]
  rw[e0]
  exact⟨⟨by unfold dg;exact .nil _,eX (by omega)⟩,bX _⟩
 refine zK<|sR<|sm J J<|sy (ahA J J (by omega) (by omega) (by decide)) rfl<|sy (aq9 rfl) rfl<|sm J J<|sy (ahB J J (by omega) (by decide)) rfl<|?_
 rw[show(k:Int)/32=0 by omega,show(k:Int)%32=k by omega]
 refine sa J J<|sa J J<|zE<|sR<|sm J J<|ads J J<|sm J J<|sy (aas J J) rfl<|sy (aas J J) rfl<|?_
 refine sc (ae0 J J (by omega) (by omega) (by omega) (by rfl) rfl ?_)
 intro b2
 rw[ad3,show((a.length:Int)+0+1).toNat=a.length+1 by omega]
 refine sa J J<|zE<|aan<|sR<|sm J J<|ads J J<|sm J J<|zE<|aat<|?_
 refine acm (X:=apN) (fun q=>[(31, .int .i64 q.i),(30, .int .i64 a.length),(29, .slice x.a a.length x.c),(6, .int .u64 k),(7, .slice (some ⟨b2,0,none⟩) (a.length+1) (a.length+1)),(5, .int .i64 0)])
  (fun q=>[⟨b2,q.ws.map dI,215,true⟩])
  (fun q _=>q.i≤a.length∧q.ws.length=a.length+1∧DOk q.ws∧(∀j,q.i<j→q.ws.getD j 0=0)∧q.ws.getD q.i 0<2^k∧dv q.ws=dv (a.take q.i)*2^k) (fun q=>a.length-q.i) ⟨List.replicate (a.length+1) 0,0⟩
  ⟨bX _,by simp, .replicate _,fun j _=>alB _ _,by rw[alB];exact eX (by omega),by simp[dv,acI]⟩ (.cons rfl (.cons rfl (.cons rfl (.cons rfl (.cons rfl (.cons rfl .nil)))))) rfl ?_
 rintro ⟨ws,i⟩ Gy _ ⟨hia,hwl,hwo,hz,hwi,hinv⟩
 simp only[] at hia hwl hwo hz hwi hinv⊢
 refine sR<|sy (acu J J) rfl<|zE<|aan<|?_
 refine abC rfl (fun hc=>?_) (fun hc=>?_) -- slot 32
 ·have hin:i=a.length:=by omega
  refine abI<|abY<|abY<|aau<|sR<|sm J J<|?_
  refine acr b2 (.hd ..) (fun G3 _ hgb=>?_)
  have hD:IsD G3 ⟨some ⟨b2,0,none⟩,a.length+1,a.length+1⟩ ws:= .of_block hwo hgb.h hwl.symm (aM _) (by rw[aR (by simp)])
  have hdv:dv a*2^k=dv ws:=by rw[hinv,hin,aR (aM _)]
  refine sc (zC J J (aa2 hD (by omega)) rfl ?_)
  rintro _ G4 _ rfl
  refine sa J J<|zE<|aaH<|?_
  refine zD (.tmp rfl .nil) ⟨⟨some ⟨b2,0,none⟩,(trimD ws).length,a.length+1⟩,rfl,?_⟩
  have h3:=hD.trim.up (G:=G4)
  rw[hdv] at hk⊢
  exact⟨⟨by rw[adv hwo];exact h3,hk⟩,aM _⟩
 have hia':i<a.length:=by omega
 have hga:=hok.get i
 have hp32:(2:Nat)^k≤2^31:=bT (by omega) (by omega)
 have hp0:0<(2:Nat)^k:=eX (by omega)
 have hvb:a.getD i 0*2^k<4294967296*2^k:=kR hga hp0
 have hv64:a.getD i 0*2^k<18446744073709551616:=by omega
 refine zK<|aan<|aat<|sR<|sm J J<|sy (ab3 (z:=⟨x.a,a.length,x.c⟩) hxt J J (by omega) (by show(i:Int)<(a.length:Nat);omega)) rfl<|sy (ab2 hxt rfl (by omega)) rfl<|sa J J<|sa J J<|zE<|aan<|?_
 rw[bK]
 refine aao<|sm J J<|sy (aaK rfl) rfl<|sm J J<|sy (ajU J J (by omega)) rfl<|?_
 rw[aeg (a.getD i 0) k (by omega) hv64 (bK k)]
 -- the low digit is a multiple of 2^k
 have hlow:a.getD i 0*2^k%4294967296=a.getD i 0%2^(32-k)*2^k:=by
  have:4294967296=2^(32-k)*2^k:=by rw[←fV,show 32-k+k=32 by omega]
  rw[this,rT]
 have hlt:a.getD i 0*2^k%4294967296<4294967296:=cY _ (by decide)
 have hsum:ws.getD i 0+a.getD i 0%2^(32-k)*2^k<4294967296:=by
  have h1:a.getD i 0%2^(32-k)<2^(32-k):=cY _ (eX (by omega))
  have h2:(a.getD i 0%2^(32-k)+1)*2^k≤2^(32-k)*2^k:=bW _ h1
  rw[←fV,show 32-k+k=32 by omega,cS] at h2
  omega
 refine sa J J<|zE<|sR<|sm J J<|?_
 refine sm J J<|sm J J<|sy (aas J J) rfl<|sy (abp J J (by omega) (by omega)) rfl<|?_
 rw[show((i:Int)+0).toNat=i by omega]
 refine sy (af6 rfl (by omega)) rfl<|sm J J<|sy (abm rfl) rfl<|?_
 rw[show((a.getD i 0*2^k:Nat):Int)%4294967296=((a.getD i 0%2^(32-k)*2^k:Nat):Int) by rw[←hlow];rfl]
 refine sy (aca J J (aw2 (ws.getD i 0) (a.getD i 0%2^(32-k)) k hwi hsum)) rfl<|sy (abp J J (by omega) (by omega)) rfl<|?_
 rw[show((i:Int)+0).toNat=i by omega]
 refine sc (aa9 (d:=ws.getD i 0+a.getD i 0%2^(32-k)*2^k) J J J (.hd ..) (by omega) rfl ?_)
 refine zE<|aao<|sm J J<|sm J J<|sm J J<|sy (aas J J) rfl<|sy (aas J J) rfl<|sm J J<|sy (adJ J J (by decide)) rfl<|?_
 rw[aEf]
 have hhi:a.getD i 0*2^k/4294967296<2^k:=sZ hvb
 refine sy (abm rfl) rfl<|sy (abp J J (by omega) (by omega)) rfl<|?_
 rw[show((i:Int)+0+1).toNat=i+1 by omega]
 refine sc (aa9 (d:=a.getD i 0*2^k/4294967296) J J (by omega) (.hd ..) (by simp;omega) rfl ?_)
 refine zE<|aao<|sy (aas J J) rfl<|sm J J<|zE<|?_
 refine aa6 ⟨(ws.set i (ws.getD i 0+a.getD i 0%2^(32-k)*2^k)).set (i+1) (a.getD i 0*2^k/4294967296),i+1⟩ ⟨by show i+1≤_;omega,by simp[hwl],(hwo.set _ hsum).set _ (by omega),fun j hj=>?_,?_,?_⟩ (by show a.length-(i+1)<a.length-i;omega) (.cons rfl (.cons rfl (.cons rfl (.cons rfl (.cons rfl (.cons rfl .nil)))))) rfl
 ·have hj':i+1<j:=hj
  show((ws.set i _).set (i+1) _).getD j 0=0
  rw[agz (by omega),agz (by omega)];exact hz j (by omega)
 ·show((ws.set i _).set (i+1) (a.getD i 0*2^k/4294967296)).getD (i+1) 0<2^k
  rw[aX,mX (by simp;omega)]
  exact hhi
 ·show dv ((ws.set i (ws.getD i 0+a.getD i 0%2^(32-k)*2^k)).set (i+1) (a.getD i 0*2^k/4294967296))=dv (a.take (i+1))*2^k
  have h1:=afp (ws.set i (ws.getD i 0+a.getD i 0%2^(32-k)*2^k)) (i+1) (a.getD i 0*2^k/4294967296) (by simp;omega)
  rw[agz (by omega),hz (i+1) (by omega),pY,dY] at h1
  have h2:=afp ws i (ws.getD i 0+a.getD i 0%2^(32-k)*2^k) (by omega)
  rw[dJ] at h2
  rw[h1,aax,cS,←hinv,bN,ajk (4294967296^i) (a.getD i 0*2^k),←hlow] at*
  rw[fZ]
  omega
end Go.Sx
end
section
namespace Go.Sx
theorem azw(i:Nat):(4294967296:Nat)^(i+1)=4294967296^i*4294967296:=fZ ..
theorem azO{U p V T S first third:Nat}(hU:U<(first*4294967296+third+1)*p)(h3:third<4294967296)(hV:(T*4294967296+S)*p≤V)(hT:0<T):
  U<(first/T+1)*V:=by
 have h1:first+1≤(first/T+1)*T:=by
  have:=Nat.lt_mul_div_succ first hT
  rw[bL];omega
 calc U<(first*4294967296+third+1)*p:=hU
  _≤((first+1)*4294967296)*p:=bW _ (by omega)
  _≤(((first/T+1)*T)*4294967296)*p:=bW _ (bW _ h1)
  _=(first/T+1)*((T*4294967296)*p):=by rw[bN (first/T+1),bN (first/T+1)]
  _≤(first/T+1)*V:=eY _ (cR (bW _ (mU _ _)) hV)
theorem aH5{U p V T S first third v0:Nat}(hU:(first*4294967296+third)*p≤U)(hV:V=(T*4294967296+S)*p+v0)(hv:v0<p)(hlt:U<V*4294967296):first≤T*4294967296+S:=by
 rcases iZ (T*4294967296+S) first with h|h
 ·exfalso
  have h1:(T*4294967296+S+1)*p≤first*p:=bW p h
  rw[cS _ 1,oU] at h1
  rw[cS,qM] at hU
  have:0≤third*p:=bX _
  omega
 ·exact h
theorem aEq{U p V T S first third g r:Nat}(hU:U<(first*4294967296+third+1)*p)(hV:(T*4294967296+S)*p≤V)(hg:first=g*T+r)(hc:r*4294967296+third<g*S):U<g*V:=by
 refine dX hU (cR (bW p (m:=g*(T*4294967296+S)) ?_) ?_)
 ·rw[dJ,←bN,hg,cS];omega
 ·rw[bN];exact eY _ hV
theorem aCm{U p V T S first third g r v0:Nat}(hU:(first*4294967296+third)*p≤U)(hV:V=(T*4294967296+S)*p+v0)(hv:v0<p)(hT:0<T)(hg:first=g*T+r)(hgB:g<4294967296)(hc:g*S≤r*4294967296+third):g*V<U+V:=by
 have h1:g*((T*4294967296+S)*p)≤U:=by
  rw[←bN]
  refine cR (bW p ?_) hU
  rw[dJ,←bN,hg,cS];omega
 have h2:g*v0≤4294967295*v0:=bW _ (by omega)
 have h3:4294967296*p≤V:=by
  rw[hV]
  refine cR (bW p ?_) (mU _ _)
  omega
 have h4:g*V=g*((T*4294967296+S)*p)+g*v0:=by rw[←dJ,←hV]
 omega
theorem aA4{U V R g:Nat}(h:U<(g+1)*V)(hr:R+g*V=U):R<V:=by
 rw[cS,oU] at h
 omega
theorem aAz{U V R R' g w M:Nat}(h2:g*V<U+V)(hr:R+g*V=U+M)(hb:R'+w*M=R+V)(hR:R<M)(hR':R'<M)(hw:w≤1)(hg:0<g):R'+(g-1)*V=U∧R'<V:=by
 have hgv:g*V=(g-1)*V+V:=by
  conv=>lhs;rw[show g=(g-1)+1 by omega,cS,oU]
 have:w=1:=by
  rcases iZ w 1 with h|h
  ·have:w=0:=by omega
   subst this
   omega
  ·omega
 subst this
 omega
theorem afE(us:List Nat)(i:Nat):dv (us.drop i)=us.getD i 0+4294967296*dv (us.drop (i+1)):=by
 rcases iZ i us.length with h|h
 ·rw[bQ h];simp[dv,List.getD,aQ h]
 ·rw[fX h,fX (by omega)]
  simp[dv,cN h,List.getD]
theorem aeA(us:List Nat)(i:Nat):dv us=dv (us.take i)+4294967296^i*dv (us.drop i):=by
 rcases iZ us.length i with h|h
 ·rw[aR (by omega),fX (by omega)];simp[dv]
 ·exact aip us i h
theorem afT{us:List Nat}(h:DOk us)(i:Nat):dv (us.take i)<4294967296^i:=by
 refine dX (aey (h.take i)) (bT (by decide) ?_)
 simp[cJ];omega
theorem aix{us:List Nat}{i:Nat}(hd:dv us<4294967296^i):dv (us.drop i)=0:=by
 have h:=aeA us i
 rcases eK (dv (us.drop i)) with h0|h0
 ·exact h0
 ·have:=eY (4294967296^i) h0
  omega
theorem azZ{W W' U E p u x bo b c c1 g d:Nat}(hs:W'+p*u=W+p*x)(hw:W+E=U+(bo+c)*p)(hc:c1=c+g*d)(hx:x+(c1%4294967296+bo)=u+b*4294967296):
  W'+(E+g*d*p)=U+(b+c1/4294967296)*(p*4294967296):=by
 have h1:=congrArg (p* ·) hx
 simp only[dJ] at h1
 have h2:p*c1=p*(c1%4294967296)+p*(c1/4294967296)*4294967296:=by
  rw[bN,←dJ,Nat.mod_add_div']
 have h3:p*c1=p*c+p*(g*d):=by rw[hc,dJ]
 rw[cS,bL bo,bL c] at hw
 rw[bL (g*d),cS,←bN b,←bN (c1/4294967296),bL b,bL (c1/4294967296)]
 rw[←bN] at h1
 omega
theorem aAd{W W' U E p u x bo b c:Nat}(hs:W'+p*u=W+p*x)(hw:W+E=U+(bo+c)*p)(hx:x+(c+bo)=u+b*4294967296):W'+E=U+b*(p*4294967296):=by
 have h1:=congrArg (p* ·) hx
 simp only[dJ] at h1
 rw[cS,bL bo,bL c] at hw
 rw[←bN b,bL b]
 rw[←bN] at h1
 omega
theorem aAZ{W W' R E p u d c:Nat}(hs:W'+p*u=W+p*((c+(u+d))%4294967296))(hw:W+c*p=R+E):W'+(c+(u+d))/4294967296*(p*4294967296)=R+(E+d*p):=by
 have h2:p*(c+(u+d))=p*((c+(u+d))%4294967296)+p*((c+(u+d))/4294967296)*4294967296:=by
  rw[bN,←dJ,Nat.mod_add_div']
 rw[dJ p c,dJ p u] at h2
 rw[bL c] at hw
 rw[bL d,←bN,bL _ p]
 omega
theorem aBT{W W' R p u c:Nat}(hs:W'+p*u=W+p*((u+c)%4294967296))(hw:W+c*p=R):W'+(u+c)/4294967296*(p*4294967296)=R:=by
 have h2:p*(u+c)=p*((u+c)%4294967296)+p*((u+c)/4294967296)*4294967296:=by
  rw[bN,←dJ,Nat.mod_add_div']
 rw[dJ p u] at h2
 rw[bL c] at hw
 rw[←bN,bL _ p]
 omega
theorem aF0{us:List Nat}(h:DOk us)(i:Nat)(hd:dv us<4294967296^(i+3)):
  dv us=((us.getD (i+2) 0*4294967296+us.getD (i+1) 0)*4294967296+us.getD i 0)*4294967296^i+dv (us.take i):=by
 have h0:=aix hd
 rw[aeA us i,afE us i,afE us (i+1),afE us (i+2),h0,kZ,bL]
 congr 2
 omega
theorem aGk{us:List Nat}(h:DOk us)(i:Nat)(hd:dv us<4294967296^(i+2)):
  dv us=(us.getD (i+1) 0*4294967296+us.getD i 0)*4294967296^i+dv (us.take i):=by
 have h0:=aix hd
 rw[aeA us i,afE us i,afE us (i+1),h0,kZ,bL]
 congr 2
 omega
theorem ag6{us:List Nat}{k i d:Nat}(h:DOk us)(hd:d<4294967296)(hk:dv us<4294967296^k)(hi:i<k):dv (us.set i d)<4294967296^k:=by
 rw[aeA _ k,List.drop_set,if_pos hi,aix hk,pY,dY]
 exact afT (h.set i hd) k
end Go.Sx
end
section
namespace Go.Sx
open Go Go.Proofs Tryz
theorem atA(p k a1 a2 E:Nat)(hk:k<32)(h1:a1<4294967296)(hp:p=2^k):(a1+4294967296*(a2+4294967296*E))/p=(a1+a2*4294967296)/p%4294967296+4294967296*((a2+4294967296*E)/p):=by
 subst hp
 have hp0:0<(2:Nat)^k:=eX (by omega)
 have hB:4294967296=2^(32-k)*2^k:=by rw[←fV,show 32-k+k=32 by omega]
 -- the quotient and the rest of the quotient by the base
 have hq:(a1+4294967296*(a2+4294967296*E))/2^k/4294967296=(a2+4294967296*E)/2^k:=by
  rw[mJ,bL (2^k),←mJ,lS _ _ (by decide),jJ h1,fQ]
 have hr:(a1+4294967296*(a2+4294967296*E))/2^k%4294967296=(a1+a2*4294967296)/2^k%4294967296:=by
  have e1:a1+4294967296*(a2+4294967296*E)=(a1+a2*4294967296)+2^k*(2^(32-k)*(4294967296*E)):=by
   rw[←bN (2^k),bL (2^k) (2^(32-k)),←hB]
   omega
  rw[e1,lS _ _ hp0]
  rw[show 2^(32-k)*(4294967296*E)=4294967296*(2^(32-k)*E) by rw[kM]]
  rw[nJ]
 have h:=Nat.mod_add_div ((a1+4294967296*(a2+4294967296*E))/2^k) 4294967296
 rw[hq,hr] at h
 exact h.symm
theorem ast(a:List Nat)(i:Nat):dv (a.drop i)=a.getD i 0+4294967296*dv (a.drop (i+1)):=by
 by_cases h:i<a.length
 ·rw[bQ h,aX,aQ h];rfl
 ·rw[fX (by omega),fX (by omega),alu (by omega)];rfl
theorem av5{a:List Nat}(ha:DOk a)(k i:Nat)(hk:k<32):dv (a.drop i)/2^k=(a.getD i 0+a.getD (i+1) 0*4294967296)/2^k%4294967296+4294967296*(dv (a.drop (i+1))/2^k):=by
 rw[ast a i,ast a (i+1)]
 exact atA _ k _ _ _ hk (ha.get i) rfl
theorem aBx{A G:Gh}{x:SV}{ds:List Nat}{k kk:Nat}(hx:IsD A x ds)[GL A G](hk32:k<32)(hk:dv ds/2^k<2^kk)(hb:ds.length≤1125899906842):
  Fn prog 294 [x.v, .int .u64 (k:Int)] G (fun v G'=> ∃z:SV,v=z.v∧IsN kk G' z (dv ds/2^k)):=by
 have htl:=abw ds
 have hcall:=fun G1 (_:GL A G1)=>aa2 (G:=G1) hx (by omega)
 have hxt:=hx.trim
 rw[←abb ds] at hk⊢
 generalize trimD ds=a at*
 have hok:=hxt.ok
 refine Fn.intro func294 J J ntmps294 rfl ?_
 intro C _ _
 refine sR<|sa J J<|zE<|sR<|sm J J<|?_
 refine sc (zC J J (hcall _ inferInstance) rfl ?_)
 rintro _ G1 _ rfl
 refine sa J J<|zE<|aan<|sR<|sm J J<|sy (ahA J J (by omega) (by omega) (by decide)) rfl<|sm J J<|ads J J<|sy (aaK rfl) rfl<|?_
 rw[show(k:Int)/32=0 by omega]
 refine sy (ahY J J) rfl<|zE<|?_
 refine aaE rfl (fun hc=>?_) (fun hc=>?_) -- slot 17
 ·refine sR<|sa J J<|zE<|aaH<|?_
  have:a=[]:=bS (by omega)
  subst this
  refine zD (.tmp rfl .nil) ⟨⟨none,0,0⟩,rfl,?_⟩
  have e0:dv []/2^k=0:=by simp[dv]
  rw[e0]
  exact⟨by unfold dg;exact .nil _,eX (by omega)⟩
 refine zK<|sR<|sm J J<|sy (ahA J J (by omega) (by omega) (by decide)) rfl<|sy (aq9 rfl) rfl<|sm J J<|sy (ahB J J (by omega) (by decide)) rfl<|?_
 rw[show(k:Int)/32=0 by omega,show(k:Int)%32=k by omega]
 refine sa J J<|sa J J<|zE<|sR<|sm J J<|ads J J<|sm J J<|sy (aba J J) rfl<|?_
 refine sc (ae0 J J (by omega) (by omega) (by omega) (by rfl) rfl ?_)
 intro b2
 rw[ad3,show((a.length:Int)-0).toNat=a.length by omega]
 refine sa J J<|zE<|aan<|sR<|sm J J<|ads J J<|sm J J<|zE<|aat<|?_
 refine acm (X:=apN) (fun q=>[(30, .int .i64 q.i),(29, .int .i64 a.length),(0, .slice x.a a.length x.c),(5, .int .i64 0),(7, .slice (some ⟨b2,0,none⟩) a.length a.length),(6, .int .u64 k)])
  (fun q=>[⟨b2,q.ws.map dI,215,true⟩])
  (fun q _=>q.i≤a.length∧q.ws.length=a.length∧DOk q.ws∧dv a/2^k=dv (q.ws.take q.i)+4294967296^q.i*(dv (a.drop q.i)/2^k)) (fun q=>a.length-q.i) ⟨List.replicate a.length 0,0⟩
  ⟨bX _,by simp, .replicate _,by simp[dv]⟩ (.cons rfl (.cons rfl (.cons rfl (.cons rfl (.cons rfl (.cons rfl .nil)))))) rfl ?_
 rintro ⟨ws,i⟩ Gy _ ⟨hia,hwl,hwo,hinv⟩
 simp only[] at hia hwl hwo hinv⊢
 refine sR<|sy (acu J J) rfl<|zE<|aan<|?_
 refine abC rfl (fun hc=>?_) (fun hc=>?_) -- slot 31
 ·have hin:i=a.length:=by omega
  refine abI<|abY<|abY<|aau<|sR<|sm J J<|?_
  refine acr b2 (.hd ..) (fun G3 _ hgb=>?_)
  have hD:IsD G3 ⟨some ⟨b2,0,none⟩,a.length,a.length⟩ ws:= .of_block hwo hgb.h hwl.symm (aM _) (by rw[aR (by simp)])
  have hdv:dv a/2^k=dv ws:=by
   rw[hinv,hin,aR (by omega),dR]
   simp[dv]
  refine sc (zC J J (aa2 hD (by omega)) rfl ?_)
  rintro _ G4 _ rfl
  refine sa J J<|zE<|aaH<|?_
  refine zD (.tmp rfl .nil) ⟨⟨some ⟨b2,0,none⟩,(trimD ws).length,a.length⟩,rfl,?_⟩
  have h3:=hD.trim.up (G:=G4)
  rw[hdv] at hk⊢
  exact⟨by rw[adv hwo];exact h3,hk⟩
 have hia':i<a.length:=by omega
 have hga:=hok.get i
 have hga2:=hok.get (i+1)
 refine zK<|aan<|aat<|sR<|sm J J<|sa J J<|zE<|sR<|sm J J<|sm J J<|sm J J<|sy (aas J J) rfl<|?_
 refine sy (ab3 (z:=⟨x.a,a.length,x.c⟩) hxt J J (by omega) (by show((i:Int)+0)<(a.length:Nat);omega)) rfl<|?_
 rw[show((i:Int)+0).toNat=i by omega]
 refine sy (ab2 hxt rfl (by omega)) rfl<|sy (aaK rfl) rfl<|sa J J<|zE<|?_
 refine ane Unit (fun _=>[(30, .int .i64 i),(8, .int .i64 i),(29, .int .i64 a.length),(0, .slice x.a a.length x.c),(5, .int .i64 0),(7, .slice (some ⟨b2,0,none⟩) a.length a.length),(6, .int .u64 k),(9, .int .u64 ((a.getD i 0+a.getD (i+1) 0*2^32:Nat):Int))]) (fun _=>[⟨b2,ws.map dI,215,true⟩]) (fun _ _=>True) ?_ ?_
 ·refine sR<|sm J J<|sm J J<|sy (aas J J) rfl<|sy (aas J J) rfl<|sm J J<|ads J J<|sy (acu J J) rfl<|?_
  refine zE<|?_
  refine aaE rfl (fun hc2=>?_) (fun hc2=>?_) -- slot 46
  ·refine aao<|sm J J<|sm J J<|sm J J<|sm J J<|sy (aas J J) rfl<|sy (aas J J) rfl<|sy (ab3 (z:=⟨x.a,a.length,x.c⟩) hxt J J (by omega) (by show((i:Int)+0+1)<(a.length:Nat);omega)) rfl<|?_
   rw[show((i:Int)+0+1).toNat=i+1 by omega]
   refine sy (ab2 hxt rfl (by omega)) rfl<|sy (aaK rfl) rfl<|sy (ajU J J (by decide)) rfl<|?_
   rw[aeg (a.getD (i+1) 0) 32 (by decide) (by omega) rfl]
   refine sy (aca J J (ayV (a.getD i 0) (a.getD (i+1) 0) 32 (by omega) (by omega))) rfl<|sa J J<|zE<|?_
   exact ajZ () trivial (.cons rfl (.cons rfl (.cons rfl (.cons rfl (.cons rfl (.cons rfl (.cons rfl (.cons rfl .nil)))))))) rfl
  refine zK<|?_
  have h0:a.getD (i+1) 0=0:=alu (by omega)
  exact ajZ () trivial (.cons rfl (.cons rfl (.cons rfl (.cons rfl (.cons rfl (.cons rfl (.cons rfl (.cons (by rw[h0,lY,dY];rfl) .nil)))))))) rfl
 rintro _ Gz _ _
 refine aao<|sm J J<|sm J J<|sm J J<|sm J J<|sy (adJ J J (by omega)) rfl<|?_
 rw[aeX _ k (by omega) (bK k)]
 refine sy (abm rfl) rfl<|sy (abp J J (by omega) (by omega)) rfl<|?_
 rw[bK]
 refine sc (aa9 (d:=(a.getD i 0+a.getD (i+1) 0*2^32)/2^k%4294967296) J J (by rw[oJ];rfl) (.hd ..) (by omega) rfl ?_)
 refine zE<|aao<|sy (aas J J) rfl<|sm J J<|zE<|?_
 refine aa6 ⟨ws.set i ((a.getD i 0+a.getD (i+1) 0*2^32)/2^k%4294967296),i+1⟩ ⟨by show i+1≤_;omega,by simp[hwl],hwo.set _ (cY _ (by decide)),?_⟩ (by show a.length-(i+1)<a.length-i;omega) (.cons rfl (.cons rfl (.cons rfl (.cons rfl (.cons rfl (.cons rfl .nil)))))) rfl
 show dv a/2^k=dv ((ws.set i ((a.getD i 0+a.getD (i+1) 0*2^32)/2^k%4294967296)).take (i+1))+4294967296^(i+1)*(dv (a.drop (i+1))/2^k)
 rw[hinv,abj (by omega),av5 hok k i hk32,azw i,dJ,bN,jU]
end Go.Sx
end
