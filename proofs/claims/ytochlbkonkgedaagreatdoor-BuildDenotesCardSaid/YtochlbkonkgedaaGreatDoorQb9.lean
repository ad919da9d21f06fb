import Derived.Test.YtochlbkonkgedaaGreatDoorQb8
import Derived.Shelf.Small.Bits
import Derived.Shelf.Strconv.Itoa0
import Derived.Shelf.Strconv.Itoa1
import Derived.Shelf.LaysM
import Derived.Shelf.Strconv.Itoa2
import Derived.Shelf.Strconv.Itoa3
import Derived.Shelf.Bits.Mul64
import Derived.Test.YtochlbkonkgedaaGreatDoorProg
set_option linter.all false
set_option maxHeartbeats 1000000
set_option maxRecDepth 100000
section
namespace Go.Proofs
open Go.Shelf
def Tryz.lays128_ren:Go.Shelf.Ren:=⟨fun|128=>220|n=>n,fun|51=>218|3=>3|4=>4|46=>219|5=>5|9=>9|n=>n,fun|n=>n⟩
def Tryz.lays125_ren:Go.Shelf.Ren:=⟨fun|125=>177|128=>220|129=>221|n=>n,fun|46=>219|3=>3|51=>218|53=>170|4=>4|5=>5|9=>9|n=>n,fun|n=>n⟩
def Tryz.lays133_ren:Go.Shelf.Ren:=⟨fun|133=>201|128=>220|n=>n,fun|51=>218|3=>3|4=>4|46=>219|5=>5|9=>9|n=>n,fun|n=>n⟩
def Tryz.lays133:Go.Proofs.Lays.n133 Tryz.prog Tryz.lays133_ren:={
 mixed:=by kernel_rfl
 f128:=Tryz.func220.trans (congrArg some (by kernel_rfl))
 f133:=Tryz.func201.trans (congrArg some (by kernel_rfl))
 t3:=Tryz.underlying3
 a3:=Tryz.isAgg3
 z3:=Tryz.sizeOf3
 v3:=Tryz.zeroValue3
 t4:=Tryz.underlying4
 a4:=Tryz.isAgg4
 z4:=Tryz.sizeOf4
 v4:=Tryz.zeroValue4
 t5:=Tryz.underlying5
 a5:=Tryz.isAgg5
 z5:=Tryz.sizeOf5
 v5:=Tryz.zeroValue5
 t9:=Tryz.underlying9
 a9:=Tryz.isAgg9
 z9:=Tryz.sizeOf9
 v9:=Tryz.zeroValue9
 t46:=Tryz.underlying219
 a46:=Tryz.isAgg219
 z46:=Tryz.sizeOf219
 v46:=Tryz.zeroValue219
 t51:=Tryz.underlying218
 a51:=Tryz.isAgg218
 z51:=Tryz.sizeOf218
 v51:=Tryz.zeroValue218}
def Tryz.bits_LeadingZeros32(x:Int)(w:World)(h0:0<=x)(h1:x<=4294967295):
  Calls Tryz.prog 201 #[.int .u32 x] w fun e w'=>e= .returned (.int .i64 (32-(Lib.bitLen x.toNat:Int)))/\w'=w:=Any.bits_LeadingZeros32 Tryz.lays133 x w h0 h1
def Tryz.lays129_ren:Go.Shelf.Ren:=⟨fun|129=>221|n=>n,fun|53=>170|3=>3|4=>4|46=>219|5=>5|9=>9|n=>n,fun|n=>n⟩
def Tryz.lays317_ren:Go.Shelf.Ren:=⟨fun|317=>248|n=>n,fun|3=>3|46=>219|n=>n,fun|n=>n⟩
open Go.Lib in
def Tryz.lays318_ren:Go.Shelf.Ren:=⟨fun|318=>249|n=>n,fun|3=>3|4=>4|n=>n,fun|n=>n⟩
open Go.Lib in
def Tryz.lays283_ren:Go.Shelf.Ren:=⟨fun|283=>227|n=>n,fun|3=>3|9=>9|4=>4|n=>n,fun|n=>n⟩
open Go.Lib in
def Tryz.laysM284_ren:Go.Shelf.Ren:=⟨fun|284=>228|129=>221|317=>248|318=>249|n=>n,fun|53=>170|3=>3|212=>324|0=>0|4=>4|46=>219|5=>5|9=>9|n=>n,fun|17=>4|n=>n⟩
open Go.Lib in
def Tryz.lays285_ren:Go.Shelf.Ren:=⟨fun|285=>229|n=>n,fun|37=>304|53=>170|3=>3|4=>4|51=>218|9=>9|5=>5|0=>0|n=>n,fun|n=>n⟩
open Go.RowKit Go.Sort Go.Lib in
def Tryz.laysM246_ren:Go.Shelf.Ren:=⟨fun|246=>188|283=>227|284=>228|285=>229|286=>230|129=>221|317=>248|318=>249|319=>250|320=>251|337=>256|338=>257|n=>n,fun|2=>2|3=>3|9=>9|4=>4|171=>302|0=>0|53=>170|37=>304|5=>5|173=>305|212=>324|51=>218|20=>20|213=>325|46=>219|232=>332|233=>333|n=>n,fun|17=>4|18=>5|19=>6|n=>n⟩
open Go.RowKit Go.Sort Go.Lib in
def Tryz.lays246_ren:Go.Shelf.Ren:=⟨fun|246=>188|283=>227|284=>228|285=>229|286=>230|129=>221|317=>248|318=>249|319=>250|320=>251|337=>256|338=>257|n=>n,fun|2=>2|3=>3|9=>9|4=>4|171=>302|0=>0|53=>170|37=>304|5=>5|173=>305|212=>324|51=>218|20=>20|213=>325|46=>219|232=>332|233=>333|n=>n,fun|17=>4|18=>5|19=>6|n=>n⟩
open Go.RowKit Go.Sort Go.Lib in
def Tryz.laysM243_ren:Go.Shelf.Ren:=⟨fun|243=>143|246=>188|283=>227|284=>228|285=>229|286=>230|129=>221|317=>248|318=>249|319=>250|320=>251|337=>256|338=>257|n=>n,fun|3=>3|9=>9|2=>2|4=>4|171=>302|0=>0|53=>170|37=>304|5=>5|173=>305|212=>324|51=>218|20=>20|213=>325|46=>219|232=>332|233=>333|n=>n,fun|17=>4|18=>5|19=>6|n=>n⟩
open Go.RowKit Go.Sort Go.Lib in
def Tryz.lays243_ren:Go.Shelf.Ren:=⟨fun|243=>143|246=>188|283=>227|284=>228|285=>229|286=>230|129=>221|317=>248|318=>249|319=>250|320=>251|337=>256|338=>257|n=>n,fun|3=>3|9=>9|2=>2|4=>4|171=>302|0=>0|53=>170|37=>304|5=>5|173=>305|212=>324|51=>218|20=>20|213=>325|46=>219|232=>332|233=>333|n=>n,fun|17=>4|18=>5|19=>6|n=>n⟩
open Go.RowKit Go.Sort Go.Lib in
def Tryz.laysM171_ren:Go.Shelf.Ren:=⟨fun|171=>91|243=>143|246=>188|283=>227|284=>228|285=>229|286=>230|129=>221|317=>248|318=>249|319=>250|320=>251|337=>256|338=>257|n=>n,fun|3=>3|9=>9|2=>2|4=>4|171=>302|0=>0|53=>170|37=>304|5=>5|173=>305|212=>324|51=>218|20=>20|213=>325|46=>219|232=>332|233=>333|n=>n,fun|17=>4|18=>5|19=>6|n=>n⟩
open Go.RowKit Go.Sort Go.Lib in
def Tryz.lays171_ren:Go.Shelf.Ren:=⟨fun|171=>91|243=>143|246=>188|283=>227|284=>228|285=>229|286=>230|129=>221|317=>248|318=>249|319=>250|320=>251|337=>256|338=>257|n=>n,fun|3=>3|9=>9|2=>2|4=>4|171=>302|0=>0|53=>170|37=>304|5=>5|173=>305|212=>324|51=>218|20=>20|213=>325|46=>219|232=>332|233=>333|n=>n,fun|17=>4|18=>5|19=>6|n=>n⟩
open Go.RowKit Go.Sort Go.Lib in
def Tryz.lays264_ren:Go.Shelf.Ren:=⟨fun|264=>237|n=>n,fun|53=>170|46=>219|n=>n,fun|n=>n⟩
def Tryz.lays264:Go.Proofs.Lays.n264 Tryz.prog Tryz.lays264_ren:={
 mixed:=by kernel_rfl
 f264:=Tryz.func237.trans (congrArg some (by kernel_rfl))
 t46:=Tryz.underlying219
 a46:=Tryz.isAgg219
 z46:=Tryz.sizeOf219
 v46:=Tryz.zeroValue219
 t53:=Tryz.underlying170
 a53:=Tryz.isAgg170
 z53:=Tryz.sizeOf170
 v53:=Tryz.zeroValue170}
open Go.RowKit Go.Lib in
def Tryz.bits_Mul64(x y:Nat)(hx:x<18446744073709551616)(hy:y<18446744073709551616)(w:World):
  Calls Tryz.prog 237 #[.int .u64 x, .int .u64 y] w fun e w'=>e= .returned (.tuple #[.int .u64 ((x*y/18446744073709551616:Nat):Int), .int .u64 ((x*y%18446744073709551616:Nat):Int)])/\w'=w:=Any.bits_Mul64 Tryz.lays264 x y hx hy w
end Go.Proofs
end
section
namespace Go.Sx
open Go Go.Proofs Tryz
def bl(x:Nat):Nat:=if x=0 then 0 else Nat.log2 x+1
def EJ(x:Nat):x<2^bl x:=by
 unfold bl;split
 ·rename_i h;subst h;decide
 ·exact Nat.lt_log2_self
def pc{x k:Nat}:bl x<=k↔x<2^k:=by
 constructor
 ·intro h;exact dR (EJ x) (bS (by omega) h)
 ·intro h
  unfold bl;split
  ·omega
  ·rename_i h0
   have:=(Nat.log2_lt h0).2 h;omega
def aCD{x:Nat}(h:x≠0):bl x=1+bl (x/2):=by
 have h1: ∀k,bl x<=k+1↔bl (x/2)<=k:=fun k=>by
  rw[pc,pc,gW];omega
 have h2:bl x≠0:=fun e=>by
  have:=EJ x;rw[e] at this;simp at this;exact h this
 have h3:=(h1 (bl (x/2))).2 (bQ _);have h4:=(h1 (bl x-1)).1 (by omega);omega
def Ul: ∀(f x:Nat),x<2^f->Lib.bitLenAux f x=bl x
 |0,x,h=>by
  have:x=0:=by simpa using h
  subst this;rfl
 |f+1,x,h=>by
  unfold Lib.bitLenAux;split
  ·rename_i h0;subst h0;rfl
  ·rename_i h0
   rw[Ul f (x/2) (by rw[gW] at h;omega),aCD h0]
def V0{x:Nat}(h:x<2^64):Lib.bitLen x=bl x:=Ul 64 x h
def Ya{x k:Nat}(d:Nat)(h:x<2^k)(hd:d≠0):bl (x+2^k*d)=k+bl d:=by
 have h1: ∀j,bl (x+2^k*d)<=k+j↔bl d<=j:=fun j=>by
  rw[pc,pc,gJ];constructor
  ·intro h'
   exact Nat.lt_of_mul_lt_mul_left (a:=2^k) (by omega)
  ·intro h'
   have:2^k*(d+1)<=2^k*2^j:=gK _ h';rw[eX] at this;omega
 have h2:k<bl (x+2^k*d):=by
  rcases iN k (bl (x+2^k*d)) with h'|h'
  ·exact h'
  ·have:=pc.1 h'
   have h3:2^k*1<=2^k*d:=gK _ (by omega);omega
 have h3:=(h1 (bl d)).2 (bQ _);have h4:=(h1 (bl (x+2^k*d)-k)).1 (by omega);omega
def aHf{ds:List Nat}(h:bw ds)(hn:er ds)(hne:ds≠[]):bl (dv ds)=32*(ds.length-1)+bl (ds.getD (ds.length-1) 0):=by
 rcases sZ ds with rfl|⟨l,d,rfl⟩
 ·exact absurd J hne
 ·rw[sX] at*
  have hd:d≠0:=fun e=>by subst e;simp[er] at hn
  have hl:bw l:=fun x hx=>h x (bM _ hx);have h1:=jz hl;rw[A1];have h2:(4294967296:Nat)^l.length=2^(32*l.length):=by rw[pR]
  rw[h2] at h1⊢;have h3:dv [d]=d:=by simp[dv]
  rw[h3,Ya d h1 hd];have h4:(l++[d]).length-1=l.length:=by simp
  rw[h4,aK,gX (bQ _)];simp
def NI{P:Program}{f:FuncId}{fn:Func}{c:Code}(h:P.funcs[f]? =some fn)(hb:fn.body=some c)(hn:(fn.name== "runtime.NumGoroutine")=false):pO P f:=⟨fn,h,hn,by rw[hb];rfl⟩
def Ik{G:Gh}{x:Nat}(hx:x<4294967296):Fn prog 201 [.int .u32 (x:Int)] G (fun v _=>v= .int .i64 (32-(bl x:Int))):=by
 have h:=Fn.of_calls (G:=G) (NI func201 J J) (fun w=>Tryz.bits_LeadingZeros32 (x:Int) w (by omega) (by omega));rw[bZ,V0 (qZ hx (by decide))] at h;exact h
def HA{G:Gh}{u:Nat}(hu:u<18446744073709551616):Fn prog 198 [.int .u64 (u:Int)] G (fun v G'=> ∃z:SV,v=z.v/\fE 64 G' z u):=by
 refine Fn.intro func198 J J ntmps198 J ?_;intro C _ _;refine sR<|sa J J<|zE<|sR<|sm J J<|sy (lg J) J<|sm J J<|?_;refine sy (ng J J (by decide)) J<|sy (lg J) J<|?_;refine sc (Io (by rfl) (by rfl) (by rfl) (by rfl) J ?_);intro b1;refine qm b1 (.hd ..) (fun G1 _ hgb=>?_);have h1:((u:Int)%4294967296)=((u%4294967296:Nat):Int):=by omega
 have h2:((u:Int).fdiv (2^min (32:Int).toNat IntKind.u64.bits)%4294967296)=((u/4294967296:Nat):Int):=by
  have:(2^min (32:Int).toNat IntKind.u64.bits:Int)=4294967296:=by decide
  rw[this,iJ _ (by omega)];omega
 have hok:bw [u%4294967296,u/4294967296]:= .cons (by omega) (.cons (by omega) .nil);have hd:cA G1 ⟨some ⟨b1,0,none⟩,2,2⟩ [u%4294967296,u/4294967296]:= .of_block hok hgb.h J (bQ _) (by rw[h1,h2];rfl);have hv:dv [u%4294967296,u/4294967296]=u:=by simp only[dv];omega
 refine sc (zC J J (jn hd (by simp)) J ?_);rintro _ G2 _ rfl;refine sa J J<|zE<|di<|?_;refine zD (.tmp J .nil) ⟨⟨some ⟨b1,0,none⟩,(trimD [u%4294967296,u/4294967296]).length,2⟩,J,?_⟩;have:=hd.trim.up (G:=G2);rw[<-qe hok,hv] at this;exact⟨by rw[<-qe hok,hv];exact this,dR hu (by decide)⟩
def P8{P:Program}{t:TypeId}(a b k:Nat)(ha:a<2^k)(h:a+b*2^k<18446744073709551616)(w:World):(binOp .or t (.int .u64 (a:Int)) (.int .u64 ((b*2^k:Nat):Int))).run P w= .ok (.int .u64 ((a+b*2^k:Nat):Int)) w:=by
 have h1:(BitVec.ofInt 64 (a:Int) ||| BitVec.ofInt 64 ((b*2^k:Nat):Int)).toNat=a+b*2^k:=by
  rw[BitVec.toNat_or,BitVec.ofInt_natCast,BitVec.ofInt_natCast,BitVec.toNat_ofNat,BitVec.toNat_ofNat,fU (by omega),fU (by omega)];rw[<-mK,Nat.or_comm,<-mY ha,mK];omega
 have h2:IntKind.u64.wrap ((a+b*2^k:Nat):Int)=((a+b*2^k:Nat):Int):=by rw[nO];omega
 simp only[binOp];show(Op.intBits .or .u64 (a:Int) ((b*2^k:Nat):Int)).run P w=_;unfold Op.intBits;show(pure (Value.int .u64 (IntKind.u64.wrap ((BitVec.ofInt 64 (a:Int) ||| BitVec.ofInt 64 ((b*2^k:Nat):Int)).toNat:Int))):Sem Value).run P w=_;rw[h1,h2,run_pure]
def JY{A G:Gh}{x:SV}{ds:List Nat}(hx:cA A x ds)[GL A G](hb:ds.length<=1125899906842624):Fn prog 184 [x.v] G (fun v _=>v= .tuple #[.int .u64 ((if dv ds<18446744073709551616 then dv ds else 0:Nat):Int), .bool (decide (dv ds<18446744073709551616))]):=by
 have htl:=og ds;have hdv:=jP ds;have hok:=hx.ok.trimD;have hnr:=er.trimD ds;have hxt:=hx.trim;have hcall:=fun G1 (_:GL A G1)=>jn (G:=G1) hx (by omega);generalize trimD ds=es at*;have hlen:=hxt.len;rw[<-hdv];have hbig:(if dv es<18446744073709551616 then dv es else 0)=if es.length<=2 then dv es else 0:=by
  by_cases h2:es.length<=2
  ·have h3:=jz hok
   have h4:(4294967296:Nat)^es.length<=4294967296^2:=bS (by omega) h2;rw[if_pos h2,if_pos (by omega)]
  ·have h3:=ri hnr (fun e=>by subst e;simp at h2)
   have h4:(4294967296:Nat)^2<=4294967296^(es.length-1):=bS (by omega) (by omega);rw[if_neg h2,if_neg (by omega)]
 have hbig2:decide (dv es<18446744073709551616)=decide (es.length<=2):=by
  rw[decide_eq_decide];by_cases h2:es.length<=2
  ·have h3:=jz hok
   have h4:(4294967296:Nat)^es.length<=4294967296^2:=bS (by omega) h2;exact⟨fun _=>h2,fun _=>by omega⟩
  ·have h3:=ri hnr (fun e=>by subst e;simp at h2)
   have h4:(4294967296:Nat)^2<=4294967296^(es.length-1):=bS (by omega) (by omega);exact⟨fun _=>by omega,fun h=>absurd h h2⟩
 rw[hbig,hbig2];refine Fn.intro func184 J J ntmps184 J ?_;intro C _ _;refine sR<|sa J J<|sa J J<|zE<|sR<|sm J J<|?_;refine sc (zC J J (hcall _ inferInstance) J ?_);rintro _ G1 _ rfl;refine sa J J<|zE<|bz<|sR<|sm J J<|c8 J J<|sy (tA J J) J<|zE<|?_;refine f8 J (fun hc=>?_) (fun hc=>?_) -- slot 11
 ·refine sR<|sa J J<|sa J J<|zE<|di<|?_
  refine zD (.tmp J (.tmp J .nil)) ?_;have: ¬es.length<=2:=by omega
  simp[gI,this]
 have h2:es.length<=2:=by omega
 refine zK<|sR<|sa J J<|zE<|bz<|sR<|sm J J<|c8 J J<|sm J J<|zE<|eh<|?_;refine mn (X:=Nat) (fun k=>[(14, .int .i64 k),(13, .int .i64 es.length),(12, .slice x.a es.length x.c),(4, .int .u64 ((dv (es.take k):Nat):Int))]) (fun _=>[]) (fun k _=>k<=es.length) (fun k=>es.length-k) 0 (bT _) (.cons J (.cons J (.cons J (.cons J .nil)))) J ?_;rintro k Gx _ hk;refine sR<|sy (jo J J) J<|zE<|bz<|?_;refine mz J (fun hc=>?_) (fun hc=>?_) -- slot 15
 ·refine jC<|e8<|e8<|jB<|sR<|sm J J<|sa J J<|sa J J<|zE<|di<|?_
  refine zD (.tmp J (.tmp J .nil)) ?_;have hk':k=es.length:=by omega
  subst hk';simp[gI,h2]
 have hk':k<es.length:=by omega
 have hdk:=hok.get k;have hdt:=jz (hok.take k);rw[cK,gT (by omega)] at hdt;have hds:=jj es k;have hd2:=jz (hok.take (k+1));rw[cK,gT (by omega)] at hd2;have hp2:(4294967296:Nat)^(k+1)<=4294967296^2:=bS (by omega) (by omega);have hpk:(4294967296:Nat)^k=2^(32*k):=by rw[pR]
 refine zK<|bz<|eh<|sR<|sm J J<|sy (iA (z:=⟨x.a,es.length,x.c⟩) hxt J J (by omega) (by show(k:Int)<(es.length:Nat);omega)) J<|sy (iB hxt J (by omega)) J<|sa J J<|sa J J<|zE<|d7<|?_;refine sm J J<|sm J J<|sy (gF J (by omega) (by rw[bZ];omega)) J<|sm J J<|sy (Pk J J (by omega) (by omega)) J<|?_;have hsh:IntKind.u64.wrap (((es.getD (k:Int).toNat 0:Nat):Int)*2^min ((32:Int)*(k:Int)).toNat IntKind.u64.bits)=((es.getD k 0*2^(32*k):Nat):Int):=by
  have e1:((32:Int)*(k:Int)).toNat=32*k:=by omega
  rw[e1,bZ,gT (by show 32*k<=64;omega),nO];have e2:((es.getD k 0:Nat):Int)*2^(32*k)=((es.getD k 0*2^(32*k):Nat):Int):=by push_cast;rfl
  rw[e2];have e3:es.getD k 0*2^(32*k)<18446744073709551616:=by rw[<-hpk,cV];omega
  omega
 refine sy (yk J J (by omega)) J<|?_;rw[hsh];refine sy (iO J J (P8 (dv (es.take k)) (es.getD k 0) (32*k) (by rw[<-hpk];exact hdt) (by rw[<-hpk,cV];omega))) J<|sa J J<|zE<|d7<|sy (d6 J J) J<|sm J J<|zE<|?_;refine jw (k+1) (by omega) (by omega) (.cons J (.cons J (.cons J (.cons ?_ .nil)))) J;rw[hds,hpk,cV (2^(32*k))];rfl
def Xh{A G:Gh}{x:SV}{ds:List Nat}(hx:cA A x ds)[GL A G](hb:ds.length<=1125899906842624):Fn prog 180 [x.v] G (fun v _=>v= .int .i64 ((bl (dv ds):Nat):Int)):=by
 have htl:=og ds;have hdv:=jP ds;have hok:=hx.ok.trimD;have hnr:=er.trimD ds;have hxt:=hx.trim;have hcall:=fun G1 (_:GL A G1)=>jn (G:=G1) hx (by omega);generalize trimD ds=es at*;have hlen:=hxt.len;rw[<-hdv];refine Fn.intro func180 J J ntmps180 J ?_;intro C _ _;refine sR<|sa J J<|zE<|sR<|sm J J<|?_;refine sc (zC J J (hcall _ inferInstance) J ?_);rintro _ G1 _ rfl;refine sa J J<|zE<|bz<|sR<|sm J J<|c8 J J<|sy (i7 J J) J<|zE<|?_;refine f8 J (fun hc=>?_) (fun hc=>?_) -- slot 7
 ·refine sR<|sa J J<|zE<|di<|?_
  refine zD (.tmp J .nil) ?_;have:es=[]:=bU (by omega);subst this;rfl
 have hne:0<es.length:=by omega
 have hkt:((es.length:Int)-1).toNat=es.length-1:=by omega
 have hg:=hok.get (es.length-1);have hbl:bl (es.getD (es.length-1) 0)<=32:=pc.2 (by omega);refine zK<|sR<|sm J J<|c8 J J<|sy (Pk J J (by omega) (by omega)) J<|sm J J<|sm J J<|c8 J J<|sy (j' J J) J<|?_;refine sy (iA (z:=⟨x.a,es.length,x.c⟩) hxt J J (by omega) (by show _<((es.length:Nat):Int);omega)) J<|sy (iB hxt J (by omega)) J<|?_;rw[hkt];refine sc (zC J J (Ik hg) J ?_);rintro _ G2 _ rfl;refine sy (j' J J) J<|sa J J<|zE<|di<|?_;refine zD (.tmp J .nil) ?_;rw[aHf hok hnr (fun e=>by subst e;simp at hne)];simp only[gI,Value.int.injEq,true_and];omega
def gq(a b:Nat):Int:=if a<b then-1 else if a=b then 0 else 1
def R8{A B G:Gh}{x y:SV}{ds es:List Nat}(hx:cA A x ds)(hy:cA B y es)[GL A G][GL B G](hb:ds.length<=1125899906842624)(hb2:es.length<=1125899906842624):
  Fn prog 223 [x.v,y.v] G (fun v _=>v= .int .i64 (gq (dv ds) (dv es))):=by
 have htl:=og ds;have htl2:=og es;have hcall:=fun G1 (_:GL A G1)=>jn (G:=G1) hx (by omega);have hcall2:=fun G1 (_:GL B G1)=>jn (G:=G1) hy (by omega);have hxt:=hx.trim;have hyt:=hy.trim;have hok:=hx.ok.trimD;have hok2:=hy.ok.trimD;have hnr:=er.trimD ds;have hnr2:=er.trimD es;rw[<-jP ds,<-jP es];generalize trimD ds=a at*;generalize trimD es=b at*;refine Fn.intro func223 J J ntmps223 J ?_;intro C _ _;refine sR<|sa J J<|zE<|sR<|sm J J<|?_;refine sc (zC J J (hcall _ inferInstance) J ?_);rintro _ G1 _ rfl;refine sm J J<|?_;refine sc (zC J J (hcall2 _ inferInstance) J ?_);rintro _ G2 _ rfl;refine sa J J<|sa J J<|zE<|bz<|sR<|sm J J<|c8 J J<|sm J J<|c8 J J<|sy (vh J J) J<|zE<|?_;refine f8 J (fun hc=>?_) (fun hc=>?_) -- slot 14
 ·refine bz<|sR<|sm J J<|c8 J J<|sm J J<|c8 J J<|sy (jo J J) J<|zE<|?_
  refine f8 J (fun hc2=>?_) (fun hc2=>?_) -- slot 19
  ·refine sR<|sa J J<|zE<|di<|?_
   refine zD (.tmp J .nil) ?_;have:=ug hok hnr2 (by omega);simp[gI,gq,this]
  refine zK<|sR<|sa J J<|zE<|di<|?_;refine zD (.tmp J .nil) ?_;have:=ug hok2 hnr (by omega);have h1: ¬dv a<dv b:=by omega
  have h2: ¬dv a=dv b:=by omega
  simp[gI,gq,h1,h2]
 have hl:a.length=b.length:=by omega
 refine zK<|bz<|sR<|sm J J<|c8 J J<|sy (j' J J) J<|sa J J<|zE<|eh<|?_;refine mn (X:=Nat) (fun k=>[(5, .int .i64 (k-1)),(0, .slice x.a a.length x.c),(1, .slice y.a b.length y.c)]) (fun _=>[]) (fun k _=>k<=a.length/\a.drop k=b.drop k) (fun k=>k) a.length ⟨bQ _,by rw[iM,hl,iM]⟩ (.cons J (.cons J (.cons J .nil))) J ?_;rintro k Gx _ ⟨hk,hd⟩;refine bz<|sR<|sm J J<|sy (uC J J) J<|zE<|?_;refine mz J (fun hc=>?_) (fun hc=>?_) -- slot 24
 ·refine jC<|e8<|e8<|jB<|sR<|sa J J<|zE<|di<|?_
  refine zD (.tmp J .nil) ?_;have:k=0:=by omega
  subst this;have hab:a=b:=by simpa using hd
  subst hab;simp[gI,gq]
 have hk1:0<k:=by omega
 have hkt:((k:Int)-1).toNat=k-1:=by omega
 have hga:=hok.get (k-1);have hgb:=hok2.get (k-1);have hk2:k-1+1=k:=by omega
 refine zK<|bz<|eh<|eh<|bz<|dr (fun _=>false) [(0,true),(1,true),(2,true),(3,true),(4,true),(5,true),(6,true),(7,true),(8,true),(9,true)] follows (by kernel_rfl)<|?_;refine dM J J J<|dM J J J<|dy J (fun _=>iA (z:=⟨x.a,a.length,x.c⟩) hxt J J (by omega) (by show _<((a.length:Nat):Int);omega)) J J<|dy J (fun _=>iB hxt J (by omega)) J J<|?_;refine dM J J J<|dM J J J<|dy J (fun _=>iA (z:=⟨y.a,b.length,y.c⟩) hyt J J (by omega) (by show _<((b.length:Nat):Int);omega)) J J<|dy J (fun _=>iB hyt J (by omega)) J J<|?_;refine dy J (fun _=>jo J J) J J<|dA J J J<|dn<|?_;refine f8 J (fun hc2=>?_) (fun hc2=>?_) -- slot 27
 ·refine sR<|sa J J<|zE<|di<|?_
  refine zD (.tmp J .nil) ?_;rw[hkt] at hc2;have:=FA hok hok2 (k-1) (by omega) (by omega) hl (by rw[hk2];exact hd) (by omega);simp[gI,gq,this]
 refine bz<|dr (fun _=>false) [(0,true),(1,true),(2,true),(3,true),(4,true),(5,true),(6,true),(7,true),(8,true),(9,true)] follows (by kernel_rfl)<|dM J J J<|?_;refine dM J J J<|dy J (fun _=>iA (z:=⟨x.a,a.length,x.c⟩) hxt J J (by omega) (by show _<((a.length:Nat):Int);omega)) J J<|dy J (fun _=>iB hxt J (by omega)) J J<|dM J J J<|?_;refine dM J J J<|dy J (fun _=>iA (z:=⟨y.a,b.length,y.c⟩) hyt J J (by omega) (by show _<((b.length:Nat):Int);omega)) J J<|dy J (fun _=>iB hyt J (by omega)) J J<|dy J (fun _=>tA J J) J J<|?_;refine dA J J J<|dn<|?_;rw[hkt] at*;refine f8 J (fun hc3=>?_) (fun hc3=>?_) -- slot 37
 ·refine sR<|sa J J<|zE<|di<|?_
  refine zD (.tmp J .nil) ?_;have:=FA hok2 hok (k-1) (by omega) (by omega) hl.symm (by rw[hk2];exact hd.symm) (by omega);have h1: ¬dv a<dv b:=by omega
  have h2: ¬dv a=dv b:=by omega
  simp[gI,gq,h1,h2]
 refine zK<|d7<|sm J J<|sy (j' J J) J<|sa J J<|zE<|?_;refine jw (k-1) ⟨by omega,?_⟩ (by omega) (.cons (by rw[show((k-1:Nat):Int)=(k:Int)-1 by omega];rfl) (.cons J (.cons J .nil))) J;have heq:a.getD (k-1) 0=b.getD (k-1) 0:=by omega
 rw[aK,aK,aX (by omega),aX (by omega)] at heq;rw[cX (by omega:k-1<a.length),cX (by omega:k-1<b.length),hk2,hd];congr 1
def Dy{ds:List Nat}{k:Nat}(h:ds.length<=k):ds.getD k 0=0:=by
 rw[aK,eK h];rfl
def Ig(n k:Nat):(List.replicate n 0).getD k 0=0:=by
 rw[aK];by_cases h:k<n
 ·simp[h]
 ·rw[eK (by simpa using h)];rfl
def Uz{a b c:Nat}(ha:a<4294967296)(hb:b<4294967296)(hc:c<=1):(c+a+b)/4294967296<=1:=by omega
structure aDC where
 ws:List Nat
 k:Nat
 c:Nat
def aCL{A B G:Gh}{x y:SV}{ds es:List Nat}{kk:Nat}(hx:cA A x ds)(hy:cA B y es)[GL A G][GL B G](hk:dv ds+dv es<2^kk)(hb:ds.length<=1125899906842)(hb2:es.length<=1125899906842):
  Fn prog 239 [x.v,y.v] G (fun v G'=> ∃z:SV,v=z.v/\fE kk G' z (dv ds+dv es)):=by
 have hlen:=hx.len;have hlen2:=hy.len;refine Fn.intro func239 J J ntmps239 J ?_;intro C _ _;refine sR<|sa J J<|zE<|?_;refine Ca ((SV×List Nat)×(SV×List Nat)) (fun q=>[(0, .slice q.1.1.a q.1.1.n q.1.1.c),(1, .slice q.2.1.a q.2.1.n q.2.1.c)]) (fun _=>[])
  (fun q G=>cA G q.1.1 q.1.2/\cA G q.2.1 q.2.2/\dv q.1.2+dv q.2.2=dv ds+dv es/\q.2.2.length<=q.1.2.length/\q.1.2.length<=1125899906842) ?_ ?_
 ·refine sR<|sm J J<|c8 J J<|sm J J<|c8 J J<|sy (jo J J) J<|zE<|?_
  refine f8 J (fun hc=>?_) (fun hc=>?_) -- slot 13
  ·refine d7<|sm J J<|sm J J<|sa J J<|sa J J<|zE<|?_
   exact qk ((y,es),(x,ds)) ⟨hy.up,hx.up,by simp;omega,by simp;omega,by simp;omega⟩ (.cons J (.cons J .nil)) J
  refine zK<|?_;exact qk ((x,ds),(y,es)) ⟨hx.up,hy.up,J,by simp;omega,by simp;omega⟩ (.cons J (.cons J .nil)) J
 rintro ⟨⟨x,a⟩,⟨y,b⟩⟩ Gx _ ⟨hx,hy,hsum,hle,hba⟩;rw[<-hsum] at hk⊢;clear hlen hlen2 hsum;have hlen:=hx.len;have hlen2:=hy.len;simp only[] at hx hy hle hba hlen hlen2 hk⊢;refine sR<|sm J J<|c8 J J<|sy (d6 J J) J<|?_;refine sc (ud J J (by omega) (by omega) (by omega) (by rfl) J ?_);intro b1;rw[uP,show((x.n:Int)+1).toNat=a.length+1 by omega];refine sa J J<|zE<|sR<|sa J J<|zE<|bz<|sR<|sm J J<|c8 J J<|sm J J<|zE<|eh<|?_;refine mn (X:=aDC) (fun q=>[(22, .int .i64 q.k),(21, .int .i64 x.n),(20, .slice x.a x.n x.c),(6, .int .u64 q.c),(0, .slice x.a x.n x.c),(1, .slice y.a y.n y.c),(5, .slice (some ⟨b1,0,none⟩) (a.length+1) (a.length+1))])
  (fun q=>[⟨b1,q.ws.map dI,218,true⟩])
  (fun q _=>q.k<=a.length/\q.ws.length=a.length+1/\bw q.ws/\q.c<=1/\dv (q.ws.take q.k)+4294967296^q.k*q.c=dv (a.take q.k)+dv (b.take q.k)) (fun q=>a.length-q.k) ⟨List.replicate (a.length+1) 0,0,0⟩
  ⟨bT _,by simp, .replicate _,bT _,by simp[dv]⟩ (.cons J (.cons J (.cons J (.cons J (.cons J (.cons J (.cons J .nil))))))) J ?_
 rintro ⟨ws,k,c⟩ Gy _ ⟨hka,hwl,hwo,hc1,hinv⟩;simp only[] at hka hwl hwo hc1 hinv⊢;refine sR<|sy (jo J J) J<|zE<|bz<|?_;refine mz J (fun hc=>?_) (fun hc=>?_) -- slot 23
 ·have hkn:k=a.length:=by omega
  refine jC<|e8<|e8<|jB<|sR<|sm J J<|sm J J<|c8 J J<|sm J J<|sy (lg J) J<|?_;refine sy (fq J J (by omega) (by omega)) J<|?_;refine sc (mj (d:=c) J J (by omega) (.hd ..) (by omega) J ?_);rw[show(x.n:Int).toNat=a.length by omega];refine zE<|sR<|sm J J<|?_;refine qm b1 (.hd ..) (fun G1 _ hgb=>?_);have hwo2:bw (ws.set a.length c):=hwo.set _ (by omega);have hD:cA G1 ⟨some ⟨b1,0,none⟩,a.length+1,a.length+1⟩ (ws.set a.length c):= .of_block hwo2 hgb.h (by simp[hwl]) (bQ _) (by rw[bX (by simp)]);have hdv:dv (ws.set a.length c)=dv a+dv b:=by
   have h1:=qB (ws:=ws) (k:=a.length) (d:=c) (by omega);rw[bX (by simp;omega)] at h1;rw[h1,<-hkn,hinv,hkn,bX (bQ _),bX hle]
  refine sc (zC J J (jn hD (by simp;omega)) J ?_);rintro _ G2 _ rfl;refine sa J J<|zE<|di<|?_;refine zD (.tmp J .nil) ⟨⟨some ⟨b1,0,none⟩,(trimD (ws.set a.length c)).length,a.length+1⟩,J,?_⟩;have h3:=hD.trim.up (G:=G2);rw[<-hdv] at hk⊢;exact⟨by rw[qe hwo2];exact h3,hk⟩
 have hka':k<a.length:=by omega
 have hga:=hx.ok.get k;have hgb:=hy.ok.get k;refine zK<|bz<|eh<|sR<|sm J J<|sy (iA hx J J (by omega) (by omega)) J<|sy (iB hx J (by omega)) J<|sa J J<|sa J J<|zE<|bz<|?_;refine d7<|sm J J<|sm J J<|sy (gF J (by omega) (by rw[bZ];omega)) J<|sy (rD J J (by omega) (by rw[bZ];omega)) J<|sa J J<|zE<|?_;rw[bZ];refine Ca Unit (fun _=>[(22, .int .i64 k),(7, .int .i64 k),(21, .int .i64 x.n),(20, .slice x.a x.n x.c),(6, .int .u64 ((c+a.getD k 0+b.getD k 0:Nat):Int)),(0, .slice x.a x.n x.c),(1, .slice y.a y.n y.c),(5, .slice (some ⟨b1,0,none⟩) (a.length+1) (a.length+1))]) (fun _=>[⟨b1,ws.map dI,218,true⟩]) (fun _ _=>True) ?_ ?_
 ·refine sR<|sm J J<|sm J J<|c8 J J<|sy (jo J J) J<|zE<|?_
  refine f8 J (fun hc2=>?_) (fun hc2=>?_) -- slot 34
  ·refine d7<|sm J J<|sm J J<|sm J J<|sy (iA hy J J (by omega) (by omega)) J<|sy (iB hy J (by omega)) J<|sy (gF J (by omega) (by rw[bZ];omega)) J<|?_
   rw[bZ];refine sy (rD J J) J<|sa J J<|zE<|?_;exact qk () trivial (.cons J (.cons J (.cons J (.cons J (.cons (by rw[tQ,tQ];rfl) (.cons J (.cons J (.cons J .nil)))))))) J
  refine zK<|?_;have h0:b.getD k 0=0:=Dy (by omega);exact qk () trivial (.cons J (.cons J (.cons J (.cons J (.cons (by rw[h0,fJ,tQ];rfl) (.cons J (.cons J (.cons J .nil)))))))) J
 rintro _ Gz _ _;generalize hcc:c+a.getD k 0+b.getD k 0=cc;have hcb:cc/4294967296<=1:=by rw[<-hcc];exact Uz hga hgb hc1
 refine sR<|sm J J<|sm J J<|sm J J<|sy (lg J) J<|sy (fq J J (by omega) (by omega)) J<|?_;rw[bZ];refine sc (mj (d:=cc%4294967296) J J (by omega) (.hd ..) (by omega) J ?_);refine zE<|d7<|sm J J<|sy (ng J J (by decide)) J<|sa J J<|zE<|d7<|sy (d6 J J) J<|sm J J<|zE<|?_;have hsh:((cc:Int).fdiv (2^min (32:Int).toNat IntKind.u64.bits))=((cc/4294967296:Nat):Int):=by
  have:(2^min (32:Int).toNat IntKind.u64.bits:Int)=4294967296:=by decide
  rw[this,iJ _ (by omega)];rfl
 rw[hsh];refine jw ⟨ws.set k (cc%4294967296),k+1,cc/4294967296⟩ ⟨by show k+1<=_;omega,by simp[hwl],hwo.set _ (by omega),hcb,?_⟩ (by show a.length-(k+1)<a.length-k;omega) (.cons J (.cons J (.cons J (.cons J (.cons J (.cons J (.cons J .nil))))))) J;show dv ((ws.set k (cc%4294967296)).take (k+1))+4294967296^(k+1)*(cc/4294967296)=dv (a.take (k+1))+dv (b.take (k+1));rw[qB (by omega),jj a,jj b,<-hcc,gW];exact No hinv
structure aEs where
 ws:List Nat
 k:Nat
 c:Nat
def M3(p:Int)(h0:0<=p):p.fdiv (2^min (63:Int).toNat IntKind.u64.bits)=p/9223372036854775808:=by
 have:(2^min (63:Int).toNat IntKind.u64.bits:Int)=9223372036854775808:=by decide
 rw[this,iJ _ (by omega)]
def M8(p:Nat):((p:Int).fdiv (2^min (32:Int).toNat IntKind.u64.bits))=((p/4294967296:Nat):Int):=by
 have:(2^min (32:Int).toNat IntKind.u64.bits:Int)=4294967296:=by decide
 rw[this,iJ _ (by omega)];rfl
def ayq{A B G:Gh}{x y:SV}{a b:List Nat}{kk:Nat}(hx:cA A x a)(hy:cA B y b)[GL A G][GL B G](hle:b.length<=a.length)(hge:dv b<=dv a)(hk:dv a<2^kk)(hba:a.length<=1125899906842):
  Fn prog 254 [x.v,y.v] G (fun v G'=> ∃z:SV,v=z.v/\fE kk G' z (dv a-dv b)):=by
 have hlen:=hx.len;have hlen2:=hy.len;refine Fn.intro func254 J J ntmps254 J ?_;intro C _ _;refine sR<|sa J J<|zE<|sR<|sm J J<|c8 J J<|?_;refine sc (ud J J (by omega) (by omega) (by omega) (by rfl) J ?_);intro b1;rw[uP,show(x.n:Int).toNat=a.length by omega];refine sa J J<|zE<|sR<|sa J J<|zE<|bz<|sR<|sm J J<|c8 J J<|sm J J<|zE<|eh<|?_;refine mn (X:=aEs) (fun q=>[(16, .int .i64 q.k),(15, .int .i64 x.n),(14, .slice x.a x.n x.c),(6, .int .u64 q.c),(1, .slice y.a y.n y.c),(5, .slice (some ⟨b1,0,none⟩) a.length a.length)])
  (fun q=>[⟨b1,q.ws.map dI,218,true⟩])
  (fun q _=>q.k<=a.length/\q.ws.length=a.length/\bw q.ws/\q.c<=1/\dv (q.ws.take q.k)+dv (b.take q.k)=dv (a.take q.k)+4294967296^q.k*q.c) (fun q=>a.length-q.k) ⟨List.replicate a.length 0,0,0⟩
  ⟨bT _,by simp, .replicate _,bT _,by simp[dv]⟩ (.cons J (.cons J (.cons J (.cons J (.cons J (.cons J .nil)))))) J ?_
 rintro ⟨ws,k,c⟩ Gy _ ⟨hka,hwl,hwo,hc1,hinv⟩;simp only[] at hka hwl hwo hc1 hinv⊢;refine sR<|sy (jo J J) J<|zE<|bz<|?_;refine mz J (fun hc=>?_) (fun hc=>?_) -- slot 17
 ·have hkn:k=a.length:=by omega
  refine jC<|e8<|e8<|jB<|sR<|sm J J<|?_;refine qm b1 (.hd ..) (fun G1 _ hgb=>?_);have hD:cA G1 ⟨some ⟨b1,0,none⟩,a.length,a.length⟩ ws:= .of_block hwo hgb.h hwl.symm (bQ _) (by rw[bX (by simp)]);have hdv:dv ws=dv a-dv b:=by
   rw[hkn,bX (by omega),bX hle,bX (bQ _)] at hinv;have h2:=jz hwo;rw[hwl] at h2;rcases fR c with h0|h0
   ·subst h0;omega
   ·have:c=1:=by omega
    subst this;omega
  refine sc (zC J J (jn hD (by omega)) J ?_);rintro _ G2 _ rfl;refine sa J J<|zE<|di<|?_;refine zD (.tmp J .nil) ⟨⟨some ⟨b1,0,none⟩,(trimD ws).length,a.length⟩,J,?_⟩;have h3:=hD.trim.up (G:=G2);rw[<-hdv];exact⟨by rw[qe hwo];exact h3,by omega⟩
 have hka':k<a.length:=by omega
 have hga:=hx.ok.get k;have hgb:=hy.ok.get k;refine zK<|bz<|eh<|sR<|sm J J<|sy (iA hx J J (by omega) (by omega)) J<|sy (iB hx J (by omega)) J<|sa J J<|sa J J<|zE<|bz<|?_;rw[bZ];refine d7<|sm J J<|sa J J<|zE<|?_;refine Ca Unit (fun _=>[(16, .int .i64 k),(7, .int .i64 k),(15, .int .i64 x.n),(14, .slice x.a x.n x.c),(8, .int .u32 ((a.getD k 0:Nat):Int)),(9, .int .u64 ((c+b.getD k 0:Nat):Int)),(1, .slice y.a y.n y.c),(5, .slice (some ⟨b1,0,none⟩) a.length a.length)]) (fun _=>[⟨b1,ws.map dI,218,true⟩]) (fun _ _=>True) ?_ ?_
 ·refine sR<|sm J J<|sm J J<|c8 J J<|sy (jo J J) J<|zE<|?_
  refine f8 J (fun hc2=>?_) (fun hc2=>?_) -- slot 25
  ·refine d7<|sm J J<|sm J J<|sm J J<|sy (iA hy J J (by omega) (by omega)) J<|sy (iB hy J (by omega)) J<|sy (gF J (by omega) (by rw[bZ];omega)) J<|?_
   rw[bZ];refine sy (rD J J) J<|sa J J<|zE<|?_;exact qk () trivial (.cons J (.cons J (.cons J (.cons J (.cons J (.cons (by rw[tQ];rfl) (.cons J (.cons J .nil)))))))) J
  refine zK<|?_;have h0:b.getD k 0=0:=Dy (by omega);exact qk () trivial (.cons J (.cons J (.cons J (.cons J (.cons J (.cons (by rw[h0,fJ];rfl) (.cons J (.cons J .nil)))))))) J
 rintro _ Gz _ _;generalize htt:c+b.getD k 0=tt;have htb:tt<=4294967296:=by omega
 refine sR<|sm J J<|sy (gF J) J<|sm J J<|sy (xl J J) J<|sa J J<|zE<|sR<|sm J J<|sm J J<|sm J J<|?_;rw[nO];refine sy (lg J) J<|sy (fq J J (by omega) (by omega)) J<|?_;rw[bZ];by_cases hno:tt<=a.getD k 0
 ·refine sc (mj (d:=a.getD k 0-tt) J J (by omega) (.hd ..) (by omega) J ?_)
  refine zE<|d7<|sm J J<|sy (ng J J (by decide)) J<|sa J J<|zE<|d7<|sy (d6 J J) J<|sm J J<|zE<|?_;rw[M3 _ (by omega),show(((a.getD k 0:Nat):Int)-(tt:Int))%18446744073709551616/9223372036854775808=((0:Nat):Int) by omega];refine jw ⟨ws.set k (a.getD k 0-tt),k+1,0⟩ ⟨by show k+1<=_;omega,by simp[hwl],hwo.set _ (by omega),bT _,?_⟩ (by show a.length-(k+1)<a.length-k;omega) (.cons J (.cons J (.cons J (.cons J (.cons J (.cons J .nil)))))) J;show dv ((ws.set k (a.getD k 0-tt)).take (k+1))+dv (b.take (k+1))=dv (a.take (k+1))+4294967296^(k+1)*0;rw[qB (by omega),jj a,jj b,<-htt,gW];exact Nd hinv (by omega)
 ·refine sc (mj (d:=a.getD k 0+4294967296-tt) J J (by omega) (.hd ..) (by omega) J ?_)
  refine zE<|d7<|sm J J<|sy (ng J J (by decide)) J<|sa J J<|zE<|d7<|sy (d6 J J) J<|sm J J<|zE<|?_;rw[M3 _ (by omega),show(((a.getD k 0:Nat):Int)-(tt:Int))%18446744073709551616/9223372036854775808=((1:Nat):Int) by omega];refine jw ⟨ws.set k (a.getD k 0+4294967296-tt),k+1,1⟩ ⟨by show k+1<=_;omega,by simp[hwl],hwo.set _ (by omega),bQ _,?_⟩ (by show a.length-(k+1)<a.length-k;omega) (.cons J (.cons J (.cons J (.cons J (.cons J (.cons J .nil)))))) J;show dv ((ws.set k (a.getD k 0+4294967296-tt)).take (k+1))+dv (b.take (k+1))=dv (a.take (k+1))+4294967296^(k+1)*1;rw[qB (by omega),jj a,jj b,<-htt,gW];exact Tq hinv (by omega) (by omega)
def aBG{A B G:Gh}{x y:SV}{ds es:List Nat}{kk:Nat}(hx:cA A x ds)(hy:cA B y es)[GL A G][GL B G](hk:dv ds<2^kk)(hb:ds.length<=1125899906842)(hb2:es.length<=1125899906842):
  Fn prog 240 [x.v,y.v] G (fun v G'=> ∃z:SV,v= .tuple #[z.v, .bool (decide (dv es<=dv ds))]/\fE kk G' z (dv ds-dv es)):=by
 refine Fn.intro func240 J J ntmps240 J ?_;intro C _ _;refine sR<|sa J J<|sa J J<|zE<|bz<|sR<|sm J J<|sm J J<|?_;refine sc (zC J J (R8 hx hy (by omega) (by omega)) J ?_);rintro _ G1 _ rfl;refine sy (jo J J) J<|zE<|?_;refine f8 J (fun hc=>?_) (fun hc=>?_) -- slot 9
 ·have hlt:dv ds<dv es:=by
   unfold gq at hc;split at hc
   ·assumption
   ·split at hc<;>omega
  refine sR<|sa J J<|sa J J<|zE<|di<|?_;refine zD (.tmp J (.tmp J .nil)) ⟨⟨none,0,0⟩,?_,?_⟩
  ·have: ¬dv es<=dv ds:=by omega
   simp[gI,SV.v,this]
  ·rw[Nat.sub_eq_zero_of_le (by omega)]
   exact⟨by unfold dg;exact .nil _,fM (by omega)⟩
 have hge:dv es<=dv ds:=by
  unfold gq at hc;split at hc
  ·omega
  ·omega
 have htl:=og ds;have htl2:=og es;refine zK<|sR<|sm J J<|?_;refine sc (zC J J (jn hx (by omega)) J ?_);rintro _ G2 _ rfl;refine sm J J<|?_;refine sc (zC J J (jn hy (by omega)) J ?_);rintro _ G3 _ rfl;have hl:(trimD es).length<=(trimD ds).length:=by
  rcases iN (trimD ds).length (trimD es).length with h|h
  ·have:=ug hx.ok.trimD (er.trimD es) h
   rw[jP,jP] at this;omega
  ·exact h
 refine sc (zC J J (ayq (kk:=kk) hx.trim hy.trim hl (by rw[jP,jP];exact hge) (by rw[jP];exact hk) (by omega)) J ?_);rintro _ G4 _ ⟨z,rfl,hz⟩;refine sa J J<|sa J J<|zE<|di<|?_;refine zD (.tmp J (.tmp J .nil)) ⟨z,by simp[gI,hge],?_⟩;rw[jP,jP] at hz;exact hz
structure aBB where
 ws:List Nat
 i:Nat
structure Zk where
 ws:List Nat
 k:Nat
 c:Nat
def aHb{x y w c:Nat}(hx:x<4294967296)(hy:y<4294967296)(hw:w<4294967296)(hc:c<4294967296):c+x*y+w<18446744073709551616:=by
 have:x*y<=4294967295*4294967295:=lJ (by omega) (by omega);omega
def Cp{ws:List Nat}{i j d:Nat}(h:i≠j):(ws.set i d).getD j 0=ws.getD j 0:=by
 rw[aK,aK,List.getElem?_set_ne h]
def V6{A B G:Gh}{x y:SV}{ds es:List Nat}{kk:Nat}(hx:cA A x ds)(hy:cA B y es)[GL A G][GL B G](hk:dv ds*dv es<2^kk)(hb:ds.length<=562949953421)(hb2:es.length<=562949953421):
  Fn prog 206 [x.v,y.v] G (fun v G'=> ∃z:SV,v=z.v/\fE kk G' z (dv ds*dv es)):=by
 have htl:=og ds;have htl2:=og es;have hcall:=fun G1 (_:GL A G1)=>jn (G:=G1) hx (by omega);have hcall2:=fun G1 (_:GL B G1)=>jn (G:=G1) hy (by omega);have hxt:=hx.trim;have hyt:=hy.trim;rw[<-jP ds,<-jP es] at hk⊢;generalize trimD ds=a at*;generalize trimD es=b at*;have hok:=hxt.ok;have hok2:=hyt.ok;refine Fn.intro func206 J J ntmps206 J ?_;intro C _ _;refine sR<|sa J J<|zE<|sR<|sm J J<|?_;refine sc (zC J J (hcall _ inferInstance) J ?_);rintro _ G1 _ rfl;refine sm J J<|?_;refine sc (zC J J (hcall2 _ inferInstance) J ?_);rintro _ G2 _ rfl;refine sa J J<|sa J J<|zE<|sR<|sm J J<|c8 J J<|sm J J<|c8 J J<|sy (d6 J J) J<|?_;refine sc (ud J J (by omega) (by omega) (by omega) (by rfl) J ?_);intro b3;rw[uP,show((a.length:Int)+(b.length:Int)).toNat=a.length+b.length by omega];refine sa J J<|zE<|bz<|sR<|sm J J<|c8 J J<|sm J J<|zE<|eh<|?_;refine mn (X:=aBB) (fun q=>[(23, .int .i64 q.i),(22, .int .i64 a.length),(21, .slice x.a a.length x.c),(1, .slice y.a b.length y.c),(5, .slice (some ⟨b3,0,none⟩) (a.length+b.length) (a.length+b.length))])
  (fun q=>[⟨b3,q.ws.map dI,218,true⟩])
  (fun q _=>q.i<=a.length/\q.ws.length=a.length+b.length/\bw q.ws/\(∀j,q.i+b.length<=j->q.ws.getD j 0=0)/\dv q.ws=dv (a.take q.i)*dv b) (fun q=>a.length-q.i) ⟨List.replicate (a.length+b.length) 0,0⟩
  ⟨bT _,by simp, .replicate _,fun j _=>Ig _ _,by simp[dv,AE]⟩ (.cons J (.cons J (.cons J (.cons J (.cons J .nil))))) J ?_
 rintro ⟨ws,i⟩ Gy _ ⟨hia,hwl,hwo,hz,hinv⟩;simp only[] at hia hwl hwo hz hinv⊢;refine sR<|sy (jo J J) J<|zE<|bz<|?_;refine mz J (fun hc=>?_) (fun hc=>?_) -- slot 24
 ·have hin:i=a.length:=by omega
  refine jC<|e8<|e8<|jB<|sR<|sm J J<|?_;refine qm b3 (.hd ..) (fun G3 _ hgb=>?_);have hD:cA G3 ⟨some ⟨b3,0,none⟩,a.length+b.length,a.length+b.length⟩ ws:= .of_block hwo hgb.h hwl.symm (bQ _) (by rw[bX (by simp)]);have hdv:dv ws=dv a*dv b:=by rw[hinv,hin,bX (bQ _)]
  refine sc (zC J J (jn hD (by omega)) J ?_);rintro _ G4 _ rfl;refine sa J J<|zE<|di<|?_;refine zD (.tmp J .nil) ⟨⟨some ⟨b3,0,none⟩,(trimD ws).length,a.length+b.length⟩,J,?_⟩;have h3:=hD.trim.up (G:=G4);rw[<-hdv] at hk⊢;exact⟨by rw[qe hwo];exact h3,hk⟩
 have hia':i<a.length:=by omega
 have hga:=hok.get i;refine zK<|bz<|eh<|sR<|sm J J<|sy (iA (z:=⟨x.a,a.length,x.c⟩) hxt J J (by omega) (by show(i:Int)<(a.length:Nat);omega)) J<|sy (iB hxt J (by omega)) J<|sa J J<|sa J J<|zE<|bz<|?_;rw[bZ];refine d7<|sa J J<|zE<|bz<|sR<|sm J J<|c8 J J<|sm J J<|zE<|eh<|?_;refine mn (X:=Zk) (fun q=>[(30, .int .i64 q.k),(29, .int .i64 b.length),(28, .slice y.a b.length y.c),(8, .int .u64 q.c),(7, .int .u32 ((a.getD i 0:Nat):Int)),(5, .slice (some ⟨b3,0,none⟩) (a.length+b.length) (a.length+b.length)),(6, .int .i64 i),(23, .int .i64 i),(22, .int .i64 a.length),(21, .slice x.a a.length x.c),(1, .slice y.a b.length y.c)])
  (fun q=>[⟨b3,q.ws.map dI,218,true⟩])
  (fun q _=>q.k<=b.length/\q.ws.length=a.length+b.length/\bw q.ws/\q.c<4294967296/\(∀j,i+b.length<=j->q.ws.getD j 0=0)/\dv q.ws+4294967296^(i+q.k)*q.c=dv (a.take i)*dv b+4294967296^i*(a.getD i 0*dv (b.take q.k))) (fun q=>b.length-q.k) ⟨ws,0,0⟩
  ⟨bT _,hwl,hwo,Nat.zero_lt_succ _,hz,by simp[dv,hinv]⟩ (.cons J (.cons J (.cons J (.cons J (.cons J (.cons J (.cons J (.cons J (.cons J (.cons J (.cons J .nil))))))))))) J ?_
 clear hz hwl hwo hinv ws;rintro ⟨ws,k,c⟩ Gz _ ⟨hkb,hwl,hwo,hcc,hz,hinv⟩;simp only[] at hkb hwl hwo hcc hz hinv⊢;refine sR<|sy (jo J J) J<|zE<|bz<|?_;refine mz J (fun hc2=>?_) (fun hc2=>?_) -- slot 31
 ·have hkn:k=b.length:=by omega
  have e1:((i:Int)+(b.length:Int)).toNat=i+b.length:=by omega
  refine jC<|e8<|e8<|jB<|d7<|sm J J<|sm J J<|sm J J<|c8 J J<|sy (d6 J J) J<|sm J J<|sy (lg J) J<|?_;refine sy (fq J J (by omega) (by omega)) J<|?_;rw[e1];refine sc (mj (d:=c) J J (by omega) (.hd ..) (by omega) J ?_);refine zE<|d7<|sy (d6 J J) J<|sm J J<|zE<|?_;refine jw ⟨ws.set (i+b.length) c,i+1⟩ ⟨by show i+1<=_;omega,by simp[hwl],hwo.set _ hcc,fun j hj=>?_,?_⟩ (by show a.length-(i+1)<a.length-i;omega) (.cons J (.cons J (.cons J (.cons J (.cons J .nil))))) J
  ·have hj':i+1+b.length<=j:=hj
   show(ws.set (i+b.length) c).getD j 0=0;rw[Cp (by omega)];exact hz j (by omega)
  ·show dv (ws.set (i+b.length) c)=dv (a.take (i+1))*dv b
   have h1:=qv ws (i+b.length) c (by omega);rw[hz (i+b.length) (bQ _),pN,fJ] at h1;rw[h1,<-hkn,hinv,hkn,bX (bQ _),jj,dQ,cW]
 have hkb':k<b.length:=by omega
 have hgb:=hok2.get k;have hgw:=hwo.get (i+k);have hm:=aHb hga hgb hgw hcc;have e1:((i:Int)+(k:Int)).toNat=i+k:=by omega
 have e2:((a.getD i 0:Nat):Int)*((b.getD k 0:Nat):Int)=((a.getD i 0*b.getD k 0:Nat):Int):=by rw[jX]
 refine zK<|bz<|eh<|sR<|sm J J<|sy (iA (z:=⟨y.a,b.length,y.c⟩) hyt J J (by omega) (by show(k:Int)<(b.length:Nat);omega)) J<|sy (iB hyt J (by omega)) J<|sa J J<|sa J J<|zE<|bz<|?_;rw[bZ];refine d7<|sm J J<|sm J J<|sy (gF J) J<|sm J J<|sy (gF J) J<|sy (IH J J (by rw[e2];omega) (by rw[e2];omega)) J<|?_;rw[e2];refine sm J J<|sm J J<|sm J J<|sy (d6 J J) J<|sy (fq J J (by omega) (by omega)) J<|?_;rw[e1];refine sy (r4 J (by omega)) J<|sy (gF J) J<|?_;refine sy (rD J J) J<|sy (rD J J) J<|sa J J<|zE<|sR<|sm J J<|sm J J<|sm J J<|?_;rw[show(c:Int)+(((a.getD i 0*b.getD k 0:Nat):Int)+((ws.getD (i+k) 0:Nat):Int))=((c+a.getD i 0*b.getD k 0+ws.getD (i+k) 0:Nat):Int) by omega];generalize hcc2:c+a.getD i 0*b.getD k 0+ws.getD (i+k) 0=cc;rw[hcc2] at hm;refine sy (d6 J J) J<|sm J J<|sy (lg J) J<|sy (fq J J (by omega) (by omega)) J<|?_;rw[e1];refine sc (mj (d:=cc%4294967296) J J (by omega) (.hd ..) (by omega) J ?_);refine zE<|d7<|sm J J<|sy (ng J J (by decide)) J<|sa J J<|zE<|d7<|sy (d6 J J) J<|sm J J<|zE<|?_;rw[M8];refine jw ⟨ws.set (i+k) (cc%4294967296),k+1,cc/4294967296⟩ ⟨by show k+1<=_;omega,by simp[hwl],hwo.set _ (by omega),by show cc/4294967296<_;omega,fun j hj=>?_,?_⟩ (by show b.length-(k+1)<b.length-k;omega) (.cons J (.cons J (.cons J (.cons J (.cons J (.cons J (.cons J (.cons J (.cons J (.cons J (.cons J .nil))))))))))) J
 ·show(ws.set (i+k) (cc%4294967296)).getD j 0=0
  rw[Cp (by omega)];exact hz j hj
 ·show dv (ws.set (i+k) (cc%4294967296))+4294967296^(i+(k+1))*(cc/4294967296)=dv (a.take i)*dv b+4294967296^i*(a.getD i 0*dv (b.take (k+1)))
  have h1:=qv ws (i+k) (cc%4294967296) (by omega);rw[<-hcc2] at h1⊢;have h2:=Rk h1 hinv;rw[<-kN,gW,h2,jj,eX,eX,gJ];have:4294967296^i*(a.getD i 0*(4294967296^k*b.getD k 0))=4294967296^i*4294967296^k*(a.getD i 0*b.getD k 0):=by
   rw[lK (a.getD i 0),<-cW]
  rw[this,kN]
def KB{P:Program}{t:TypeId}(a b k:Nat)(ha:a<2^k)(h:a+b*2^k<18446744073709551616)(w:World):(binOp .or t (.int .u64 ((b*2^k:Nat):Int)) (.int .u64 (a:Int))).run P w= .ok (.int .u64 ((a+b*2^k:Nat):Int)) w:=by
 have h1:(BitVec.ofInt 64 ((b*2^k:Nat):Int) ||| BitVec.ofInt 64 (a:Int)).toNat=a+b*2^k:=by
  rw[BitVec.toNat_or,BitVec.ofInt_natCast,BitVec.ofInt_natCast,BitVec.toNat_ofNat,BitVec.toNat_ofNat,fU (by omega),fU (by omega)];rw[<-mK,<-mY ha,mK];omega
 have h2:IntKind.u64.wrap ((a+b*2^k:Nat):Int)=((a+b*2^k:Nat):Int):=by rw[nO];omega
 simp only[binOp];show(Op.intBits .or .u64 ((b*2^k:Nat):Int) (a:Int)).run P w=_;unfold Op.intBits;show(pure (Value.int .u64 (IntKind.u64.wrap ((BitVec.ofInt 64 ((b*2^k:Nat):Int) ||| BitVec.ofInt 64 (a:Int)).toNat:Int))):Sem Value).run P w=_;rw[h1,h2,run_pure]
def axx{P:Program}{t:TypeId}(a b k:Nat)(ha:a<2^k)(h:a+b*2^k<4294967296)(w:World):(binOp .or t (.int .u32 (a:Int)) (.int .u32 ((b*2^k:Nat):Int))).run P w= .ok (.int .u32 ((a+b*2^k:Nat):Int)) w:=by
 have h1:(BitVec.ofInt 32 (a:Int) ||| BitVec.ofInt 32 ((b*2^k:Nat):Int)).toNat=a+b*2^k:=by
  rw[BitVec.toNat_or,BitVec.ofInt_natCast,BitVec.ofInt_natCast,BitVec.toNat_ofNat,BitVec.toNat_ofNat,fU (by omega),fU (by omega)];rw[<-mK,Nat.or_comm,<-mY ha,mK];omega
 have h2:IntKind.u32.wrap ((a+b*2^k:Nat):Int)=((a+b*2^k:Nat):Int):=by rw[qG];omega
 simp only[binOp];show(Op.intBits .or .u32 (a:Int) ((b*2^k:Nat):Int)).run P w=_;unfold Op.intBits;show(pure (Value.int .u32 (IntKind.u32.wrap ((BitVec.ofInt 32 (a:Int) ||| BitVec.ofInt 32 ((b*2^k:Nat):Int)).toNat:Int))):Sem Value).run P w=_;rw[h1,h2,run_pure]
def r7(d k:Nat)(hk:k<64)(h:d*2^k<18446744073709551616){q:Int}(hq:q.toNat=k):IntKind.u64.wrap ((d:Int)*2^min q.toNat IntKind.u64.bits)=((d*2^k:Nat):Int):=by
 rw[hq,gT (by show k<=64;omega),nO];have e2:(d:Int)*2^k=((d*2^k:Nat):Int):=by push_cast;rfl
 rw[e2];omega
def tu(d k:Nat)(hk:k<64){q:Int}(hq:q.toNat=k):(d:Int).fdiv (2^min q.toNat IntKind.u64.bits)=((d/2^k:Nat):Int):=by
 rw[hq,gT (by show k<=64;omega),iJ _ (qX (Int.pow_pos (by decide)))];push_cast;rfl
def Uc(q:Nat)(h:q<4294967296):(q:Int)%4294967296=q:=by omega
structure ayQ where
 ws:List Nat
 k:Nat
 r:Nat
def Y6{A G:Gh}{x:SV}{a:List Nat}{d kk:Nat}(hx:cA A x a)[GL A G](hd0:0<d)(hd:d<4294967296)(hk:dv a/d<2^kk)(hb:a.length<=1125899906842):
  Fn prog 225 [x.v, .int .u32 (d:Int)] G (fun v G'=> ∃z:SV,v= .tuple #[z.v, .int .u32 ((dv a%d:Nat):Int)]/\fE kk G' z (dv a/d)):=by
 have hlen:=hx.len;refine Fn.intro func225 J J ntmps225 J ?_;intro C _ _;refine sR<|sa J J<|sa J J<|zE<|sR<|sm J J<|c8 J J<|?_;refine sc (ud J J (by omega) (by omega) (by omega) (by rfl) J ?_);intro b1;rw[uP,show(x.n:Int).toNat=a.length by omega];refine sa J J<|zE<|sR<|sa J J<|zE<|bz<|sR<|sm J J<|c8 J J<|sy (j' J J) J<|?_;refine sa J J<|zE<|eh<|?_;refine mn (X:=ayQ) (fun q=>[(8, .int .i64 (q.k-1)),(7, .int .u64 q.r),(0, .slice x.a x.n x.c),(6, .slice (some ⟨b1,0,none⟩) a.length a.length),(1, .int .u32 d)])
  (fun q=>[⟨b1,q.ws.map dI,218,true⟩])
  (fun q _=>q.k<=a.length/\q.ws.length=a.length/\bw q.ws/\q.r<d/\dv (a.drop q.k)=d*dv (q.ws.drop q.k)+q.r) (fun q=>q.k) ⟨List.replicate a.length 0,a.length,0⟩
  ⟨bQ _,by simp, .replicate _,hd0,by simp[dv]⟩ (.cons (by rw[hlen];rfl) (.cons J (.cons J (.cons J (.cons J .nil))))) J ?_
 rintro ⟨ws,k,r⟩ Gy _ ⟨hka,hwl,hwo,hr,hinv⟩;simp only[] at hka hwl hwo hr hinv⊢;refine bz<|sR<|sm J J<|sy (uC J J) J<|zE<|?_;refine mz J (fun hc=>?_) (fun hc=>?_) -- slot 17
 ·have hk0:k=0:=by omega
  refine jC<|e8<|e8<|jB<|sR<|sm J J<|?_;refine qm b1 (.hd ..) (fun G1 _ hgb=>?_);have hD:cA G1 ⟨some ⟨b1,0,none⟩,a.length,a.length⟩ ws:= .of_block hwo hgb.h hwl.symm (bQ _) (by rw[bX (by simp)]);subst hk0;simp only[jW] at hinv;have hdv:dv a/d=dv ws:=by rw[hinv,Nat.mul_add_div hd0,kQ hr,fJ]
  have hdm:dv a%d=r:=by rw[hinv,Nat.mul_add_mod,fU hr]
  refine sc (zC J J (jn hD (by omega)) J ?_);rintro _ G2 _ rfl;refine sm J J<|sy (lg J) J<|sa J J<|sa J J<|zE<|di<|?_;refine zD (.tmp J (.tmp J .nil)) ⟨⟨some ⟨b1,0,none⟩,(trimD ws).length,a.length⟩,?_,?_⟩
  ·rw[hdm,show(r:Int)%4294967296=r by omega];rfl
  have h3:=hD.trim.up (G:=G2);exact⟨by rw[hdv,qe hwo];exact h3,hk⟩
 have hk1:0<k:=by omega
 have hkt:((k:Int)-1).toNat=k-1:=by omega
 have hga:=hx.ok.get (k-1);have hv:a.getD (k-1) 0+r*2^32<d*4294967296:=by
  have:(r+1)*4294967296<=d*4294967296:=bR _ hr;rw[dQ] at this;omega
 have hv2:a.getD (k-1) 0+r*2^32<18446744073709551616:=by omega
 refine zK<|bz<|eh<|sR<|sm J J<|sy (yk J J (by decide)) J<|sm J J<|sm J J<|sy (iA hx J J (by omega) (by omega)) J<|?_;rw[r7 r 32 (by decide) (by omega) J];refine sy (iB hx J (by omega)) J<|sy (gF J (by omega) (by rw[hkt];omega)) J<|?_;rw[hkt];refine sy (iO J J (KB (a.getD (k-1) 0) r 32 (by omega) hv2)) J<|?_;generalize hvv:a.getD (k-1) 0+r*2^32=vv at*;have hq:vv/d<4294967296:=sN hv;have hrr:=dW vv hd0;refine sa J J<|zE<|sR<|sm J J<|sm J J<|sm J J<|sm J J<|?_;refine sy (gF J) J<|sy (AZ J J (by omega) (by omega) (by omega)) J<|sy (lg J) J<|sy (fq J J (by omega) (by omega)) J<|?_;rw[hkt];have e1:(vv:Int)/(d:Int)%4294967296=((vv/d:Nat):Int):=by
  have e0:(vv:Int)/(d:Int)=((vv/d:Nat):Int):=(qJ vv d).symm;rw[e0];exact Uc _ hq
 refine sc (mj (d:=vv/d) J J e1 (.hd ..) (by omega) J ?_);refine zE<|d7<|sm J J<|sm J J<|sy (gF J) J<|sy (A4 J J (by omega) (by omega)) J<|sa J J<|zE<|d7<|sm J J<|?_;refine sy (j' J J) J<|sa J J<|zE<|?_;refine jw ⟨ws.set (k-1) (vv/d),k-1,vv%d⟩ ⟨by show k-1<=_;omega,by simp[hwl],hwo.set _ hq,hrr,?_⟩ (by show k-1<k;omega) (.cons (by rw[show((k-1:Nat):Int)=(k:Int)-1 by omega];rfl) (.cons (by rw[oS];rfl) (.cons J (.cons J (.cons J .nil))))) J;show dv (a.drop (k-1))=d*dv ((ws.set (k-1) (vv/d)).drop (k-1))+vv%d;have hk2:k-1+1=k:=by omega
 rw[cX (by omega:k-1<a.length),cX (by simp;omega:k-1<(ws.set (k-1) (vv/d)).length),hk2,List.getElem_set_self,qY (by omega)];have e3:a[k-1]'(by omega)=a.getD (k-1) 0:=by rw[aK,aX (by omega)];rfl
 simp only[dv,e3,hinv];have h1:=rZ vv d;have h2:d*(vv/d+4294967296*dv (ws.drop k))=d*(vv/d)+4294967296*(d*dv (ws.drop k)):=by rw[eX,lK]
 rw[h2,eX];omega
section
variable {P:Program} {C:aD} {n:Nat} {fr:Fr} {own:List ak} {G:Gh} {dst:Option Nat} {t t1 t2 ty':TypeId} {pos:String} {af:Array Edge} {gd:Option (Nat×Bool)} {x y:Operand}
def WC{k:IntKind}{p q:Int}(hx:aw fr x=some (.int k p))(hy:aw fr y=some (.int k q)):
  Yd P C fr own G ⟨dst, .call ⟨.builtin .min, #[x,y], #[t1,t2]⟩,ty',pos,af,gd⟩ (.int k (if q<p then q else p)):=by
 intro a w hf hh;simp only[execOp,resolve,gL,bL,fK,bm hf hx,bm hf hy];have h1:(Builtin.min_ #[t1,t2] ty' #[.int k p, .int k q]).run P w= .ok (.int k (if q<p then q else p)) w:=by
  simp[Builtin.min_,Builtin.min2,run_pure]
 exact c6 h1
end
structure SS where
 ws:List Nat
 i:Nat
def MA{A G:Gh}{x:SV}{ds:List Nat}{k kk:Nat}(hx:cA A x ds)[GL A G](hk32:k<32)(hk:dv ds*2^k<2^kk)(hb:ds.length<=1125899906842):
  Fn prog 246 [x.v, .int .u64 (k:Int)] G (fun v G'=> ∃z:SV,v=z.v/\fE kk G' z (dv ds*2^k)/\z.c<=(trimD ds).length+1):=by
 have htl:=og ds;have hcall:=fun G1 (_:GL A G1)=>jn (G:=G1) hx (by omega);have hxt:=hx.trim;rw[<-jP ds] at hk⊢;generalize trimD ds=a at*;have hok:=hxt.ok;refine Fn.intro func246 J J ntmps246 J ?_;intro C _ _;refine sR<|sa J J<|zE<|sR<|sm J J<|?_;refine sc (zC J J (hcall _ inferInstance) J ?_);rintro _ G1 _ rfl;refine sm J J<|sy (WC J J) J<|?_;rw[if_neg (by omega: ¬(1048576:Int)<(k:Int))];refine sa J J<|sa J J<|zE<|bz<|sR<|sm J J<|c8 J J<|sy (i7 J J) J<|zE<|?_;refine f8 J (fun hc=>?_) (fun hc=>?_) -- slot 17
 ·refine sR<|sa J J<|zE<|di<|?_
  have:a=[]:=bU (by omega);subst this;refine zD (.tmp J .nil) ⟨⟨none,0,0⟩,J,?_⟩;have e0:dv []*2^k=0:=by simp[dv]
  rw[e0];exact⟨⟨by unfold dg;exact .nil _,fM (by omega)⟩,bT _⟩
 refine zK<|sR<|sm J J<|sy (AZ J J (by omega) (by omega) (by decide)) J<|sy (Nv J) J<|sm J J<|sy (A4 J J (by omega) (by decide)) J<|?_;rw[show(k:Int)/32=0 by omega,show(k:Int)%32=k by omega];refine sa J J<|sa J J<|zE<|sR<|sm J J<|c8 J J<|sm J J<|sy (d6 J J) J<|sy (d6 J J) J<|?_;refine sc (ud J J (by omega) (by omega) (by omega) (by rfl) J ?_);intro b2;rw[uP,show((a.length:Int)+0+1).toNat=a.length+1 by omega];refine sa J J<|zE<|bz<|sR<|sm J J<|c8 J J<|sm J J<|zE<|eh<|?_;refine mn (X:=SS) (fun q=>[(31, .int .i64 q.i),(30, .int .i64 a.length),(29, .slice x.a a.length x.c),(6, .int .u64 k),(7, .slice (some ⟨b2,0,none⟩) (a.length+1) (a.length+1)),(5, .int .i64 0)])
  (fun q=>[⟨b2,q.ws.map dI,218,true⟩])
  (fun q _=>q.i<=a.length/\q.ws.length=a.length+1/\bw q.ws/\(∀j,q.i<j->q.ws.getD j 0=0)/\q.ws.getD q.i 0<2^k/\dv q.ws=dv (a.take q.i)*2^k) (fun q=>a.length-q.i) ⟨List.replicate (a.length+1) 0,0⟩
  ⟨bT _,by simp, .replicate _,fun j _=>Ig _ _,by rw[Ig];exact fM (by omega),by simp[dv,AE]⟩ (.cons J (.cons J (.cons J (.cons J (.cons J (.cons J .nil)))))) J ?_
 rintro ⟨ws,i⟩ Gy _ ⟨hia,hwl,hwo,hz,hwi,hinv⟩;simp only[] at hia hwl hwo hz hwi hinv⊢;refine sR<|sy (jo J J) J<|zE<|bz<|?_;refine mz J (fun hc=>?_) (fun hc=>?_) -- slot 32
 ·have hin:i=a.length:=by omega
  refine jC<|e8<|e8<|jB<|sR<|sm J J<|?_;refine qm b2 (.hd ..) (fun G3 _ hgb=>?_);have hD:cA G3 ⟨some ⟨b2,0,none⟩,a.length+1,a.length+1⟩ ws:= .of_block hwo hgb.h hwl.symm (bQ _) (by rw[bX (by simp)]);have hdv:dv a*2^k=dv ws:=by rw[hinv,hin,bX (bQ _)]
  refine sc (zC J J (jn hD (by omega)) J ?_);rintro _ G4 _ rfl;refine sa J J<|zE<|di<|?_;refine zD (.tmp J .nil) ⟨⟨some ⟨b2,0,none⟩,(trimD ws).length,a.length+1⟩,J,?_⟩;have h3:=hD.trim.up (G:=G4);rw[hdv] at hk⊢;exact⟨⟨by rw[qe hwo];exact h3,hk⟩,bQ _⟩
 have hia':i<a.length:=by omega
 have hga:=hok.get i;have hp32:(2:Nat)^k<=2^31:=bS (by omega) (by omega);have hp0:0<(2:Nat)^k:=fM (by omega);have hvb:a.getD i 0*2^k<4294967296*2^k:=kL hga hp0;have hv64:a.getD i 0*2^k<18446744073709551616:=by omega
 refine zK<|bz<|eh<|sR<|sm J J<|sy (iA (z:=⟨x.a,a.length,x.c⟩) hxt J J (by omega) (by show(i:Int)<(a.length:Nat);omega)) J<|sy (iB hxt J (by omega)) J<|sa J J<|sa J J<|zE<|bz<|?_;rw[bZ];refine d7<|sm J J<|sy (gF J) J<|sm J J<|sy (yk J J (by omega)) J<|?_;rw[r7 (a.getD i 0) k (by omega) hv64 (bZ k)]
 -- the low digit is a multiple of 2^k
 have hlow:a.getD i 0*2^k%4294967296=a.getD i 0%2^(32-k)*2^k:=by
  have:4294967296=2^(32-k)*2^k:=by rw[<-gJ,show 32-k+k=32 by omega]
  rw[this,sK]
 have hlt:a.getD i 0*2^k%4294967296<4294967296:=dW _ (by decide);have hsum:ws.getD i 0+a.getD i 0%2^(32-k)*2^k<4294967296:=by
  have h1:a.getD i 0%2^(32-k)<2^(32-k):=dW _ (fM (by omega));have h2:(a.getD i 0%2^(32-k)+1)*2^k<=2^(32-k)*2^k:=bR _ h1;rw[<-gJ,show 32-k+k=32 by omega,dQ] at h2;omega
 refine sa J J<|zE<|sR<|sm J J<|?_;refine sm J J<|sm J J<|sy (d6 J J) J<|sy (fq J J (by omega) (by omega)) J<|?_;rw[show((i:Int)+0).toNat=i by omega];refine sy (r4 J (by omega)) J<|sm J J<|sy (lg J) J<|?_;rw[show((a.getD i 0*2^k:Nat):Int)%4294967296=((a.getD i 0%2^(32-k)*2^k:Nat):Int) by rw[<-hlow];rfl];refine sy (iO J J (axx (ws.getD i 0) (a.getD i 0%2^(32-k)) k hwi hsum)) J<|sy (fq J J (by omega) (by omega)) J<|?_;rw[show((i:Int)+0).toNat=i by omega];refine sc (mj (d:=ws.getD i 0+a.getD i 0%2^(32-k)*2^k) J J J (.hd ..) (by omega) J ?_);refine zE<|d7<|sm J J<|sm J J<|sm J J<|sy (d6 J J) J<|sy (d6 J J) J<|sm J J<|sy (ng J J (by decide)) J<|?_;rw[M8];have hhi:a.getD i 0*2^k/4294967296<2^k:=sN hvb;refine sy (lg J) J<|sy (fq J J (by omega) (by omega)) J<|?_;rw[show((i:Int)+0+1).toNat=i+1 by omega];refine sc (mj (d:=a.getD i 0*2^k/4294967296) J J (by omega) (.hd ..) (by simp;omega) J ?_);refine zE<|d7<|sy (d6 J J) J<|sm J J<|zE<|?_;refine jw ⟨(ws.set i (ws.getD i 0+a.getD i 0%2^(32-k)*2^k)).set (i+1) (a.getD i 0*2^k/4294967296),i+1⟩ ⟨by show i+1<=_;omega,by simp[hwl],(hwo.set _ hsum).set _ (by omega),fun j hj=>?_,?_,?_⟩ (by show a.length-(i+1)<a.length-i;omega) (.cons J (.cons J (.cons J (.cons J (.cons J (.cons J .nil)))))) J
 ·have hj':i+1<j:=hj
  show((ws.set i _).set (i+1) _).getD j 0=0;rw[Cp (by omega),Cp (by omega)];exact hz j (by omega)
 ·show((ws.set i _).set (i+1) (a.getD i 0*2^k/4294967296)).getD (i+1) 0<2^k
  rw[aK,rM (by simp;omega)];exact hhi
 ·show dv ((ws.set i (ws.getD i 0+a.getD i 0%2^(32-k)*2^k)).set (i+1) (a.getD i 0*2^k/4294967296))=dv (a.take (i+1))*2^k
  have h1:=qv (ws.set i (ws.getD i 0+a.getD i 0%2^(32-k)*2^k)) (i+1) (a.getD i 0*2^k/4294967296) (by simp;omega);rw[Cp (by omega),hz (i+1) (by omega),pN,fJ] at h1;have h2:=qv ws i (ws.getD i 0+a.getD i 0%2^(32-k)*2^k) (by omega);rw[eX] at h2;rw[h1,jj,dQ,<-hinv,cW,Kj (4294967296^i) (a.getD i 0*2^k),<-hlow] at*;rw[gW];omega
end Go.Sx
end
section
namespace Go.Sx
def u7(i:Nat):(4294967296:Nat)^(i+1)=4294967296^i*4294967296:=gW ..
def aBz{U p V T S first third:Nat}(hU:U<(first*4294967296+third+1)*p)(h3:third<4294967296)(hV:(T*4294967296+S)*p<=V)(hT:0<T):
  U<(first/T+1)*V:=by
 have h1:first+1<=(first/T+1)*T:=by
  have:=Nat.lt_mul_div_succ first hT
  rw[cV];omega
 calc U<(first*4294967296+third+1)*p:=hU
  _<=((first+1)*4294967296)*p:=bR _ (by omega)
  _<=(((first/T+1)*T)*4294967296)*p:=bR _ (bR _ h1)
  _=(first/T+1)*((T*4294967296)*p):=by rw[cW (first/T+1),cW (first/T+1)]
  _<=(first/T+1)*V:=gK _ (eY (bR _ (qK _ _)) hV)
def Va{U p V T S first third v0:Nat}(hU:(first*4294967296+third)*p<=U)(hV:V=(T*4294967296+S)*p+v0)(hv:v0<p)(hlt:U<V*4294967296):first<=T*4294967296+S:=by
 rcases iN (T*4294967296+S) first with h|h
 ·exfalso
  have h1:(T*4294967296+S+1)*p<=first*p:=bR p h
  rw[dQ _ 1,mN] at h1;rw[dQ,rY] at hU;have:0<=third*p:=bT _;omega
 ·exact h
def aDE{U p V T S first third g r:Nat}(hU:U<(first*4294967296+third+1)*p)(hV:(T*4294967296+S)*p<=V)(hg:first=g*T+r)(hc:r*4294967296+third<g*S):U<g*V:=by
 refine dR hU (eY (bR p (m:=g*(T*4294967296+S)) ?_) ?_)
 ·rw[eX,<-cW,hg,dQ];omega
 ·rw[cW];exact gK _ hV
def Ha{U p V T S first third g r v0:Nat}(hU:(first*4294967296+third)*p<=U)(hV:V=(T*4294967296+S)*p+v0)(hv:v0<p)(hT:0<T)(hg:first=g*T+r)(hgB:g<4294967296)(hc:g*S<=r*4294967296+third):g*V<U+V:=by
 have h1:g*((T*4294967296+S)*p)<=U:=by
  rw[<-cW];refine eY (bR p ?_) hU;rw[eX,<-cW,hg,dQ];omega
 have h2:g*v0<=4294967295*v0:=bR _ (by omega);have h3:4294967296*p<=V:=by
  rw[hV];refine eY (bR p ?_) (qK _ _);omega
 have h4:g*V=g*((T*4294967296+S)*p)+g*v0:=by rw[<-eX,<-hV]
 omega
def aBK{U V R g:Nat}(h:U<(g+1)*V)(hr:R+g*V=U):R<V:=by
 rw[dQ,mN] at h;omega
def Y3{U V R R' g w M:Nat}(h2:g*V<U+V)(hr:R+g*V=U+M)(hb:R'+w*M=R+V)(hR:R<M)(hR':R'<M)(hw:w<=1)(hg:0<g):R'+(g-1)*V=U/\R'<V:=by
 have hgv:g*V=(g-1)*V+V:=by
  conv=>lhs;rw[show g=(g-1)+1 by omega,dQ,mN]
 have:w=1:=by
  rcases iN w 1 with h|h
  ·have:w=0:=by omega
   subst this;omega
  ·omega
 subst this;omega
def Af(us:List Nat)(i:Nat):dv (us.drop i)=us.getD i 0+4294967296*dv (us.drop (i+1)):=by
 rcases iN i us.length with h|h
 ·rw[cX h];simp[dv,List.getD,aX h]
 ·rw[iQ h,iQ (by omega)]
  simp[dv,eK h,List.getD]
def AG(us:List Nat)(i:Nat):dv us=dv (us.take i)+4294967296^i*dv (us.drop i):=by
 rcases iN us.length i with h|h
 ·rw[bX (by omega),iQ (by omega)];simp[dv]
 ·exact ES us i h
def Fj{us:List Nat}(h:bw us)(i:Nat):dv (us.take i)<4294967296^i:=by
 refine dR (jz (h.take i)) (bS (by decide) ?_);simp[cK];omega
def Fe{us:List Nat}{i:Nat}(hd:dv us<4294967296^i):dv (us.drop i)=0:=by
 have h:=AG us i;rcases fR (dv (us.drop i)) with h0|h0
 ·exact h0
 ·have:=gK (4294967296^i) h0
  omega
def Vn{W W' U E p u x bo b c c1 g d:Nat}(hs:W'+p*u=W+p*x)(hw:W+E=U+(bo+c)*p)(hc:c1=c+g*d)(hx:x+(c1%4294967296+bo)=u+b*4294967296):
  W'+(E+g*d*p)=U+(b+c1/4294967296)*(p*4294967296):=by
 have h1:=congrArg (p* ·) hx;simp only[eX] at h1;have h2:p*c1=p*(c1%4294967296)+p*(c1/4294967296)*4294967296:=by
  rw[cW,<-eX,Nat.mod_add_div']
 have h3:p*c1=p*c+p*(g*d):=by rw[hc,eX]
 rw[dQ,cV bo,cV c] at hw;rw[cV (g*d),dQ,<-cW b,<-cW (c1/4294967296),cV b,cV (c1/4294967296)];rw[<-cW] at h1;omega
def aAF{W W' U E p u x bo b c:Nat}(hs:W'+p*u=W+p*x)(hw:W+E=U+(bo+c)*p)(hx:x+(c+bo)=u+b*4294967296):W'+E=U+b*(p*4294967296):=by
 have h1:=congrArg (p* ·) hx;simp only[eX] at h1;rw[dQ,cV bo,cV c] at hw;rw[<-cW b,cV b];rw[<-cW] at h1;omega
def YM{W W' R E p u d c:Nat}(hs:W'+p*u=W+p*((c+(u+d))%4294967296))(hw:W+c*p=R+E):W'+(c+(u+d))/4294967296*(p*4294967296)=R+(E+d*p):=by
 have h2:p*(c+(u+d))=p*((c+(u+d))%4294967296)+p*((c+(u+d))/4294967296)*4294967296:=by
  rw[cW,<-eX,Nat.mod_add_div']
 rw[eX p c,eX p u] at h2;rw[cV c] at hw;rw[cV d,<-cW,cV _ p];omega
def YT{W W' R p u c:Nat}(hs:W'+p*u=W+p*((u+c)%4294967296))(hw:W+c*p=R):W'+(u+c)/4294967296*(p*4294967296)=R:=by
 have h2:p*(u+c)=p*((u+c)%4294967296)+p*((u+c)/4294967296)*4294967296:=by
  rw[cW,<-eX,Nat.mod_add_div']
 rw[eX p u] at h2;rw[cV c] at hw;rw[<-cW,cV _ p];omega
def aGJ{us:List Nat}(h:bw us)(i:Nat)(hd:dv us<4294967296^(i+3)):
  dv us=((us.getD (i+2) 0*4294967296+us.getD (i+1) 0)*4294967296+us.getD i 0)*4294967296^i+dv (us.take i):=by
 have h0:=Fe hd;rw[AG us i,Af us i,Af us (i+1),Af us (i+2),h0,lX,cV];congr 2;omega
def aGD{us:List Nat}(h:bw us)(i:Nat)(hd:dv us<4294967296^(i+2)):
  dv us=(us.getD (i+1) 0*4294967296+us.getD i 0)*4294967296^i+dv (us.take i):=by
 have h0:=Fe hd;rw[AG us i,Af us i,Af us (i+1),h0,lX,cV];congr 2;omega
def E'{us:List Nat}{k i d:Nat}(h:bw us)(hd:d<4294967296)(hk:dv us<4294967296^k)(hi:i<k):dv (us.set i d)<4294967296^k:=by
 rw[AG _ k,List.drop_set,if_pos hi,Fe hk,pN,fJ];exact Fj (h.set i hd) k
end Go.Sx
end
section
namespace Go.Sx
open Go Go.Proofs Tryz
def av2(p k a1 a2 E:Nat)(hk:k<32)(h1:a1<4294967296)(hp:p=2^k):(a1+4294967296*(a2+4294967296*E))/p=(a1+a2*4294967296)/p%4294967296+4294967296*((a2+4294967296*E)/p):=by
 subst hp;have hp0:0<(2:Nat)^k:=fM (by omega);have hB:4294967296=2^(32-k)*2^k:=by rw[<-gJ,show 32-k+k=32 by omega]
 -- the quotient and the rest of the quotient by the base
 have hq:(a1+4294967296*(a2+4294967296*E))/2^k/4294967296=(a2+4294967296*E)/2^k:=by
  rw[mM,cV (2^k),<-mM,mU _ _ (by decide),kQ h1,fQ]
 have hr:(a1+4294967296*(a2+4294967296*E))/2^k%4294967296=(a1+a2*4294967296)/2^k%4294967296:=by
  have e1:a1+4294967296*(a2+4294967296*E)=(a1+a2*4294967296)+2^k*(2^(32-k)*(4294967296*E)):=by
   rw[<-cW (2^k),cV (2^k) (2^(32-k)),<-hB];omega
  rw[e1,mU _ _ hp0];rw[show 2^(32-k)*(4294967296*E)=4294967296*(2^(32-k)*E) by rw[lK]];rw[nR]
 have h:=Nat.mod_add_div ((a1+4294967296*(a2+4294967296*E))/2^k) 4294967296;rw[hq,hr] at h;exact h.symm
def Pu(a:List Nat)(i:Nat):dv (a.drop i)=a.getD i 0+4294967296*dv (a.drop (i+1)):=by
 by_cases h:i<a.length
 ·rw[cX h,aK,aX h];rfl
 ·rw[iQ (by omega),iQ (by omega),Dy (by omega)];rfl
def Y7{a:List Nat}(ha:bw a)(k i:Nat)(hk:k<32):dv (a.drop i)/2^k=(a.getD i 0+a.getD (i+1) 0*4294967296)/2^k%4294967296+4294967296*(dv (a.drop (i+1))/2^k):=by
 rw[Pu a i,Pu a (i+1)];exact av2 _ k _ _ _ hk (ha.get i) J
def aBg{A G:Gh}{x:SV}{ds:List Nat}{k kk:Nat}(hx:cA A x ds)[GL A G](hk32:k<32)(hk:dv ds/2^k<2^kk)(hb:ds.length<=1125899906842):
  Fn prog 247 [x.v, .int .u64 (k:Int)] G (fun v G'=> ∃z:SV,v=z.v/\fE kk G' z (dv ds/2^k)):=by
 have htl:=og ds;have hcall:=fun G1 (_:GL A G1)=>jn (G:=G1) hx (by omega);have hxt:=hx.trim;rw[<-jP ds] at hk⊢;generalize trimD ds=a at*;have hok:=hxt.ok;refine Fn.intro func247 J J ntmps247 J ?_;intro C _ _;refine sR<|sa J J<|zE<|sR<|sm J J<|?_;refine sc (zC J J (hcall _ inferInstance) J ?_);rintro _ G1 _ rfl;refine sa J J<|zE<|bz<|sR<|sm J J<|sy (AZ J J (by omega) (by omega) (by decide)) J<|sm J J<|c8 J J<|sy (gF J) J<|?_;rw[show(k:Int)/32=0 by omega];refine sy (uC J J) J<|zE<|?_;refine f8 J (fun hc=>?_) (fun hc=>?_) -- slot 17
 ·refine sR<|sa J J<|zE<|di<|?_
  have:a=[]:=bU (by omega);subst this;refine zD (.tmp J .nil) ⟨⟨none,0,0⟩,J,?_⟩;have e0:dv []/2^k=0:=by simp[dv]
  rw[e0];exact⟨by unfold dg;exact .nil _,fM (by omega)⟩
 refine zK<|sR<|sm J J<|sy (AZ J J (by omega) (by omega) (by decide)) J<|sy (Nv J) J<|sm J J<|sy (A4 J J (by omega) (by decide)) J<|?_;rw[show(k:Int)/32=0 by omega,show(k:Int)%32=k by omega];refine sa J J<|sa J J<|zE<|sR<|sm J J<|c8 J J<|sm J J<|sy (j' J J) J<|?_;refine sc (ud J J (by omega) (by omega) (by omega) (by rfl) J ?_);intro b2;rw[uP,show((a.length:Int)-0).toNat=a.length by omega];refine sa J J<|zE<|bz<|sR<|sm J J<|c8 J J<|sm J J<|zE<|eh<|?_;refine mn (X:=SS) (fun q=>[(30, .int .i64 q.i),(29, .int .i64 a.length),(0, .slice x.a a.length x.c),(5, .int .i64 0),(7, .slice (some ⟨b2,0,none⟩) a.length a.length),(6, .int .u64 k)])
  (fun q=>[⟨b2,q.ws.map dI,218,true⟩])
  (fun q _=>q.i<=a.length/\q.ws.length=a.length/\bw q.ws/\dv a/2^k=dv (q.ws.take q.i)+4294967296^q.i*(dv (a.drop q.i)/2^k)) (fun q=>a.length-q.i) ⟨List.replicate a.length 0,0⟩
  ⟨bT _,by simp, .replicate _,by simp[dv]⟩ (.cons J (.cons J (.cons J (.cons J (.cons J (.cons J .nil)))))) J ?_
 rintro ⟨ws,i⟩ Gy _ ⟨hia,hwl,hwo,hinv⟩;simp only[] at hia hwl hwo hinv⊢;refine sR<|sy (jo J J) J<|zE<|bz<|?_;refine mz J (fun hc=>?_) (fun hc=>?_) -- slot 31
 ·have hin:i=a.length:=by omega
  refine jC<|e8<|e8<|jB<|sR<|sm J J<|?_;refine qm b2 (.hd ..) (fun G3 _ hgb=>?_);have hD:cA G3 ⟨some ⟨b2,0,none⟩,a.length,a.length⟩ ws:= .of_block hwo hgb.h hwl.symm (bQ _) (by rw[bX (by simp)]);have hdv:dv a/2^k=dv ws:=by
   rw[hinv,hin,bX (by omega),iM];simp[dv]
  refine sc (zC J J (jn hD (by omega)) J ?_);rintro _ G4 _ rfl;refine sa J J<|zE<|di<|?_;refine zD (.tmp J .nil) ⟨⟨some ⟨b2,0,none⟩,(trimD ws).length,a.length⟩,J,?_⟩;have h3:=hD.trim.up (G:=G4);rw[hdv] at hk⊢;exact⟨by rw[qe hwo];exact h3,hk⟩
 have hia':i<a.length:=by omega
 have hga:=hok.get i;have hga2:=hok.get (i+1);refine zK<|bz<|eh<|sR<|sm J J<|sa J J<|zE<|sR<|sm J J<|sm J J<|sm J J<|sy (d6 J J) J<|?_;refine sy (iA (z:=⟨x.a,a.length,x.c⟩) hxt J J (by omega) (by show((i:Int)+0)<(a.length:Nat);omega)) J<|?_;rw[show((i:Int)+0).toNat=i by omega];refine sy (iB hxt J (by omega)) J<|sy (gF J) J<|sa J J<|zE<|?_;refine Ca Unit (fun _=>[(30, .int .i64 i),(8, .int .i64 i),(29, .int .i64 a.length),(0, .slice x.a a.length x.c),(5, .int .i64 0),(7, .slice (some ⟨b2,0,none⟩) a.length a.length),(6, .int .u64 k),(9, .int .u64 ((a.getD i 0+a.getD (i+1) 0*2^32:Nat):Int))]) (fun _=>[⟨b2,ws.map dI,218,true⟩]) (fun _ _=>True) ?_ ?_
 ·refine sR<|sm J J<|sm J J<|sy (d6 J J) J<|sy (d6 J J) J<|sm J J<|c8 J J<|sy (jo J J) J<|?_
  refine zE<|?_;refine f8 J (fun hc2=>?_) (fun hc2=>?_) -- slot 46
  ·refine d7<|sm J J<|sm J J<|sm J J<|sm J J<|sy (d6 J J) J<|sy (d6 J J) J<|sy (iA (z:=⟨x.a,a.length,x.c⟩) hxt J J (by omega) (by show((i:Int)+0+1)<(a.length:Nat);omega)) J<|?_
   rw[show((i:Int)+0+1).toNat=i+1 by omega];refine sy (iB hxt J (by omega)) J<|sy (gF J) J<|sy (yk J J (by decide)) J<|?_;rw[r7 (a.getD (i+1) 0) 32 (by decide) (by omega) J];refine sy (iO J J (P8 (a.getD i 0) (a.getD (i+1) 0) 32 (by omega) (by omega))) J<|sa J J<|zE<|?_;exact qk () trivial (.cons J (.cons J (.cons J (.cons J (.cons J (.cons J (.cons J (.cons J .nil)))))))) J
  refine zK<|?_;have h0:a.getD (i+1) 0=0:=Dy (by omega);exact qk () trivial (.cons J (.cons J (.cons J (.cons J (.cons J (.cons J (.cons J (.cons (by rw[h0,kY,fJ];rfl) .nil)))))))) J
 rintro _ Gz _ _;refine d7<|sm J J<|sm J J<|sm J J<|sm J J<|sy (ng J J (by omega)) J<|?_;rw[tu _ k (by omega) (bZ k)];refine sy (lg J) J<|sy (fq J J (by omega) (by omega)) J<|?_;rw[bZ];refine sc (mj (d:=(a.getD i 0+a.getD (i+1) 0*2^32)/2^k%4294967296) J J (by rw[oS];rfl) (.hd ..) (by omega) J ?_);refine zE<|d7<|sy (d6 J J) J<|sm J J<|zE<|?_;refine jw ⟨ws.set i ((a.getD i 0+a.getD (i+1) 0*2^32)/2^k%4294967296),i+1⟩ ⟨by show i+1<=_;omega,by simp[hwl],hwo.set _ (dW _ (by decide)),?_⟩ (by show a.length-(i+1)<a.length-i;omega) (.cons J (.cons J (.cons J (.cons J (.cons J (.cons J .nil)))))) J;show dv a/2^k=dv ((ws.set i ((a.getD i 0+a.getD (i+1) 0*2^32)/2^k%4294967296)).take (i+1))+4294967296^(i+1)*(dv (a.drop (i+1))/2^k);rw[hinv,qB (by omega),Y7 hok k i hk32,u7 i,eX,cW,kN]
end Go.Sx
end
