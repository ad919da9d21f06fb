import Derived.Test.YtmhfhhiaecjhiaaGreatDoorWr7
import Derived.Shelf.Small.Bits
import Derived.Shelf.Strconv.Itoa0
import Derived.Shelf.Strconv.Itoa1
import Derived.Shelf.LaysM
import Derived.Shelf.Strconv.Itoa2
import Derived.Shelf.Strconv.Itoa3
import Derived.Shelf.Bits.Mul64
import Derived.Test.YtmhfhhiaecjhiaaGreatDoorProg
set_option linter.all false
set_option maxHeartbeats 2000000
set_option maxRecDepth 100000
section
namespace Go.Proofs
open Go.Shelf
def Tryz.lays128_ren:Go.Shelf.Ren:=⟨fun|128=>165|n=>n,fun|51=>261|3=>3|4=>4|46=>219|5=>5|9=>9|n=>n,fun|n=>n⟩
def Tryz.lays125_ren:Go.Shelf.Ren:=⟨fun|125=>103|128=>165|129=>166|n=>n,fun|46=>219|3=>3|51=>261|53=>255|4=>4|5=>5|9=>9|n=>n,fun|n=>n⟩
def Tryz.lays133_ren:Go.Shelf.Ren:=⟨fun|133=>237|128=>165|n=>n,fun|51=>261|3=>3|4=>4|46=>219|5=>5|9=>9|n=>n,fun|n=>n⟩
def Tryz.lays133:Go.Proofs.Lays.n133 Tryz.prog Tryz.lays133_ren:={
 mixed:=by kernel_rfl
 f128:=Tryz.func165.trans (congrArg some (by kernel_rfl))
 f133:=Tryz.func237.trans (congrArg some (by kernel_rfl))
 t3:=Tryz.underlying3
 a3:=Tryz.isAgg3
 z3:=Tryz.sizeOf3
 v3:=Tryz.zeroValue3
 t4:=Tryz.underlying4
 a4:=Tryz.isAgg4
 z4:=Tryz.sizeOf4
 v4:=Tryz.zeroValue4
 t5:=Tryz.underlying5
 a5:=Tryz.isAgg5
 z5:=Tryz.sizeOf5
 v5:=Tryz.zeroValue5
 t9:=Tryz.underlying9
 a9:=Tryz.isAgg9
 z9:=Tryz.sizeOf9
 v9:=Tryz.zeroValue9
 t46:=Tryz.underlying219
 a46:=Tryz.isAgg219
 z46:=Tryz.sizeOf219
 v46:=Tryz.zeroValue219
 t51:=Tryz.underlying261
 a51:=Tryz.isAgg261
 z51:=Tryz.sizeOf261
 v51:=Tryz.zeroValue261}
def Tryz.bits_LeadingZeros32(x:Int)(w:World)(h0:0<=x)(h1:x<=4294967295):
  Calls Tryz.prog 237 #[.int .u32 x] w fun e w'=>e= .returned (.int .i64 (32-(Lib.bitLen x.toNat:Int)))/\w'=w:=Any.bits_LeadingZeros32 Tryz.lays133 x w h0 h1
def Tryz.lays129_ren:Go.Shelf.Ren:=⟨fun|129=>166|n=>n,fun|53=>255|3=>3|4=>4|46=>219|5=>5|9=>9|n=>n,fun|n=>n⟩
def Tryz.lays317_ren:Go.Shelf.Ren:=⟨fun|317=>266|n=>n,fun|3=>3|46=>219|n=>n,fun|n=>n⟩
open Go.Lib in
def Tryz.lays318_ren:Go.Shelf.Ren:=⟨fun|318=>267|n=>n,fun|3=>3|4=>4|n=>n,fun|n=>n⟩
open Go.Lib in
def Tryz.lays283_ren:Go.Shelf.Ren:=⟨fun|283=>254|n=>n,fun|3=>3|9=>9|4=>4|n=>n,fun|n=>n⟩
open Go.Lib in
def Tryz.laysM284_ren:Go.Shelf.Ren:=⟨fun|284=>255|129=>166|317=>266|318=>267|n=>n,fun|53=>255|3=>3|212=>351|0=>0|4=>4|46=>219|5=>5|9=>9|n=>n,fun|17=>5|n=>n⟩
open Go.Lib in
def Tryz.lays285_ren:Go.Shelf.Ren:=⟨fun|285=>256|n=>n,fun|37=>339|53=>255|3=>3|4=>4|51=>261|9=>9|5=>5|0=>0|n=>n,fun|n=>n⟩
open Go.RowKit Go.Sort Go.Lib in
def Tryz.laysM246_ren:Go.Shelf.Ren:=⟨fun|246=>230|283=>254|284=>255|285=>256|286=>257|129=>166|317=>266|318=>267|319=>268|320=>269|337=>279|338=>280|n=>n,fun|2=>2|3=>3|9=>9|4=>4|171=>337|0=>0|53=>255|37=>339|5=>5|173=>340|212=>351|51=>261|20=>20|213=>352|46=>219|232=>361|233=>362|n=>n,fun|17=>5|18=>6|19=>7|n=>n⟩
open Go.RowKit Go.Sort Go.Lib in
def Tryz.lays246_ren:Go.Shelf.Ren:=⟨fun|246=>230|283=>254|284=>255|285=>256|286=>257|129=>166|317=>266|318=>267|319=>268|320=>269|337=>279|338=>280|n=>n,fun|2=>2|3=>3|9=>9|4=>4|171=>337|0=>0|53=>255|37=>339|5=>5|173=>340|212=>351|51=>261|20=>20|213=>352|46=>219|232=>361|233=>362|n=>n,fun|17=>5|18=>6|19=>7|n=>n⟩
open Go.RowKit Go.Sort Go.Lib in
def Tryz.laysM243_ren:Go.Shelf.Ren:=⟨fun|243=>181|246=>230|283=>254|284=>255|285=>256|286=>257|129=>166|317=>266|318=>267|319=>268|320=>269|337=>279|338=>280|n=>n,fun|3=>3|9=>9|2=>2|4=>4|171=>337|0=>0|53=>255|37=>339|5=>5|173=>340|212=>351|51=>261|20=>20|213=>352|46=>219|232=>361|233=>362|n=>n,fun|17=>5|18=>6|19=>7|n=>n⟩
open Go.RowKit Go.Sort Go.Lib in
def Tryz.lays243_ren:Go.Shelf.Ren:=⟨fun|243=>181|246=>230|283=>254|284=>255|285=>256|286=>257|129=>166|317=>266|318=>267|319=>268|320=>269|337=>279|338=>280|n=>n,fun|3=>3|9=>9|2=>2|4=>4|171=>337|0=>0|53=>255|37=>339|5=>5|173=>340|212=>351|51=>261|20=>20|213=>352|46=>219|232=>361|233=>362|n=>n,fun|17=>5|18=>6|19=>7|n=>n⟩
open Go.RowKit Go.Sort Go.Lib in
def Tryz.laysM171_ren:Go.Shelf.Ren:=⟨fun|171=>114|243=>181|246=>230|283=>254|284=>255|285=>256|286=>257|129=>166|317=>266|318=>267|319=>268|320=>269|337=>279|338=>280|n=>n,fun|3=>3|9=>9|2=>2|4=>4|171=>337|0=>0|53=>255|37=>339|5=>5|173=>340|212=>351|51=>261|20=>20|213=>352|46=>219|232=>361|233=>362|n=>n,fun|17=>5|18=>6|19=>7|n=>n⟩
open Go.RowKit Go.Sort Go.Lib in
def Tryz.lays171_ren:Go.Shelf.Ren:=⟨fun|171=>114|243=>181|246=>230|283=>254|284=>255|285=>256|286=>257|129=>166|317=>266|318=>267|319=>268|320=>269|337=>279|338=>280|n=>n,fun|3=>3|9=>9|2=>2|4=>4|171=>337|0=>0|53=>255|37=>339|5=>5|173=>340|212=>351|51=>261|20=>20|213=>352|46=>219|232=>361|233=>362|n=>n,fun|17=>5|18=>6|19=>7|n=>n⟩
def Tryz.lays171:Go.Proofs.Lays.n171 Tryz.prog Tryz.lays171_ren:={
 mixed:=by kernel_rfl
 f129:=Tryz.func166.trans (congrArg some (by kernel_rfl))
 f171:=Tryz.func114.trans (congrArg some (by kernel_rfl))
 f243:=Tryz.func181.trans (congrArg some (by kernel_rfl))
 f246:=Tryz.func230.trans (congrArg some (by kernel_rfl))
 f283:=Tryz.func254.trans (congrArg some (by kernel_rfl))
 f284:=Tryz.func255.trans (congrArg some (by kernel_rfl))
 f285:=Tryz.func256.trans (congrArg some (by kernel_rfl))
 f286:=Tryz.func257.trans (congrArg some (by kernel_rfl))
 f317:=Tryz.func266.trans (congrArg some (by kernel_rfl))
 f318:=Tryz.func267.trans (congrArg some (by kernel_rfl))
 f319:=Tryz.func268.trans (congrArg some (by kernel_rfl))
 f320:=Tryz.func269.trans (congrArg some (by kernel_rfl))
 f337:=Tryz.func279.trans (congrArg some (by kernel_rfl))
 f338:=Tryz.func280.trans (congrArg some (by kernel_rfl))
 t0:=Tryz.underlying0
 a0:=Tryz.isAgg0
 z0:=Tryz.sizeOf0
 v0:=Tryz.zeroValue0
 t2:=Tryz.underlying2
 a2:=Tryz.isAgg2
 z2:=Tryz.sizeOf2
 v2:=Tryz.zeroValue2
 t3:=Tryz.underlying3
 a3:=Tryz.isAgg3
 z3:=Tryz.sizeOf3
 v3:=Tryz.zeroValue3
 t4:=Tryz.underlying4
 a4:=Tryz.isAgg4
 z4:=Tryz.sizeOf4
 v4:=Tryz.zeroValue4
 t5:=Tryz.underlying5
 a5:=Tryz.isAgg5
 z5:=Tryz.sizeOf5
 v5:=Tryz.zeroValue5
 t9:=Tryz.underlying9
 a9:=Tryz.isAgg9
 z9:=Tryz.sizeOf9
 v9:=Tryz.zeroValue9
 t20:=Tryz.underlying20
 a20:=Tryz.isAgg20
 z20:=Tryz.sizeOf20
 v20:=Tryz.zeroValue20
 t37:=Tryz.underlying339
 a37:=Tryz.isAgg339
 z37:=Tryz.sizeOf339
 v37:=Tryz.zeroValue339
 t46:=Tryz.underlying219
 a46:=Tryz.isAgg219
 z46:=Tryz.sizeOf219
 v46:=Tryz.zeroValue219
 t51:=Tryz.underlying261
 a51:=Tryz.isAgg261
 z51:=Tryz.sizeOf261
 v51:=Tryz.zeroValue261
 t53:=Tryz.underlying255
 a53:=Tryz.isAgg255
 z53:=Tryz.sizeOf255
 v53:=Tryz.zeroValue255
 t171:=Tryz.underlying337
 a171:=Tryz.isAgg337
 z171:=Tryz.sizeOf337
 v171:=Tryz.zeroValue337
 t173:=Tryz.underlying340
 a173:=Tryz.isAgg340
 z173:=Tryz.sizeOf340
 v173:=Tryz.zeroValue340
 t212:=Tryz.underlying351
 a212:=Tryz.isAgg351
 z212:=Tryz.sizeOf351
 v212:=Tryz.zeroValue351
 t213:=Tryz.underlying352
 a213:=Tryz.isAgg352
 z213:=Tryz.sizeOf352
 t232:=Tryz.underlying361
 a232:=Tryz.isAgg361
 z232:=Tryz.sizeOf361
 v232:=Tryz.zeroValue361
 t233:=Tryz.underlying362
 a233:=Tryz.isAgg362
 z233:=Tryz.sizeOf362
 v233:=Tryz.zeroValue362
 g17:=by kernel_rfl
 g18:=by kernel_rfl
 g19:=by kernel_rfl}
open Go.RowKit Go.Sort Go.Lib in
def Tryz.strconv_Itoa_small(i:Nat)(hi:i<100)(w:World):
  Calls Tryz.prog 114 #[.int .i64 i] w fun e w'=>e= .returned (.string ⟨(Lib.decDigits i).toArray⟩)/\w'=w:=Any.strconv_Itoa_small Tryz.lays171 i hi w
def Tryz.lays264_ren:Go.Shelf.Ren:=⟨fun|264=>261|n=>n,fun|53=>255|46=>219|n=>n,fun|n=>n⟩
def Tryz.lays264:Go.Proofs.Lays.n264 Tryz.prog Tryz.lays264_ren:={
 mixed:=by kernel_rfl
 f264:=Tryz.func261.trans (congrArg some (by kernel_rfl))
 t46:=Tryz.underlying219
 a46:=Tryz.isAgg219
 z46:=Tryz.sizeOf219
 v46:=Tryz.zeroValue219
 t53:=Tryz.underlying255
 a53:=Tryz.isAgg255
 z53:=Tryz.sizeOf255
 v53:=Tryz.zeroValue255}
open Go.RowKit Go.Lib in
def Tryz.bits_Mul64(x y:Nat)(hx:x<18446744073709551616)(hy:y<18446744073709551616)(w:World):
  Calls Tryz.prog 261 #[.int .u64 x, .int .u64 y] w fun e w'=>e= .returned (.tuple #[.int .u64 ((x*y/18446744073709551616:Nat):Int), .int .u64 ((x*y%18446744073709551616:Nat):Int)])/\w'=w:=Any.bits_Mul64 Tryz.lays264 x y hx hy w
end Go.Proofs
end
section
namespace Go.Sx
open Go Go.Proofs Tryz
def bl(x:Nat):Nat:=if x=0 then 0 else Nat.log2 x+1
def yT(x:Nat):x<2^bl x:=by
 unfold bl;split
 .rename_i h;subst h;decide
 .exact Nat.lt_log2_self
def iE{x k:Nat}:bl x<=k↔x<2^k:=by
 constructor
 .intro h;exact bS (yT x) (bY (by omega) h)
 .intro h
  unfold bl;split
  .omega
  .rename_i h0
   have:=(Nat.log2_lt h0).2 h;omega
def OE{x:Nat}(h:x≠0):bl x=1+bl (x/2):=by
 have h1: ∀k,bl x<=k+1↔bl (x/2)<=k:=fun k=>by
  rw[iE,iE,gJ];omega
 have h2:bl x≠0:=fun e=>by
  have:=yT x;rw[e] at this;simp at this;exact h this
 have h3:=(h1 (bl (x/2))).2 (aM _);have h4:=(h1 (bl x-1)).1 (by omega);omega
def DR: ∀(f x:Nat),x<2^f->Lib.bitLenAux f x=bl x
 |0,x,h=>by
  have:x=0:=by simpa using h
  subst this;rfl
 |f+1,x,h=>by
  unfold Lib.bitLenAux;split
  .rename_i h0;subst h0;rfl
  .rename_i h0
   rw[DR f (x/2) (by rw[gJ] at h;omega),OE h0]
def Mo{x:Nat}(h:x<2^64):Lib.bitLen x=bl x:=DR 64 x h
def Mc{x k:Nat}(d:Nat)(h:x<2^k)(hd:d≠0):bl (x+2^k*d)=k+bl d:=by
 have h1: ∀j,bl (x+2^k*d)<=k+j↔bl d<=j:=fun j=>by
  rw[iE,iE,fW];constructor
  .intro h'
   exact Nat.lt_of_mul_lt_mul_left (a:=2^k) (by omega)
  .intro h'
   have:2^k*(d+1)<=2^k*2^j:=eX _ h';rw[cY] at this;omega
 have h2:k<bl (x+2^k*d):=by
  rcases dR k (bl (x+2^k*d)) with h'|h'
  .exact h'
  .have:=iE.1 h'
   have h3:2^k*1<=2^k*d:=eX _ (by omega);omega
 have h3:=(h1 (bl d)).2 (aM _);have h4:=(h1 (bl (x+2^k*d)-k)).1 (by omega);omega
def Ro{ds:List Nat}(h:aO ds)(hn:c6 ds)(hne:ds≠[]):bl (dv ds)=32*(ds.length-1)+bl (ds.getD (ds.length-1) 0):=by
 rcases pK ds with rfl|⟨l,d,rfl⟩
 .exact absurd J hne
 .rw[pV] at*
  have hd:d≠0:=fun e=>by subst e;simp[c6] at hn
  have hl:aO l:=fun x hx=>h x (dZ _ hx);have h1:=i8 hl;rw[rT];have h2:(4294967296:Nat)^l.length=2^(32*l.length):=by rw[qQ]
  rw[h2] at h1⊢;have h3:dv [d]=d:=by simp[dv]
  rw[h3,Mc d h1 hd];have h4:(l++[d]).length-1=l.length:=by simp
  rw[h4,aJ,dS (aM _)];simp
def zn{P:Program}{f:FuncId}{fn:Func}{c:Code}(h:P.funcs[f]? =some fn)(hb:fn.body=some c)(hn:(fn.name== "runtime.NumGoroutine")=false):kt P f:=⟨fn,h,hn,by rw[hb];rfl⟩
def O9{G:Gh}{x:Nat}(hx:x<4294967296):Fn prog 237 [.int .u32 (x:Int)] G (fun v _=>v= .int .i64 (32-(bl x:Int))):=by
 have h:=Fn.of_calls (G:=G) (zn func237 J J) (fun w=>Tryz.bits_LeadingZeros32 (x:Int) w (by omega) (by omega));rw[fU,Mo (rX hx (by decide))] at h;exact h
def fA(a b:Nat):Int:=if a<b then-1 else if a=b then 0 else 1
structure ZY where
 ws:List Nat
 k:Nat
 c:Nat
structure Yu where
 ws:List Nat
 k:Nat
 c:Nat
structure X1 where
 ws:List Nat
 i:Nat
structure X5 where
 ws:List Nat
 k:Nat
 c:Nat
def lz(d k:Nat)(hk:k<64)(h:d*2^k<18446744073709551616){q:Int}(hq:q.toNat=k:=by omega):IntKind.u64.wrap ((d:Int)*2^min q.toNat IntKind.u64.bits)=((d*2^k:Nat):Int):=by
 rw[hq,fM (by show k<=64;omega),mr];have e2:(d:Int)*2^k=((d*2^k:Nat):Int):=by push_cast;rfl
 rw[e2];omega
def KF(d k:Nat)(hk:k<64:=by omega){q:Int}(hq:q.toNat=k:=by omega):(d:Int).fdiv (2^min q.toNat IntKind.u64.bits)=((d/2^k:Nat):Int):=by
 rw[hq,fM (by show k<=64;omega),jQ _ (nS (Int.pow_pos (by decide)))];push_cast;rfl
structure Ya where
 ws:List Nat
 k:Nat
 r:Nat
section
variable {P:Program} {C:az} {n:Nat} {fr:Fr} {own:List av} {G:Gh} {dst:Option Nat} {t t1 t2 ty':TypeId} {pos:String} {af:Array Edge} {gd:Option (Nat×Bool)} {x y:Operand}
end
structure ZX where
 ws:List Nat
 i:Nat
end Go.Sx
end
section
namespace Go.Sx
def rF(i:Nat):(4294967296:Nat)^(i+1)=4294967296^i*4294967296:=gJ ..
def NT{U p V T S first third:Nat}(hU:U<(first*4294967296+third+1)*p)(h3:third<4294967296)(hV:(T*4294967296+S)*p<=V)(hT:0<T):
  U<(first/T+1)*V:=by
 have h1:first+1<=(first/T+1)*T:=by
  have:=Nat.lt_mul_div_succ first hT
  rw[bW];omega
 calc U<(first*4294967296+third+1)*p:=hU
  _<=((first+1)*4294967296)*p:=bK _ (by omega)
  _<=(((first/T+1)*T)*4294967296)*p:=bK _ (bK _ h1)
  _=(first/T+1)*((T*4294967296)*p):=by rw[bU (first/T+1),bU (first/T+1)]
  _<=(first/T+1)*V:=eX _ (fJ (bK _ (nL _ _)) hV)
def U2{U p V T S first third v0:Nat}(hU:(first*4294967296+third)*p<=U)(hV:V=(T*4294967296+S)*p+v0)(hv:v0<p)(hlt:U<V*4294967296):first<=T*4294967296+S:=by
 rcases dR (T*4294967296+S) first with h|h
 .exfalso
  have h1:(T*4294967296+S+1)*p<=first*p:=bK p h
  rw[cS _ 1,mV] at h1;rw[cS,lQ] at hU;have:0<=third*p:=bJ _;omega
 .exact h
def Al{U p V T S first third g r:Nat}(hU:U<(first*4294967296+third+1)*p)(hV:(T*4294967296+S)*p<=V)(hg:first=g*T+r)(hc:r*4294967296+third<g*S:=by omega):U<g*V:=by
 refine bS hU (fJ (bK p (m:=g*(T*4294967296+S)) ?_) ?_)
 .rw[cY,<-bU,hg,cS];omega
 .rw[bU];exact eX _ hV
def Bh{U p V T S first third g r v0:Nat}(hU:(first*4294967296+third)*p<=U)(hV:V=(T*4294967296+S)*p+v0)(hv:v0<p)(hT:0<T)(hg:first=g*T+r)(hgB:g<4294967296)(hc:g*S<=r*4294967296+third):g*V<U+V:=by
 have h1:g*((T*4294967296+S)*p)<=U:=by
  rw[<-bU];refine fJ (bK p ?_) hU;rw[cY,<-bU,hg,cS];omega
 have h2:g*v0<=4294967295*v0:=bK _ (by omega);have h3:4294967296*p<=V:=by
  rw[hV];refine fJ (bK p ?_) (nL _ _);omega
 have h4:g*V=g*((T*4294967296+S)*p)+g*v0:=by rw[<-cY,<-hV]
 omega
def OQ{U V R g:Nat}(h:U<(g+1)*V)(hr:R+g*V=U):R<V:=by
 rw[cS,mV] at h;omega
def TL{U V R R' g w M:Nat}(h2:g*V<U+V)(hr:R+g*V=U+M)(hb:R'+w*M=R+V)(hR:R<M)(hR':R'<M)(hw:w<=1)(hg:0<g):R'+(g-1)*V=U/\R'<V:=by
 have hgv:g*V=(g-1)*V+V:=by
  conv=>lhs;rw[show g=(g-1)+1 by omega,cS,mV]
 have:w=1:=by
  rcases dR w 1 with h|h
  .have:w=0:=by omega
   subst this;omega
  .omega
 subst this;omega
def rR(us:List Nat)(i:Nat):dv (us.drop i)=us.getD i 0+4294967296*dv (us.drop (i+1)):=by
 rcases dR i us.length with h|h
 .rw[bM h];simp[dv,List.getD,aQ h]
 .rw[iZ h,iZ (by omega)]
  simp[dv,dY h,List.getD]
def rG(us:List Nat)(i:Nat):dv us=dv (us.take i)+4294967296^i*dv (us.drop i):=by
 rcases dR us.length i with h|h
 .rw[cW (by omega),iZ (by omega)];simp[dv]
 .exact t8 us i h
def vW{us:List Nat}(h:aO us)(i:Nat):dv (us.take i)<4294967296^i:=by
 refine bS (i8 (h.take i)) (bY (by decide) ?_);simp[aS];omega
def uO{us:List Nat}{i:Nat}(hd:dv us<4294967296^i):dv (us.drop i)=0:=by
 have h:=rG us i;rcases cN (dv (us.drop i)) with h0|h0
 .exact h0
 .have:=eX (4294967296^i) h0
  omega
def Qc{W W' U E p u x bo b c c1 g d:Nat}(hs:W'+p*u=W+p*x)(hw:W+E=U+(bo+c)*p)(hc:c1=c+g*d)(hx:x+(c1%4294967296+bo)=u+b*4294967296):
  W'+(E+g*d*p)=U+(b+c1/4294967296)*(p*4294967296):=by
 have h1:=congrArg (p* ·) hx;simp only[cY] at h1;have h2:p*c1=p*(c1%4294967296)+p*(c1/4294967296)*4294967296:=by
  rw[bU,<-cY,Nat.mod_add_div']
 have h3:p*c1=p*c+p*(g*d):=by rw[hc,cY]
 rw[cS,bW bo,bW c] at hw;rw[bW (g*d),cS,<-bU b,<-bU (c1/4294967296),bW b,bW (c1/4294967296)];rw[<-bU] at h1;omega
def L0{W W' U E p u x bo b c:Nat}(hs:W'+p*u=W+p*x)(hw:W+E=U+(bo+c)*p)(hx:x+(c+bo)=u+b*4294967296):W'+E=U+b*(p*4294967296):=by
 have h1:=congrArg (p* ·) hx;simp only[cY] at h1;rw[cS,bW bo,bW c] at hw;rw[<-bU b,bW b];rw[<-bU] at h1;omega
def N6{W W' R E p u d c:Nat}(hs:W'+p*u=W+p*((c+(u+d))%4294967296))(hw:W+c*p=R+E):W'+(c+(u+d))/4294967296*(p*4294967296)=R+(E+d*p):=by
 have h2:p*(c+(u+d))=p*((c+(u+d))%4294967296)+p*((c+(u+d))/4294967296)*4294967296:=by
  rw[bU,<-cY,Nat.mod_add_div']
 rw[cY p c,cY p u] at h2;rw[bW c] at hw;rw[bW d,<-bU,bW _ p];omega
def XD{W W' R p u c:Nat}(hs:W'+p*u=W+p*((u+c)%4294967296))(hw:W+c*p=R):W'+(u+c)/4294967296*(p*4294967296)=R:=by
 have h2:p*(u+c)=p*((u+c)%4294967296)+p*((u+c)/4294967296)*4294967296:=by
  rw[bU,<-cY,Nat.mod_add_div']
 rw[cY p u] at h2;rw[bW c] at hw;rw[<-bU,bW _ p];omega
def S5{us:List Nat}(h:aO us)(i:Nat)(hd:dv us<4294967296^(i+3)):
  dv us=((us.getD (i+2) 0*4294967296+us.getD (i+1) 0)*4294967296+us.getD i 0)*4294967296^i+dv (us.take i):=by
 have h0:=uO hd;rw[rG us i,rR us i,rR us (i+1),rR us (i+2),h0,jS,bW];congr 2;omega
def Mg{us:List Nat}(h:aO us)(i:Nat)(hd:dv us<4294967296^(i+2)):
  dv us=(us.getD (i+1) 0*4294967296+us.getD i 0)*4294967296^i+dv (us.take i):=by
 have h0:=uO hd;rw[rG us i,rR us i,rR us (i+1),h0,jS,bW];congr 2;omega
def ye{us:List Nat}{k i d:Nat}(h:aO us)(hd:d<4294967296)(hk:dv us<4294967296^k)(hi:i<k:=by omega):dv (us.set i d)<4294967296^k:=by
 rw[rG _ k,List.drop_set,if_pos hi,uO hk,qN,eK];exact vW (h.set i hd) k
end Go.Sx
end
section
namespace Go.Sx
open Go Go.Proofs Tryz

def Ub{V n:Nat}(h1:4294967296^(n-1)<=V)(h2:V<4294967296^n)(hn:0<n):(dg V).length=n:=by
 obtain⟨e,hk,hr⟩:=dE V;have hne:dg V≠[]:=fun h=>by
  rw[h] at e;have:0<4294967296^(n-1):=fY (by decide);simp[dv] at e;omega
 have h3:=qt hr hne;have h4:=i8 hk;rw[e] at h3 h4;have h5:=(lL (a:=4294967296) (by decide)).1 (fV h3 h2);have h6:=(lL (a:=4294967296) (by decide)).1 (fV h1 h4);omega
def NA{t s:Nat}(h0:0<t)(ht:t<4294967296)(hs:s=32-bl t):s<32/\2147483648<=t*2^s/\(t+1)*2^s<=4294967296:=by
 have h1:bl t<=32:=iE.2 ht;have h2:bl t≠0:=fun h=>by
  have:=yT t;rw[h] at this;omega
 have h3:=yT t;have h4: ¬t<2^(bl t-1):=fun h=>by
  have:=iE.2 h;omega
 have e1:2^(bl t-1)*2^s=2147483648:=by rw[<-fW,show bl t-1+s=31 by omega]
 have e2:2^bl t*2^s=4294967296:=by rw[<-fW,show bl t+s=32 by omega]
 refine⟨by omega,?_,?_⟩
 .rw[<-e1];exact bK _ (by omega)
 .rw[<-e2];exact bK _ h3
def TM{us:List Nat}(h:aO us)(i:Nat)(hd:us.length=i+1):dv us=us.getD i 0*4294967296^i+dv (us.take i):=by
 have h0:dv (us.drop (i+1))=0:=by rw[iZ (by omega)];rfl
 rw[rG us i,rR us i,h0,jS,bW];rfl
def KD{b:List Nat}(h:c6 b)(i:Nat)(hi:b.length=i+1):0<b.getD i 0:=by
 rcases cN (b.getD i 0) with h0|h0
 .exfalso
  apply h;rw[lK,hi,show i+1-1=i from J];rw[List.getD,aQ (by omega)] at h0;rw[aQ (by omega)];simpa using h0
 .exact h0
def Um(a:List Nat)(k:Nat):dv (a++List.replicate k 0)=dv a:=by rw[rT,r8];simp
structure aBw where
 us:List Nat
 qs:List Nat
 j:Nat
structure YL where
 g:Nat
 r:Nat
structure aEb where
 ws:List Nat
 k:Nat
 bo:Nat
 c:Nat
def oq(u m bo:Nat):Nat:=if m+bo<=u then u-(m+bo) else u+18446744073709551616-(m+bo)
def sub2(u m bo:Nat)(hu:u<4294967296)(hm:m<4294967296)(hb:bo<=1):IntKind.u64.wrap (IntKind.u64.wrap ((u:Int)-(m:Int))-(bo:Int))=((oq u m bo:Nat):Int):=by
 rw[mr,mr];unfold oq;split<;>omega
def EU(u m bo:Nat)(hu:u<4294967296)(hm:m<4294967296)(hb:bo<=1):oq u m bo%4294967296+(m+bo)=u+oq u m bo/9223372036854775808*4294967296/\oq u m bo/9223372036854775808<=1/\oq u m bo<18446744073709551616:=by
 unfold oq;split<;>omega
def gP{u k:Nat}(h:u<2^k):32*(dg u).length<=k+31:=Uw (dE u).2.2 (by rw[(dE u).1];exact h)
structure XL where
 a:SV
 b:SV
 u:Nat
 v:Nat
structure IV where
 neg:Bool
 a:SV
def IV.v(z:IV):Value:= .agg ⟨[.bool z.neg, .slice z.a.a z.a.n z.a.c]⟩
def zv(neg:Bool)(u:Nat):Int:=if neg then-(u:Int) else u
def i9(neg:Bool)(u:Nat):(zv neg u).natAbs=u:=by cases neg<;>simp[zv]
def UJ(neg:Bool)(u:Nat):zv (!neg) u= -zv neg u:=by cases neg<;>simp[zv]
def GR(n m:Bool)(u w:Nat):zv (n !=m) (u*w)=zv n u*zv m w:=by cases n<;>cases m<;>simp[zv,Int.neg_mul,Int.mul_neg]
def IF(neg:Bool)(u:Nat):decide (zv neg u<0)=(neg&&decide (0<u)):=by
 cases neg<;>simp[zv]
def im(m:Int):zv (decide (m<0)) m.natAbs=m:=by
 unfold zv;by_cases h:m<0<;>simp[h]<;>omega
structure qO (k:Nat) (G:Gh) (z:IV) (m:Int):Prop where
 neg:z.neg=decide (m<0)
 abs:IQ k G z.a m.natAbs
def TZ(n:Bool)(u w:Nat):zv n (u+w)=zv n u+zv n w:=by cases n<;>simp[zv]<;>omega
def Dd(p:Int):IntKind.i64.wrap p=(p+9223372036854775808)%18446744073709551616-9223372036854775808:=by
 have e:IntKind.i64.wrap p=if(true&&decide (p%2^64>=2^(64-1)))=true then p%2^64-2^64 else p%2^64:=J
 rw[e,show(2:Int)^64=18446744073709551616 by decide,show(2:Int)^(64-1)=9223372036854775808 by decide,Bool.true_and];by_cases h:p%18446744073709551616>=9223372036854775808
 .rw[decide_eq_true h,if_pos J];omega
 .rw[decide_eq_false h,if_neg (by decide)];omega
structure RV where
 n:Int
 d:Int
 p:Option Addr
def RV.v(z:RV):Value:= .agg ⟨[.int .i64 z.n, .int .i64 z.d, .pointer z.p]⟩
structure P4 (z:RV) (q:Rat):Prop where
 p:z.p=none
 n:z.n=q.num
 d:z.d=(q.den:Int)-1
 b1:q.num.natAbs<4611686018427387904
 b2:q.den<4611686018427387904
structure Vi (k:Nat) (G:Gh) (z:RV) (q:Rat):Prop where
 n:z.n=0
 d:z.d=0
 ex: ∃(b:Nat) (x:IV) (y:SV),z.p=some ⟨b,0,none⟩/\G b=some [.bool x.neg, .slice x.a.a x.a.n x.a.c, .slice y.a y.n y.c]/\qO k G x q.num/\IQ k G y q.den
 no: ¬(q.num.natAbs<4611686018427387904/\q.den<4611686018427387904)
def rj(k:Nat)(G:Gh)(z:RV)(q:Rat):Prop:=q.num.natAbs<2^k/\q.den<2^k/\(P4 z q\/Vi k G z q)
def NB{neg:Bool}{u g:Nat}(h:g∣u):zv neg (u/g)=zv neg u/(g:Int):=by
 cases neg
 .simp[zv]
 .simp only[zv,if_true]
  rw[Int.neg_ediv_of_dvd (oS.2 h),pT]
def JI{m:Int}{e:Nat}(he:0<e):(mkRat m e).num=m/((Nat.gcd m.natAbs e:Nat):Int)/\(mkRat m e).den=e/Nat.gcd m.natAbs e:=by
 rw[Rat.num_mkRat,Rat.den_mkRat,if_neg (by omega),if_neg (by omega),fS];exact⟨J,J⟩
def WI{x:Nat}:(((bl x:Nat):Int)<=62)↔x<4611686018427387904:=by
 have:bl x<=62↔x<2^62:=iE;omega
structure YC where
 x:SV
 y:SV
 ds:List Nat
 es:List Nat

def Th{G:Gh}{x y:Nat}(hx:x<18446744073709551616)(hy:y<18446744073709551616):Fn prog 261 [.int .u64 (x:Nat), .int .u64 (y:Nat)] G (fun v _=>v= .tuple #[.int .u64 ((x*y/18446744073709551616:Nat):Int), .int .u64 ((x*y%18446744073709551616:Nat):Int)]):=
 Fn.of_calls (G:=G) (zn func261 J J) (fun w=>Tryz.bits_Mul64 x y hx hy w)
def Ey(a b:Int):a*b=if(a<0)↔(b<0) then((a.natAbs*b.natAbs:Nat):Int) else-((a.natAbs*b.natAbs:Nat):Int):=by
 rcases(by omega:a<0\/0<=a) with h|h<;>rcases(by omega:b<0\/0<=b) with h2|h2
 .rw[if_pos (by simp[h,h2]),fL,jZ (nS h),jZ (nS h2),Int.neg_mul_neg]
 .rw[if_neg (by simp[h];omega),fL,jZ (nS h),lU h2,Int.neg_mul,Int.neg_neg]
 .rw[if_neg (by simp[h2];omega),fL,lU h,jZ (nS h2),Int.mul_neg,Int.neg_neg]
 .rw[if_pos (by constructor<;>intro<;>omega),fL,lU h,lU h2]
def SJ{p:Int}(h:p.natAbs<9223372036854775808):IntKind.i64.wrap p=p:=by rw[Dd];omega

def V5{n:Int}{d:Nat}(h:n<0):mkRat (-(d:Int)) n.natAbs=Rat.divInt (d:Int) n:=by
 rw[<-Rat.divInt_ofNat,jZ (nS h),Rat.neg_divInt_neg]
def IY{q:Rat}(h:q.num<0):(q⁻¹).num= -(q.den:Int)/\(q⁻¹).den=q.num.natAbs:=by
 rw[Rat.num_inv,Rat.den_inv,if_neg (by omega),dK h];omega
def IN{q:Rat}(h:0<q.num):(q⁻¹).num=(q.den:Int)/\(q⁻¹).den=q.num.natAbs:=by
 rw[Rat.num_inv,Rat.den_inv,if_neg (by omega),eY h];omega
def wI{q:Rat}(h:q.den=1:=by omega):q=(q.num:Int):=by
 conv=>lhs;rw[<-nK q,h,Rat.mkRat_one]
def bG(a b:Rat):Int:=if a<b then-1 else if b<a then 1 else 0
def zz(a b:Rat):(a-b).num<0↔a<b:=by
 rw[<-Rat.not_le,Rat.le_iff_sub_nonneg,<-Rat.num_nonneg];omega
def Jo(a b:Rat):0<(a-b).num↔b<a:=by
 have h:=zz b a;have h2:(b-a).num= -(a-b).num:=by rw[<-kS,Rat.neg_sub]
 rw[h2] at h;rw[<-h];omega
def xy(a b:Rat):Int.sign (a-b).num=bG a b:=by
 unfold bG;split
 .rename_i h;exact dK ((zz a b).2 h)
 .rename_i h
  split
  .rename_i h2;exact eY ((Jo a b).2 h2)
  .rename_i h2
   rw[<-zz] at h;rw[<-Jo] at h2;rw[show(a-b).num=0 by omega];rfl
def EC{a b:Rat}(h:a.den=b.den:=by omega):a<b↔a.num<b.num:=by
 rw[Rat.lt_iff,h];have:(0:Int)<b.den:=by have:=b.den_pos;omega
 exact⟨fun h2=>Int.lt_of_mul_lt_mul_right h2 (nS this),fun h2=>Int.mul_lt_mul_of_pos_right h2 this⟩
def ll(a b:Rat):bG a b=0↔a=b:=by
 unfold bG;constructor
 .intro h
  split at h
  .omega
  .rename_i h1
   split at h
   .omega
   .rename_i h2
    exact Rat.le_antisymm (Rat.not_lt.1 h2) (Rat.not_lt.1 h1)
 .intro h
  subst h;rw[if_neg (Rat.not_lt.2 Rat.le_refl),if_neg (Rat.not_lt.2 Rat.le_refl)]
def DE(a b:Rat):bG a b<0↔a<b:=by
 unfold bG;constructor
 .intro h
  split at h
  .assumption
  .split at h<;>omega
 .intro h
  rw[if_pos h];decide
def rgcd(a b:Rat):Rat:=mkRat ((Nat.gcd (a.num.natAbs*b.den) (b.num.natAbs*a.den):Nat):Int) (a.den*b.den)
def CW(a b:Int):rgcd a b=((Nat.gcd a.natAbs b.natAbs:Nat):Int):=by
 unfold rgcd;show mkRat ((Nat.gcd (a.natAbs*1) (b.natAbs*1):Nat):Int) (1*1)=_;rw[kR,kR,kR,Rat.mkRat_one]
def N3{a b m:Nat}(ha:a<m)(hb:b<m):Nat.gcd a b<m:=by
 rcases cN a with h|h
 .rw[h,Nat.gcd_zero_left];exact hb
 .exact fV (Nat.gcd_le_left _ h) ha
structure LV where
 a:RV
 b:RV
 c:RV
def LV.v(z:LV):Value:= .agg ⟨[.int .i64 z.a.n, .int .i64 z.a.d, .pointer z.a.p, .int .i64 z.b.n, .int .i64 z.b.d, .pointer z.b.p, .int .i64 z.c.n, .int .i64 z.c.d, .pointer z.c.p]⟩
structure ab where
 a:Int
 b:Int
 c:Int
structure Db (k:Nat) (G:Gh) (z:LV) (l:ab):Prop where
 a:rj k G z.a (l.a:Rat)
 b:rj k G z.b (l.b:Rat)
 c:rj k G z.c (l.c:Rat)
def ab.ok(l:ab):Prop:= ¬(l.a=0/\l.b=0)/\Nat.gcd (Nat.gcd l.a.natAbs l.b.natAbs) l.c.natAbs=1
def YJ(neg:Bool)(ds:List Nat):Prop:=c6 ds/\(neg=true->ds≠[])
structure PV where
 x:RV
 y:RV
def PV.v(z:PV):Value:= .agg ⟨[.int .i64 z.x.n, .int .i64 z.x.d, .pointer z.x.p, .int .i64 z.y.n, .int .i64 z.y.d, .pointer z.y.p]⟩
structure aa where
 x:Rat
 y:Rat
structure XE (k:Nat) (G:Gh) (z:PV) (p:aa):Prop where
 x:rj k G z.x p.x
 y:rj k G z.y p.y
def A8(a:Int): -(a:Rat)=((-a:Int):Rat):=rfl
def ab.rev(l:ab):ab:=⟨-l.a, -l.b, -l.c⟩
def ab.nor(l:ab):aa:=⟨l.a,l.b⟩
def ab.dir(l:ab):aa:=⟨l.b, -(l.a:Rat)⟩
def aa.dot(p q:aa):Rat:=p.x*q.x+p.y*q.y
def aa.cross(p q:aa):Rat:=p.x*q.y-p.y*q.x
def aa.scale(p:aa)(c:Rat):aa:=⟨p.x*c,p.y*c⟩
def aa.add(p q:aa):aa:=⟨p.x+q.x,p.y+q.y⟩
def ab.value(l:ab)(p:aa):Rat:=l.nor.dot p+(l.c:Rat)
def ab.base(l:ab):aa:=l.nor.scale (-(l.c:Rat)/l.nor.dot l.nor)
def ab.at(l:ab)(t:Rat):aa:=l.base.add (l.dir.scale t)
end Go.Sx
end
section
namespace Go.Sx
open Go
def dU(d:Nat):DV:= .v (.int .u32 (d:Int))
def bg(ds:List Nat):DV:= .sl (ds.map dU)
def dN(n:Nat):DV:= .sl ((dg n).map dU)
def dD(n:Nat):DV:= .sl (if n=1 then [] else(dg n).map dU)
def eI(m:Int):DV:= .ag [.v (.bool (decide (m<0))),dN m.natAbs]
def eQ(q:Rat):DV:= .ag [.v (.bool (decide (q.num<0))),dN q.num.natAbs,dD q.den]
def eP(p:aa):DV:= .ag [.v (.bool (decide (p.x.num<0))),dN p.x.num.natAbs,dD p.x.den, .v (.bool (decide (p.y.num<0))),dN p.y.num.natAbs,dD p.y.den]
def eL(l:ab):DV:= .ag [.v (.bool (decide (l.a<0))),dN l.a.natAbs, .v (.bool (decide (l.b<0))),dN l.b.natAbs, .v (.bool (decide (l.c<0))),dN l.c.natAbs]
def eR(q:Rat):DV:= .ag [.v (.bool (decide (q.num<0))),dN q.num.natAbs,dN q.den]
def dy(p:aa):DV:= .ag [.v (.bool (decide (p.x.num<0))),dN p.x.num.natAbs,dN p.x.den, .v (.bool (decide (p.y.num<0))),dN p.y.num.natAbs,dN p.y.den]
def vI(n:Int):DV:= .v (.int .i64 n)
def vB(b:Bool):DV:= .v (.bool b)
def DB(n:Nat):dN n=bg (dg n):=rfl
def U1{ds:List Nat}(h:aO ds):bg (trimD ds)=dN (dv ds):=by unfold bg dN;rw[yY h]
def Mb{ds:List Nat}{i:Nat}(h:i<ds.length):(ds.map dU)[i]? =some (dU (ds.getD i 0)):=by
 rw[fK,aQ h,aJ,aQ h];rfl
def dm{ds:List Nat}{i:Nat}(h:i<ds.length:=by omega):(ds.map dU)[(i:Int).toNat]? =some (dU (ds.getD i 0)):=by rw[fU];exact Mb h
def fm(ds:List Nat)(i d:Nat):(ds.map dU).set i (.v (.int .u32 (d:Int)))=(ds.set i d).map dU:=by rw[lT];rfl
def jd(n:Nat):List.replicate n (DV.v (.int .u32 0))=(List.replicate n 0).map dU:=by rw[List.map_replicate];rfl
def l5(ds:List Nat):dl 1 (ds.map dU):=fun d hd=>by
 obtain⟨n,_,rfl⟩:=bV.1 hd;exact⟨rfl,rfl⟩
def cP(n:Nat)(i:Nat):(dg n).getD i 0<4294967296:=(dE n).2.1.get i
def n8:dg 0=[]:=by rw[dg,dif_pos J]
def yK:dg 1=[1]:=by rw[dg,dif_neg (by decide)];simp[n8]
def lf{n:Nat}:(dg n).length=0↔n=0:=by
 constructor
 .intro h
  have:=(dE n).1;rw[cV h] at this;exact this.symm
 .rintro rfl;rw[n8];rfl
def qz:dN 0= .sl []:=by unfold dN;rw[n8];rfl
def yf{G:Gh}: ∀{ds:List Nat} {es:List Value},IsLs G (ds.map dU) es↔es=ds.map dI
 |[],es=>b4
 |d::t,es=>by
  rw[bL,bi];constructor
  .rintro ⟨y,n,rfl,h1,h2⟩
   rw[aH.1 h1,yf.1 h2];rfl
  .rintro rfl
   exact⟨_,_,J,aH.2 J,yf.2 J⟩
def Jb{G:Gh}{ds:List Nat}{v:Value}:Is G (bg ds) v↔ ∃x:SV,v= .slice x.a x.n x.c/\ee G 1 x (ds.map dI):=by
 unfold bg;rw[fe];constructor
 .rintro ⟨s,x,es,rfl,h1,h2⟩
  have:=yf.1 h2;subst this;refine⟨x,J,?_⟩;rcases wg (s:=1) h1 h2 (l5 ds) with h|h
  .rw[h] at h1⊢
   exact⟨h1.len,h1.cap, .inl J⟩
  .subst h;exact h1
 .rintro ⟨x,rfl,h⟩
  exact⟨1,x,_,J,h,yf.2 J⟩
def b9{ds:List Nat}{i:Int}{k:Nat}(hi:i=k:=by omega)(h:k<ds.length:=by omega):(ds.map dU)[i.toNat]? =some (dU (ds.getD k 0)):=by subst hi;exact dm h
class BN (n:Nat) (k:outParam Nat):Prop where h:n<2^(6*k)
class BI (m:Int) (k:outParam Nat):Prop where h:m.natAbs<2^(6*k)
class BQ (q:Rat) (k:outParam Nat):Prop where
 hn:q.num.natAbs<2^(6*k)
 hd:q.den<2^(6*k)
def pE{n k:Nat}(h:n<2^k):n<2^(6*k):=bS h (bY (by decide) (by omega))
def rh{j k:Nat}(h:j<=k):2^(6*j)<=2^(6*k):=bY (by decide) (by omega)
def FL{a m k:Nat}(h:a<2^m)(hk:m<=k):a<2^k:=bS h (bY (by decide) hk)
def aFa{m k:Nat}(h:m<=k):2^m<=2^k:=bY (by decide) h
def YG(n:Nat):4294967296^n=2^(32*n):=by rw[qQ]
theorem BN.up{n k:Nat}(h:n<2^k):BN n k:=⟨pE h⟩
theorem BI.of{m:Int}{j k:Nat}(h:m.natAbs<2^j)(e:j=6*k):BI m k:=⟨e▸h⟩
theorem BN.mono{n k k':Nat}(h:BN n k)(hk:k<=k'):BN n k':=⟨bS h.h (rh hk)⟩
def xZ{a b i j:Nat}(h:a<2^i)(k:b<2^j):a*b<2^(i+j):=by rw[fW];exact pR h k
def Sf{a b i j:Nat}(h:a<2^i)(k:b<2^j):a+b<2^(i+j+1):=by
 have h1:2^i<=2^(i+j):=bY (by decide) (by omega);have h2:2^j<=2^(i+j):=bY (by decide) (by omega);rw[gJ];omega
def jk{a b i j:Nat}(h:a<2^(6*i))(k:b<2^(6*j)):a*b<2^(6*(i+j)):=by rw[cY];exact xZ h k
def Dc{a b i j:Nat}(h:a<2^(6*i))(k:b<2^(6*j)):a+b<2^(6*(i+j+1)):=bS (Sf h k) (bY (by decide) (by omega))
def yc(k:Nat):2^(6*(k+1))=64*2^(6*k):=by rw[cY,fW];omega
instance BN.mul (a b i j:Nat) [h:BN a i] [k:BN b j]:BN (a*b) (i+j):=⟨jk h.h k.h⟩
instance BN.add (a b i j:Nat) [h:BN a i] [k:BN b j]:BN (a+b) (i+j+1):=⟨Dc h.h k.h⟩
instance BN.sub (a b i:Nat) [h:BN a i]:BN (a-b) i:=⟨by have:=h.h;omega⟩
instance BN.div (a b i:Nat) [h:BN a i]:BN (a/b) i:=⟨fV (kK _ _) h.h⟩
instance BN.abs (m:Int) (i:Nat) [h:BI m i]:BN m.natAbs i:=⟨h.h⟩
instance BN.den (q:Rat) (i:Nat) [h:BQ q i]:BN q.den i:=⟨h.hd⟩
def Fb{a b i j:Nat}(h:a<2^i)(k:b<2^j):Nat.gcd a b<2^(i+j):=by
 have h1:2^i<=2^(i+j):=bY (by decide) (by omega);have h2:2^j<=2^(i+j):=bY (by decide) (by omega);rcases cN a with h0|h0
 .subst h0;rw[Nat.gcd_zero_left];omega
 .have:=Nat.gcd_le_left b h0;omega
instance BN.gcd (a b i j:Nat) [h:BN a i] [k:BN b j]:BN (Nat.gcd a b) (i+j):=⟨by rw[cY];exact Fb h.h k.h⟩
instance BN.one:BN 1 1:=⟨by decide⟩
instance BN.zero:BN 0 0:=⟨by decide⟩
instance BI.mul (a b:Int) (i j:Nat) [h:BI a i] [k:BI b j]:BI (a*b) (i+j):=⟨by rw[dV];exact jk h.h k.h⟩
instance BI.add (a b:Int) (i j:Nat) [h:BI a i] [k:BI b j]:BI (a+b) (i+j+1):=⟨fV (Int.natAbs_add_le a b) (Dc h.h k.h)⟩
instance BI.sub (a b:Int) (i j:Nat) [h:BI a i] [k:BI b j]:BI (a-b) (i+j+1):=⟨fV (Int.natAbs_sub_le a b) (Dc h.h k.h)⟩
instance BI.neg (a:Int) (i:Nat) [h:BI a i]:BI (-a) i:=⟨by rw[gV];exact h.h⟩
instance BI.num (q:Rat) (i:Nat) [h:BQ q i]:BI q.num i:=⟨h.hn⟩
instance BI.nat (n:Nat) (i:Nat) [h:BN n i]:BI (n:Int) i:=⟨by rw[dQ];exact h.h⟩
def jh(q:Rat):0<q.den:=dM q.den_nz
theorem pq{m:Int}{d i:Nat}(hd:0<d)(h:m.natAbs<2^(6*i))(k:d<2^(6*i):=by decide):BQ (mkRat m d) i:=by
 refine⟨?_,?_⟩
 .rw[Rat.num_mkRat,if_neg (by omega)]
  have:=lV m (d.gcd m.natAbs:Nat);omega
 .rw[Rat.den_mkRat,if_neg (by omega)]
  have:=kK d (d.gcd m.natAbs);omega
theorem BQ.mono{q:Rat}{k k':Nat}(h:BQ q k)(hk:k<=k':=by decide):BQ q k':=⟨bS h.hn (rh hk),bS h.hd (rh hk)⟩
def uG(p q:Rat):p*q=mkRat (p.num*q.num) (p.den*q.den):=by rw[Rat.mul_def,Rat.normalize_eq_mkRat]
def uC(p q:Rat):p+q=mkRat (p.num*q.den+q.num*p.den) (p.den*q.den):=by rw[Rat.add_def,Rat.normalize_eq_mkRat]
instance BQ.mul (p q:Rat) (i j:Nat) [h:BQ p i] [k:BQ q j]:BQ (p*q) (i+j):=by
 rw[uG];exact pq (fX (jh p) (jh q)) (BI.mul p.num q.num i j).h (jk h.hd k.hd)
instance BQ.add (p q:Rat) (i j:Nat) [h:BQ p i] [k:BQ q j]:BQ (p+q) (i+j+1):=by
 rw[uC];refine pq (fX (jh p) (jh q)) ?_ ?_
 .have h1:=jk h.hn k.hd
  have h2:=jk k.hn h.hd;have h3:(p.num*q.den+q.num*p.den).natAbs<=(p.num*q.den).natAbs+(q.num*p.den).natAbs:=Int.natAbs_add_le ..;rw[dV,dV,dQ,dQ] at h3;rw[jS j i] at h2;rw[yc];omega
 .have h1:=jk h.hd k.hd
  rw[yc];omega
instance BQ.neg (p:Rat) (i:Nat) [h:BQ p i]:BQ (-p) i:=⟨by rw[kS,gV];exact h.hn,by rw[nV];exact h.hd⟩
instance BQ.sub (p q:Rat) (i j:Nat) [h:BQ p i] [k:BQ q j]:BQ (p-q) (i+j+1):=by
 rw[Rat.sub_eq_add_neg];exact BQ.add p (-q) i j
instance BQ.ofInt (m:Int) (i:Nat) [h:BI m i]:BQ (m:Rat) (i+1):=by
 refine⟨?_,?_⟩
 .rw[mS];have:=h.h;rw[yc];omega
 .rw[mL];have:0<2^(6*i):=fY (by decide);rw[yc];omega
end Go.Sx
end
section
namespace Go.Sx
open Go Go.Proofs Tryz
variable {GB:Gh}
def vQ(p q:Int):Nat:=(BitVec.ofInt 32 p &&& BitVec.ofInt 32 q).toNat
def zV(p q:Int):Nat:=(BitVec.ofInt 32 p ||| BitVec.ofInt 32 q).toNat
def vA(p q:Int):Nat:=(BitVec.ofInt 32 p^^^BitVec.ofInt 32 q).toNat
def HM{ds:List Nat}{n:Nat}(h:0<n/\n<=ds.length)(hz:ds.getD (n-1) 0=0):trimD (ds.take n)=trimD (ds.take (n-1)):=by
 obtain⟨m,rfl⟩: ∃m,n=m+1:=⟨n-1,by omega⟩;rw[gT (by omega),iY];rw[iY,aJ,aQ (by omega)] at hz;simp only[gN] at hz;rw[hz,Xn]
def GQ{ds:List Nat}{n:Nat}(h:n<=ds.length)(hz:0<n->ds.getD (n-1) 0≠0):trimD (ds.take n)=ds.take n:=by
 rcases cN n with h0|h0
 .subst h0;simp[trimD]
 .obtain⟨m,rfl⟩: ∃m,n=m+1:=⟨n-1,by omega⟩
  have hz:=hz h0;rw[gT (by omega)];rw[iY,aJ,aQ (by omega)] at hz;exact GV (by simpa using hz)
def Pn{x y c:Nat}(hx:x<4294967296)(hy:y<4294967296)(hc:c<=1):PF GB prog 252 [.v (.int .u32 (x:Int)), .v (.int .u32 (y:Int)), .v (.int .u32 (c:Int))] (.tp [.v (.int .u32 (((x+y+c)%4294967296:Nat):Int)), .v (.int .u32 (((x+y+c)/4294967296:Nat):Int))]):=by
 refine fn (hv:=by simp only[aj];exact⟨⟨⟨⟨⟨by omega,by omega⟩,by omega⟩,by omega⟩,by omega⟩,(by decide)⟩) func252 J J ntmps252 J J (fun C=>?_);exact rz J (by
  have e1:((x:Int)+y+c)%4294967296=(((x+y+c)%4294967296:Nat):Int):=by omega
  have e2:((x:Int)+y+c).fdiv (2^min (32:Int).toNat IntKind.u64.bits)%4294967296=(((x+y+c)/4294967296:Nat):Int):=by
   rw[show(2:Int)^min (32:Int).toNat IntKind.u64.bits=((4294967296:Nat):Int) from J,jQ _ (by decide)];omega
  show DV.tp [.v (.int _ _), .v (.int _ _)]=_;rw[e1,e2])
def Bw(n:Nat)(h:n<4294967296):(BitVec.ofInt 32 (n:Int)).msb=decide (2147483648<=n):=by
 rw[show BitVec.ofInt 32 (n:Int)=BitVec.ofNat 32 n from BitVec.ofInt_natCast ..];rw[BitVec.msb_eq_decide,BitVec.toNat_ofNat,gQ (by simpa using h)]
def Vq(b:BitVec 32):b.toNat/2147483648=if b.msb then 1 else 0:=by
 have:=b.isLt;rw[BitVec.msb_eq_decide];simp only[decide_eq_true_eq,Nat.reduceSub,Nat.reducePow] at*;split<;>omega
def TG(b:BitVec 32):BitVec.ofInt 32 (b.toNat:Int)=b:=by rw[BitVec.ofInt_natCast,BitVec.ofNat_toNat,BitVec.setWidth_eq]
def Tz{x y c:Nat}(hx:x<4294967296)(hy:y<4294967296)(hc:c<=1):
  ((zV (vQ (vA IntKind.u32.max x:Nat) y:Nat) (vQ (vA IntKind.u32.max (vA x y:Nat):Nat) (IntKind.u32.wrap (IntKind.u32.wrap ((x:Int)-y)-c)):Nat):Nat):Int).fdiv (2^min (31:Int).toNat IntKind.u32.bits)=(((if x<y+c then 1 else 0):Nat):Int):=by
 rw[show((2:Int)^min (31:Int).toNat IntKind.u32.bits)=((2147483648:Nat):Int) from J,jQ _ (by decide),<-pT];congr 1;have hd: ∃d:Nat,d<4294967296/\IntKind.u32.wrap (IntKind.u32.wrap ((x:Int)-y)-c)=(d:Int)/\((x>=y+c/\d=x-(y+c))\/(x<y+c/\d=x+4294967296-(y+c))):=by
  rw[n4,n4];refine⟨((((x:Int)-y)%4294967296-c)%4294967296).toNat,by omega,by omega,by omega⟩
 obtain⟨d,hd1,hd2,hd3⟩:=hd;rw[hd2];unfold zV vQ vA;simp only[TG];rw[Vq];simp only[BitVec.msb_or,BitVec.msb_and,BitVec.msb_xor,Bw x hx,Bw y hy,Bw d hd1];have h1:(BitVec.ofInt 32 IntKind.u32.max).msb=true:=by decide
 rw[h1];rcases dR x 2147483648 with a|a<;>rcases dR y 2147483648 with b|b<;>rcases dR d 2147483648 with e|e<;>
  simp[Nat.not_le.2, *]<;>(first|omega|(split<;>omega))
def Nb{x y c:Nat}(hx:x<4294967296)(hy:y<4294967296)(hc:c<=1):IntKind.u32.wrap (IntKind.u32.wrap ((x:Int)-y)-c)=(((if x<y+c then x+4294967296-(y+c) else x-(y+c)):Nat):Int):=by
 rw[n4,n4];split<;>omega
def QF{x y c:Nat}(hx:x<4294967296)(hy:y<4294967296)(hc:c<=1):PF GB prog 253 [.v (.int .u32 (x:Int)), .v (.int .u32 (y:Int)), .v (.int .u32 (c:Int))] (.tp [.v (.int .u32 (((if x<y+c then x+4294967296-(y+c) else x-(y+c)):Nat):Int)), .v (.int .u32 (((if x<y+c then 1 else 0):Nat):Int))]):=by
 refine fn (fu:=⟨10⟩) func253 J J ntmps253 J J (fun C=>?_);refine sw (fu:=⟨1⟩) _ J (n4 _).symm J<|sw (fu:=⟨6⟩) _ J (n4 _).symm J<|nt (fu:=⟨4⟩) _ J J J<|xr (fu:=⟨0⟩) _ J J J<|nt _ J J J<|rz J (by have h1:=Tz hx hy hc;unfold zV vQ vA at h1;show DV.tp [.v (.int _ _), .v (.int _ _)]=_;rw[h1,Nb hx hy hc])
def me{ds:List Nat}(hl:ds.length<=1125899906842624:=by omega):PF GB prog 207 [bg ds] (bg (trimD ds)):=by
 refine fn func207 J J ntmps207 J J (fun C=>?_);refine lp (X:=Nat) (fun n=>[(0, .d (bg ds)),(3, .d (vI (n:Nat)))]) (fun n=>[]) (fun n=>n<=ds.length/\trimD ds=trimD (ds.take n)) (fun n=>n) ds.length J ⟨aM _,by rw[bT]⟩ (fun _=>J) (fun n hk=>?_);obtain⟨h1,h2⟩:=hk;refine cs 8 J J J (fun hg8=>?_) (fun hg8=>?_)
 .
  refine ix _ J (b9 (k:=n-1)) J<|br J J J (fun hc15=>?_) (fun hc15=>?_)
  .
   have hz:ds.getD (n-1) 0=0:=by omega
   exact at_ (n-1) ⟨⟨by omega,by rw[h2,HM (by omega) hz]⟩,(by omega)⟩
  .
   refine jx 0 n _ J J J J (l5 _) (by omega) (by simp;omega) J<|rz J (by have:=GQ h1 (fun _ h=>hc15 (by omega));rw[<-h2] at this;show DV.sl _=_;simp[bg,this])
 .
  refine jx 0 n _ J J J J (l5 _) (by omega) (by simp;omega) rfl<|rz rfl (by obtain rfl:n=0:=(by omega);show DV.sl _=_;simp[bg,h2,trimD])
def o8{a k:Nat}(h:a<2^k)(hk:k<=6000000000:=by omega):(dg a).length<=200000000:=by have:=gP h;omega
def cd(a:Nat):dv (dg a)=a:=(dE a).1
def dH(a:Nat):aO (dg a):=(dE a).2.1
def bv(ds:List Nat):(ds.map dU).length=ds.length:=aZ ..
def ge{ds:List Nat}{n:Nat}(h:ds.length<=n:=by omega):ds.take n=ds:=cW h
def lg{ds:List Nat}{i:Nat}(h:ds.length<=i:=by omega):ds.getD i 0=0:=by
 rw[aJ,dY h];rfl
def gA{ds:List Nat}{n:Nat}(h:aO ds)(e:dv ds=n):bg (trimD ds)=dN n:=by rw[U1 h,e]
def tC{a b:Nat}(h:a<b):fA a b= -1:=by unfold fA;rw[if_pos h]
def tD{a b:Nat}(h:b<a):fA a b=1:=by unfold fA;rw[if_neg (by omega),if_neg (by omega)]
def Eb{a b:Nat}(h:a=b):fA a b=0:=by unfold fA;rw[if_neg (by omega),if_pos h]
def Wk(m n:Nat):Int.sign ((m:Int)-n)=fA m n:=by
 unfold fA;split
 .exact dK (by omega)
 .split
  .rw[show(m:Int)-n=0 by omega];rfl
  .exact eY (by omega)
def Bg{a b:Nat}(h:(dg a).length≠(dg b).length:=by omega):fA (dg a).length (dg b).length=fA a b:=by
 rcases Nat.lt_or_gt_of_ne h with h|h
 .have:=tk (dH a) (dE b).2.2 h
  rw[cd,cd] at this;rw[tC h,tC this]
 .have:=tk (dH b) (dE a).2.2 h
  rw[cd,cd] at this;rw[tD h,tD this]
def rW{a b i:Nat}(hl:(dg a).length=(dg b).length)(hi:i<(dg a).length)(hs:(dg a).drop (i+1)=(dg b).drop (i+1)):
  ((dg a).getD i 0<(dg b).getD i 0->a<b)/\((dg b).getD i 0<(dg a).getD i 0->b<a)/\((dg a).getD i 0=(dg b).getD i 0->(dg a).drop i=(dg b).drop i):=by
 refine⟨fun h=>?_,fun h=>?_,fun h=>?_⟩
 .have:=JW (dH a) (dH b) i hi (by omega) hl hs h
  rwa [cd,cd] at this
 .have:=JW (dH b) (dH a) i (by omega) hi hl.symm hs.symm h
  rwa [cd,cd] at this
 .rw[bM hi,bM (by omega:i<(dg b).length),hs]
  rw[aJ,aJ,aQ hi,aQ (by omega:i<(dg b).length)] at h;simp only[gN] at h;rw[h]
def RJ{z:Int}:PF GB prog 148 [vI z] (vI z.sign):=by
 refine fn func148 J J ntmps148 J J (fun C=>?_);refine br J J J (fun hc4=>?_) (fun hc4=>?_)
 .
  exact rz J (by show DV.v (.int _ 1)=DV.v (.int _ _);rw[eY (by omega)])
 .
  refine br J J J (fun hc6=>?_) (fun hc6=>?_)
  .
   exact rz J (by show DV.v (.int _ (-1))=DV.v (.int _ _);rw[dK (by omega)])
  .
   exact rz J (by show DV.v (.int _ 0)=DV.v (.int _ _);rw[show z=0 by omega];rfl)
def FI(u:Nat):dv [u%4294967296,u/4294967296]=u:=by simp only[dv];omega
def Hc{u:Nat}(h:u<18446744073709551616):aO [u%4294967296,u/4294967296]:= .cons (by omega) (.cons (by omega) .nil)
def kn(u:Nat):(u:Int).fdiv (2^min (32:Int).toNat IntKind.u64.bits)=((u/4294967296:Nat):Int):=by
 rw[show(2:Int)^min (32:Int).toNat IntKind.u64.bits=((4294967296:Nat):Int) from J,jQ _ (by decide)];rfl
def nF{u:Nat}(hu:u<18446744073709551616:=by omega):PF GB prog 146 [.v (.int .u64 (u:Int))] (dN u):=by
 refine fn (fu:=⟨11⟩) (hv:=by simp only[aj];exact(by decide)) func146 J J ntmps146 J J (fun C=>?_);refine ah 6 (.d (.v (.int .u64 (u/4294967296:Nat)))) J (by rw[kn])<|gx J<|rf (fu:=⟨0⟩) J J<|ah 8 (.d (bg [u%4294967296,u/4294967296])) J (by show FX.d (.sl [.v (.int _ _), .v (.int _ _)])= .d (.sl [.v (.int _ _), .v (.int _ _)]);congr 6;omega)<|gx J<|cl J (me (ds:=[u%4294967296,u/4294967296]) (by simp)) J<|rz J (gA (Hc hu) (FI u))
def Co:PF GB prog 88 [] (dN 1):=by
 refine fn func88 J J ntmps88 J J (fun C=>?_);refine rf J J<|rz J (by unfold dN;rw[yK];rfl)
def ua{a b:Nat}(ha:(dg a).length<=200000000:=by omega)(hb:(dg b).length<=200000000:=by omega):PF GB prog 87 [dN a,dN b] (vI (fA a b)):=by
 have hla:=bv (dg a);have hlb:=bv (dg b);refine fn func87 J J ntmps87 J J (fun C=>?_);refine br J J J (fun hc10=>?_) (fun hc10=>?_)
 .
  refine cl J RJ J<|rz J (by show DV.v (.int _ _)=DV.v (.int _ _);rw[hla,hlb,Wk,Bg])
 .
  have hl:(dg a).length=(dg b).length:=by omega
  refine lp (X:=Nat) (fun k=>[(0, .d (dN a)),(1, .d (dN b)),(5, .d (vI ((k:Nat)-1)))]) (fun k=>[]) (fun k=>k<=(dg a).length/\(dg a).drop k=(dg b).drop k) (fun k=>k) (dg a).length J ⟨aM _,by rw[iX,hl,iX]⟩ (fun _=>J) (fun k hk=>?_);obtain⟨h1,h2⟩:=hk;refine br J J J (fun hc21=>?_) (fun hc21=>?_)
  .
   obtain⟨k,rfl⟩: ∃m,k=m+1:=⟨k-1,by omega⟩;refine ix _ J (b9 (k:=k)) J<|ix _ J (b9 (k:=k)) J<|br J J J (fun hc32=>?_) (fun hc32=>?_)
   .
    exact rz J (by show DV.v (.int _ 1)=DV.v (.int _ _);rw[tD ((rW hl (by omega) h2).2.1 (by omega))])
   .
    refine ix _ J (b9 (k:=k)) J<|ix _ J (b9 (k:=k)) J<|br J J J (fun hc41=>?_) (fun hc41=>?_)
    .
     exact rz J (by show DV.v (.int _ (-1))=DV.v (.int _ _);rw[tC ((rW hl (by omega) h2).1 (by omega))])
    .
     exact at_ k ⟨⟨by omega,(rW (i:=k) hl (by omega) h2).2.2 (by omega)⟩,(by omega)⟩
  .
   exact rz rfl (by show DV.v (.int _ 0)=DV.v (.int _ _);rw[Eb];obtain rfl:k=0:=(by omega);rw[fZ,fZ] at h2;rw[<-cd a,h2,cd])
def HJ{A B W:List Nat}{i c:Nat}(hi:i<W.length)(h:dv (W.take i)+4294967296^i*c=dv (A.take i)+dv (B.take i)):
  dv ((W.set i ((A.getD i 0+B.getD i 0+c)%4294967296)).take (i+1))+4294967296^(i+1)*((A.getD i 0+B.getD i 0+c)/4294967296)=dv (A.take (i+1))+dv (B.take (i+1)):=by
 rw[qb hi,jv A,jv B,gJ,show A.getD i 0+B.getD i 0+c=c+A.getD i 0+B.getD i 0 by omega];exact Mt h
def EM{a b n:Nat}{W:List Nat}{c:Nat}(hn:n=max (dg a).length (dg b).length)(hl:W.length=n+1)(h:dv (W.take n)+4294967296^n*c=dv ((dg a).take n)+dv ((dg b).take n)):dv (W.set n c)=a+b:=by
 have e:=qb (ws:=W) (k:=n) (d:=c);rw[ge (by rw[aY];omega)] at e;rw[e,h,ge,ge,cd,cd]
def RI{a b ia ib:Nat}[ha:BN a ia][hb:BN b ib](hi:ia<=1000000000:=by decide)(hj:ib<=1000000000:=by decide):PF GB prog 228 [dN a,dN b] (dN (a+b)):=by
 have hla:=bv (dg a);have hlb:=bv (dg b);have hba:=o8 ha.h;have hbb:=o8 hb.h;refine fn (fu:=⟨12⟩) func228 J J ntmps228 J J (fun C=>?_);obtain⟨n,hn⟩: ∃n,n=max (dg a).length (dg b).length:=⟨_,rfl⟩;refine ah 15 (.d (vI (n:Nat))) J (by show FX.d (.v (.int _ _))= .d (.v (.int _ _));congr 3;split<;>omega)<|gx J<|mk ((List.replicate (n+1) 0).map dU) J J (by rw[<-jd];rfl) J<|lp (X:=List Nat×Nat×Nat) (fun⟨W,c,i⟩=>[(0, .d (dN a)),(1, .d (dN b)),(5, .d (vI (n:Nat))),(6, .rw 18),(7, .d (.v (.int .u32 (c:Nat)))),(8, .d (vI (i:Nat)))]) (fun⟨W,c,i⟩=>[(18,some (.b 261 1 (W.map dU) true))]) (fun⟨W,c,i⟩=>W.length=n+1/\aO W/\c<=1/\i<=n/\dv (W.take i)+4294967296^i*c=dv ((dg a).take i)+dv ((dg b).take i)) (fun⟨W,c,i⟩=>n-i) ⟨List.replicate (n+1) 0,0,0⟩ J ⟨by simp, .replicate _,by omega,by omega,by simp[dv]⟩ (fun _=>J) (fun⟨W,c,i⟩ hk=>?_);dsimp only at hk⊢;obtain⟨h1,h2,h3,h4,h5⟩:=hk;have hlw:=bv W;have hda:=cP a i;have hdb:=cP b i;refine br (fu1:=⟨11⟩) J J J (fun hc21=>?_) (fun hc21=>?_)
 .
  refine mg (fu:=⟨1⟩) (X:=Unit) (fun _=>[(0, .d (dN a)),(1, .d (dN b)),(5, .d (vI (n:Nat))),(6, .rw 18),(7, .d (.v (.int .u32 (c:Nat)))),(8, .d (vI (i:Nat))),(9, .d (dU ((dg a).getD i 0))),(10, .d (.v (.int .u32 0)))]) (fun _=>[(18,some (.b 261 1 (W.map dU) true))]) (fun _=>True) [0,1,5,6,7,8,9,10] [18] rfl ?_ (fun _=>J) (fun _ hm=>?_)
  .
   refine gx J<|br J J J (fun hc27=>?_) (fun hc27=>?_)
   .
    refine ix _ J (dm) J<|at_ () trivial
   .
    refine ah 9 (.d (dU ((dg a).getD i 0))) J (by rw[lg];rfl)<|at_ () trivial
  .
   refine mg (X:=Unit) (fun _=>[(0, .d (dN a)),(1, .d (dN b)),(5, .d (vI (n:Nat))),(6, .rw 18),(7, .d (.v (.int .u32 (c:Nat)))),(8, .d (vI (i:Nat))),(9, .d (dU ((dg a).getD i 0))),(10, .d (dU ((dg b).getD i 0)))]) (fun _=>[(18,some (.b 261 1 (W.map dU) true))]) (fun _=>True) [0,1,5,6,7,8,9,10] [18] rfl ?_ (fun _=>J) (fun _ hm=>?_)
   .
    refine gx J<|br J J J (fun hc35=>?_) (fun hc35=>?_)
    .
     refine ix _ J (dm) J<|at_ () trivial
    .
     refine ah 10 (.d (dU ((dg b).getD i 0))) J (by rw[lg];rfl)<|at_ () trivial
   .
    refine cl J (Pn (by omega) (by omega) (by omega)) J<|sb _ ((W.set i (((dg a).getD i 0+(dg b).getD i 0+c)%4294967296)).map dU) J (dm) J (by rw[<-fm];rfl) J<|at_ ⟨W.set i (((dg a).getD i 0+(dg b).getD i 0+c)%4294967296),((dg a).getD i 0+(dg b).getD i 0+c)/4294967296,i+1⟩ (by dsimp only;exact⟨⟨by simpa using h1,h2.set _ (by omega),by omega,by omega,HJ (by omega) h5⟩,(by omega)⟩)
 .
  obtain rfl:i=n:=by omega
  refine sb _ ((W.set i c).map dU) J (dm) J (by rw[<-fm];rfl) J<|fz 18 J J<|cl J (me (ds:=W.set i c) (by simp;omega)) J<|rz J (gA (h2.set _ (by omega)) (EM hn h1 h5))
def Lc{A B W:List Nat}{i c d c2:Nat}(hA:aO A)(hB:aO B)(hi:i<W.length)(hc:c<=1)(h:dv (W.take i)+dv (B.take i)=dv (A.take i)+4294967296^i*c)
  (hd:d=if A.getD i 0<B.getD i 0+c then A.getD i 0+4294967296-(B.getD i 0+c) else A.getD i 0-(B.getD i 0+c))(hc2:c2=if A.getD i 0<B.getD i 0+c then 1 else 0):
  dv ((W.set i d).take (i+1))+dv (B.take (i+1))=dv (A.take (i+1))+4294967296^(i+1)*c2:=by
 have h1:=hA.get i;have h2:=hB.get i;rw[qb hi,jv A,jv B,gJ];split at hd
 .rename_i q
  rw[if_pos q] at hc2;subst hc2 hd;rw[jS (B.getD i 0) c];exact Vz h (by omega) (by omega)
 .rename_i q
  rw[if_neg q] at hc2;subst hc2 hd;rw[jS (B.getD i 0) c];exact UU h (by omega)
def Fo{a b c:Nat}{W:List Nat}(hw:aO W)(hl:W.length=(dg a).length)(hb:b<=a)(h:dv (W.take (dg a).length)+dv ((dg b).take (dg a).length)=dv ((dg a).take (dg a).length)+4294967296^(dg a).length*c):dv W=a-b:=by
 have hlb:(dg b).length<=(dg a).length:=by
  rcases dR (dg a).length (dg b).length with q|q
  .have:=tk (dH a) (dE b).2.2 q
   rw[cd,cd] at this;omega
  .exact q
 rw[ge,ge hlb,ge (aM _),cd,cd] at h;have h2:=i8 hw;rw[hl] at h2;rcases cN c with q|q
 .subst q;omega
 .have:4294967296^(dg a).length*1<=4294967296^(dg a).length*c:=eX _ q
  omega
def zG{a b ia:Nat}[ha:BN a ia](hb:b<=a)(hi:ia<=1000000000:=by decide):PF GB prog 229 [dN a,dN b] (dN (a-b)):=by
 have hla:=bv (dg a);have hlb:=bv (dg b);have hba:=o8 ha.h;refine fn (fu:=⟨9⟩) func229 J J ntmps229 J J (fun C=>?_);refine ah 10 (.d (vI ((dg a).length:Nat))) J (by rw[hla];rfl)<|gx J<|mk (fu:=⟨13⟩) ((List.replicate (dg a).length 0).map dU) J J (by rw[<-jd];rfl) J<|ah 13 (.d (vI ((dg a).length:Nat))) J (by rw[hla];rfl)<|gx J<|lp (X:=List Nat×Nat×Nat) (fun⟨W,c,i⟩=>[(0, .d (dN a)),(1, .d (dN b)),(5, .rw 11),(6, .d (.v (.int .u32 (c:Nat)))),(13, .d (vI ((dg a).length:Nat))),(14, .d (vI (i:Nat)))]) (fun⟨W,c,i⟩=>[(11,some (.b 261 1 (W.map dU) true))]) (fun⟨W,c,i⟩=>W.length=(dg a).length/\aO W/\c<=1/\i<=(dg a).length/\dv (W.take i)+dv ((dg b).take i)=dv ((dg a).take i)+4294967296^i*c) (fun⟨W,c,i⟩=>(dg a).length-i) ⟨List.replicate (dg a).length 0,0,0⟩ J ⟨by simp, .replicate _,by omega,by omega,by simp[dv]⟩ (fun _=>J) (fun⟨W,c,i⟩ hk=>?_);dsimp only at hk⊢;obtain⟨h1,h2,h3,h4,h5⟩:=hk;have hlw:=bv W;have hda:=cP a i;have hdb:=cP b i;refine br (fu1:=⟨16⟩) J J J (fun hc15=>?_) (fun hc15=>?_)
 .
  refine mg (X:=Unit) (fun _=>[(0, .d (dN a)),(1, .d (dN b)),(5, .rw 11),(6, .d (.v (.int .u32 (c:Nat)))),(13, .d (vI ((dg a).length:Nat))),(14, .d (vI (i:Nat))),(7, .d (vI (i:Nat))),(8, .d (dU ((dg b).getD i 0)))]) (fun _=>[(11,some (.b 261 1 (W.map dU) true))]) (fun _=>True) [0,1,5,6,13,14,7,8] [11] rfl ?_ (fun _=>J) (fun _ hm=>?_)
  .
   refine gx J<|br J J J (fun hc20=>?_) (fun hc20=>?_)
   .
    refine ix _ J (dm) J<|at_ () trivial
   .
    refine ah 8 (.d (dU ((dg b).getD i 0))) J (by rw[lg];rfl)<|at_ () trivial
  .
   refine ix _ J (dm) J<|cl J (QF (by omega) (by omega) (by omega)) J<|sb _ ((W.set i (if(dg a).getD i 0<(dg b).getD i 0+c then(dg a).getD i 0+4294967296-((dg b).getD i 0+c) else(dg a).getD i 0-((dg b).getD i 0+c))).map dU) J (dm) J (by rw[<-fm];rfl) J<|at_ ⟨W.set i (if(dg a).getD i 0<(dg b).getD i 0+c then(dg a).getD i 0+4294967296-((dg b).getD i 0+c) else(dg a).getD i 0-((dg b).getD i 0+c)),(if(dg a).getD i 0<(dg b).getD i 0+c then 1 else 0),i+1⟩ (by dsimp only;exact⟨⟨by simpa using h1,h2.set _ (by split<;>omega),by split<;>omega,by omega,Lc (dH a) (dH b) (by omega) h3 h5 J J⟩,(by omega)⟩)
 .
  obtain rfl:i=(dg a).length:=by omega
  refine fz 11 J J<|cl J (me (ds:=W)) J<|rz J (gA h2 (Fo h2 h1 hb h5))
def lC(n:Nat)(a b k:Nat)(ha:a<2^k)(h:a+b*2^k<2^n):(BitVec.ofInt n (a:Int) ||| BitVec.ofInt n ((b*2^k:Nat):Int)).toNat=a+b*2^k:=by
 rw[BitVec.toNat_or,BitVec.ofInt_natCast,BitVec.ofInt_natCast,BitVec.toNat_ofNat,BitVec.toNat_ofNat,gQ (by omega),gQ (by omega)];rw[<-Nat.shiftLeft_eq,Nat.or_comm,<-Nat.shiftLeft_add_eq_or_of_lt ha,Nat.shiftLeft_eq];omega
def w8{x y:Nat}(hx:x<4294967296)(hy:y<4294967296):x*y<=18446744065119617025:=by
 have:=nY (by omega:x<=4294967295) (by omega:y<=4294967295);exact this
def vm(x y:Nat):(0:Int)<=(x:Int)*(y:Int):=by rw[<-fL];omega
def tF{x y:Nat}(hx:x<4294967296)(hy:y<4294967296):(x:Int)*(y:Int)<=18446744073709551615:=by
 have:=w8 hx hy;rw[<-fL];omega
def Nw{ds:List Nat}(h:ds.length=1):dv ds=ds.getD 0 0:=by
 match ds,h with
 |[d],_=>simp[dv]
def rE{a:Nat}(h:(dg a).length=1:=by omega):(dg a).getD 0 0=a:=by rw[<-Nw h,cd]
def ML{ds:List Nat}{j m:Nat}(h:j<m):(ds.take m).getD j 0=ds.getD j 0:=by
 rw[aJ,aJ,oY,if_pos h]
def Ed{W:List Nat}{j m d:Nat}(hj:j<m)(hm:m<=W.length):dv ((W.set j d).take m)+4294967296^j*W.getD j 0=dv (W.take m)+4294967296^j*d:=by
 rw[List.take_set,<-ML (ds:=W) hj];exact rP _ _ _ (by rw[aS];omega)
def JD{W:List Nat}{P X Y m i k c y t S:Nat}(hk:i+k<m)(hm:m<=W.length)(h:dv (W.take m)+4294967296^(i+k)*c=P+X*(4294967296^i*S))(ht:t=Y+W.getD (i+k) 0+c)(hY:Y=X*y):
  dv ((W.set (i+k) (t%4294967296)).take m)+4294967296^(i+(k+1))*(t/4294967296)=P+X*(4294967296^i*(S+4294967296^k*y)):=by
 have h1:=Ed (W:=W) (d:=t%4294967296) hk hm;rw[ht,show Y+W.getD (i+k) 0+c=c+Y+W.getD (i+k) 0 by omega] at h1⊢;have h2:=Po h1 h;rw[<-jT,gJ,h2,hY,fW];simp only[cY,bU,kZ,bW,jT]
def I2{a b:Nat}{W:List Nat}{i c lb:Nat}(hlb:lb=(dg b).length)(hl:i+lb<W.length)(h:dv (W.take (i+lb))+4294967296^(i+lb)*c=dv ((dg a).take i)*b+(dg a).getD i 0*(4294967296^i*dv ((dg b).take lb))):
  dv ((W.set (i+lb) c).take (i+1+lb))=dv ((dg a).take (i+1))*b:=by
 rw[show i+1+lb=i+lb+1 by omega,qb hl,h,jv,ge (ds:=dg b),cd b,cS];simp only[bU,kZ,bW]
def yL(n j:Nat):(List.replicate n 0).getD j 0=0:=by
 rw[aJ,List.getElem?_replicate];split<;>rfl
def tL{k:Nat}(h:k<=10000000000):IntKind.i64.wrap ((k:Int).tdiv 32)=((k/32:Nat):Int):=by
 rw[show(k:Int).tdiv 32=((k/32:Nat):Int) from J,Dd];omega
def Gg(k:Nat):(k:Int).tmod 32=((k%32:Nat):Int):=rfl
def rm{a b ia ib:Nat}[ha:BN a ia][hb:BN b ib](hi:ia<=1000000000:=by decide)(hj:ib<=1000000000:=by decide):PF GB prog 178 [dN a,dN b] (dN (a*b)):=by
 have hla:=bv (dg a);have hlb:=bv (dg b);have hba:=o8 ha.h;have hbb:=o8 hb.h;refine fn (fu:=⟨6⟩) func178 J J ntmps178 J J (fun C=>?_);refine mg (fu:=⟨4⟩) (X:=Unit) (fun _=>[(0, .d (dN a)),(1, .d (dN b))]) (fun _=>[]) (fun _=>True) [0,1] [] rfl ?_ (fun _=>J) (fun _ hm=>?_)
 .
  refine gx J<|cs 15 J J J (fun hg15=>?_) (fun hg15=>?_)
  .
   refine br J J J (fun hc19=>?_) (fun hc19=>?_)
   .
    have hd0:=cP a 0;have hd1:=cP b 0;refine ix _ J (b9 (k:=0) J (by omega)) J<|ix (hv:=by simp only[aj];exact⟨by omega,⟨(vm _ _),(tF (cP _ _) (cP _ _))⟩⟩) _ J (b9 (k:=0) J (by omega)) J<|cl J (nF (u:=(dg a).getD 0 0*(dg b).getD 0 0) (by have:=w8 (cP a 0) (cP b 0);omega)) J<|rz J (by rw[rE,rE];rfl)
   .
    exact at_ () trivial
  .
   exact at_ () trivial
 .
  refine ah 31 (.d (vI ((dg a).length:Nat))) J (by rw[hla];rfl)<|gx (fu:=⟨2⟩) J<|ah 33 (.d (vI ((dg b).length:Nat))) J (by rw[hlb];rfl)<|gx J<|mk (fu:=⟨8⟩) ((List.replicate ((dg a).length+(dg b).length) 0).map dU) J J (by rw[<-jd];rfl) J<|ah 37 (.d (vI ((dg a).length:Nat))) J (by rw[hla];rfl)<|gx J<|lp (X:=List Nat×Nat) (fun⟨W,i⟩=>[(0, .d (dN a)),(1, .d (dN b)),(5, .rw 35),(36, .d (dN a)),(37, .d (vI ((dg a).length:Nat))),(38, .d (vI (i:Nat)))]) (fun⟨W,i⟩=>[(35,some (.b 261 1 (W.map dU) true))]) (fun⟨W,i⟩=>W.length=(dg a).length+(dg b).length/\aO W/\i<=(dg a).length/\dv (W.take (i+(dg b).length))=dv ((dg a).take i)*b) (fun⟨W,i⟩=>(dg a).length-i) ⟨List.replicate ((dg a).length+(dg b).length) 0,0⟩ J ⟨by simp, .replicate _,by omega,by rw[nN,r8];simp[dv]⟩ (fun _=>J) (fun⟨W,i⟩ hk=>?_);dsimp only at hk⊢;obtain⟨h1,h2,h3,h4⟩:=hk;refine br J J J (fun hc39=>?_) (fun hc39=>?_)
  .
   refine ix (fu:=⟨15⟩) _ J (dm) J<|ah 44 (.d (vI ((dg b).length:Nat))) J (by rw[hlb];rfl)<|gx J<|lp (X:=List Nat×Nat×Nat) (fun⟨W2,c,k⟩=>[(0, .d (dN a)),(1, .d (dN b)),(5, .rw 35),(6, .d (vI (i:Nat))),(7, .d (dU ((dg a).getD i 0))),(8, .d (.v (.int .u64 (c:Nat)))),(36, .d (dN a)),(37, .d (vI ((dg a).length:Nat))),(38, .d (vI (i:Nat))),(43, .d (dN b)),(44, .d (vI ((dg b).length:Nat))),(45, .d (vI (k:Nat)))]) (fun⟨W2,c,k⟩=>[(35,some (.b 261 1 (W2.map dU) true))]) (fun⟨W2,c,k⟩=>W2.length=(dg a).length+(dg b).length/\aO W2/\c<4294967296/\k<=(dg b).length/\dv (W2.take (i+(dg b).length))+4294967296^(i+k)*c=dv ((dg a).take i)*b+(dg a).getD i 0*(4294967296^i*dv ((dg b).take k))) (fun⟨W2,c,k⟩=>(dg b).length-k) ⟨W,0,0⟩ J ⟨h1,h2,by omega,by omega,by rw[h4];simp[dv]⟩ (fun _=>J) (fun⟨W2,c,k⟩ hk=>?_);dsimp only at hk⊢;obtain⟨g1,g2,g3,g4,g5⟩:=hk;have hlw:=bv W2;have hw:=g2.get (i+k);have hda:=cP a i;have hdb:=cP b k;refine br (fu2:=⟨10⟩) J J J (fun hc46=>?_) (fun hc46=>?_)
   .
    refine ix (fu:=⟨12⟩) (hv:=by simp only[aj];exact⟨⟨by omega,by omega⟩,⟨(vm _ _),(tF (cP _ _) (cP _ _))⟩⟩) _ J (dm) J<|?_;obtain⟨p,hp⟩: ∃p,p=(dg a).getD i 0*(dg b).getD k 0:=⟨_,rfl⟩;have hp1:p<=18446744065119617025:=hp▸w8 hda hdb;refine ah 54 (.d (.v (.int .u64 (p:Nat)))) J (by rw[hp,fL])<|gx J<|lb (fu:=⟨4⟩) _ J (b9 (k:=i+k)) J<|?_;obtain⟨t,ht⟩: ∃t,t=p+W2.getD (i+k) 0+c:=⟨_,rfl⟩;refine ah 64 (.d (.v (.int .u64 (t:Nat)))) J (by congr 3;omega)<|gx (fu:=⟨11⟩) J<|ah 70 (.d (dU (t%4294967296))) J (by show FX.d (.v (.int _ _))= .d (.v (.int _ _));congr 3)<|gx J<|sb (fu:=⟨5⟩) (hv:=by simp only[aj];exact(by decide)) _ ((W2.set (i+k) (t%4294967296)).map dU) J (b9 (k:=i+k)) J (by(rw[show((i:Int)+k).toNat=i+k by omega,<-fm])<;>rfl) J<|ah 73 (.d (.v (.int .u64 (t/4294967296:Nat)))) J (by rw[kn])<|gx J<|at_ ⟨W2.set (i+k) (t%4294967296),t/4294967296,k+1⟩ (by dsimp only;exact⟨⟨by simpa using g1,g2.set _ (by omega),by omega,by omega,by rw[jv];exact JD (by omega) (by omega) g5 ht hp⟩,(by omega)⟩)
   .
    obtain rfl:k=(dg b).length:=by omega
    refine ah 78 (.d (vI ((dg b).length:Nat))) J (by rw[hlb];rfl)<|gx (fu:=⟨3⟩) J<|ah 81 (.d (dU c)) J (by show FX.d (.v (.int _ _))= .d (.v (.int _ _));congr 3;omega)<|gx J<|sb _ ((W2.set (i+(dg b).length) c).map dU) J (b9 (k:=i+(dg b).length)) J (by(rw[show((i:Int)+((dg b).length:Nat)).toNat=i+(dg b).length by omega,<-fm])<;>rfl) J<|at_ ⟨W2.set (i+(dg b).length) c,i+1⟩ (by dsimp only;exact⟨⟨by simpa using g1,g2.set _ g3,by omega,I2 J (by omega) g5⟩,(by omega)⟩)
  .
   obtain rfl:i=(dg a).length:=by omega
   refine fz 35 J J<|cl J (me (ds:=W)) J<|rz J (gA h2 (by have:=h4;rw[ge,ge,cd] at this;exact this))
def B8(x s:Nat):x*2^s=x*2^s%4294967296+4294967296*(x*2^s/4294967296):=by omega
def DY{x s:Nat}(hx:x<4294967296)(hs:s<32):x*2^s/4294967296<2^s:=by
 rw[gW (by decide),bW (2^s)];exact lZ hx (aM _) (fY (by decide))
def CE{s:Nat}(hs:s<32):2^s*2^(32-s)=4294967296:=by rw[<-fW,show s+(32-s)=32 by omega]
def Wf(x s:Nat)(hs:s<32):x*2^s%4294967296=x%2^(32-s)*2^s:=by
 rw[<-CE hs,bW (2^s),Nat.mul_mod_mul_right]
def EP{x s:Nat}(hx:x<4294967296)(hs:s<32):x*2^s<18446744073709551616:=by
 have h1:2^s<=2^31:=bY (by decide) (by omega);have:=lZ hx h1 (by decide);omega
def Kh{w x s:Nat}(hw:w<2^s)(hs:s<32):(BitVec.ofInt 32 (w:Int) ||| BitVec.ofInt 32 ((x*2^s%4294967296:Nat):Int)).toNat=w+x*2^s%4294967296:=by
 rw[Wf x s hs];refine lC 32 _ _ _ hw ?_;have h1:x%2^(32-s)+1<=2^(32-s):=cJ _ (fY (by decide));have h2:=bK (2^s) h1;rw[bW (2^(32-s)),CE hs,cS,mV] at h2;show _<4294967296;omega
def S1{h:Nat}(hh:h<4294967296):(BitVec.ofInt 32 ((0:Nat):Int) ||| BitVec.ofInt 32 (h:Int)).toNat=h:=by
 have:=lC 32 0 h 0 (by decide) (by simpa using hh);simpa using this
def zI(k:Nat):2^k=4294967296^(k/32)*2^(k%32):=by
 rw[show(4294967296:Nat)=2^32 from J,<-qQ,<-fW,oV]
def getD_set_ne{W:List Nat}{i j d:Nat}(h:i≠j:=by omega):(W.set i d).getD j 0=W.getD j 0:=by
 rw[aJ,aJ,List.getElem?_set_ne h]
def vf{W:List Nat}{i d:Nat}(h:i<W.length):(W.set i d).getD i 0=d:=by
 rw[aJ,pZ h];rfl
def E9{A W:List Nat}{k q s i x:Nat}(hq:q=k/32)(hs:s=k%32)(hl:q+i+1<W.length)(hx:x=A.getD i 0)
  (h:dv (W.take (q+i+1))=dv (A.take i)*2^k):
  dv (((W.set (q+i) (W.getD (q+i) 0+x*2^s%4294967296)).set (q+i+1) (x*2^s/4294967296)).take (q+(i+1)+1))=dv (A.take (i+1))*2^k:=by
 have e1:=Ed (W:=W) (j:=q+i) (m:=q+i+1) (d:=W.getD (q+i) 0+x*2^s%4294967296) (by omega) (by omega);rw[show q+(i+1)+1=q+i+1+1 by omega,qb (by rw[aY];omega),jv A,<-hx];have e2:dv ((W.set (q+i) (W.getD (q+i) 0+x*2^s%4294967296)).take (q+i+1))=dv (A.take i)*2^k+4294967296^(q+i)*(x*2^s%4294967296):=by
  rw[cY,h] at e1;omega
 rw[e2,gJ,bU,jT,<-cY,<-B8,cS,zI k,<-hq,<-hs,fW];simp only[bU,kZ,bW]
def wn{a k ia:Nat}[ha:BN a ia](hk:k<=10000000000)(hi:ia<=1000000000:=by decide):PF GB prog 238 [dN a,vI (k:Nat)] (dN (a*2^k)):=by
 have hla:=bv (dg a);have hba:=o8 ha.h;refine fn (fu:=⟨9⟩) func238 J J ntmps238 J J (fun C=>?_);refine ah 11 (.d (vI (k/32:Nat))) J (by show FX.d (.v (.int _ _))= .d (.v (.int _ _));rw[tL hk])<|gx (fu:=⟨2⟩) J<|ah 13 (.d (vI ((dg a).length:Nat))) J (by rw[hla];rfl)<|gx (fu:=⟨2⟩) J<|ah 15 (.d (vI (k/32+(dg a).length+1:Nat))) J (by show FX.d (.v (.int _ _))= .d (.v (.int _ _));congr 3)<|gx J<|mk (fu:=⟨7⟩) (hv:=by simp only[aj];exact(by decide)) ((List.replicate (k/32+(dg a).length+1) 0).map dU) J J (by rw[<-jd];rfl) J<|ah 18 (.d (vI (k%32:Nat))) J (by show FX.d (.v (.int _ _))= .d (.v (.int _ _));rw[Gg])<|gx (fu:=⟨9⟩) J<|ah 21 (.d (vI ((dg a).length:Nat))) J (by rw[hla];rfl)<|gx J<|lp (X:=List Nat×Nat) (fun⟨W,i⟩=>[(0, .d (dN a)),(1, .d (vI (k:Nat))),(5, .rw 16),(6, .d (.v (.int .u64 (k%32:Nat)))),(20, .d (dN a)),(21, .d (vI ((dg a).length:Nat))),(22, .d (vI (i:Nat)))]) (fun⟨W,i⟩=>[(16,some (.b 261 1 (W.map dU) true))]) (fun⟨W,i⟩=>W.length=k/32+(dg a).length+1/\aO W/\i<=(dg a).length/\dv (W.take (k/32+i+1))=dv ((dg a).take i)*2^k/\W.getD (k/32+i) 0<2^(k%32)/\ ∀j,k/32+i<j->W.getD j 0=0) (fun⟨W,i⟩=>(dg a).length-i) ⟨List.replicate (k/32+(dg a).length+1) 0,0⟩ J ⟨by simp, .replicate _,by omega,by rw[nN,r8];simp[dv],by rw[yL];exact fY (by decide),fun j _=>yL _ _⟩ (fun _=>J) (fun⟨W,i⟩ hk=>?_);dsimp only at hk⊢;obtain⟨h1,h2,h3,h4,h5,h6⟩:=hk;have hlw:=bv W;have hda:=cP a i;have hsk:k%32<32:=cJ _ (by decide);have hpp:2^(k%32)<=2^31:=bY (by decide) (by omega);refine br J J J (fun hc23=>?_) (fun hc23=>?_)
 .
  refine ix (fu:=⟨11⟩) (hv:=by simp only[aj];exact⟨by omega,(by omega)⟩) _ J (dm) J<|?_;have hhi:=DY hda hsk;have hfit0:=EP hda hsk;have hor:=Kh (x:=(dg a).getD i 0) h5 hsk;have hfit:W.getD (k/32+i) 0+(dg a).getD i 0*2^(k%32)%4294967296<4294967296:=by rw[<-hor];exact BitVec.isLt _
  have hlp:=B8 ((dg a).getD i 0) (k%32);refine ah 30 (.d (.v (.int .u64 ((dg a).getD i 0*2^(k%32):Nat)))) J (by show FX.d (.v (.int _ _))= .d (.v (.int _ _));rw[lz _ (k%32) (by omega) hfit0]) ?_;obtain⟨t,ht⟩: ∃t,t=(dg a).getD i 0*2^(k%32):=⟨_,rfl⟩;simp only[<-ht] at hhi hfit0 hor hfit hlp;rw[<-ht];refine gx (fu:=⟨8⟩) J<|ah 33 (.d (vI (k/32:Nat))) J (by show FX.d (.v (.int _ _))= .d (.v (.int _ _));rw[tL hk])<|gx J<|lb (fu:=⟨2⟩) _ J (b9 (k:=k/32+i)) J<|ah 39 (.d (dU (t%4294967296))) J (by show FX.d (.v (.int _ _))= .d (.v (.int _ _));congr 3)<|gx (fu:=⟨1⟩) J<|ah 40 _ J (congrArg (fun z:Nat=>FX.d (.v (.int .u32 (z:Int)))) hor)<|gx J<|sb (fu:=⟨6⟩) _ ((W.set (k/32+i) (W.getD (k/32+i) 0+t%4294967296)).map dU) J (b9 (k:=k/32+i)) J (by(rw[show(((k/32:Nat):Int)+i).toNat=k/32+i by omega];simp only[lT];rfl)<;>rfl) J<|ah 44 (.d (vI (k/32:Nat))) J (by show FX.d (.v (.int _ _))= .d (.v (.int _ _));rw[tL hk])<|gx J<|lb (fu:=⟨0⟩) _ J (b9 (k:=k/32+i+1) (by omega) (by rw[aY];omega)) J<|ah 49 (.d (dU 0)) J (by rw[getD_set_ne,h6 _ (by omega)])<|gx (fu:=⟨2⟩) (hv:=by simp only[aj];exact(by decide)) J<|ah 51 (.d (.v (.int .u64 (t/4294967296:Nat)))) J (by rw[kn])<|gx (fu:=⟨1⟩) J<|ah 52 (.d (dU (t/4294967296))) J (by show FX.d (.v (.int _ _))= .d (.v (.int _ _));congr 3;omega)<|gx (fu:=⟨1⟩) J<|ah 53 _ J (congrArg (fun z:Nat=>FX.d (.v (.int .u32 (z:Int)))) (S1 (by omega)))<|gx J<|sb _ (((W.set (k/32+i) (W.getD (k/32+i) 0+t%4294967296)).set (k/32+i+1) (t/4294967296)).map dU) J (b9 (k:=k/32+i+1) (by omega) (by rw[aY];omega)) J (by(rw[show(((k/32:Nat):Int)+i+1).toNat=k/32+i+1 by omega];simp only[lT];rfl)<;>rfl) J<|at_ ⟨(W.set (k/32+i) (W.getD (k/32+i) 0+t%4294967296)).set (k/32+i+1) (t/4294967296),i+1⟩ (by dsimp only;exact⟨⟨by simpa using h1,(h2.set _ hfit).set _ (by omega),by omega,by have q:=E9 (x:=(dg a).getD i 0) J J (by omega) J h4;rw[<-ht] at q;exact q,by rw[show k/32+(i+1)=k/32+i+1 by omega,vf (by simp;omega)];exact hhi,fun j hj=>by rw[getD_set_ne,getD_set_ne];exact h6 j (by omega)⟩,(by omega)⟩)
 .
  obtain rfl:i=(dg a).length:=by omega
  refine fz 16 J J<|cl J (me (ds:=W)) J<|rz J (gA h2 (by have:=h4;rw[ge,ge,cd] at this;exact this))
def Rr{a k:Nat}(h:(dg a).length<=k/32):a/2^k=0:=by
 refine iM ?_;have h1:=i8 (dH a);rw[cd] at h1;have h2:4294967296^(dg a).length<=4294967296^(k/32):=bY (by decide) h;have h3:4294967296^(k/32)*1<=4294967296^(k/32)*2^(k%32):=eX _ (fY (by decide));rw[zI k];omega
def zu{ds:List Nat}(h:aO ds)(q:Nat):dv (ds.drop q)=dv ds/4294967296^q:=by
 rcases dR ds.length q with hq|hq
 .rw[oM (by omega)]
  have h1:=i8 h;have h2:4294967296^ds.length<=4294967296^q:=bY (by decide) (by omega);rw[iM (by omega)];rfl
 .have e:=t8 ds q hq
  have h1:=i8 (h.take q);rw[aS,fM hq] at h1;rw[e,nU _ _ (fY (by decide)),iM h1,dW]
def wF{ds:List Nat}(h:aO ds)(i:Nat):dv ds/4294967296^i=ds.getD i 0+4294967296*ds.getD (i+1) 0+18446744073709551616*(dv ds/4294967296^(i+2)):=by
 have e0:=zu h i;have e2:=zu h (i+2);rw[<-e0,<-e2];have g0:ds.getD i 0=(ds.drop i).getD 0 0:=by rw[aJ,aJ,gS];rfl
 have g1:ds.getD (i+1) 0=(ds.drop i).getD 1 0:=by rw[aJ,aJ,gS]
 have g2:ds.drop (i+2)=(ds.drop i).drop 2:=by rw[nJ]
 rw[g0,g1,g2]
 match ds.drop i with
 |[]=>rfl
 |[u]=>simp[dv]
 |u::v::t=>simp only[dv,List.getD_cons_zero,List.getD_cons_succ,qS,fZ];omega
def LF{D s i u v w Z:Nat}(hs:s<32)(hZ:D/4294967296^i=u+4294967296*v+18446744073709551616*Z)(hw:w=(u+v*4294967296)/2^s%4294967296):(D/2^s)%4294967296^(i+1)=(D/2^s)%4294967296^i+4294967296^i*w:=by
 rw[gJ,Nat.mod_mul];congr 2;rw[pX,bW (2^s),<-pX,hZ,hw];have h1:18446744073709551616=2^s*(2^(32-s)*4294967296):=by rw[<-bU,CE hs]
 rw[h1,bU (2^s),nU _ _ (fY (by decide)),bW v];rw[bW (2^(32-s)),bU,nM]
def UN{a k:Nat}{W:List Nat}{q s:Nat}(hq:q=k/32)(hs:s=k%32)(hl:W.length=(dg a).length-q)(h:dv (W.take ((dg a).length-q))=(dv ((dg a).drop q)/2^s)%4294967296^((dg a).length-q)):dv W=a/2^k:=by
 rw[ge] at h;have h1:=i8 ((dH a).drop q);rw[jY] at h1;have h2:=kK (dv ((dg a).drop q)) (2^s);rw[h,gQ (by omega),zu (dH a),cd,zI k,<-hq,<-hs,pX]
def My{a k ia:Nat}[ha:BN a ia](hk:k<=10000000000)(hi:ia<=1000000000:=by decide):PF GB prog 239 [dN a,vI (k:Nat)] (dN (a/2^k)):=by
 have hla:=bv (dg a);have hba:=o8 ha.h;refine fn (fu:=⟨10⟩) func239 J J ntmps239 J J (fun C=>?_);refine ah 12 (.d (vI (k/32:Nat))) J (by show FX.d (.v (.int _ _))= .d (.v (.int _ _));rw[tL hk])<|gx (fu:=⟨2⟩) J<|ah 14 (.d (vI ((dg a).length:Nat))) J (by rw[hla];rfl)<|gx J<|br (fu2:=⟨6⟩) (v2:=fun _=>by simp only[aj];exact(by decide)) J J J (fun hc15=>?_) (fun hc15=>?_)
 .
  exact rz J (by rw[Rr (by omega),qz];rfl)
 .
  refine ah 17 (.d (vI (k%32:Nat))) J (by show FX.d (.v (.int _ _))= .d (.v (.int _ _));rw[Gg])<|gx (fu:=⟨9⟩) J<|ah 21 (.d (vI (k/32:Nat))) J (by show FX.d (.v (.int _ _))= .d (.v (.int _ _));rw[tL hk])<|gx J<|jx (fu:=⟨0⟩) (k/32) (dg a).length _ J J (by rw[hla]) J (l5 _) (by omega) (by omega) J<|?_;obtain⟨I,hI⟩: ∃I,I=(dg a).drop (k/32):=⟨_,rfl⟩;have hIl:I.length=(dg a).length-k/32:=by rw[hI,jY]
  have hIm:=bv I;have hIo:aO I:=hI▸(dH a).drop _;refine ah 22 (.d (bg I)) J (by show FX.d (.sl _)= .d (.sl _);rw[hI,<-hla,bT,pM])<|gx (fu:=⟨7⟩) J<|ah 24 (.d (vI (I.length:Nat))) J (by rw[hIm];rfl)<|gx J<|mk (fu:=⟨8⟩) ((List.replicate I.length 0).map dU) J J (by rw[<-jd];rfl) J<|ah 27 (.d (vI (I.length:Nat))) J (by rw[hIm];rfl)<|gx J<|lp (X:=List Nat×Nat) (fun⟨W,i⟩=>[(0, .d (dN a)),(5, .d (.v (.int .u64 (k%32:Nat)))),(6, .d (bg I)),(7, .rw 25),(26, .d (bg I)),(27, .d (vI (I.length:Nat))),(28, .d (vI (i:Nat)))]) (fun⟨W,i⟩=>[(25,some (.b 261 1 (W.map dU) true))]) (fun⟨W,i⟩=>W.length=I.length/\aO W/\i<=I.length/\dv (W.take i)=(dv I/2^(k%32))%4294967296^i) (fun⟨W,i⟩=>I.length-i) ⟨List.replicate I.length 0,0⟩ J ⟨by simp, .replicate _,by omega,by simp[dv,Nat.mod_one]⟩ (fun _=>J) (fun⟨W,i⟩ hk=>?_);dsimp only at hk⊢;obtain⟨h1,h2,h3,h4⟩:=hk;have hlw:=bv W;have hda:=hIo.get i;have hdb:=hIo.get (i+1);have hsk:k%32<32:=cJ _ (by decide);refine br J J J (fun hc29=>?_) (fun hc29=>?_)
  .
   refine ix (fu:=⟨13⟩) _ J (dm) J<|mg (fu:=⟨6⟩) (hv:=fun _ _=>by simp only[aj];exact(by omega)) (X:=Unit) (fun _=>[(0, .d (dN a)),(5, .d (.v (.int .u64 (k%32:Nat)))),(6, .d (bg I)),(7, .rw 25),(26, .d (bg I)),(27, .d (vI (I.length:Nat))),(28, .d (vI (i:Nat))),(8, .d (vI (i:Nat))),(10, .d (.v (.int .u64 (I.getD i 0+I.getD (i+1) 0*4294967296:Nat))))]) (fun _=>[(25,some (.b 261 1 (W.map dU) true))]) (fun _=>True) [0,5,6,7,26,27,28,8,10] [25] rfl ?_ (fun _=>J) (fun _ hm=>?_)
   .
    refine gx (fu:=⟨6⟩) J<|ah 38 (.d (vI (I.length:Nat))) J (by rw[hIm];rfl)<|gx J<|br J J J (fun hc39=>?_) (fun hc39=>?_)
    .
     refine ix (fu:=⟨3⟩) (hv:=by simp only[aj];exact⟨by omega,(by decide)⟩) _ J (b9 (k:=i+1)) J<|ah 47 (.d (.v (.int .u64 (I.getD (i+1) 0*4294967296:Nat)))) J (by show FX.d (.v (.int _ _))= .d (.v (.int _ _));rw[lz _ 32 (by decide) (by show _*4294967296<_;omega) J])<|gx (fu:=⟨1⟩) J<|ah 48 _ J (congrArg (fun z:Nat=>FX.d (.v (.int .u64 (z:Int)))) (lC 64 (I.getD i 0) (I.getD (i+1) 0) 32 hda (by show _+_*4294967296<18446744073709551616;omega)))<|gx J<|at_ () trivial
    .
     refine ah 10 (.d (.v (.int .u64 (I.getD i 0+I.getD (i+1) 0*4294967296:Nat)))) J (by rw[lg (by omega:I.length<=i+1),iV,eK])<|at_ () trivial
   .
    refine ah 53 (.d (.v (.int .u64 ((I.getD i 0+I.getD (i+1) 0*4294967296)/2^(k%32):Nat)))) J (by show FX.d (.v (.int _ _))= .d (.v (.int _ _));rw[KF _ (k%32)])<|gx (fu:=⟨1⟩) J<|?_;obtain⟨w,hw⟩: ∃w,w=(I.getD i 0+I.getD (i+1) 0*4294967296)/2^(k%32)%4294967296:=⟨_,rfl⟩;have hw1:w<4294967296:=hw▸cJ _ (by decide);refine ah 54 (.d (dU w)) J (by show FX.d (.v (.int _ _))= .d (.v (.int _ _));rw[hw];congr 3)<|gx J<|sb _ ((W.set i w).map dU) J (dm) J (by(rw[<-fm];rfl)<;>rfl) J<|at_ ⟨W.set i w,i+1⟩ (by dsimp only;exact⟨⟨by simpa using h1,h2.set _ (by omega),by omega,by rw[qb,h4];exact(LF hsk (wF hIo i) hw).symm⟩,(by omega)⟩)
  .
   refine fz 25 rfl rfl<|cl rfl (me (ds:=W)) rfl<|rz rfl (gA h2 (by obtain rfl:i=I.length:=(by omega);rw[hIl] at h1 h4;rw[hI] at h4;exact UN rfl rfl h1 h4))
def uM{a k:Nat}(h:a<4294967296^k):(dg a).length<=k:=by
 rcases dR k (dg a).length with q|q
 .have h1:=qt (dE a).2.2 (by intro e;rw[e] at q;simp at q)
  rw[cd] at h1;have h2:4294967296^k<=4294967296^((dg a).length-1):=bY (by decide) (by omega);omega
 .exact q
def R9{a:Nat}(h:(dg a).length=2):(dg a).getD 0 0+(dg a).getD 1 0*4294967296=a:=by
 have e:=cd a;revert e
 match dg a,h with
 |[x,y],_=>intro e;simp[dv] at e⊢;omega
def tY(a:Nat):DV:= .tp [.v (.int .u64 ((if a<18446744073709551616 then a else 0:Nat):Int)),vB (decide (a<18446744073709551616))]
def Dp{a:Nat}(h:a<18446744073709551616:=by omega):tY a= .tp [.v (.int .u64 (a:Int)),vB true]:=by unfold tY;rw[if_pos h,decide_eq_true h]
def NG{a:Nat}(h: ¬a<18446744073709551616):tY a= .tp [.v (.int .u64 0),vB false]:=by unfold tY;rw[if_neg h,decide_eq_false h];rfl
def mA(a:Nat):a<4294967296^(dg a).length:=by have:=i8 (dH a);rwa [cd] at this
def yB{a ia:Nat}[ha:BN a ia](hi:ia<=1000000000:=by decide):PF GB prog 145 [dN a] (tY a):=by
 have hla:=bv (dg a);have hba:=o8 ha.h;have hlt:=mA a;have hd00:=cP a 0;refine fn (fu:=⟨11⟩) func145 J J ntmps145 J J (fun C=>?_);refine ah 5 (.d (vI ((dg a).length:Nat))) J (by rw[hla];rfl)<|gx J<|br J J J (fun hc6=>?_) (fun hc6=>?_)
 .
  exact rz rfl (by rw[show(dg a).length=0 by omega] at hlt;obtain rfl:a=0:=(by omega);rfl)
 .
  refine br J J J (fun hc8=>?_) (fun hc8=>?_)
  .
   refine ix (fu:=⟨2⟩) _ J (b9 (k:=0) J (by omega)) J<|ah 13 (.d (.v (.int .u64 (a:Nat)))) J (by rw[rE])<|gx J<|rz J (by rw[show(dg a).length=1 by omega] at hlt;rw[Dp,<-rE (a:=a),rE (a:=a)];rfl)
  .
   refine br J J J (fun hc14=>?_) (fun hc14=>?_)
   .
    have hd0:=cP a 0;have hd1:=cP a 1;refine ix (hv:=by simp only[aj];exact⟨by omega,(by decide)⟩) _ J (b9 (k:=1) J (by omega)) J<|ix (fu:=⟨3⟩) _ J (b9 (k:=0) J (by omega)) J<|ah 25 (.d (.v (.int .u64 (a:Nat)))) J (congrArg (fun z:Nat=>FX.d (.v (.int .u64 (z:Int)))) (by rw[lz _ 32 (by decide) (by show _*4294967296<_;omega) J,BitVec.or_comm];exact(lC 64 ((dg a).getD 0 0) ((dg a).getD 1 0) 32 hd0 (by show _+_*4294967296<18446744073709551616;omega)).trans (R9 (by omega))))<|gx J<|rz J (by rw[show(dg a).length=2 by omega] at hlt;rw[Dp];rfl)
   .
    exact rz rfl (by rw[NG];rfl;intro h;have:=uM (a:=a) (k:=2) (by omega);omega)
end Go.Sx
end
