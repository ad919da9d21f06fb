/- Part 2 of a proof. -/
import Derived.Test.YtfccecinjmbfhaaGreatDoorMb1
import Derived.Test.YtfccecinjmbfhaaGreatDoorProg
import Derived.Shelf.Small.Bits
import Derived.Shelf.Strconv.Itoa0
import Derived.Shelf.Bits.Mul64
set_option linter.unusedSimpArgs false
set_option maxRecDepth 100000
set_option linter.unusedVariables false
section
namespace Go.Sx
open Go
theorem aCs{P:Program}{t:TypeId}{d:TypeDesc}(h:P.underlying t=some d)(w:World):(underlying t).run P w= .ok d w:=by
 simp[underlying,program,Sem.run_bind,Sem.run,h,aap]
class TyB (P:Program) (t:TypeId):Prop where u: ∀w,(underlying t).run P w= .ok .bool w
class TyP (P:Program) (t:TypeId):Prop where u: ∃e,∀w,(underlying t).run P w= .ok (.pointer e) w
class aEz (P:Program) (t:TypeId):Prop where u: ∃ms,∀w,(underlying t).run P w= .ok (.interface ms) w
class aDT (P:Program) (t:TypeId) (f:Nat) (off ft:outParam Nat):Prop where
 u: ∃fs fd,(∀w,(underlying t).run P w= .ok (.struct fs) w)∧fs[f]? =some fd∧fd.offset=off∧fd.type=ft
class TyN (P:Program) (t:TypeId):Prop where
 un: ∃e,P.underlying t=some (.slice e)
section
variable {P:Program} {C:Ctx} {n:Nat} {fr:Fr} {own own':List Own} {G:Gh} {Φ:Act→World→Prop}
variable {dst:Option Nat} {t t' ty':TypeId} {pos:String} {af:Array Edge} {gd:Option (Nat×Bool)} {x y:Operand}
theorem ack{w:World}{p q:Value}{b:Bool}(h:(Op.equalIn (9999+1) t p q).run P w= .ok b w):(Op.equal t p q).run P w= .ok b w:=h
theorem aAP[hT:TyB P t]{p q:Bool}(hx:opv fr x=some (.bool p))(hy:opv fr y=some (.bool q)):Yd P C fr own G ⟨dst, .binOp .eql t x y t',ty',pos,af,gd⟩ (.bool (p==q)):=by
 intro a w hf hh
 simp only[execOp,aab hf hx,aab hf hy]
 have h1:(Op.equal t (.bool p) (.bool q)).run P w= .ok (p==q) w:=ack (by unfold Op.equalIn;rw[aaa (hT.u w)];rfl)
 have h2:(eqGuard .eql t x y (.bool p) (.bool q)).run P w= .ok () w:=rfl
 have h3:(binOp .eql t (.bool p) (.bool q)).run P w= .ok (.bool (p==q)) w:=by simp only[binOp];rw[aaa h1];rfl
 exact aam (by rw[aaa h2];exact h3)
theorem aCW[hT:TyB P t]{p q:Bool}(hx:opv fr x=some (.bool p))(hy:opv fr y=some (.bool q)):Yd P C fr own G ⟨dst, .binOp .neq t x y t',ty',pos,af,gd⟩ (.bool (!(p==q))):=by
 intro a w hf hh
 simp only[execOp,aab hf hx,aab hf hy]
 have h1:(Op.equal t (.bool p) (.bool q)).run P w= .ok (p==q) w:=ack (by unfold Op.equalIn;rw[aaa (hT.u w)];rfl)
 have h2:(eqGuard .neq t x y (.bool p) (.bool q)).run P w= .ok () w:=rfl
 have h3:(binOp .neq t (.bool p) (.bool q)).run P w= .ok (.bool (!(p==q))) w:=by simp only[binOp];rw[aaa h1];rfl
 exact aam (by rw[aaa h2];exact h3)
theorem apk[hT:TyP P t]{p:Option Addr}(hx:opv fr x=some (.pointer p))(hy:opv fr y=some (.pointer none)):Yd P C fr own G ⟨dst, .binOp .eql t x y t',ty',pos,af,gd⟩ (.bool p.isNone):=by
 obtain⟨e,he⟩:=hT.u
 intro a w hf hh
 simp only[execOp,aab hf hx,aab hf hy]
 have h1:(Op.equal t (.pointer p) (.pointer none)).run P w= .ok p.isNone w:=ack (by unfold Op.equalIn;rw[aaa (he w)];cases p<;>rfl)
 have h2:(eqGuard .eql t x y (.pointer p) (.pointer none)).run P w= .ok () w:=by cases p<;>rfl
 have h3:(binOp .eql t (.pointer p) (.pointer none)).run P w= .ok (.bool p.isNone) w:=by cases p<;>(simp only[binOp];rw[aaa h1];rfl)
 exact aam (by rw[aaa h2];exact h3)
theorem apg[hT:TyP P t]{p:Option Addr}(hx:opv fr x=some (.pointer p))(hy:opv fr y=some (.pointer none)):Yd P C fr own G ⟨dst, .binOp .neq t x y t',ty',pos,af,gd⟩ (.bool (!p.isNone)):=by
 obtain⟨e,he⟩:=hT.u
 intro a w hf hh
 simp only[execOp,aab hf hx,aab hf hy]
 have h1:(Op.equal t (.pointer p) (.pointer none)).run P w= .ok p.isNone w:=ack (by unfold Op.equalIn;rw[aaa (he w)];cases p<;>rfl)
 have h2:(eqGuard .neq t x y (.pointer p) (.pointer none)).run P w= .ok () w:=by cases p<;>rfl
 have h3:(binOp .neq t (.pointer p) (.pointer none)).run P w= .ok (.bool (!p.isNone)) w:=by cases p<;>(simp only[binOp];rw[aaa h1];rfl)
 exact aam (by rw[aaa h2];exact h3)
theorem aw3{v:Value}[hT:aEz P t](hv:v= .nilIface∨ ∃k u,v= .iface k u)(hx:opv fr x=some v):
  Yd P C fr own G ⟨dst, .binOp .eql t x (.const .nilIface) t',ty',pos,af,gd⟩ (.bool (match v with| .nilIface=>true|_=>false)):=by
 obtain⟨e,he⟩:=hT.u
 intro a w hf hh
 simp only[execOp,aab hf hx,show a.eval (.const .nilIface)= .nilIface from rfl]
 rcases hv with rfl|⟨k,u,rfl⟩
 ·have h1:(Op.equal t .nilIface .nilIface).run P w= .ok true w:=ack (by unfold Op.equalIn;rw[aaa (he w)];rfl)
  have h2:(eqGuard .eql t x (.const .nilIface) .nilIface .nilIface).run P w= .ok () w:=by cases x<;>rfl
  exact aam (by rw[aaa h2];simp only[binOp];rw[aaa h1];rfl)
 ·have h1:(Op.equal t (.iface k u) .nilIface).run P w= .ok false w:=ack (by unfold Op.equalIn;rw[aaa (he w)];rfl)
  exact aam (by rw[aaa (a:=()) (w':=w) rfl];simp only[binOp];rw[aaa h1];rfl)
theorem axG{v:Value}[hT:aEz P t](hv:v= .nilIface∨ ∃k u,v= .iface k u)(hx:opv fr x=some v):
  Yd P C fr own G ⟨dst, .binOp .neq t x (.const .nilIface) t',ty',pos,af,gd⟩ (.bool (match v with| .nilIface=>false|_=>true)):=by
 obtain⟨e,he⟩:=hT.u
 intro a w hf hh
 simp only[execOp,aab hf hx,show a.eval (.const .nilIface)= .nilIface from rfl]
 rcases hv with rfl|⟨k,u,rfl⟩
 ·have h1:(Op.equal t .nilIface .nilIface).run P w= .ok true w:=ack (by unfold Op.equalIn;rw[aaa (he w)];rfl)
  have h2:(eqGuard .neq t x (.const .nilIface) .nilIface .nilIface).run P w= .ok () w:=by cases x<;>rfl
  exact aam (by rw[aaa h2];simp only[binOp];rw[aaa h1];rfl)
 ·have h1:(Op.equal t (.iface k u) .nilIface).run P w= .ok false w:=ack (by unfold Op.equalIn;rw[aaa (he w)];rfl)
  exact aam (by rw[aaa (a:=()) (w':=w) rfl];simp only[binOp];rw[aaa h1];rfl)
theorem asL{cs l:List Value}{f off ft k:Nat}[hF:aDT P t f off ft][hA:TyA P ft k](hx:opv fr x=some (.agg ⟨cs⟩))(hl:aaX cs off k=some l):Yd P C fr own G ⟨dst, .field t x f,ty',pos,af,gd⟩ (.agg ⟨l⟩):=by
 obtain⟨fs,fd,h1,h2,h3,h4⟩:=hF.u
 intro a w hf hh
 simp only[execOp,aab hf hx]
 have:(Instr.field t (.agg ⟨cs⟩) f).run P w= .ok (.agg ⟨l⟩) w:=by
  unfold Instr.field
  rw[aaa (h1 w)]
  simp only[h2,h3,h4,asAgg]
  rw[aaa (aap _ _ _)]
  unfold part
  rw[aaa (hA.agg w)]
  simp only[if_true]
  rw[aaa (hA.siz w)]
  obtain⟨k1,k2⟩:=abw _ _ _ _ hl
  have:(⟨cs⟩:Array Value).extract off (off+k)=⟨l⟩:=by
   apply Array.ext'
   rw[Array.toList_extract]
   apply kN
   intro i
   rw[List.extract_eq_take_drop,pU]
   split
   ·rw[pT];exact k2 i (by omega)
   ·exact(dX (show l.length≤i by omega)).symm
  rw[this];rfl
 exact aam this
theorem as7{cs:List Value}{f off ft:Nat}{v:Value}[hF:aDT P t f off ft][hA:TyS P ft](hx:opv fr x=some (.agg ⟨cs⟩))(hl:cs[off]? =some v):Yd P C fr own G ⟨dst, .field t x f,ty',pos,af,gd⟩ v:=by
 obtain⟨fs,fd,h1,h2,h3,h4⟩:=hF.u
 intro a w hf hh
 simp only[execOp,aab hf hx]
 have:(Instr.field t (.agg ⟨cs⟩) f).run P w= .ok v w:=by
  unfold Instr.field
  rw[aaa (h1 w)]
  simp only[h2,h3,h4,asAgg]
  rw[aaa (aap _ _ _)]
  unfold part
  rw[aaa (hA.agg w)]
  have:(⟨cs⟩:Array Value)[off]? =some v:=by simpa using hl
  simp only[iT,if_false,this]
  rfl
 exact aam this
/-! ### composite values -/
class aDW (P:Program) (t:TypeId) (offs:outParam (List (Nat×Nat))):Prop where
 u: ∃fs:Array Field,(∀w,(underlying t).run P w= .ok (.struct fs) w)∧(∀w,(fs.mapM (m:=Sem) fun f=>do pure (f.offset,←sizeOf f.type)).run P w= .ok ⟨offs⟩ w)
def bld(fr:Fr)(offs:List (Nat×Nat)):List Value→List (Nat×Operand)→Option (List Value)
 |cs,[]=>some cs
 |cs,(i,x)::r=>match offs[i]?,opv fr x with
  |some (off,k),some v=>if(aaf v).length=k∧off+k≤cs.length then bld fr offs (ovw cs off (aaf v)) r else none
  |_,_=>none
theorem alD: ∀(vs:List Value) (cs:Array Value) (off j:Nat),(vs.zipIdx j).foldl (fun cs (c,j)=>cs.setIfInBounds (off+j) c) cs=⟨ovw cs.toList (off+j) vs⟩
 |[],cs,off,j=>rfl
 |v::vs,cs,off,j=>by
  simp only[List.zipIdx_cons,kK]
  rw[alD vs _ off (j+1)]
  simp[ovw,iL]
theorem ap8{a:Act}(hf:aof fr a)(offs:List (Nat×Nat)): ∀(ps:List (Nat×Operand)) (cs out:List Value),bld fr offs cs ps=some out→
  Instr.fill ((⟨offs⟩:Array (Nat×Nat))[·]?) ⟨cs⟩ (ps.map fun(i,x)=>(i,a.eval x))=some ⟨out⟩
 |[],cs,out,h=>by simp only[bld] at h;cases h;rfl
 |(i,x)::ps,cs,out,h=>by
  simp only[bld] at h
  split at h
  ·rename_i off k v ho hv
   split at h
   ·rename_i hc
    simp only[cZ,Instr.fill]
    have:(⟨offs⟩:Array (Nat×Nat))[i]? =some (off,k):=by simpa using ho
    simp only[this,aab hf hv,adh]
    have h1: ¬((⟨aaf v⟩:Array Value).size≠k):=by simp[hc.1]
    have h2: ¬(off+(⟨aaf v⟩:Array Value).size>(⟨cs⟩:Array Value).size):=by simp only[oQ,hc.1];omega
    rw[if_neg (by simp only[gU,decide_eq_true_eq,not_or];exact⟨by simpa using h1,by simpa using h2⟩)]
    have e:=alD (aaf v) ⟨cs⟩ off 0
    have e':(⟨aaf v⟩:Array Value).zipIdx.foldl (fun cs (c,j)=>cs.setIfInBounds (off+j) c) (⟨cs⟩:Array Value)=⟨ovw cs off (aaf v)⟩:=by
     rw[←Array.foldl_toList,Array.toList_zipIdx]
     simpa using e
    rw[e']
    exact ap8 hf offs ps _ _ h
   ·cases h
  ·cases h
theorem alp{parts:Array (Nat×Operand)}{offs:List (Nat×Nat)}{z:Value}{out:List Value}[hT:aDW P t offs][hz:TyZ P t z](hb:bld fr offs (aaf z) parts.toList=some out):Yd P C fr own G ⟨dst, .build t parts,ty',pos,af,gd⟩ (.agg ⟨out⟩):=by
 obtain⟨fs,h1,h2⟩:=hT.u
 intro a w hf hh
 simp only[execOp]
 have:(Instr.build t (parts.map fun(i,x)=>(i,a.eval x))).run P w= .ok (.agg ⟨out⟩) w:=by
  unfold Instr.build
  rw[aaa (hz.zero w),adh]
  rw[aaa (h1 w)]
  simp only[]
  rw[aaa (h2 w)]
  have:=ap8 hf offs parts.toList _ _ hb
  simp only[Array.toList_map,this]
  rfl
 exact aam this
end
def abC(z:Value)(k:Nat):List Value:=(List.replicate k (aaf z)).flatten
theorem afa{α:Type}(l:List α): ∀(k i:Nat),i<k*l.length→(List.replicate k l).flatten[i]? =l[i%l.length]?
 |0,i,h=>by omega
 |k+1,i,h=>by
  rw[lZ,oZ]
  by_cases hi:i<l.length
  ·rw[gL hi,fK hi]
  ·rw[iS (by omega),afa l k (i-l.length) (by rw[cY] at h;omega)]
   rw[Nat.mod_eq_sub_mod (Nat.ge_of_not_lt hi)]
theorem abY(z:Value)(k:Nat):(abC z k).length=k*(aaf z).length:=by simp[abC]
theorem aeJ{z:Value}{k m:Nat}(h:m=k*(aaf z).length):((Array.range m).map fun i=>(⟨aaf z⟩:Array Value)[i%(⟨aaf z⟩:Array Value).size]!)=⟨abC z k⟩:=by
 subst h
 apply Array.ext'
 apply kN
 intro i
 simp only[Array.toList_map,Array.toList_range,cN,oQ]
 by_cases hi:i<k*(aaf z).length
 ·rw[rK hi]
  simp only[kJ]
  have h1:=afa (aaf z) k i hi
  have hpos:0<(aaf z).length:=by
   rcases fQ (aaf z).length with h|h
   ·rw[h,oU] at hi;omega
   ·exact h
  have hm:=cS i hpos
  show _=(abC z k)[i]?
  unfold abC
  rw[h1]
  simp[hm]
 ·rw[dX (by simpa using hi)]
  rw[dX (by show(abC z k).length≤i;rw[abY];omega)]
  rfl
section
variable {P:Program} {C:Ctx} {n:Nat} {fr:Fr} {own own':List Own} {G:Gh} {Φ:Act→World→Prop}
variable {dst:Option Nat} {t t' ty':TypeId} {pos:String} {af:Array Edge} {gd:Option (Nat×Bool)} {x y:Operand} {e s by_:Nat}
theorem amc[hT:acN P t e s by_](w:World): ∃i:TypeInfo,(typeInfo e).run P w= .ok i w∧i.bytes=by_:=by
 obtain⟨i,h1,_,h2⟩:=hT.info
 exact⟨i,by simp[typeInfo,program,Sem.run_bind,Sem.run,h1,aap],h2⟩
theorem aes[hT:acN P t e s by_]{z:Value}[hz:TyZ P e z]{k k':IntKind}{l:Int}(hx:opv fr x=some (.int k l))(hy:opv fr y=some (.int k' l))(h0:0≤l)(hb:by_*l≤2^47)(hl:l≤2^60)(hs:(aaf z).length=s)(hd:aaO n dst=true)
  (h: ∀b,St C n (put fr dst (.slice (some ⟨b,0,none⟩) l.toNat l.toNat)) (⟨b,abC z l.toNat,e,true⟩::own) G Φ):
  Ch P C n fr own G ⟨dst, .makeSlice t x y,ty',pos,af,gd⟩ Φ:=by
 intro a w Q rl
 have h1:(Instr.makeSlice t (a.eval x) (a.eval y)).run P w= .ok (.slice (some ⟨w.heap.size,0,none⟩) l.toNat l.toNat) (w.alloc (.cells ⟨abC z l.toNat⟩ e)):=by
  obtain⟨i,hi,hib⟩:=amc (P:=P) (t:=t) (e:=e) (s:=s) (by_:=by_) w
  rw[aab rl.fr hx,aab rl.fr hy]
  unfold Instr.makeSlice
  rw[aaa (hT.u w)]
  simp only[asInt,asIntOf]
  rw[aaa (a:=l) (w':=w) rfl,aaa (a:=l) (w':=w) rfl,aaa hi,hib]
  have hw:IntKind.i64.wrap l=l:=aeF (by simp[IntKind.min,IntKind.max,IntKind.signed,IntKind.bits];omega)
  simp only[hw]
  have c1: ¬((by_:Int)*l>2^48):=by
   have:(2:Int)^47≤2^48:=by decide
   omega
  have c2:(decide (l<0)||decide ((by_:Int)*l>2^48))=false:=by simp[c1];omega
  simp only[c2,Int.lt_irrefl,decide_false,Bool.or_false,Bool.false_or]
  have c3:decide (l<0)=false:=by simp;omega
  simp only[c3,iT,if_false,gt_iff_lt,Int.lt_irrefl,decide_false,Bool.or_false]
  have hr: ¬(l.toNat*by_>roomBytes):=by
   unfold roomBytes
   have:((l.toNat*by_:Nat):Int)=by_*l:=by rw[iK,oN h0,Int.mul_comm]
   have h47:((2^47:Nat):Int)=2^47:=by decide
   omega
  unfold askRoom
  simp only[hr,if_false]
  rw[aaa (aap _ _ _),aaa (hT.siz w)]
  have hn:l.toNat*s=l.toNat*(aaf z).length:=by rw[hs]
  by_cases h00:l.toNat*s=0
  ·rw[if_pos h00,aaa (aap _ _ _)]
   have e0:abC z l.toNat=[]:=bY (by rw[abY,hs];exact h00)
   rw[h00,e0,show(Array.range 0)= #[] from rfl,Array.map_empty]
   rfl
  ·rw[if_neg h00,aaa (hz.zero w),adh]
   rw[aaa (aap _ _ _),aeJ hn]
   rfl
 refine(fun hk=>?_:Φ (a.put dst (.slice (some ⟨w.heap.size,0,none⟩) l.toNat l.toNat)) (w.alloc (.cells ⟨abC z l.toNat⟩ e))→_) (h w.heap.size _ _ ((rl.heap (rl.h.alloc _ _)).put _ hd))
 exact abu (v:= .slice (some ⟨w.heap.size,0,none⟩) l.toNat l.toNat) (aam h1) hk
end
section
variable {P:Program} {C:Ctx} {n:Nat} {fr:Fr} {own own':List Own} {G:Gh} {Φ:Act→World→Prop}
variable {dst:Option Nat} {t t' ty':TypeId} {pos:String} {af:Array Edge} {gd:Option (Nat×Bool)} {x y:Operand} {e s by_:Nat}
def axi(fr:Fr)(s:Nat):List Value→List (Nat×Operand)→Option (List Value)
 |cs,[]=>some cs
 |cs,(i,x)::r=>match opv fr x with
  |some v=>if(aaf v).length=s∧i*s+s≤cs.length then axi fr s (ovw cs (i*s) (aaf v)) r else none
  |none=>none
theorem am0{a:Act}(hf:aof fr a)(s:Nat): ∀(ps:List (Nat×Operand)) (cs out:List Value),axi fr s cs ps=some out→
  Instr.fill (fun i=>some (i*s,s)) ⟨cs⟩ (ps.map fun(i,x)=>(i,a.eval x))=some ⟨out⟩
 |[],cs,out,h=>by simp only[axi] at h;cases h;rfl
 |(i,x)::ps,cs,out,h=>by
  simp only[axi] at h
  split at h
  ·rename_i v hv
   split at h
   ·rename_i hc
    simp only[cZ,Instr.fill,aab hf hv,adh]
    have h1: ¬((⟨aaf v⟩:Array Value).size≠s):=by simp[hc.1]
    have h2: ¬(i*s+(⟨aaf v⟩:Array Value).size>(⟨cs⟩:Array Value).size):=by simp only[oQ,hc.1];omega
    rw[if_neg (by simp only[gU,decide_eq_true_eq,not_or];exact⟨by simpa using h1,by simpa using h2⟩)]
    have e:=alD (aaf v) ⟨cs⟩ (i*s) 0
    have e':(⟨aaf v⟩:Array Value).zipIdx.foldl (fun cs (c,j)=>cs.setIfInBounds (i*s+j) c) (⟨cs⟩:Array Value)=⟨ovw cs (i*s) (aaf v)⟩:=by
     rw[←Array.foldl_toList,Array.toList_zipIdx]
     simpa using e
    rw[e']
    exact am0 hf s ps _ _ h
   ·cases h
  ·cases h
theorem ak2[hT:acN P t e s by_]{z:Value}[hz:TyZ P e z]{len:Nat}{parts:Array (Nat×Operand)}{out:List Value}(hs:(aaf z).length=s)(hb:axi fr s (abC z len) parts.toList=some out)(hsm:Nat.ble (len*s) 1000=true)(hs0:Nat.blt 0 (len*s)=true)(hd:aaO n dst=true)
  (h: ∀b,St C n (put fr dst (.slice (some ⟨b,0,none⟩) len len)) (⟨b,out,e,true⟩::own) G Φ):
  Ch P C n fr own G ⟨dst, .buildSlice t len parts,ty',pos,af,gd⟩ Φ:=by
 intro a w Q rl
 have hsm':len*s≤1000:=by simpa using hsm
 have hs0':0<len*s:=by simpa[oK] using hs0
 have h1:(Instr.buildSlice t len (parts.map fun(i,x)=>(i,a.eval x))).run P w= .ok (.slice (some ⟨w.heap.size,0,none⟩) len len) (w.alloc (.cells ⟨out⟩ e)):=by
  unfold Instr.buildSlice
  rw[aaa (hT.u w)]
  simp only[]
  rw[aaa (hT.siz w)]
  have c1: ¬(len*s>2^24):=by omega
  have c2: ¬(len*s=0):=by omega
  simp only[c1,if_false]
  rw[if_neg c2,aaa (hz.zero w),adh,aaa (aap _ _ _)]
  rw[aeJ (k:=len) (by rw[hs])]
  have hf:=am0 rl.fr s parts.toList _ _ hb
  simp only[Array.toList_map,hf]
  rfl
 refine abu (v:= .slice (some ⟨w.heap.size,0,none⟩) len len) (w':=w.alloc (.cells ⟨out⟩ e)) ?_ (h w.heap.size _ _ ((rl.heap (rl.h.alloc _ _)).put _ hd))
 simp only[execOp]
 exact aam h1
theorem aml[hT:acN P t e s by_](hd:aaO n dst=true)(h: ∀b,St C n (put fr dst (.slice (some ⟨b,0,none⟩) 0 0)) (⟨b,[],e,true⟩::own) G Φ):
  Ch P C n fr own G ⟨dst, .buildSlice t 0 #[],ty',pos,af,gd⟩ Φ:=by
 intro a w Q rl
 have h1:(Instr.buildSlice t 0 #[]).run P w= .ok (.slice (some ⟨w.heap.size,0,none⟩) 0 0) (w.alloc (.cells ⟨[]⟩ e)):=by
  unfold Instr.buildSlice
  rw[aaa (hT.u w)]
  simp only[]
  rw[aaa (hT.siz w)]
  simp only[kS,gt_iff_lt,Nat.not_lt_zero,if_false,if_true]
  rw[aaa (aap _ _ _),show(Array.range 0)= #[] from rfl,Array.map_empty]
  rfl
 refine abu (v:= .slice (some ⟨w.heap.size,0,none⟩) 0 0) (w':=w.alloc (.cells ⟨[]⟩ e)) ?_ (h w.heap.size _ _ ((rl.heap (rl.h.alloc _ _)).put _ hd))
 simp only[execOp,gW,iN]
 exact aam h1
theorem axg[hT:acN P t e s by_]{ad:Option Addr}{len cap l2 c2:Nat}(hx:opv fr x=some (.slice ad len cap))(hy:opv fr y=some (.slice none l2 c2)):Yd P C fr own G ⟨dst, .binOp .eql t x y t',ty',pos,af,gd⟩ (.bool ad.isNone):=by
 intro a w hf hh
 simp only[execOp,aab hf hx,aab hf hy]
 have h1:(Op.equal t (.slice ad len cap) (.slice none l2 c2)).run P w= .ok ad.isNone w:=ack (by unfold Op.equalIn;rw[aaa (hT.u w)];cases ad<;>rfl)
 have h2:(eqGuard .eql t x y (.slice ad len cap) (.slice none l2 c2)).run P w= .ok () w:=rfl
 have h3:(binOp .eql t (.slice ad len cap) (.slice none l2 c2)).run P w= .ok (.bool ad.isNone) w:=by simp only[binOp];rw[aaa h1];rfl
 exact aam (by rw[aaa h2];exact h3)
theorem aCu[hT:acN P t e s by_]{ad:Option Addr}{len cap l2 c2:Nat}(hx:opv fr x=some (.slice ad len cap))(hy:opv fr y=some (.slice none l2 c2)):Yd P C fr own G ⟨dst, .binOp .neq t x y t',ty',pos,af,gd⟩ (.bool (!ad.isNone)):=by
 intro a w hf hh
 simp only[execOp,aab hf hx,aab hf hy]
 have h1:(Op.equal t (.slice ad len cap) (.slice none l2 c2)).run P w= .ok ad.isNone w:=ack (by unfold Op.equalIn;rw[aaa (hT.u w)];cases ad<;>rfl)
 have h2:(eqGuard .neq t x y (.slice ad len cap) (.slice none l2 c2)).run P w= .ok () w:=rfl
 have h3:(binOp .neq t (.slice ad len cap) (.slice none l2 c2)).run P w= .ok (.bool (!ad.isNone)) w:=by simp only[binOp];rw[aaa h1];rfl
 exact aam (by rw[aaa h2];exact h3)
end
theorem abG: ∀(cs:List Value) (off k:Nat),off+k≤cs.length→aaX cs off k=some ((cs.drop off).take k)
 |cs,0,0,_=>by cases cs<;>rfl
 |[],0,k+1,h=>by simp at h
 |v::t,0,k+1,h=>by
  simp only[aaX,abG t 0 k (by simp at h;omega)]
  simp
 |[],_+1,k,h=>by simp at h
 |_::t,off+1,k,h=>by
  simp only[aaX,abG t off k (by simp at h;omega)]
  simp
section
variable {P:Program} {C:Ctx} {n:Nat} {fr:Fr} {own own' own1:List Own} {G:Gh} {Φ:Act→World→Prop}
variable {dst:Option Nat} {t t' ty':TypeId} {pos:String} {af:Array Edge} {gd:Option (Nat×Bool)} {x y:Operand} {e s by_:Nat}
def Src(P:Program)(C:Ctx)(own:List Own)(G:Gh)(s m:Nat)(v:Value)(ys:List Value):Prop:=
 ∀w,ab5 C own G w→(Builtin.firstCells s m v).run P w= .ok ⟨ys⟩ w
theorem adk{w:World}{b off k:Nat}{cs l:List Value}{ty:TypeId}{fz:Nat×Nat}(h:w.heap[b]? =some (.cells ⟨cs⟩ ty fz))(hl:aaX cs off k=some l):(loadCells ⟨b,off,none⟩ k).run P w= .ok ⟨l⟩ w:=by
 obtain⟨h1,h2⟩:=abw _ _ _ _ hl
 unfold loadCells
 rw[acQ (l:=l) k 0 #[] (fun j hj=>by rw[adi h];simpa using h2 j hj) (by omega)]
 simp[←h1]
theorem ajB{b off m len cap:Nat}{cs ys:List Value}{ty:TypeId}{lo:Bool}(ho:OAt own b cs ty lo)(hl:aaX cs off (m*s)=some ys):Src P C own G s m (.slice (some ⟨b,off,none⟩) len cap) ys:=
 fun w h=>adk (h.hown _ ho.mem).1 hl
theorem axu{b off m len cap:Nat}{cs ys:List Value}(hg:G b=some cs)(hl:aaX cs off (m*s)=some ys):Src P C own G s m (.slice (some ⟨b,off,none⟩) len cap) ys:=
 fun w h=>by obtain⟨ty,fz,hb⟩:=h.sub _ _ hg;exact adk hb hl
theorem aeu{ad:Option Addr}{len cap:Nat}:Src P C own G s 0 (.slice ad len cap) []:=fun w _=>by
 cases ad with
 |none=>rfl
 |some a=>unfold Builtin.firstCells loadCells;simp[loadCellsFrom,aap]
theorem akE(z:Value)(k:Nat):Builtin.zeroCells ⟨aaf z⟩ k=⟨abC z k⟩:=by
 unfold Builtin.zeroCells
 exact aeJ rfl
theorem adF{w w':World}[hT:acN P t e s by_][hN:TyN P t']{z:Value}[hz:TyZ P e z]{ad:Option Addr}{len cap m cap2:Nat}{ad2:Option Addr}{xs ys:List Value}
  (hsx:(Builtin.firstCells s len (.slice ad len cap)).run P w.drew= .ok ⟨xs⟩ w.drew)(hsy:(Builtin.firstCells s m (.slice ad2 m cap2)).run P w.drew= .ok ⟨ys⟩ w.drew)
  (hneed:cap<len+m)(hby:0<by_)(hb:(len+m)*by_≤140737488355328):
  (Builtin.append_ #[t,t'] ty' #[.slice ad len cap, .slice ad2 m cap2]).run P w=
   .ok (.slice (some ⟨w.heap.size,0,none⟩) (len+m) (grownCap w (len+m) cap e)) (w.drew.alloc (.cells ⟨xs++ys++abC z (grownCap w (len+m) cap e-(len+m))⟩ e)):=by
 obtain⟨d,hd1⟩:=hN.un
 obtain⟨i,hi,his,hib⟩:=hT.info
 obtain⟨i',hi',hiz⟩:=hz.info
 rw[hi] at hi';cases hi'
 have hfit:=growslice_fits (old:=cap) (need:=len+m) (bytes:=by_) hneed hb
 have hlen:len+m≤140737488355328:=cJ (mM _ hby) hb
 have hn: ¬(len+m≤cap):=by omega
 have h63': ¬(9223372036854775807<((len:Int)+(m:Int))):=by omega
 have h48': ¬(281474976710656<Builtin.nextslicecap (len+m) cap*i.bytes):=by rw[hib];omega
 subst his
 simp[Builtin.append_,run_underlying hT.un,run_underlying hd1,sizeOf,typeInfo,zeroValue,hi,hiz,Builtin.lenOf,hn,h63',h48',Question.forced,hsx,hsy,newRow,grownCap]
 congr 2
 apply Array.ext'
 rw[adh,akE]
 simp[fL]
theorem acX[hT:acN P t e s by_][hN:TyN P t']{z:Value}[hz:TyZ P e z]{ad:Option Addr}{len cap m cap2:Nat}{ad2:Option Addr}{xs ys:List Value}
  (hx:opv fr x=some (.slice ad len cap))(hy:opv fr y=some (.slice ad2 m cap2))(hsx:Src P C own G s len (.slice ad len cap) xs)(hsy:Src P C own G s m (.slice ad2 m cap2) ys)
  (hneed:cap<len+m)(hby:0<by_)(hb:(len+m)*by_≤140737488355328)(hd:aaO n dst=true)
  (h: ∀b cap',len+m≤cap'→St C n (put fr dst (.slice (some ⟨b,0,none⟩) (len+m) cap')) (⟨b,xs++ys++abC z (cap'-(len+m)),e,true⟩::own) G Φ):
  Ch P C n fr own G ⟨dst, .call ⟨.builtin .append, #[x,y], #[t,t']⟩,ty',pos,af,gd⟩ Φ:=by
 intro a w Q rl
 have hcap:len+m≤grownCap w (len+m) cap e:=by unfold grownCap;simp only[Question.cut];omega
 have hrun:=adF (P:=P) (t:=t) (t':=t') (ty':=ty') (w:=w) (w':=w) (hsx _ rl.h.drew) (hsy _ rl.h.drew) hneed hby hb
 refine abu (v:= .slice (some ⟨w.heap.size,0,none⟩) (len+m) (grownCap w (len+m) cap e)) (w':=w.drew.alloc (.cells ⟨xs++ys++abC z (grownCap w (len+m) cap e-(len+m))⟩ e)) ?_ ?_
 ·simp only[execOp,resolve,gW,cZ,iN,aab rl.fr hx,aab rl.fr hy]
  exact aam hrun
 ·exact h w.heap.size _ hcap _ _ ((rl.heap ((rl.h.drew).alloc _ _)).put _ hd)
theorem alc.perm{o:Own}(h:alc own o own1):own.Perm (o::own1):=by
 induction h with
 |hd o t=>exact List.Perm.refl _
 |tl x t t' o h ih=>exact(List.Perm.cons x ih).trans (List.Perm.swap _ _ _)
theorem adC{w:World}[hT:acN P t e s by_][hN:TyN P t']{b len cap m cap2:Nat}{ad2:Option Addr}{cs ys:List Value}
  (hb:w.heap[b]? =some (.cells ⟨cs⟩ e (0,0)))(hcs:cs.length=cap*s)(hsy:(Builtin.firstCells s m (.slice ad2 m cap2)).run P w= .ok ⟨ys⟩ w)(hys:ys.length=m*s)(hf: ∀v∈ys,flat v=true)
  (hneed:len+m≤cap):
  (Builtin.append_ #[t,t'] ty' #[.slice (some ⟨b,0,none⟩) len cap, .slice ad2 m cap2]).run P w=
   .ok (.slice (some ⟨b,0,none⟩) (len+m) cap) (abE w b (.cells ⟨ovw cs (len*s) ys⟩ e (0,0))):=by
 obtain⟨d,hd1⟩:=hN.un
 obtain⟨i,hi,his,hib⟩:=hT.info
 subst his
 have hl:len*i.size+ys.length≤cs.length:=by rw[hys,hcs,←cY];exact bV _ hneed
 have hst:=acf (P:=P) ys w (len*i.size) 0 cs hf hb (by omega)
 rw[dT] at hst
 simp[Builtin.append_,run_underlying hT.un,run_underlying hd1,sizeOf,typeInfo,hi,Builtin.lenOf,hneed,hsy,acx,hst]
theorem aji: ∀(vs cs:List Value) (off:Nat),(ovw cs off vs).length=cs.length
 |[],cs,off=>rfl
 |v::vs,cs,off=>by simp[ovw,aji vs]
theorem acA: ∀(vs cs:List Value) (off:Nat),off+vs.length≤cs.length→ovw cs off vs=cs.take off++vs++cs.drop (off+vs.length)
 |[],cs,off,h=>by simp[ovw]
 |v::vs,cs,off,h=>by
  simp only[bU] at h
  rw[ovw,acA vs _ _ (by simp;omega)]
  rw[List.take_set,rV (by omega)]
  have h1:(cs.take (off+1)).set off v=cs.take off++[v]:=by
   rw[fZ (by omega),List.set_append_right _ _ (by simp;omega)]
   simp[gT (by omega:off≤cs.length)]
  rw[h1]
  simp only[bU,fL,jQ,lQ]
  congr 4
  omega
theorem agr[hT:acN P t e s by_][hN:TyN P t']{z:Value}[hz:TyZ P e z]{b len cap m cap2:Nat}{ad2:Option Addr}{xs ys rest:List Value}
  (hx:opv fr x=some (.slice (some ⟨b,0,none⟩) len cap))(hy:opv fr y=some (.slice ad2 m cap2))(hr:alc own ⟨b,xs++rest,e,true⟩ own1)(hxs:xs.length=len*s)(hcap:xs.length+rest.length=cap*s)(hlc:len≤cap)
  (hsy:Src P C own G s m (.slice ad2 m cap2) ys)(hys:ys.length=m*s)(hf: ∀v∈ys,flat v=true)
  (hby:0<by_)(hb:(len+m)*by_≤140737488355328)(hzs:(aaf z).length=s)(hd:aaO n dst=true)
  (h: ∀b cap' rest',len+m≤cap'→rest'.length+(len+m)*s=cap'*s→St C n (put fr dst (.slice (some ⟨b,0,none⟩) (len+m) cap')) (⟨b,xs++ys++rest',e,true⟩::own1) G Φ):
  Ch P C n fr own G ⟨dst, .call ⟨.builtin .append, #[x,y], #[t,t']⟩,ty',pos,af,gd⟩ Φ:=by
 intro a w Q rl
 have hp:=rl.h.perm hr.perm
 have hblk:=(hp.hown _ aZ).1
 simp only[] at hblk
 by_cases hneed:len+m≤cap
 ·have hcs:(xs++rest).length=cap*s:=by simp;omega
  have hrun:=adC (P:=P) (t:=t) (t':=t') (ty':=ty') (w:=w) (len:=len) hblk hcs (hsy w rl.h) hys hf hneed
  have hle:len*s+m*s≤cap*s:=by rw[←cY];exact bV _ hneed
  have hov:ovw (xs++rest) (len*s) ys=xs++ys++rest.drop (m*s):=by
   rw[acA _ _ _ (by rw[hys];omega),←hxs]
   simp[hys,lV]
  refine abu (v:= .slice (some ⟨b,0,none⟩) (len+m) cap) (w':=abE w b (.cells ⟨ovw (xs++rest) (len*s) ys⟩ e (0,0))) ?_ ?_
  ·simp only[execOp,resolve,gW,cZ,iN,aab rl.fr hx,aab rl.fr hy]
   exact aam hrun
  ·rw[hov]
   refine h b cap (rest.drop (m*s)) hneed ?_ _ _ ((rl.heap (hp.store (.hd ..))).put _ hd)
   rw[fM,cY]
   omega
 ·have hx':Src P C own G s len (.slice (some ⟨b,0,none⟩) len cap) xs:=fun w' hw'=>by
   have hb':=(((hw'.perm hr.perm).hown _ aZ).1)
   refine adk hb' ?_
   rw[abG _ _ _ (by simp;omega),←hxs]
   simp
  have hcap':len+m≤grownCap w (len+m) cap e:=by unfold grownCap;simp only[Question.cut];omega
  have hrun:=adF (P:=P) (t:=t) (t':=t') (ty':=ty') (w:=w) (w':=w) (hx' _ rl.h.drew) (hsy _ rl.h.drew) (by omega) hby hb
  refine abu (v:= .slice (some ⟨w.heap.size,0,none⟩) (len+m) (grownCap w (len+m) cap e)) (w':=w.drew.alloc (.cells ⟨xs++ys++abC z (grownCap w (len+m) cap e-(len+m))⟩ e)) ?_ ?_
  ·simp only[execOp,resolve,gW,cZ,iN,aab rl.fr hx,aab rl.fr hy]
   exact aam hrun
  ·refine h w.heap.size _ _ hcap' ?_ _ _ ((rl.heap (((hp.drew).drop (List.sublist_cons_self _ _)).alloc _ _)).put _ hd)
   rw[abY,hzs,←cY]
   congr 1
   omega
end
section
variable {P:Program} {ops:Array Oper} {Q:Exit→Act→World→Prop} {S:World→Prop} {fin:Nat→Bool}
/-! ### a drawn region in one order: 'true' for what is taken first, 'false' for what comes up alone -/
def adp(ops:Array Oper)(fin:Nat→Bool):List (Nat×Bool)→Array Bool→Bool
 |[],listed=>(Region.ready .any ops listed).isEmpty
 |(i,true)::r,listed=>aki ops fin listed i&&adp ops fin r (listed.setIfInBounds i true)
 |(i,false)::r,listed=>(Region.ready .any ops listed==[i])&&adp ops fin r (listed.setIfInBounds i true)
def dwL(P:Program)(ops:Array Oper)(Q:Exit→Act→World→Prop)(S:World→Prop)(fin:Nat→Bool):List (Nat×Bool)→Act→World→Prop
 |[],a,w=>Q .normal a w
 |(i,true)::r,a,w=> ∃o v,ops[i]? =some o∧S w∧YieldsIf P ops S o v a∧dwL P ops Q S fin r (a.put o.dst v) w
 |(i,false)::r,a,w=>wpOp P ops Q i (fun a' w'=>(fin i=true∨S w')∧dwL P ops Q S fin r a' w') a w
theorem abU(hQ: ∀c a d v w,Q (.panic c) (Act.put a d v) w→Q (.panic c) a w): ∀(π:List (Nat×Bool)) (listed:Array Bool) (a:Act) (w:World),adp ops fin π listed=true→dwL P ops Q S fin π a w→ ∀fuel,π.length≤fuel→ahF P ops Q S fin fuel listed a w
 |[],listed,a,w,ho,h,fuel,hf=>by
  have hr:Region.ready .any ops listed=[]:=by simpa[adp] using ho
  cases fuel with
  |zero=>exact⟨hr,h⟩
  |succ k=>exact⟨fun _=>h,by rw[hr];simp⟩
 |(i,true)::r,listed,a,w,ho,h,0,hf=>by simp at hf
 |(i,false)::r,listed,a,w,ho,h,0,hf=>by simp at hf
 |(i,true)::r,listed,a,w,ho,h,fuel+1,hf=>by
  obtain⟨o,v,hoi,hS,hy,hk⟩:=h
  simp only[adp,aki,bL] at ho
  obtain⟨⟨⟨⟨h1,h2⟩,h3⟩,h4⟩,h5⟩:=ho
  obtain⟨h6,h7⟩:=aqL h4
  exact amS hoi (Region.noSelect_spec h1) (fun c a w=>hQ c a _ _ w) h6 h7 fuel listed a w (Region.free_spec hoi h2) (by simpa using h3) hy hS
   (abU hQ r _ _ _ h5 hk fuel (by simpa using hf))
 |(i,false)::r,listed,a,w,ho,h,fuel+1,hf=>by
  simp only[adp,bL,beq_iff_eq] at ho
  exact aqr ho.1 (wpOp_mono (fun a' w' h'=>⟨h'.1,abU hQ r _ _ _ ho.2 h'.2 fuel (by simpa using hf)⟩) h)
end
section
variable {P:Program} {C:Ctx} {n:Nat} {fr:Fr} {own own0:List Own} {G G0:Gh} {ops:Array Oper} {Q:Exit→Act→World→Prop} {fin:Nat→Bool} {π:List (Nat×Bool)}
theorem dr(fin:Nat→Bool)(π:List (Nat×Bool)){id:Nat}(hm:P.follows .mixedOrders=true)(ho:(adp ops fin π (Array.replicate ops.size false)&&Nat.ble π.length ops.size)=true)
  (h:St C n fr own G (dwL P ops (acp Q) (HS C own G) fin π)):St C n fr own G ((Code.region id ops true).wp P Q):=by
 simp only[bL] at ho
 refine arZ fin hm fun a w rl=>abU (fun _ _ _ _ _ h=>h) π _ a w ho.1 (h a w rl) _ (by simpa using ho.2)
theorem dy{i:Nat}{o:Oper}{v:Value}(ho:ops[i]? =some o)(hy: ∀G':Gh,[GE G0 G']→Yd P C fr own0 G' o v)(hg:o.guard=none)(hd:aaO n o.dst=true)[hs:akW own0 own][hl:GL G0 G]
  (h:St C n (put fr o.dst v) own G (dwL P ops (acp Q) (HS C own0 G0) fin π)):St C n fr own G (dwL P ops (acp Q) (HS C own0 G0) fin ((i,true)::π)):=
 fun a w rl=>⟨o,v,ho,⟨G,hl.le,rl.h.drop hs.s⟩, .inl ⟨by simp[Region.wanted,hg],fun w' ⟨G',hle,hr⟩=> @hy G' ⟨hle⟩ a w' rl.fr hr⟩,h _ _ (rl.put v hd)⟩
theorem dM{i:Nat}{dst:Option Nat}{ty':TypeId}{pos:String}{af:Array Edge}{x:Operand}{v:Value}(ho:ops[i]? =some ⟨dst, .move x,ty',pos,af,none⟩)(hx:opv fr x=some v)(hd:aaO n dst=true)[hs:akW own0 own][hl:GL G0 G]
  (h:St C n (put fr dst v) own G (dwL P ops (acp Q) (HS C own0 G0) fin π)):St C n fr own G (dwL P ops (acp Q) (HS C own0 G0) fin ((i,true)::π)):=dy ho (fun _ _=>aaR hx) rfl hd h
theorem dA{i:Nat}{dst:Option Nat}{ty':TypeId}{pos:String}{af:Array Edge}{x:Operand}{v:Value}(ho:ops[i]? =some ⟨dst, .assign x,ty',pos,af,none⟩)(hx:opv fr x=some v)(hd:aaO n dst=true)[hs:akW own0 own][hl:GL G0 G]
  (h:St C n (put fr dst v) own G (dwL P ops (acp Q) (HS C own0 G0) fin π)):St C n fr own G (dwL P ops (acp Q) (HS C own0 G0) fin ((i,true)::π)):=dy ho (fun _ _=>aiG hx) rfl hd h
theorem dF{i b o f off:Nat}{dst:Option Nat}{ty':TypeId}{pos:String}{af:Array Edge}{x:Operand}{t:TypeId}[hF:TyF P t f off](ho:ops[i]? =some ⟨dst, .fieldAddr t x f,ty',pos,af,none⟩)(hx:opv fr x=some (.pointer (some ⟨b,o,none⟩)))(hd:aaO n dst=true)[hs:akW own0 own][hl:GL G0 G]
  (h:St C n (put fr dst (.pointer (some ⟨b,o+off,none⟩))) own G (dwL P ops (acp Q) (HS C own0 G0) fin π)):St C n fr own G (dwL P ops (acp Q) (HS C own0 G0) fin ((i,true)::π)):=dy ho (fun _ _=>aaS hx) rfl hd h
theorem dL{i b off k:Nat}{dst:Option Nat}{ty':TypeId}{pos:String}{af:Array Edge}{x:Operand}{t ty:TypeId}{cs l:List Value}{lo:Bool}(ho:ops[i]? =some ⟨dst, .load t x,ty',pos,af,none⟩)(hx:opv fr x=some (.pointer (some ⟨b,off,none⟩)))[hw:OAt own0 b cs ty lo][TyA P t k](hv:aaX cs off k=some l)(hd:aaO n dst=true)[hs:akW own0 own][hl:GL G0 G]
  (h:St C n (put fr dst (.agg ⟨l⟩)) own G (dwL P ops (acp Q) (HS C own0 G0) fin π)):St C n fr own G (dwL P ops (acp Q) (HS C own0 G0) fin ((i,true)::π)):=dy ho (fun _ _=>aeC hx hv) rfl hd h
theorem dL1{i b off:Nat}{dst:Option Nat}{ty':TypeId}{pos:String}{af:Array Edge}{x:Operand}{t ty:TypeId}{cs:List Value}{v:Value}{lo:Bool}(ho:ops[i]? =some ⟨dst, .load t x,ty',pos,af,none⟩)(hx:opv fr x=some (.pointer (some ⟨b,off,none⟩)))[hw:OAt own0 b cs ty lo][TyS P t](hv:cs[off]? =some v)(hd:aaO n dst=true)[hs:akW own0 own][hl:GL G0 G]
  (h:St C n (put fr dst v) own G (dwL P ops (acp Q) (HS C own0 G0) fin π)):St C n fr own G (dwL P ops (acp Q) (HS C own0 G0) fin ((i,true)::π)):=dy ho (fun _ _=>aaD hx hv) rfl hd h
theorem dyg{i:Nat}{o:Oper}{v:Value}(ho:ops[i]? =some o){j d:Nat}{b:Bool}(hg:o.guard=some (j,b))(hj:(ops[j]?).bind (·.dst)=some d)(hlk:ahP fr d=some (.bool b))(hy: ∀G':Gh,[GE G0 G']→Yd P C fr own0 G' o v)(hd:aaO n o.dst=true)[hs:akW own0 own][hl:GL G0 G]
  (h:St C n (put fr o.dst v) own G (dwL P ops (acp Q) (HS C own0 G0) fin π)):St C n fr own G (dwL P ops (acp Q) (HS C own0 G0) fin ((i,true)::π)):=
 fun a w rl=>⟨o,v,ho,⟨G,hl.le,rl.h.drop hs.s⟩, .inl ⟨by simp[Region.wanted,hg,afB rl.fr hj hlk],fun w' ⟨G',hle,hr⟩=> @hy G' ⟨hle⟩ a w' rl.fr hr⟩,h _ _ (rl.put v hd)⟩
theorem dys{i:Nat}{o:Oper}(ho:ops[i]? =some o){j d:Nat}{b c:Bool}(hg:o.guard=some (j,b))(hj:(ops[j]?).bind (·.dst)=some d)(hlk:ahP fr d=some (.bool c))(hbc:(c==b)=false)(hd:aaO n o.dst=true)[hs:akW own0 own][hl:GL G0 G]
  (h:St C n (put fr o.dst undef) own G (dwL P ops (acp Q) (HS C own0 G0) fin π)):St C n fr own G (dwL P ops (acp Q) (HS C own0 G0) fin ((i,true)::π)):=
 fun a w rl=>⟨o,undef,ho,⟨G,hl.le,rl.h.drop hs.s⟩, .inr ⟨by simp[Region.wanted,hg,afB rl.fr hj hlk,hbc],rfl⟩,h _ _ (rl.put undef hd)⟩
theorem dc{i:Nat}{o:Oper}(ho:ops[i]? =some o)(hg:o.guard=none)(hc:Ch P C n fr own G o (fun a w=>(fin i=true∨HS C own0 G0 w)∧dwL P ops (acp Q) (HS C own0 G0) fin π a w)):St C n fr own G (dwL P ops (acp Q) (HS C own0 G0) fin ((i,false)::π)):=by
 intro a w rl
 show wpOp P ops (acp Q) i _ a w
 unfold wpOp
 simp only[ho,Region.wanted,hg,if_true]
 exact .inl (hc a w _ rl)
theorem dn(h:St C n fr own G (Q .normal)):St C n fr own G (dwL P ops (acp Q) (HS C own0 G0) fin []):=h
theorem ghi{A G:Gh}{b:Nat}{cs:List Value}[h:aBf A b cs][k:GL A G]:G b=some cs:=k.le _ _ h.h
/-! ### text order, in short -/
variable {dst:Option Nat} {t t' ty':TypeId} {pos:String} {af:Array Edge} {x y:Operand} {r:List Oper}
theorem sm{v:Value}(hx:opv fr x=some v)(hd:aaO n dst=true)(h:St C n (put fr dst v) own G (wpL P ops Q r)):St C n fr own G (wpL P ops Q (⟨dst, .move x,ty',pos,af,none⟩::r)):=avt (aaR hx) rfl hd h
theorem sa{v:Value}(hx:opv fr x=some v)(hd:aaO n dst=true)(h:St C n (put fr dst v) own G (wpL P ops Q r)):St C n fr own G (wpL P ops Q (⟨dst, .assign x,ty',pos,af,none⟩::r)):=avt (aiG hx) rfl hd h
theorem sn{ad:Addr}(hx:opv fr x=some (.pointer (some ad)))(hd:aaO n dst=true)(h:St C n (put fr dst (.pointer (some ad))) own G (wpL P ops Q r)):St C n fr own G (wpL P ops Q (⟨dst, .nilCheck x,ty',pos,af,none⟩::r)):=avt (aaT hx) rfl hd h
theorem sf{b o f off:Nat}[hF:TyF P t f off](hx:opv fr x=some (.pointer (some ⟨b,o,none⟩)))(hd:aaO n dst=true)(h:St C n (put fr dst (.pointer (some ⟨b,o+off,none⟩))) own G (wpL P ops Q r)):St C n fr own G (wpL P ops Q (⟨dst, .fieldAddr t x f,ty',pos,af,none⟩::r)):=avt (aaS hx) rfl hd h
theorem slo{b off k:Nat}{cs l:List Value}{lo:Bool}{ty:TypeId}(hx:opv fr x=some (.pointer (some ⟨b,off,none⟩)))[ho:OAt own b cs ty lo][TyA P t k](hl:aaX cs off k=some l)(hd:aaO n dst=true)
  (h:St C n (put fr dst (.agg ⟨l⟩)) own G (wpL P ops Q r)):St C n fr own G (wpL P ops Q (⟨dst, .load t x,ty',pos,af,none⟩::r)):=avt (aeC hx hl) rfl hd h
theorem awK{b off:Nat}{cs:List Value}{v:Value}{lo:Bool}{ty:TypeId}(hx:opv fr x=some (.pointer (some ⟨b,off,none⟩)))[ho:OAt own b cs ty lo][TyS P t](hl:cs[off]? =some v)(hd:aaO n dst=true)
  (h:St C n (put fr dst v) own G (wpL P ops Q r)):St C n fr own G (wpL P ops Q (⟨dst, .load t x,ty',pos,af,none⟩::r)):=avt (aaD hx hl) rfl hd h
theorem ac9{e s by_:Nat}{ad:Option Addr}{len cap:Nat}[hT:acN P t e s by_](hx:opv fr x=some (.slice ad len cap))(hd:aaO n dst=true)
  (h:St C n (put fr dst (.int .i64 len)) own G (wpL P ops Q r)):St C n fr own G (wpL P ops Q (⟨dst, .call ⟨.builtin .len, #[x], #[t]⟩,ty',pos,af,none⟩::r)):=avt (aeM hx) rfl hd h
theorem sx{vs:Array Value}{i:Nat}{v:Value}(hx:opv fr x=some (.tuple vs))(hv:vs[i]? =some v)(hd:aaO n dst=true)(h:St C n (put fr dst v) own G (wpL P ops Q r)):St C n fr own G (wpL P ops Q (⟨dst, .extract x i,ty',pos,af,none⟩::r)):=avt (ahn hx hv) rfl hd h
theorem abK{C:Ctx}{n:Nat}{fr:Fr}{own:List Own}{G:Gh}{K:Act→World→Prop}{Q:Exit→Act→World→Prop}{id:Nat}(h:St C n fr own G (Q (.exit id))):St C n fr own G (Exit.then K Q (.exit id)):=h
theorem syg{op:Op}{v:Value}{j d:Nat}{b:Bool}(hj:(ops[j]?).bind (·.dst)=some d)(hl:ahP fr d=some (.bool b))(hy:Yd P C fr own G ⟨dst,op,ty',pos,af,some (j,b)⟩ v)(hd:aaO n dst=true)(h:St C n (put fr dst v) own G (wpL P ops Q r)):St C n fr own G (wpL P ops Q (⟨dst,op,ty',pos,af,some (j,b)⟩::r)):=aEh rfl hj hl hy hd h
theorem ss{op:Op}{j d:Nat}{b c:Bool}(hj:(ops[j]?).bind (·.dst)=some d)(hl:ahP fr d=some (.bool c))(hbc:(c==b)=false)(hd:aaO n dst=true)(h:St C n (put fr dst undef) own G (wpL P ops Q r)):St C n fr own G (wpL P ops Q (⟨dst,op,ty',pos,af,some (j,b)⟩::r)):=aze rfl hj hl hbc hd h
theorem sy{op:Op}{v:Value}(hy:Yd P C fr own G ⟨dst,op,ty',pos,af,none⟩ v)(hd:aaO n dst=true)(h:St C n (put fr dst v) own G (wpL P ops Q r)):St C n fr own G (wpL P ops Q (⟨dst,op,ty',pos,af,none⟩::r)):=avt hy rfl hd h
theorem sc{op:Op}(hc:Ch P C n fr own G ⟨dst,op,ty',pos,af,none⟩ (wpL P ops Q r)):St C n fr own G (wpL P ops Q (⟨dst,op,ty',pos,af,none⟩::r)):=aEA rfl hc
end
theorem Fn.of_calls{P:Program}{f:FuncId}{vs:List Value}{G:Gh}{v:Value}(ha:adN P f)(h: ∀w,Calls P f ⟨vs⟩ w fun e w'=>e= .returned v∧w'=w):Fn P f vs G (fun u _=>u=v):=
 ⟨ha,fun w hw=>(h w).mono fun e w' ⟨he,hww⟩=>⟨v,G,he,by
  subst hww
  exact⟨rfl,rfl,rfl,aL _,fun _ _ _=>rfl,hw,GLe.refl _,fun _ _=>rfl,fun o ho=>(by cases ho), .nil,aL _⟩,rfl⟩⟩
end Go.Sx
end
section
namespace Go.Sx
open Go Go.Proofs Tryz
instance:TyS prog 3:=⟨fun _=>by kernel_rfl,fun _=>by kernel_rfl⟩
instance:TyI prog 3 .i64:=⟨fun _=>by kernel_rfl⟩
instance:TyS prog 4:=⟨fun _=>by kernel_rfl,fun _=>by kernel_rfl⟩
instance:TyZ prog 4 (.bool false):=⟨by kernel_rfl⟩
instance:TyS prog 32:=⟨fun _=>by kernel_rfl,fun _=>by kernel_rfl⟩
instance:acN prog 32 221 8 112:=⟨by kernel_rfl,by kernel_rfl⟩
instance:TyF prog 34 0 0:=⟨fun _ _ _=>by kernel_rfl⟩
instance:TyF prog 34 1 1:=⟨fun _ _ _=>by kernel_rfl⟩
instance:acN prog 59 256 1 4:=⟨by kernel_rfl,by kernel_rfl⟩
instance:TyN prog 59:=⟨256,by kernel_rfl⟩
instance:TyI prog 152 .u64:=⟨fun _=>by kernel_rfl⟩
instance:acN prog 177 276 17 128:=⟨by kernel_rfl,by kernel_rfl⟩
instance:TyN prog 177:=⟨276,by kernel_rfl⟩
instance:acN prog 178 276 17 128:=⟨by kernel_rfl,by kernel_rfl⟩
instance:TyA prog 188 9:=⟨fun _=>by kernel_rfl,fun _=>by kernel_rfl⟩
instance:TyZ prog 188 (.agg ⟨[.int .i64 0, .int .i64 0, .pointer none, .int .i64 0, .int .i64 0, .pointer none, .int .i64 0, .int .i64 0, .pointer none]⟩):=⟨by kernel_rfl⟩
instance:TyA prog 218 6:=⟨fun _=>by kernel_rfl,fun _=>by kernel_rfl⟩
instance:TyA prog 221 8:=⟨fun _=>by kernel_rfl,fun _=>by kernel_rfl⟩
instance:TyZ prog 221 (.agg ⟨[.bool false, .slice none 0 0, .bool false, .slice none 0 0, .bool false, .slice none 0 0, .int .i64 0, .int .i64 0]⟩):=⟨by kernel_rfl⟩
instance:TyF prog 221 0 0:=⟨fun _ _ _=>by kernel_rfl⟩
instance:TyF prog 221 1 6:=⟨fun _ _ _=>by kernel_rfl⟩
instance:TyF prog 221 2 7:=⟨fun _ _ _=>by kernel_rfl⟩
instance:TyS prog 256:=⟨fun _=>by kernel_rfl,fun _=>by kernel_rfl⟩
instance:TyZ prog 256 (.int .u32 0):=⟨by kernel_rfl⟩
instance:TyI prog 256 .u32:=⟨fun _=>by kernel_rfl⟩
instance:TyI prog 257 .u64:=⟨fun _=>by kernel_rfl⟩
instance:TyS prog 290:=⟨fun _=>by kernel_rfl,fun _=>by kernel_rfl⟩
instance:acN prog 290 4 1 1:=⟨by kernel_rfl,by kernel_rfl⟩
instance:TyZ prog 292 (.agg ⟨[.slice none 0 0, .slice none 0 0, .int .i64 0, .bool false]⟩):=⟨by kernel_rfl⟩
instance:TyF prog 292 0 0:=⟨fun _ _ _=>by kernel_rfl⟩
instance:TyF prog 292 1 1:=⟨fun _ _ _=>by kernel_rfl⟩
instance:TyF prog 292 2 2:=⟨fun _ _ _=>by kernel_rfl⟩
instance:TyF prog 292 3 3:=⟨fun _ _ _=>by kernel_rfl⟩
instance:aDW prog 292 [(0,1),(1,1),(2,1),(3,1)]:=⟨_,fun _=>aCs underlying292 _,fun _=>by kernel_rfl⟩
theorem follows:prog.follows .mixedOrders=true:=by kernel_rfl
end Go.Sx
end
section
namespace Go.Sx
def dv:List Nat→Nat
 |[]=>0
 |d::t=>d+4294967296*dv t
def DOk(ds:List Nat):Prop:= ∀d∈ds,d<4294967296
def Nrm(ds:List Nat):Prop:=ds.getLast? ≠some 0
instance (ds:List Nat):Decidable (Nrm ds):=inferInstanceAs (Decidable (ds.getLast? ≠some 0))
theorem DOk.nil:DOk []:=fun _ h=>by cases h
theorem DOk.cons{d:Nat}{ds:List Nat}(h:d<4294967296)(k:DOk ds):DOk (d::ds):=fun x hx=>by
 rcases aS.1 hx with rfl|h'
 ·exact h
 ·exact k _ h'
theorem DOk.head{d:Nat}{ds:List Nat}(h:DOk (d::ds)):d<4294967296:=h d aZ
theorem DOk.tail{d:Nat}{ds:List Nat}(h:DOk (d::ds)):DOk ds:=fun x hx=>h x (aK _ hx)
theorem DOk.append{a b:List Nat}(h:DOk a)(k:DOk b):DOk (a++b):=fun x hx=>by
 rcases bS.1 hx with h'|h'
 ·exact h _ h'
 ·exact k _ h'
theorem DOk.take{a:List Nat}(h:DOk a)(n:Nat):DOk (a.take n):=fun x hx=>h x (eJ hx)
theorem DOk.drop{a:List Nat}(h:DOk a)(n:Nat):DOk (a.drop n):=fun x hx=>h x (fU hx)
theorem DOk.get{a:List Nat}(h:DOk a)(i:Nat):a.getD i 0<4294967296:=by
 rw[aX]
 cases hi:a[i]? with
 |none=>simp
 |some d=>exact h d (aM hi)
theorem DOk.set{a:List Nat}(h:DOk a)(i:Nat){d:Nat}(hd:d<4294967296):DOk (a.set i d):=fun x hx=>by
 rcases List.mem_or_eq_of_mem_set hx with h'|rfl
 ·exact h _ h'
 ·exact hd
theorem DOk.replicate(n:Nat):DOk (List.replicate n 0):=fun x hx=>by
 rw[List.eq_of_mem_replicate hx];omega
theorem ad5(a b:List Nat):dv (a++b)=dv a+4294967296^a.length*dv b:=by
 induction a with
 |nil=>simp[dv]
 |cons d t ih=>
  simp only[jQ,dv,ih,bU,dV]
  rw[dQ,←iL,←bR,bT 4294967296 (4294967296^t.length)]
theorem aee{ds:List Nat}(h:DOk ds):dv ds<4294967296^ds.length:=by
 induction ds with
 |nil=>simp[dv]
 |cons d t ih=>
  have h1:=h.head
  have h2:=ih h.tail
  simp only[dv,bU,dV]
  omega
theorem acs(n:Nat):dv (List.replicate n 0)=0:=by
 induction n with
 |zero=>rfl
 |succ n ih=>simp[lZ,dv,ih]
theorem aax(ds:List Nat)(i:Nat):dv (ds.take (i+1))=dv (ds.take i)+4294967296^i*ds.getD i 0:=by
 by_cases h:i<ds.length
 ·rw[fZ h,ad5]
  simp[dv,gT (nY h),aX,h]
 ·have:ds.getD i 0=0:=by rw[aX,dX (by omega)];rfl
  rw[this,aV (by omega),aV (by omega)]
  simp
theorem ah7(ds:List Nat)(i:Nat)(h:i≤ds.length):dv ds=dv (ds.take i)+4294967296^i*dv (ds.drop i):=by
 have:=ad5 (ds.take i) (ds.drop i)
 rw[jW] at this
 rw[this]
 simp[gT h]
def trimD:List Nat→List Nat
 |[]=>[]
 |d::t=>match trimD t with
  |[]=>if d=0 then [] else [d]
  |t'=>d::t'
theorem acJ(d:Nat)(t:List Nat):trimD (d::t)=if trimD t=[]∧d=0 then [] else d::trimD t:=by
 simp only[trimD]
 cases h:trimD t with
 |nil=>by_cases hd:d=0<;>simp[hd]
 |cons a b=>simp
theorem aa7(ds:List Nat):dv (trimD ds)=dv ds:=by
 induction ds with
 |nil=>rfl
 |cons d t ih=>
  rw[acJ]
  split
  ·rename_i h
   rw[h.1] at ih
   simp[dv,←ih,h.2]
  ·simp[dv,ih]
theorem ajy(ds:List Nat):trimD (ds++[0])=trimD ds:=by
 induction ds with
 |nil=>rfl
 |cons d t ih=>rw[jQ,acJ,acJ,ih]
theorem ag7{ds:List Nat}{d:Nat}(h:d≠0):trimD (ds++[d])=ds++[d]:=by
 induction ds with
 |nil=>simp[trimD,h]
 |cons e t ih=>rw[jQ,acJ,ih];simp
theorem Nrm.trimD(ds:List Nat):Nrm (trimD ds):=by
 induction ds with
 |nil=>simp[Nrm,Sx.trimD]
 |cons d t ih=>
  rw[acJ]
  split
  ·simp[Nrm]
  ·rename_i h
   unfold Nrm at*
   rw[List.getLast?_cons]
   cases ht:(Sx.trimD t).getLast? with
   |none=>
    have:Sx.trimD t=[]:=by simpa using ht
    simp only[Option.getD_none,ne_eq,Option.some.injEq]
    exact fun hd=>h ⟨this,hd⟩
   |some x=>rw[ht] at ih;simpa using ih
theorem abj(ds:List Nat):(trimD ds).length≤ds.length:=by
 induction ds with
 |nil=>simp[trimD]
 |cons d t ih=>
  rw[acJ]
  split
  ·simp
  ·simp;omega
theorem akv(ds:List Nat):trimD ds=ds.take (trimD ds).length:=by
 induction ds with
 |nil=>rfl
 |cons d t ih=>
  rw[acJ]
  split
  ·rfl
  ·simp only[bU,mT];rw[←ih]
theorem DOk.trimD{ds:List Nat}(h:DOk ds):DOk (trimD ds):=by rw[akv];exact h.take _
theorem amR{ds:List Nat}(h:Nrm ds):trimD ds=ds:=by
 rcases qV ds with rfl|⟨l,d,rfl⟩
 ·rfl
 ·rw[qW] at*
  exact ag7 (fun e=>by subst e;simp[Nrm] at h)
theorem afO{ds:List Nat}(h:Nrm ds)(hne:ds≠[]):4294967296^(ds.length-1)≤dv ds:=by
 rcases qV ds with rfl|⟨l,d,rfl⟩
 ·exact absurd rfl hne
 ·rw[qW] at*
  have hd:d≠0:=fun e=>by subst e;simp[Nrm] at h
  rw[ad5]
  simp only[aW,bU,fY,dv]
  have:4294967296^(l.length+(0+1)-1)=4294967296^l.length:=by congr 1
  rw[this]
  have h1:4294967296^l.length*1≤4294967296^l.length*(d+4294967296*0):=dY _ (by omega)
  omega
theorem au2{ds:List Nat}(h:Nrm ds):dv ds=0↔ds=[]:=by
 constructor
 ·intro h0
  by_cases hne:ds=[]
  ·exact hne
  ·have:=afO h hne
   have hp:0<4294967296^(ds.length-1):=dJ (by omega)
   omega
 ·rintro rfl;rfl
theorem acv{a b:List Nat}(ha:DOk a)(hb:Nrm b)(h:a.length<b.length):dv a<dv b:=by
 have h1:=aee ha
 have h2:=afO hb (fun e=>by subst e;simp at h)
 have h3:4294967296^a.length≤4294967296^(b.length-1):=bK (by omega) (by omega)
 omega
theorem axJ: ∀{a b:List Nat},DOk a→DOk b→a.length=b.length→dv a=dv b→a=b
 |[],[],_,_,_,_=>rfl
 |d::t,e::u,ha,hb,hl,h=>by
  have h1:=ha.head
  have h2:=hb.head
  simp only[dv] at h
  have:d=e:=by omega
  subst this
  rw[axJ ha.tail hb.tail (by simpa using hl) (by omega)]
theorem ayE{a b:List Nat}(ha:DOk a)(hb:DOk b)(na:Nrm a)(nb:Nrm b)(h:dv a=dv b):a=b:=by
 refine axJ ha hb ?_ h
 rcases Nat.lt_trichotomy a.length b.length with h'|h'|h'
 ·have:=acv ha nb h';omega
 ·exact h'
 ·have:=acv hb na h';omega
theorem aqi{a b:List Nat}(ha:DOk a)(hb:DOk b)(i:Nat)(hia:i<a.length)(hib:i<b.length)(hl:a.length=b.length)(hs:a.drop (i+1)=b.drop (i+1))(h:a.getD i 0<b.getD i 0):dv a<dv b:=by
 rw[ah7 a (i+1) (by omega),ah7 b (i+1) (by omega),hs,aax,aax]
 have h1:=aee (ha.take i)
 rw[cK,gT (by omega)] at h1
 have h2:4294967296^i*(a.getD i 0+1)≤4294967296^i*b.getD i 0:=dY _ h
 rw[dQ] at h2
 omega
theorem aum{ds:List Nat}{k:Nat}(h:Nrm ds)(hk:dv ds<2^k):32*ds.length≤k+31:=by
 by_cases hne:ds=[]
 ·subst hne;simp
 ·have h1:=afO h hne
  have h2:(4294967296:Nat)^(ds.length-1)=2^(32*(ds.length-1)):=by
   rw[oY]
  rw[h2] at h1
  have h3:2^(32*(ds.length-1))<2^k:=fX h1 hk
  have h4:=(mW (by omega:1<2)).1 h3
  have:0<ds.length:=by cases ds with|nil=>exact absurd rfl hne|cons _ _=>simp
  omega
def dg(x:Nat):List Nat:=if h:x=0 then [] else(x%4294967296)::dg (x/4294967296)
termination_by x
decreasing_by omega
theorem aaE(x:Nat):dv (dg x)=x∧DOk (dg x)∧Nrm (dg x):=by
 induction x using Nat.strongRecOn with
 |_ x ih=>
  unfold dg
  split
  ·rename_i h;subst h;exact⟨rfl, .nil,by simp[Nrm]⟩
  ·rename_i h
   obtain⟨h1,h2,h3⟩:=ih (x/4294967296) (by omega)
   refine⟨by rw[dv,h1];omega, .cons (by omega) h2,?_⟩
   unfold Nrm at*
   rw[List.getLast?_cons]
   cases hl:(dg (x/4294967296)).getLast? with
   |none=>
    have:dg (x/4294967296)=[]:=by simpa using hl
    rw[this] at h1
    simp only[Option.getD_none,ne_eq,Option.some.injEq]
    simp only[dv] at h1
    omega
   |some y=>rw[hl] at h3;simpa using h3
theorem aqp{ds:List Nat}(h:DOk ds)(n:Nrm ds):dg (dv ds)=ds:=ayE (aaE _).2.1 h (aaE _).2.2 n (aaE _).1
theorem ada{ds:List Nat}(h:DOk ds):dg (dv ds)=trimD ds:=by rw[←aa7];exact aqp h.trimD (Nrm.trimD _)
/-! ### writing a digit -/
theorem ae9: ∀(ws:List Nat) (j d:Nat),j<ws.length→dv (ws.set j d)+4294967296^j*ws.getD j 0=dv ws+4294967296^j*d
 |[],j,d,h=>by simp at h
 |w::t,0,d,h=>by simp[dv];omega
 |w::t,j+1,d,h=>by
  have ih:=ae9 t j d (by simpa using h)
  simp only[List.set_cons_succ,dv,kX,dV]
  have h1:4294967296^j*4294967296*t.getD j 0=4294967296*(4294967296^j*t.getD j 0):=by rw[bT (4294967296^j),bR]
  have h2:4294967296^j*4294967296*d=4294967296*(4294967296^j*d):=by rw[bT (4294967296^j),bR]
  rw[h1,h2]
  omega
theorem abd{ws:List Nat}{k d:Nat}(h:k<ws.length):dv ((ws.set k d).take (k+1))=dv (ws.take k)+4294967296^k*d:=by
 rw[fZ (by simpa using h),List.take_set_of_le (aL _),ad5]
 simp[dv,gT (nY h)]
theorem aiI(p x:Nat):p*x=p*(x%4294967296)+p*4294967296*(x/4294967296):=by
 have h:p*x=p*(4294967296*(x/4294967296)+x%4294967296):=by rw[pJ]
 rw[dQ,←bR] at h
 omega
theorem apq{p A E W c a b:Nat}(h:W+p*c=A+E):(W+p*((c+a+b)%4294967296))+(p*4294967296)*((c+a+b)/4294967296)=(A+p*a)+(E+p*b):=by
 have h1:=aiI p (c+a+b)
 rw[dQ,dQ] at h1
 omega
theorem aw4{p A E W bo b a:Nat}(h:W+E=A+p*bo)(hle:bo+b≤a):(W+p*(a-(bo+b)))+(E+p*b)=(A+p*a)+p*4294967296*0:=by
 have h1:p*a=p*(a-(bo+b))+p*bo+p*b:=by
  rw[←dQ,←dQ];congr 1;omega
 omega
theorem asu{p A E W bo b a:Nat}(h:W+E=A+p*bo)(hle:a<bo+b)(hb:bo+b≤a+4294967296):(W+p*(a+4294967296-(bo+b)))+(E+p*b)=(A+p*a)+p*4294967296*1:=by
 have h1:p*a+p*4294967296=p*(a+4294967296-(bo+b))+p*bo+p*b:=by
  rw[←dQ,←dQ,←dQ];congr 1;omega
 omega
theorem ap1{p W W' T c m w:Nat}(hs:W'+p*w=W+p*((c+m+w)%4294967296))(h:W+p*c=T):W'+(p*4294967296)*((c+m+w)/4294967296)=T+p*m:=by
 have h1:=aiI p (c+m+w)
 rw[dQ,dQ] at h1
 omega
end Go.Sx
end
section
namespace Go.Sx
open Go
structure SV where
 a:Option Addr
 n:Nat
 c:Nat
def SV.v(x:SV):Value:= .slice x.a x.n x.c
structure afb (G:Gh) (s:Nat) (x:SV) (es:List Value):Prop where
 len:x.n=es.length
 cap:x.n≤x.c
 mem:es=[]∨ ∃b off cs,x.a=some ⟨b,off,none⟩∧G b=some cs∧ ∀i (h:i<es.length),aaX cs (off+i*s) s=some (aaf es[i])
theorem afb.up'{A G:Gh}{s:Nat}{x:SV}{es:List Value}(h:afb A s x es)(k:GLe A G):afb G s x es:=
 ⟨h.len,h.cap,h.mem.imp id (fun⟨b,off,cs,h1,h2,h3⟩=>⟨b,off,cs,h1,k _ _ h2,h3⟩)⟩
theorem afb.up{A G:Gh}{s:Nat}{x:SV}{es:List Value}(h:afb A s x es)[k:GL A G]:afb G s x es:=h.up' k.le
theorem afb.nil(G:Gh)(s:Nat):afb G s ⟨none,0,0⟩ []:=⟨rfl,aL _, .inl rfl⟩
theorem afb.take{G:Gh}{s:Nat}{x:SV}{es:List Value}(h:afb G s x es)(k:Nat)(hk:k≤es.length):afb G s ⟨x.a,k,x.c⟩ (es.take k):=by
 refine⟨by simp[hk],by show k≤x.c;have:=h.len;have:=h.cap;omega,?_⟩
 rcases h.mem with h0|⟨b,off,cs,h1,h2,h3⟩
 ·left;simp[h0]
 ·right;exact⟨b,off,cs,h1,h2,fun i hi=>by
   simp only[cK] at hi
   rw[h3 i (by omega)];simp⟩
def axh(a:Option Addr)(k:Nat):Option Addr:=a.map (·.add k)
section
variable {P:Program} {C:Ctx} {n:Nat} {fr:Fr} {own own':List Own} {G:Gh} {Φ:Act→World→Prop}
variable {dst:Option Nat} {t t' ty':TypeId} {pos:String} {af:Array Edge} {gd:Option (Nat×Bool)} {x y:Operand} {e s by_:Nat}
theorem ayn{A:Gh}[hT:acN P t e s by_]{k:IntKind}{z:SV}{es:List Value}{i:Int}(hs:afb A s z es)(hx:opv fr x=some (.slice z.a z.n z.c))(hy:opv fr y=some (.int k i))(h0:0≤i)(h1:i<z.n):
  Yd P C fr own G ⟨dst, .indexAddr t x y,ty',pos,af,gd⟩ (.pointer (axh z.a (i.toNat*s))):=by
 rcases hs.mem with h|⟨b,off,cs,ha,hg,hc⟩
 ·have:=hs.len;rw[h] at this;simp at this;omega
 ·rw[ha] at hx
  have:=ahZ (P:=P) (C:=C) (own:=own) (G:=G) (t:=t) (dst:=dst) (ty':=ty') (pos:=pos) (af:=af) (gd:=gd) (by_:=by_) hx hy h0 h1
  rw[ha]
  simpa[axh,acx] using this
theorem axz{A:Gh}[hA:TyA P t s]{z:SV}{es:List Value}{i:Nat}{l:List Value}(hs:afb A s z es)[hl:GL A G](hx:opv fr x=some (.pointer (axh z.a (i*s))))(h1:i<es.length)(he:es[i]? =some (.agg ⟨l⟩)):
  Yd P C fr own G ⟨dst, .load t x,ty',pos,af,gd⟩ (.agg ⟨l⟩):=by
 rcases hs.mem with h|⟨b,off,cs,ha,hg,hc⟩
 ·rw[h] at h1;simp at h1
 ·rw[ha] at hx
  have h2:=hc i h1
  rw[aQ h1] at he
  have he':es[i]= .agg ⟨l⟩:=by simpa using he
  rw[he'] at h2
  exact aka (by simpa[axh,acx] using hx) (hl.le _ _ hg) h2
theorem aCS{A:Gh}[hA:TyS P t]{z:SV}{es:List Value}{i:Nat}{v:Value}(hs:afb A 1 z es)[hl:GL A G](hx:opv fr x=some (.pointer (axh z.a (i*1))))(he:es[i]? =some v)(hv:flat v=true):
  Yd P C fr own G ⟨dst, .load t x,ty',pos,af,gd⟩ v:=by
 obtain⟨h1,he'⟩:=bJ.1 he
 rcases hs.mem with h|⟨b,off,cs,ha,hg,hc⟩
 ·rw[h] at h1;simp at h1
 ·rw[ha] at hx
  have h2:=hc i h1
  rw[he'] at h2
  have hcv:aaf v=[v]:=by cases v<;>first|rfl|(simp[flat] at hv)
  rw[hcv] at h2
  obtain⟨_,h3⟩:=abw _ _ _ _ h2
  have h4:=h3 0 (by omega)
  exact afR (off:=off+i*1) (by simpa[axh,acx] using hx) (hl.le _ _ hg) (by simpa using h4)
end
/-! ### lists of digits -/
def dI(d:Nat):Value:= .int .u32 (d:Int)
structure IsD (G:Gh) (x:SV) (ds:List Nat):Prop where
 ok:DOk ds
 sl:afb G 1 x (ds.map dI)
theorem IsD.len{G:Gh}{x:SV}{ds:List Nat}(h:IsD G x ds):x.n=ds.length:=by simpa using h.sl.len
theorem IsD.up{A G:Gh}{x:SV}{ds:List Nat}(h:IsD A x ds)[k:GL A G]:IsD G x ds:=⟨h.ok,h.sl.up⟩
theorem IsD.nil(G:Gh):IsD G ⟨none,0,0⟩ []:=⟨.nil, .nil G 1⟩
theorem IsD.take{G:Gh}{x:SV}{ds:List Nat}(h:IsD G x ds)(k:Nat)(hk:k≤ds.length):IsD G ⟨x.a,k,x.c⟩ (ds.take k):=
 ⟨h.ok.take k,by rw[gX];exact h.sl.take k (by simpa using hk)⟩
theorem IsD.trim{G:Gh}{x:SV}{ds:List Nat}(h:IsD G x ds):IsD G ⟨x.a,(trimD ds).length,x.c⟩ (trimD ds):=by
 have:=h.take _ (abj ds)
 rwa [←akv] at this
theorem IsD.of_block{G:Gh}{b c k:Nat}{cs:List Value}{ds:List Nat}(ok:DOk ds)(hg:G b=some cs)(hk:k=ds.length)(hc:k≤c)(hcs:cs.take ds.length=ds.map dI):IsD G ⟨some ⟨b,0,none⟩,k,c⟩ ds:=by
 refine⟨ok,by simpa using hk,hc, .inr ⟨b,0,cs,rfl,hg,fun i hi=>?_⟩⟩
 have hi':i<ds.length:=by simpa using hi
 have hl:ds.length≤cs.length:=by
  have:=congrArg List.length hcs
  simp at this;omega
 rw[abG _ _ _ (by omega)]
 congr 1
 have h1:(cs.take ds.length)[i]? =(ds.map dI)[i]? :=by rw[hcs]
 rw[pU,if_pos hi',cN,aQ hi',aQ (by omega)] at h1
 have h2:cs[i]=dI ds[i]:=by simpa using h1
 rw[eY,gR,bQ (by omega),mT,rR,h2,qR]
 rfl
structure IsN (k:Nat) (G:Gh) (x:SV) (v:Nat):Prop where
 d:IsD G x (dg v)
 lt:v<2^k
theorem IsN.up{k:Nat}{A G:Gh}{x:SV}{v:Nat}(h:IsN k A x v)[GL A G]:IsN k G x v:=⟨h.d.up,h.lt⟩
theorem IsN.len{k:Nat}{G:Gh}{x:SV}{v:Nat}(h:IsN k G x v):x.n=(dg v).length:=h.d.len
theorem IsN.mono{k k':Nat}{G:Gh}{x:SV}{v:Nat}(h:IsN k G x v)(hk:v<2^k'):IsN k' G x v:=⟨h.d,hk⟩
section
variable {P:Program} {C:Ctx} {n:Nat} {fr:Fr} {own own':List Own} {G:Gh} {Φ:Act→World→Prop}
variable {dst:Option Nat} {t t' ty':TypeId} {pos:String} {af:Array Edge} {gd:Option (Nat×Bool)} {x y:Operand} {e s by_:Nat}
theorem abR{A:Gh}[hT:acN P t e 1 by_]{k:IntKind}{z:SV}{ds:List Nat}{i:Int}(hs:IsD A z ds)(hx:opv fr x=some (.slice z.a z.n z.c))(hy:opv fr y=some (.int k i))(h0:0≤i)(h1:i<z.n):
  Yd P C fr own G ⟨dst, .indexAddr t x y,ty',pos,af,gd⟩ (.pointer (axh z.a (i.toNat*1))):=ayn hs.sl hx hy h0 h1
theorem abS{A:Gh}[hA:TyS P t]{z:SV}{ds:List Nat}{i:Nat}(hs:IsD A z ds)[hl:GL A G](hx:opv fr x=some (.pointer (axh z.a (i*1))))(h1:i<ds.length):
  Yd P C fr own G ⟨dst, .load t x,ty',pos,af,gd⟩ (.int .u32 ((ds.getD i 0:Nat):Int)):=
 aCS hs.sl hx (by rw[cN,aQ h1,aX,aQ h1];rfl) rfl
theorem aBb{A:Gh}{z:SV}{ds:List Nat}(h:IsD A z ds)[hl:GL A G]:Src P C own G 1 z.n (.slice z.a z.n z.c) (ds.map dI):=by
 intro w hw
 by_cases hne:ds=[]
 ·rw[h.len]
  subst hne
  exact aeu w hw
 rcases h.sl.mem with h0|⟨b,off,cs,ha,hg,hc⟩
 ·exact absurd (by simpa using h0) hne
 ·rw[ha]
  have hn:=h.len
  refine axu (hl.le _ _ hg) ?_ w hw
  rw[gR]
  have hel: ∀i,i<ds.length→cs[off+i]? =some (dI (ds.getD i 0)):=fun i hi=>by
   have h1:=hc i (by simpa using hi)
   obtain⟨_,h2⟩:=abw _ _ _ _ h1
   have h3:=h2 0 (by omega)
   rw[gR,dT] at h3
   rw[h3,qR,aX,aQ hi]
   rfl
  by_cases h00:ds.length=0
  ·exact absurd h00 (fun e=>hne (bY e))
  ·have hlast:=hel (ds.length-1) (by omega)
   have hle:off+ds.length≤cs.length:=by
    have:=(bJ.1 hlast).1
    omega
   rw[hn,abG _ _ _ hle]
   congr 1
   apply kN
   intro i
   rw[pU]
   split
   ·rename_i hi
    rw[pT,hel i hi,cN,aX,aQ hi]
    rfl
   ·rename_i hi
    rw[dX (by simpa using hi)]
/-! rows of digits of the call's own -/
theorem adK(n:Nat):abC (.int .u32 0) n=(List.replicate n 0).map dI:=by
 unfold abC
 induction n with
 |zero=>rfl
 |succ n ih=>rw[lZ,oZ,ih];rfl
theorem abh[hT:acN P t e s by_]{k:IntKind}{b len cap:Nat}{i:Int}(hx:opv fr x=some (.slice (some ⟨b,0,none⟩) len cap))(hy:opv fr y=some (.int k i))(h0:0≤i)(h1:i<len):
  Yd P C fr own G ⟨dst, .indexAddr t x y,ty',pos,af,gd⟩ (.pointer (some ⟨b,i.toNat*s,none⟩)):=by
 have:=ahZ (P:=P) (C:=C) (own:=own) (G:=G) (t:=t) (dst:=dst) (ty':=ty') (pos:=pos) (af:=af) (gd:=gd) (by_:=by_) hx hy h0 h1
 rwa [eY] at this
theorem afL[hA:TyS P t]{b i:Nat}{ws:List Nat}{ty:TypeId}{lo:Bool}(hx:opv fr x=some (.pointer (some ⟨b,i*1,none⟩)))[ho:OAt own b (ws.map dI) ty lo](h1:i<ws.length):
  Yd P C fr own G ⟨dst, .load t x,ty',pos,af,gd⟩ (.int .u32 ((ws.getD i 0:Nat):Int)):=by
 rw[gR] at hx
 refine aaD hx ?_
 rw[cN,aQ h1,aX,aQ h1]
 rfl
theorem aa6{b i d:Nat}{ws:List Nat}{ty:TypeId}{lo:Bool}{v:Int}[hs:TyS P t](hx:opv fr x=some (.pointer (some ⟨b,i*1,none⟩)))(hy:opv fr y=some (.int .u32 v))(hv:v=(d:Int))
  (hu:agl own b (ws.map dI) ty lo ((ws.set i d).map dI) own')(hi:i<ws.length)(hd:aaO n dst=true)(h:St C n (put fr dst undef) own' G Φ):
  Ch P C n fr own G ⟨dst, .store t x y,ty',pos,af,gd⟩ Φ:=by
 rw[gR] at hx
 have hu':agl own b (ws.map dI) ty lo ((ws.map dI).set i (.int .u32 v)) own':=by
  rw[hv,←show dI d= .int .u32 (d:Int) from rfl,←jN]
  exact hu
 exact ado hx hy hu' (by simpa using hi) rfl hd h
/-! arithmetic on ints, bounds as inequalities -/
theorem aar{p q:Int}(hx:opv fr x=some (.int .i64 p))(hy:opv fr y=some (.int .i64 q))(h0: -9223372036854775808≤p+q:=by omega)(h1:p+q≤9223372036854775807:=by omega):Yd P C fr own G ⟨dst, .binOp .add t x y t',ty',pos,af,gd⟩ (.int .i64 (p+q)):=arz hx hy ⟨h0,h1⟩
theorem aa8{p q:Int}(hx:opv fr x=some (.int .i64 p))(hy:opv fr y=some (.int .i64 q))(h0: -9223372036854775808≤p-q:=by omega)(h1:p-q≤9223372036854775807:=by omega):Yd P C fr own G ⟨dst, .binOp .sub t x y t',ty',pos,af,gd⟩ (.int .i64 (p-q)):=ary hx hy ⟨h0,h1⟩
theorem aqa{p q:Int}(hx:opv fr x=some (.int .i64 p))(hy:opv fr y=some (.int .i64 q))(h0: -9223372036854775808≤p*q)(h1:p*q≤9223372036854775807):Yd P C fr own G ⟨dst, .binOp .mul t x y t',ty',pos,af,gd⟩ (.int .i64 (p*q)):=at4 hx hy ⟨h0,h1⟩
theorem adZ{p q:Int}(hx:opv fr x=some (.int .u64 p))(hy:opv fr y=some (.int .u64 q))(h0:0≤p+q:=by omega)(h1:p+q≤18446744073709551615:=by omega):Yd P C fr own G ⟨dst, .binOp .add t x y t',ty',pos,af,gd⟩ (.int .u64 (p+q)):=arz hx hy ⟨h0,h1⟩
theorem atx{p q:Int}(hx:opv fr x=some (.int .u64 p))(hy:opv fr y=some (.int .u64 q))(h0:0≤p-q)(h1:p-q≤18446744073709551615):Yd P C fr own G ⟨dst, .binOp .sub t x y t',ty',pos,af,gd⟩ (.int .u64 (p-q)):=ary hx hy ⟨h0,h1⟩
theorem aot{p q:Int}(hx:opv fr x=some (.int .u64 p))(hy:opv fr y=some (.int .u64 q))(h0:0≤p*q)(h1:p*q≤18446744073709551615):Yd P C fr own G ⟨dst, .binOp .mul t x y t',ty',pos,af,gd⟩ (.int .u64 (p*q)):=at4 hx hy ⟨h0,h1⟩
theorem ads{k k':IntKind}{p q:Int}(hx:opv fr x=some (.int k p))(hy:opv fr y=some (.int k' q))(h0:0≤q):Yd P C fr own G ⟨dst, .binOp .shr t x y t',ty',pos,af,gd⟩ (.int k (p.fdiv (2^min q.toNat k.bits))):=by
 intro a w hf hh
 simp only[execOp,aab hf hx,aab hf hy]
 have h1:(eqGuard .shr t x y (.int k p) (.int k' q)).run P w= .ok () w:=rfl
 have h2:(binOp .shr t (.int k p) (.int k' q)).run P w= .ok (.int k (p.fdiv (2^min q.toNat k.bits))) w:=by
  simp[binOp,Op.shift,Int.not_lt.2 h0,aap]
 exact aam (by rw[aaa h1];exact h2)
theorem aiD{k k':IntKind}{p q:Int}(hx:opv fr x=some (.int k p))(hy:opv fr y=some (.int k' q))(h0:0≤q):Yd P C fr own G ⟨dst, .binOp .shl t x y t',ty',pos,af,gd⟩ (.int k (k.wrap (p*2^min q.toNat k.bits))):=by
 intro a w hf hh
 simp only[execOp,aab hf hx,aab hf hy]
 have h1:(eqGuard .shl t x y (.int k p) (.int k' q)).run P w= .ok () w:=rfl
 have h2:(binOp .shl t (.int k p) (.int k' q)).run P w= .ok (.int k (k.wrap (p*2^min q.toNat k.bits))) w:=by
  simp[binOp,Op.shift,Int.not_lt.2 h0,aap]
 exact aam (by rw[aaa h1];exact h2)
theorem aaL{k:IntKind}{p:Int}[hs:TyI P t k][hd:TyI P t' .u64](hx:opv fr x=some (.int k p))(h0:0≤p:=by omega)(h1:p≤18446744073709551615:=by omega):Yd P C fr own G ⟨dst, .convert t t' x,ty',pos,af,gd⟩ (.int .u64 p):=alv hx ⟨h0,h1⟩
theorem ao9{k:IntKind}{p:Int}[hs:TyI P t k][hd:TyI P t' .i64](hx:opv fr x=some (.int k p))(h0: -9223372036854775808≤p:=by omega)(h1:p≤9223372036854775807:=by omega):Yd P C fr own G ⟨dst, .convert t t' x,ty',pos,af,gd⟩ (.int .i64 p):=alv hx ⟨h0,h1⟩
theorem acy(p:Int):IntKind.u32.wrap p=p%4294967296:=by simp[IntKind.wrap,IntKind.bits,IntKind.signed]
theorem abQ(p:Int):IntKind.u64.wrap p=p%18446744073709551616:=by simp[IntKind.wrap,IntKind.bits,IntKind.signed]
theorem abf{k:IntKind}{p:Int}[hs:TyI P t k][hd:TyI P t' .u32](hx:opv fr x=some (.int k p)):Yd P C fr own G ⟨dst, .convert t t' x,ty',pos,af,gd⟩ (.int .u32 (p%4294967296)):=by
 have:=akY (P:=P) (C:=C) (own:=own) (G:=G) (dst:=dst) (ty':=ty') (pos:=pos) (af:=af) (gd:=gd) (t:=t) (t':=t') hx
 rwa [acy] at this
theorem ahk{k:IntKind}{p q:Int}(hx:opv fr x=some (.int k p))(hy:opv fr y=some (.int k q))(h0:0≤p)(h:q≠0):Yd P C fr own G ⟨dst, .binOp .rem t x y t',ty',pos,af,gd⟩ (.int k (p%q)):=by
 have:=axr (P:=P) (C:=C) (own:=own) (G:=G) (dst:=dst) (ty':=ty') (pos:=pos) (af:=af) (gd:=gd) (t:=t) (t':=t') hx hy h
 rwa [Int.tmod_eq_emod_of_nonneg h0] at this
theorem ahr{p q:Int}(hx:opv fr x=some (.int .u64 p))(hy:opv fr y=some (.int .u64 q))(h0:0≤p)(h1:p≤18446744073709551615)(h:0<q):Yd P C fr own G ⟨dst, .binOp .quo t x y t',ty',pos,af,gd⟩ (.int .u64 (p/q)):=by
 have:=aso (P:=P) (C:=C) (own:=own) (G:=G) (dst:=dst) (ty':=ty') (pos:=pos) (af:=af) (gd:=gd) (t:=t) (t':=t') hx hy (by omega)
 rw[Int.tdiv_eq_ediv_of_nonneg h0,abQ,Int.emod_eq_of_lt (Int.ediv_nonneg h0 (by omega)) (by have:=Int.ediv_le_self q h0;omega)] at this
 exact this
theorem abv{Q:Exit→Act→World→Prop}{p:Prop}{inst:Decidable p}{c:Operand}{x y:Code}(hc:opv fr c=some (.bool (@decide p inst)))(h2: ¬p→St C n fr own G (y.wp P Q))(h1:p→St C n fr own G (x.wp P Q)):
  St C n fr own G ((Code.cond c x y).wp P Q):=aaG hc h1 h2
end
end Go.Sx
end
section
namespace Go.Sx
open Go Go.Proofs Tryz
theorem aqN{ds:List Nat}{k:Nat}(hk:k<ds.length)(h:trimD ds=trimD (ds.take (k+1)))(h0:ds.getD k 0=0):trimD ds=trimD (ds.take k):=by
 rw[h,fZ hk]
 have:ds[k]=0:=by rw[aX,aQ hk] at h0;simpa using h0
 rw[this,ajy]
theorem aqw{ds:List Nat}{k:Nat}(hk:k<ds.length)(h:trimD ds=trimD (ds.take (k+1)))(h0:ds.getD k 0≠0):trimD ds=ds.take (k+1):=by
 rw[h,fZ hk]
 have:ds[k]≠0:=by rw[aX,aQ hk] at h0;simpa using h0
 exact ag7 this
theorem aa0{A G:Gh}{x:SV}{ds:List Nat}(hx:IsD A x ds)[GL A G](hb:ds.length≤1125899906842624):Fn prog 215 [x.v] G (fun v _=>v= .slice x.a (trimD ds).length x.c):=by
 have hlen:=hx.len
 have hcap:=hx.sl.cap
 refine Fn.intro func215 J J ntmps215 rfl ?_
 intro C _ _
 refine sR<|sa J J<|zE<|aaj<|aat<|?_
 refine ab8 (X:=Nat) (fun k=>[(0, .slice x.a k x.c)]) (fun _=>[]) (fun k _=>k≤ds.length∧trimD ds=trimD (ds.take k)) (fun k=>k) ds.length ⟨aL _,by simp⟩ (hlen▸ .cons rfl .nil) rfl ?_
 rintro k Gx _ ⟨hk,ht⟩
 refine aaj<|sR<|sm J J<|ac9 J J<|sy (agE J J) rfl<|sm J J<|?_
 refine ab1 6 rfl (fun hg=>?_) (fun hg=>?_)
 ·have hk1:k-1<ds.length:=by omega
  have hkt:((k:Int)-1).toNat=k-1:=by omega
  have hk2:k=k-1+1:=by omega
  refine syg J J (aaR rfl) rfl<|syg J J (aaR rfl) rfl<|syg J J (aeM rfl) rfl<|syg J J (aa8 J J) rfl<|?_
  refine syg J J (abR (z:=⟨x.a,k,x.c⟩) (hx.take k hk) J J (by omega) (by show _<(k:Int);omega)) rfl<|syg J J (abS hx rfl (by omega)) rfl<|syg J J (abV J J) rfl<|sy (acW J J) rfl<|zE<|?_
  rw[hkt]
  refine abv rfl (fun hc=>?_) (fun hc=>?_) -- slot 14
  ·refine aby<|abK<|abK<|aas<|sR<|sm J J<|sa J J<|zE<|aaK<|?_
   have hs:=aqw hk1 (hk2▸ht) (fun e=>hc (by rw[e];rfl))
   refine zD (.tmp rfl .nil) ?_
   rw[hs,←hk2]
   simp[abP,hk]
  refine zK<|aat<|aal<|sm J J<|sm J J<|ac9 J J<|sy (aa8 J J) rfl<|sy (adE J J (by omega) (by omega)) rfl<|?_
  refine sa J J<|zE<|?_
  exact aa3 (k-1) ⟨by omega,aqN hk1 (hk2▸ht) (by omega)⟩ (by omega) (.cons (by rw[←hkt];rfl) .nil) rfl
 refine ss J J J J<|ss J J J J<|ss J J J J<|ss J J J J<|ss J J J J<|ss J J J J<|?_
 refine ss J J J J<|sy (abr J J) rfl<|zE<|agJ rfl<|aby<|abK<|abK<|aas<|sR<|sm J J<|sa J J<|zE<|aaK<|?_
 have hk0:k=0:=by omega
 subst hk0
 refine zD (.tmp rfl .nil) ?_
 rw[ht]
 rfl
/-! ### Normal, Clone, Norm -/
theorem aqB{A G:Gh}{x:SV}{ds:List Nat}(hx:IsD A x ds)[GL A G](hb:ds.length≤1125899906842624):Fn prog 296 [x.v] G (fun v _=>v= .bool (decide (Nrm ds))):=by
 have hlen:=hx.len
 refine Fn.intro func296 J J ntmps296 rfl ?_
 intro C _ _
 refine sR<|sa J J<|zE<|sR<|sm J J<|ac9 J J<|sy (abV J J) rfl<|sm J J<|?_
 refine ab1 6 rfl (fun hg=>?_) (fun hg=>?_)
 ·refine ss J J J J<|ss J J J J<|ss J J J J<|ss J J J J<|ss J J J J<|ss J J J J<|ss J J J J<|sy (acW J J) rfl<|sa J J<|?_
  refine zE<|aaK<|?_
  refine zD (.tmp rfl .nil) ?_
  have:ds=[]:=bY (by omega)
  subst this
  simp[abP,Nrm]
 have hne:0<ds.length:=by omega
 have hkt:((x.n:Int)-1).toNat=ds.length-1:=by omega
 refine syg J J (aaR rfl) rfl<|syg J J (aaR rfl) rfl<|syg J J (aeM rfl) rfl<|syg J J (aa8 J J) rfl<|syg J J (abR hx J J (by omega) (by omega)) rfl<|?_
 refine syg J J (abS hx rfl (by omega)) rfl<|syg J J (ahI J J) rfl<|sy (abr J J) rfl<|sa J J<|zE<|aaK<|?_
 refine zD (.tmp rfl .nil) ?_
 rw[hkt]
 simp only[abP,Value.bool.injEq,decide_eq_decide,Nrm,kV,aX,aQ (show ds.length-1<ds.length by omega),lK,ne_eq,Option.some.injEq]
 exact not_congr (by omega)
theorem ayX(ds:List Nat): ∀v∈ds.map dI,flat v=true:=fun v hv=>by
 obtain⟨d,_,rfl⟩:=bW.1 hv;rfl
theorem am9{A G:Gh}{x:SV}{ds:List Nat}(hx:IsD A x ds)[GL A G](hb:ds.length≤1125899906842):Fn prog 256 [x.v] G (fun v G'=> ∃z:SV,v=z.v∧IsD G' z ds):=by
 have hlen:=hx.len
 refine Fn.intro func256 J J ntmps256 rfl ?_
 intro C _ _
 refine sR<|sa J J<|zE<|aaj<|sR<|sm J J<|sy (axg J J) rfl<|zE<|?_
 refine auE rfl (fun hc=>?_) (fun hc=>?_)
 ·refine sR<|sa J J<|zE<|aaK<|?_
  refine zD (.tmp rfl .nil) ⟨⟨none,0,0⟩,rfl,?_⟩
  rcases hx.sl.mem with h|⟨b,off,cs,ha,_⟩
  ·have:ds=[]:=by simpa using h
   subst this;exact .nil _
  ·rw[ha] at hc;cases hc
 refine zK<|sR<|?_
 refine sc (aml rfl ?_)
 intro b1
 refine sm J J<|?_
 refine sc (agr (xs:=[]) (rest:=[]) (ys:=ds.map dI) J J (.hd ..) J J (aL _) (aBb hx) (by simp[hlen]) (ayX ds) (by decide) (by omega) J J ?_)
 intro b cap rest h1 h2
 refine sa J J<|zE<|acb b (.hd ..) (fun G' _ hgb=>?_)
 refine aaK<|?_
 refine zD (.tmp rfl .nil) ⟨⟨some ⟨b,0,none⟩,x.n,cap⟩,by simp[abP,SV.v],?_⟩
 exact .of_block hx.ok hgb.h hlen (by omega) (by simp)
theorem ak9{A G:Gh}{x:SV}{ds:List Nat}{k:Nat}(hx:IsD A x ds)[GL A G](hk:dv ds<2^k)(hb:ds.length≤1125899906842):Fn prog 202 [x.v] G (fun v G'=> ∃z:SV,v=z.v∧IsN k G' z (dv ds)):=by
 have htl:=abj ds
 refine Fn.intro func202 J J ntmps202 rfl ?_
 intro C _ _
 refine sR<|sa J J<|zE<|sR<|sm J J<|?_
 refine sc (zC J J (aa0 hx (by omega)) rfl ?_)
 rintro _ G1 _ rfl
 refine sc (zC J J (am9 hx.trim (by omega)) rfl ?_)
 rintro _ G2 _ ⟨z,rfl,hz⟩
 refine sa J J<|zE<|aaK<|?_
 refine zD (.tmp rfl .nil) ⟨z,rfl,?_⟩
 exact⟨by rw[ada hx.ok];exact hz,hk⟩
end Go.Sx
end
section
namespace Go.Proofs
open Go.Shelf
def Tryz.lays128_ren:Go.Shelf.Ren:=⟨fun|128=>293|n=>n,fun|51=>256|3=>3|4=>4|46=>257|5=>5|9=>9|n=>n,fun|n=>n⟩
def Tryz.lays125_ren:Go.Shelf.Ren:=⟨fun|125=>276|128=>293|129=>314|n=>n,fun|46=>257|3=>3|51=>256|53=>152|4=>4|5=>5|9=>9|n=>n,fun|n=>n⟩
def Tryz.lays133_ren:Go.Shelf.Ren:=⟨fun|133=>253|128=>293|n=>n,fun|51=>256|3=>3|4=>4|46=>257|5=>5|9=>9|n=>n,fun|n=>n⟩
theorem Tryz.lays133:Go.Proofs.Lays.n133 Tryz.prog Tryz.lays133_ren:={
 mixed:=by kernel_rfl
 f128:=Tryz.func293.trans (congrArg some (by kernel_rfl))
 f133:=Tryz.func253.trans (congrArg some (by kernel_rfl))
 t3:=Tryz.underlying3
 a3:=Tryz.isAgg3
 z3:=Tryz.sizeOf3
 v3:=Tryz.zeroValue3
 t4:=Tryz.underlying4
 a4:=Tryz.isAgg4
 z4:=Tryz.sizeOf4
 v4:=Tryz.zeroValue4
 t5:=Tryz.underlying5
 a5:=Tryz.isAgg5
 z5:=Tryz.sizeOf5
 v5:=Tryz.zeroValue5
 t9:=Tryz.underlying9
 a9:=Tryz.isAgg9
 z9:=Tryz.sizeOf9
 v9:=Tryz.zeroValue9
 t46:=Tryz.underlying257
 a46:=Tryz.isAgg257
 z46:=Tryz.sizeOf257
 v46:=Tryz.zeroValue257
 t51:=Tryz.underlying256
 a51:=Tryz.isAgg256
 z51:=Tryz.sizeOf256
 v51:=Tryz.zeroValue256}
theorem Tryz.bits_LeadingZeros32(x:Int)(w:World)(h0:0≤x)(h1:x≤4294967295):
  Calls Tryz.prog 253 #[.int .u32 x] w fun e w'=>e= .returned (.int .i64 (32-(Lib.bitLen x.toNat:Int)))∧w'=w:=Any.bits_LeadingZeros32 Tryz.lays133 x w h0 h1
def Tryz.lays129_ren:Go.Shelf.Ren:=⟨fun|129=>314|n=>n,fun|53=>152|3=>3|4=>4|46=>257|5=>5|9=>9|n=>n,fun|n=>n⟩
def Tryz.lays264_ren:Go.Shelf.Ren:=⟨fun|264=>211|n=>n,fun|53=>152|46=>257|n=>n,fun|n=>n⟩
theorem Tryz.lays264:Go.Proofs.Lays.n264 Tryz.prog Tryz.lays264_ren:={
 mixed:=by kernel_rfl
 f264:=Tryz.func211.trans (congrArg some (by kernel_rfl))
 t46:=Tryz.underlying257
 a46:=Tryz.isAgg257
 z46:=Tryz.sizeOf257
 v46:=Tryz.zeroValue257
 t53:=Tryz.underlying152
 a53:=Tryz.isAgg152
 z53:=Tryz.sizeOf152
 v53:=Tryz.zeroValue152}
open Go.RowKit Go.Lib in
theorem Tryz.bits_Mul64(x y:Nat)(hx:x<18446744073709551616)(hy:y<18446744073709551616)(w:World):
  Calls Tryz.prog 211 #[.int .u64 x, .int .u64 y] w fun e w'=>e= .returned (.tuple #[.int .u64 ((x*y/18446744073709551616:Nat):Int), .int .u64 ((x*y%18446744073709551616:Nat):Int)])∧w'=w:=Any.bits_Mul64 Tryz.lays264 x y hx hy w
end Go.Proofs
end
