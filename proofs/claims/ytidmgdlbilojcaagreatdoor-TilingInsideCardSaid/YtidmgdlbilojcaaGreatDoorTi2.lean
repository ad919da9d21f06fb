import Derived.Test.YtidmgdlbilojcaaGreatDoorTi1
import Derived.Scope
import Derived.Laws.Externs
import Derived.Lib.Overlaps
set_option linter.unusedSimpArgs false
set_option maxRecDepth 100000
set_option linter.unusedVariables false
section
namespace Go.Sx
open Go
theorem aEJ{P:Program}{t:TypeId}{d:TypeDesc}(h:P.underlying t=some d)(w:World):(underlying t).run P w= .ok d w:=by
 simp[underlying,program,Sem.run_bind,Sem.run,h,run_pure]
class TyB (P:Program) (t:TypeId):Prop where u: ∀w,(underlying t).run P w= .ok .bool w
class TyP (P:Program) (t:TypeId):Prop where u: ∃e,∀w,(underlying t).run P w= .ok (.pointer e) w
class aF8 (P:Program) (t:TypeId):Prop where u: ∃ms,∀w,(underlying t).run P w= .ok (.interface ms) w
class aFJ (P:Program) (t:TypeId) (f:Nat) (off ft:outParam Nat):Prop where
 u: ∃fs fd,(∀w,(underlying t).run P w= .ok (.struct fs) w)∧fs[f]? =some fd∧fd.offset=off∧fd.type=ft
class TyN (P:Program) (t:TypeId):Prop where
 un: ∃e,P.underlying t=some (.slice e)
section
variable {P:Program} {C:Ctx} {n:Nat} {fr:Fr} {own own':List Own} {G:Gh} {Φ:Act→World→Prop}
variable {dst:Option Nat} {t t' ty':TypeId} {pos:String} {af:Array Edge} {gd:Option (Nat×Bool)} {x y:Operand}
theorem acv{w:World}{p q:Value}{b:Bool}(h:(Op.equalIn (9999+1) t p q).run P w= .ok b w):(Op.equal t p q).run P w= .ok b w:=h
theorem aCS[hT:TyB P t]{p q:Bool}(hx:opv fr x=some (.bool p))(hy:opv fr y=some (.bool q)):Yd P C fr own G ⟨dst, .binOp .eql t x y t',ty',pos,af,gd⟩ (.bool (p==q)):=by
 intro a w hf hh
 simp only[execOp,aad hf hx,aad hf hy]
 have h1:(Op.equal t (.bool p) (.bool q)).run P w= .ok (p==q) w:=acv (by unfold Op.equalIn;rw[aaa (hT.u w)];rfl)
 have h2:(eqGuard .eql t x y (.bool p) (.bool q)).run P w= .ok () w:=rfl
 have h3:(binOp .eql t (.bool p) (.bool q)).run P w= .ok (.bool (p==q)) w:=by simp only[binOp];rw[aaa h1];rfl
 exact aap (by rw[aaa h2];exact h3)
theorem aEd[hT:TyB P t]{p q:Bool}(hx:opv fr x=some (.bool p))(hy:opv fr y=some (.bool q)):Yd P C fr own G ⟨dst, .binOp .neq t x y t',ty',pos,af,gd⟩ (.bool (!(p==q))):=by
 intro a w hf hh
 simp only[execOp,aad hf hx,aad hf hy]
 have h1:(Op.equal t (.bool p) (.bool q)).run P w= .ok (p==q) w:=acv (by unfold Op.equalIn;rw[aaa (hT.u w)];rfl)
 have h2:(eqGuard .neq t x y (.bool p) (.bool q)).run P w= .ok () w:=rfl
 have h3:(binOp .neq t (.bool p) (.bool q)).run P w= .ok (.bool (!(p==q))) w:=by simp only[binOp];rw[aaa h1];rfl
 exact aap (by rw[aaa h2];exact h3)
theorem aqM[hT:TyP P t]{p:Option Addr}(hx:opv fr x=some (.pointer p))(hy:opv fr y=some (.pointer none)):Yd P C fr own G ⟨dst, .binOp .eql t x y t',ty',pos,af,gd⟩ (.bool p.isNone):=by
 obtain⟨e,he⟩:=hT.u
 intro a w hf hh
 simp only[execOp,aad hf hx,aad hf hy]
 have h1:(Op.equal t (.pointer p) (.pointer none)).run P w= .ok p.isNone w:=acv (by unfold Op.equalIn;rw[aaa (he w)];cases p<;>rfl)
 have h2:(eqGuard .eql t x y (.pointer p) (.pointer none)).run P w= .ok () w:=by cases p<;>rfl
 have h3:(binOp .eql t (.pointer p) (.pointer none)).run P w= .ok (.bool p.isNone) w:=by cases p<;>(simp only[binOp];rw[aaa h1];rfl)
 exact aap (by rw[aaa h2];exact h3)
theorem apy[hT:TyP P t]{p:Option Addr}(hx:opv fr x=some (.pointer p))(hy:opv fr y=some (.pointer none)):Yd P C fr own G ⟨dst, .binOp .neq t x y t',ty',pos,af,gd⟩ (.bool (!p.isNone)):=by
 obtain⟨e,he⟩:=hT.u
 intro a w hf hh
 simp only[execOp,aad hf hx,aad hf hy]
 have h1:(Op.equal t (.pointer p) (.pointer none)).run P w= .ok p.isNone w:=acv (by unfold Op.equalIn;rw[aaa (he w)];cases p<;>rfl)
 have h2:(eqGuard .neq t x y (.pointer p) (.pointer none)).run P w= .ok () w:=by cases p<;>rfl
 have h3:(binOp .neq t (.pointer p) (.pointer none)).run P w= .ok (.bool (!p.isNone)) w:=by cases p<;>(simp only[binOp];rw[aaa h1];rfl)
 exact aap (by rw[aaa h2];exact h3)
theorem azy{v:Value}[hT:aF8 P t](hv:v= .nilIface∨ ∃k u,v= .iface k u)(hx:opv fr x=some v):
  Yd P C fr own G ⟨dst, .binOp .eql t x (.const .nilIface) t',ty',pos,af,gd⟩ (.bool (match v with| .nilIface=>true|_=>false)):=by
 obtain⟨e,he⟩:=hT.u
 intro a w hf hh
 simp only[execOp,aad hf hx,show a.eval (.const .nilIface)= .nilIface from rfl]
 rcases hv with rfl|⟨k,u,rfl⟩
 ·have h1:(Op.equal t .nilIface .nilIface).run P w= .ok true w:=acv (by unfold Op.equalIn;rw[aaa (he w)];rfl)
  have h2:(eqGuard .eql t x (.const .nilIface) .nilIface .nilIface).run P w= .ok () w:=by cases x<;>rfl
  exact aap (by rw[aaa h2];simp only[binOp];rw[aaa h1];rfl)
 ·have h1:(Op.equal t (.iface k u) .nilIface).run P w= .ok false w:=acv (by unfold Op.equalIn;rw[aaa (he w)];rfl)
  exact aap (by rw[aaa (a:=()) (w':=w) rfl];simp only[binOp];rw[aaa h1];rfl)
theorem azi{v:Value}[hT:aF8 P t](hv:v= .nilIface∨ ∃k u,v= .iface k u)(hx:opv fr x=some v):
  Yd P C fr own G ⟨dst, .binOp .neq t x (.const .nilIface) t',ty',pos,af,gd⟩ (.bool (match v with| .nilIface=>false|_=>true)):=by
 obtain⟨e,he⟩:=hT.u
 intro a w hf hh
 simp only[execOp,aad hf hx,show a.eval (.const .nilIface)= .nilIface from rfl]
 rcases hv with rfl|⟨k,u,rfl⟩
 ·have h1:(Op.equal t .nilIface .nilIface).run P w= .ok true w:=acv (by unfold Op.equalIn;rw[aaa (he w)];rfl)
  have h2:(eqGuard .neq t x (.const .nilIface) .nilIface .nilIface).run P w= .ok () w:=by cases x<;>rfl
  exact aap (by rw[aaa h2];simp only[binOp];rw[aaa h1];rfl)
 ·have h1:(Op.equal t (.iface k u) .nilIface).run P w= .ok false w:=acv (by unfold Op.equalIn;rw[aaa (he w)];rfl)
  exact aap (by rw[aaa (a:=()) (w':=w) rfl];simp only[binOp];rw[aaa h1];rfl)
theorem avq{cs l:List Value}{f off ft k:Nat}[hF:aFJ P t f off ft][hA:TyA P ft k](hx:opv fr x=some (.agg ⟨cs⟩))(hl:aa1 cs off k=some l):Yd P C fr own G ⟨dst, .field t x f,ty',pos,af,gd⟩ (.agg ⟨l⟩):=by
 obtain⟨fs,fd,h1,h2,h3,h4⟩:=hF.u
 intro a w hf hh
 simp only[execOp,aad hf hx]
 have:(Instr.field t (.agg ⟨cs⟩) f).run P w= .ok (.agg ⟨l⟩) w:=by
  unfold Instr.field
  rw[aaa (h1 w)]
  simp only[h2,h3,h4,asAgg]
  rw[aaa (run_pure _ _ _)]
  unfold part
  rw[aaa (hA.agg w)]
  simp only[if_true]
  rw[aaa (hA.siz w)]
  obtain⟨k1,k2⟩:=abK _ _ _ _ hl
  have:(⟨cs⟩:Array Value).extract off (off+k)=⟨l⟩:=by
   apply Array.ext'
   rw[Array.toList_extract]
   apply jM
   intro i
   rw[List.extract_eq_take_drop,qL]
   split
   ·rw[oT];exact k2 i (by omega)
   ·exact(cN (show l.length≤i by omega)).symm
  rw[this];rfl
 exact aap this
theorem asW{cs:List Value}{f off ft:Nat}{v:Value}[hF:aFJ P t f off ft][hA:TyS P ft](hx:opv fr x=some (.agg ⟨cs⟩))(hl:cs[off]? =some v):Yd P C fr own G ⟨dst, .field t x f,ty',pos,af,gd⟩ v:=by
 obtain⟨fs,fd,h1,h2,h3,h4⟩:=hF.u
 intro a w hf hh
 simp only[execOp,aad hf hx]
 have:(Instr.field t (.agg ⟨cs⟩) f).run P w= .ok v w:=by
  unfold Instr.field
  rw[aaa (h1 w)]
  simp only[h2,h3,h4,asAgg]
  rw[aaa (run_pure _ _ _)]
  unfold part
  rw[aaa (hA.agg w)]
  have:(⟨cs⟩:Array Value)[off]? =some v:=by simpa using hl
  simp only[jQ,if_false,this]
  rfl
 exact aap this
class aGQ (P:Program) (t:TypeId) (offs:outParam (List (Nat×Nat))):Prop where
 u: ∃fs:Array Field,(∀w,(underlying t).run P w= .ok (.struct fs) w)∧(∀w,(fs.mapM (m:=Sem) fun f=>do pure (f.offset,←sizeOf f.type)).run P w= .ok ⟨offs⟩ w)
def bld(fr:Fr)(offs:List (Nat×Nat)):List Value→List (Nat×Operand)→Option (List Value)
 |cs,[]=>some cs
 |cs,(i,x)::r=>match offs[i]?,opv fr x with
  |some (off,k),some v=>if(aag v).length=k∧off+k≤cs.length then bld fr offs (ovw cs off (aag v)) r else none
  |_,_=>none
theorem alY: ∀(vs:List Value) (cs:Array Value) (off j:Nat),(vs.zipIdx j).foldl (fun cs (c,j)=>cs.setIfInBounds (off+j) c) cs=⟨ovw cs.toList (off+j) vs⟩
 |[],cs,off,j=>rfl
 |v::vs,cs,off,j=>by
  simp only[List.zipIdx_cons,lX]
  rw[alY vs _ off (j+1)]
  simp[ovw,jU]
theorem aqh{a:Act}(hf:aoO fr a)(offs:List (Nat×Nat)): ∀(ps:List (Nat×Operand)) (cs out:List Value),bld fr offs cs ps=some out→
  Instr.fill ((⟨offs⟩:Array (Nat×Nat))[·]?) ⟨cs⟩ (ps.map fun(i,x)=>(i,a.eval x))=some ⟨out⟩
 |[],cs,out,h=>by simp only[bld] at h;cases h;rfl
 |(i,x)::ps,cs,out,h=>by
  simp only[bld] at h
  split at h
  ·rename_i off k v ho hv
   split at h
   ·rename_i hc
    simp only[cK,Instr.fill]
    have:(⟨offs⟩:Array (Nat×Nat))[i]? =some (off,k):=by simpa using ho
    simp only[this,aad hf hv,ada]
    have h1: ¬((⟨aag v⟩:Array Value).size≠k):=by simp[hc.1]
    have h2: ¬(off+(⟨aag v⟩:Array Value).size>(⟨cs⟩:Array Value).size):=by simp only[nW,hc.1];omega
    rw[if_neg (by simp only[gM,decide_eq_true_eq,not_or];exact⟨by simpa using h1,by simpa using h2⟩)]
    have e:=alY (aag v) ⟨cs⟩ off 0
    have e':(⟨aag v⟩:Array Value).zipIdx.foldl (fun cs (c,j)=>cs.setIfInBounds (off+j) c) (⟨cs⟩:Array Value)=⟨ovw cs off (aag v)⟩:=by
     rw[←Array.foldl_toList,Array.toList_zipIdx]
     simpa using e
    rw[e']
    exact aqh hf offs ps _ _ h
   ·cases h
  ·cases h
theorem ald{parts:Array (Nat×Operand)}{offs:List (Nat×Nat)}{z:Value}{out:List Value}[hT:aGQ P t offs][hz:TyZ P t z](hb:bld fr offs (aag z) parts.toList=some out):Yd P C fr own G ⟨dst, .build t parts,ty',pos,af,gd⟩ (.agg ⟨out⟩):=by
 obtain⟨fs,h1,h2⟩:=hT.u
 intro a w hf hh
 simp only[execOp]
 have:(Instr.build t (parts.map fun(i,x)=>(i,a.eval x))).run P w= .ok (.agg ⟨out⟩) w:=by
  unfold Instr.build
  rw[aaa (hz.zero w),ada]
  rw[aaa (h1 w)]
  simp only[]
  rw[aaa (h2 w)]
  have:=aqh hf offs parts.toList _ _ hb
  simp only[rL,this]
  rfl
 exact aap this
end
def abo(z:Value)(k:Nat):List Value:=(List.replicate k (aag z)).flatten
theorem afq{α:Type}(l:List α): ∀(k i:Nat),i<k*l.length→(List.replicate k l).flatten[i]? =l[i%l.length]?
 |0,i,h=>by omega
 |k+1,i,h=>by
  rw[iV,kS]
  by_cases hi:i<l.length
  ·rw[eJ hi,dV hi]
  ·rw[gJ (by omega),afq l k (i-l.length) (by rw[cS] at h;omega)]
   rw[Nat.mod_eq_sub_mod (Nat.ge_of_not_lt hi)]
theorem abP(z:Value)(k:Nat):(abo z k).length=k*(aag z).length:=by simp[abo]
theorem aeJ{z:Value}{k m:Nat}(h:m=k*(aag z).length):((Array.range m).map fun i=>(⟨aag z⟩:Array Value)[i%(⟨aag z⟩:Array Value).size]!)=⟨abo z k⟩:=by
 subst h
 apply Array.ext'
 apply jM
 intro i
 simp only[rL,Array.toList_range,cV,nW]
 by_cases hi:i<k*(aag z).length
 ·rw[pN hi]
  simp only[jY]
  have h1:=afq (aag z) k i hi
  have hpos:0<(aag z).length:=by
   rcases eK (aag z).length with h|h
   ·rw[h,pY] at hi;omega
   ·exact h
  have hm:=cY i hpos
  show _=(abo z k)[i]?
  unfold abo
  rw[h1]
  simp[hm]
 ·rw[cN (by simpa using hi)]
  rw[cN (by show(abo z k).length≤i;rw[abP];omega)]
  rfl
section
variable {P:Program} {C:Ctx} {n:Nat} {fr:Fr} {own own':List Own} {G:Gh} {Φ:Act→World→Prop}
variable {dst:Option Nat} {t t' ty':TypeId} {pos:String} {af:Array Edge} {gd:Option (Nat×Bool)} {x y:Operand} {e s by_:Nat}
theorem aod[hT:acJ P t e s by_](w:World): ∃i:TypeInfo,(typeInfo e).run P w= .ok i w∧i.bytes=by_:=by
 obtain⟨i,h1,_,h2⟩:=hT.info
 exact⟨i,by simp[typeInfo,program,Sem.run_bind,Sem.run,h1,run_pure],h2⟩
theorem ae0[hT:acJ P t e s by_]{z:Value}[hz:TyZ P e z]{k k':IntKind}{l:Int}(hx:opv fr x=some (.int k l))(hy:opv fr y=some (.int k' l))(h0:0≤l)(hb:by_*l≤2^47)(hl:l≤2^60)(hs:(aag z).length=s)(hd:aaO n dst=true)
  (h: ∀b,St C n (put fr dst (.slice (some ⟨b,0,none⟩) l.toNat l.toNat)) (⟨b,abo z l.toNat,e,true⟩::own) G Φ):
  Ch P C n fr own G ⟨dst, .makeSlice t x y,ty',pos,af,gd⟩ Φ:=by
 intro a w Q rl
 have h1:(Instr.makeSlice t (a.eval x) (a.eval y)).run P w= .ok (.slice (some ⟨w.heap.size,0,none⟩) l.toNat l.toNat) (w.alloc (.cells ⟨abo z l.toNat⟩ e)):=by
  obtain⟨i,hi,hib⟩:=aod (P:=P) (t:=t) (e:=e) (s:=s) (by_:=by_) w
  rw[aad rl.fr hx,aad rl.fr hy]
  unfold Instr.makeSlice
  rw[aaa (hT.u w)]
  simp only[asInt,asIntOf]
  rw[aaa (a:=l) (w':=w) rfl,aaa (a:=l) (w':=w) rfl,aaa hi,hib]
  have hw:IntKind.i64.wrap l=l:=aeO (by simp[IntKind.min,IntKind.max,IntKind.signed,IntKind.bits];omega)
  simp only[hw]
  have c1: ¬((by_:Int)*l>2^48):=by
   have:(2:Int)^47≤2^48:=by decide
   omega
  have c2:(decide (l<0)||decide ((by_:Int)*l>2^48))=false:=by simp[c1];omega
  simp only[c2,Int.lt_irrefl,decide_false,Bool.or_false,Bool.false_or]
  have c3:decide (l<0)=false:=by simp;omega
  simp only[c3,jQ,if_false,gt_iff_lt,Int.lt_irrefl,decide_false,Bool.or_false]
  have hr: ¬(l.toNat*by_>roomBytes):=by
   unfold roomBytes
   have:((l.toNat*by_:Nat):Int)=by_*l:=by rw[iU,qQ h0,Int.mul_comm]
   have h47:((2^47:Nat):Int)=2^47:=by decide
   omega
  unfold askRoom
  simp only[hr,if_false]
  rw[aaa (run_pure _ _ _),aaa (hT.siz w)]
  have hn:l.toNat*s=l.toNat*(aag z).length:=by rw[hs]
  by_cases h00:l.toNat*s=0
  ·rw[if_pos h00,aaa (run_pure _ _ _)]
   have e0:abo z l.toNat=[]:=bS (by rw[abP,hs];exact h00)
   rw[h00,e0,show(Array.range 0)= #[] from rfl,Array.map_empty]
   rfl
  ·rw[if_neg h00,aaa (hz.zero w),ada]
   rw[aaa (run_pure _ _ _),aeJ hn]
   rfl
 refine(fun hk=>?_:Φ (a.put dst (.slice (some ⟨w.heap.size,0,none⟩) l.toNat l.toNat)) (w.alloc (.cells ⟨abo z l.toNat⟩ e))→_) (h w.heap.size _ _ ((rl.heap (rl.h.alloc _ _)).put _ hd))
 exact abl (v:= .slice (some ⟨w.heap.size,0,none⟩) l.toNat l.toNat) (aap h1) hk
end
section
variable {P:Program} {C:Ctx} {n:Nat} {fr:Fr} {own own':List Own} {G:Gh} {Φ:Act→World→Prop}
variable {dst:Option Nat} {t t' ty':TypeId} {pos:String} {af:Array Edge} {gd:Option (Nat×Bool)} {x y:Operand} {e s by_:Nat}
def ayP(fr:Fr)(s:Nat):List Value→List (Nat×Operand)→Option (List Value)
 |cs,[]=>some cs
 |cs,(i,x)::r=>match opv fr x with
  |some v=>if(aag v).length=s∧i*s+s≤cs.length then ayP fr s (ovw cs (i*s) (aag v)) r else none
  |none=>none
theorem anC{a:Act}(hf:aoO fr a)(s:Nat): ∀(ps:List (Nat×Operand)) (cs out:List Value),ayP fr s cs ps=some out→
  Instr.fill (fun i=>some (i*s,s)) ⟨cs⟩ (ps.map fun(i,x)=>(i,a.eval x))=some ⟨out⟩
 |[],cs,out,h=>by simp only[ayP] at h;cases h;rfl
 |(i,x)::ps,cs,out,h=>by
  simp only[ayP] at h
  split at h
  ·rename_i v hv
   split at h
   ·rename_i hc
    simp only[cK,Instr.fill,aad hf hv,ada]
    have h1: ¬((⟨aag v⟩:Array Value).size≠s):=by simp[hc.1]
    have h2: ¬(i*s+(⟨aag v⟩:Array Value).size>(⟨cs⟩:Array Value).size):=by simp only[nW,hc.1];omega
    rw[if_neg (by simp only[gM,decide_eq_true_eq,not_or];exact⟨by simpa using h1,by simpa using h2⟩)]
    have e:=alY (aag v) ⟨cs⟩ (i*s) 0
    have e':(⟨aag v⟩:Array Value).zipIdx.foldl (fun cs (c,j)=>cs.setIfInBounds (i*s+j) c) (⟨cs⟩:Array Value)=⟨ovw cs (i*s) (aag v)⟩:=by
     rw[←Array.foldl_toList,Array.toList_zipIdx]
     simpa using e
    rw[e']
    exact anC hf s ps _ _ h
   ·cases h
  ·cases h
theorem alp[hT:acJ P t e s by_]{z:Value}[hz:TyZ P e z]{len:Nat}{parts:Array (Nat×Operand)}{out:List Value}(hs:(aag z).length=s)(hb:ayP fr s (abo z len) parts.toList=some out)(hsm:Nat.ble (len*s) 1000=true)(hs0:Nat.blt 0 (len*s)=true)(hd:aaO n dst=true)
  (h: ∀b,St C n (put fr dst (.slice (some ⟨b,0,none⟩) len len)) (⟨b,out,e,true⟩::own) G Φ):
  Ch P C n fr own G ⟨dst, .buildSlice t len parts,ty',pos,af,gd⟩ Φ:=by
 intro a w Q rl
 have hsm':len*s≤1000:=by simpa using hsm
 have hs0':0<len*s:=by simpa[mL] using hs0
 have h1:(Instr.buildSlice t len (parts.map fun(i,x)=>(i,a.eval x))).run P w= .ok (.slice (some ⟨w.heap.size,0,none⟩) len len) (w.alloc (.cells ⟨out⟩ e)):=by
  unfold Instr.buildSlice
  rw[aaa (hT.u w)]
  simp only[]
  rw[aaa (hT.siz w)]
  have c1: ¬(len*s>2^24):=by omega
  have c2: ¬(len*s=0):=by omega
  simp only[c1,if_false]
  rw[if_neg c2,aaa (hz.zero w),ada,aaa (run_pure _ _ _)]
  rw[aeJ (k:=len) (by rw[hs])]
  have hf:=anC rl.fr s parts.toList _ _ hb
  simp only[rL,hf]
  rfl
 refine abl (v:= .slice (some ⟨w.heap.size,0,none⟩) len len) (w':=w.alloc (.cells ⟨out⟩ e)) ?_ (h w.heap.size _ _ ((rl.heap (rl.h.alloc _ _)).put _ hd))
 simp only[execOp]
 exact aap h1
theorem anf[hT:acJ P t e s by_](hd:aaO n dst=true)(h: ∀b,St C n (put fr dst (.slice (some ⟨b,0,none⟩) 0 0)) (⟨b,[],e,true⟩::own) G Φ):
  Ch P C n fr own G ⟨dst, .buildSlice t 0 #[],ty',pos,af,gd⟩ Φ:=by
 intro a w Q rl
 have h1:(Instr.buildSlice t 0 #[]).run P w= .ok (.slice (some ⟨w.heap.size,0,none⟩) 0 0) (w.alloc (.cells ⟨[]⟩ e)):=by
  unfold Instr.buildSlice
  rw[aaa (hT.u w)]
  simp only[]
  rw[aaa (hT.siz w)]
  simp only[lY,gt_iff_lt,Nat.not_lt_zero,if_false,if_true]
  rw[aaa (run_pure _ _ _),show(Array.range 0)= #[] from rfl,Array.map_empty]
  rfl
 refine abl (v:= .slice (some ⟨w.heap.size,0,none⟩) 0 0) (w':=w.alloc (.cells ⟨[]⟩ e)) ?_ (h w.heap.size _ _ ((rl.heap (rl.h.alloc _ _)).put _ hd))
 simp only[execOp,gW,jV]
 exact aap h1
theorem ayt[hT:acJ P t e s by_]{ad:Option Addr}{len cap l2 c2:Nat}(hx:opv fr x=some (.slice ad len cap))(hy:opv fr y=some (.slice none l2 c2)):Yd P C fr own G ⟨dst, .binOp .eql t x y t',ty',pos,af,gd⟩ (.bool ad.isNone):=by
 intro a w hf hh
 simp only[execOp,aad hf hx,aad hf hy]
 have h1:(Op.equal t (.slice ad len cap) (.slice none l2 c2)).run P w= .ok ad.isNone w:=acv (by unfold Op.equalIn;rw[aaa (hT.u w)];cases ad<;>rfl)
 have h2:(eqGuard .eql t x y (.slice ad len cap) (.slice none l2 c2)).run P w= .ok () w:=rfl
 have h3:(binOp .eql t (.slice ad len cap) (.slice none l2 c2)).run P w= .ok (.bool ad.isNone) w:=by simp only[binOp];rw[aaa h1];rfl
 exact aap (by rw[aaa h2];exact h3)
theorem aDl[hT:acJ P t e s by_]{ad:Option Addr}{len cap l2 c2:Nat}(hx:opv fr x=some (.slice ad len cap))(hy:opv fr y=some (.slice none l2 c2)):Yd P C fr own G ⟨dst, .binOp .neq t x y t',ty',pos,af,gd⟩ (.bool (!ad.isNone)):=by
 intro a w hf hh
 simp only[execOp,aad hf hx,aad hf hy]
 have h1:(Op.equal t (.slice ad len cap) (.slice none l2 c2)).run P w= .ok ad.isNone w:=acv (by unfold Op.equalIn;rw[aaa (hT.u w)];cases ad<;>rfl)
 have h2:(eqGuard .neq t x y (.slice ad len cap) (.slice none l2 c2)).run P w= .ok () w:=rfl
 have h3:(binOp .neq t (.slice ad len cap) (.slice none l2 c2)).run P w= .ok (.bool (!ad.isNone)) w:=by simp only[binOp];rw[aaa h1];rfl
 exact aap (by rw[aaa h2];exact h3)
end
theorem abN: ∀(cs:List Value) (off k:Nat),off+k≤cs.length→aa1 cs off k=some ((cs.drop off).take k)
 |cs,0,0,_=>by cases cs<;>rfl
 |[],0,k+1,h=>by simp at h
 |v::t,0,k+1,h=>by
  simp only[aa1,abN t 0 k (by simp at h;omega)]
  simp
 |[],_+1,k,h=>by simp at h
 |_::t,off+1,k,h=>by
  simp only[aa1,abN t off k (by simp at h;omega)]
  simp
section
variable {P:Program} {C:Ctx} {n:Nat} {fr:Fr} {own own' own1:List Own} {G:Gh} {Φ:Act→World→Prop}
variable {dst:Option Nat} {t t' ty':TypeId} {pos:String} {af:Array Edge} {gd:Option (Nat×Bool)} {x y:Operand} {e s by_:Nat}
def Src(P:Program)(C:Ctx)(own:List Own)(G:Gh)(s m:Nat)(v:Value)(ys:List Value):Prop:=
 ∀w,ab5 C own G w→(Builtin.firstCells s m v).run P w= .ok ⟨ys⟩ w
theorem adz{w:World}{b off k:Nat}{cs l:List Value}{ty:TypeId}{fz:Nat×Nat}(h:w.heap[b]? =some (.cells ⟨cs⟩ ty fz))(hl:aa1 cs off k=some l):(loadCells ⟨b,off,none⟩ k).run P w= .ok ⟨l⟩ w:=by
 obtain⟨h1,h2⟩:=abK _ _ _ _ hl
 unfold loadCells
 rw[ac4 (l:=l) k 0 #[] (fun j hj=>by rw[acT h];simpa using h2 j hj) (by omega)]
 simp[←h1]
theorem aiV{b off m len cap:Nat}{cs ys:List Value}{ty:TypeId}{lo:Bool}(ho:OAt own b cs ty lo)(hl:aa1 cs off (m*s)=some ys):Src P C own G s m (.slice (some ⟨b,off,none⟩) len cap) ys:=
 fun w h=>adz (h.hown _ ho.mem).1 hl
theorem azd{b off m len cap:Nat}{cs ys:List Value}(hg:G b=some cs)(hl:aa1 cs off (m*s)=some ys):Src P C own G s m (.slice (some ⟨b,off,none⟩) len cap) ys:=
 fun w h=>by obtain⟨ty,fz,hb⟩:=h.sub _ _ hg;exact adz hb hl
theorem aeY{ad:Option Addr}{len cap:Nat}:Src P C own G s 0 (.slice ad len cap) []:=fun w _=>by
 cases ad with
 |none=>rfl
 |some a=>unfold Builtin.firstCells loadCells;simp[loadCellsFrom,run_pure]
theorem agC(z:Value)(k:Nat):Builtin.zeroCells ⟨aag z⟩ k=⟨abo z k⟩:=by
 unfold Builtin.zeroCells
 exact aeJ rfl
theorem adK{w w':World}[hT:acJ P t e s by_][hN:TyN P t']{z:Value}[hz:TyZ P e z]{ad:Option Addr}{len cap m cap2:Nat}{ad2:Option Addr}{xs ys:List Value}
  (hsx:(Builtin.firstCells s len (.slice ad len cap)).run P w.drew= .ok ⟨xs⟩ w.drew)(hsy:(Builtin.firstCells s m (.slice ad2 m cap2)).run P w.drew= .ok ⟨ys⟩ w.drew)
  (hneed:cap<len+m)(hby:0<by_)(hb:(len+m)*by_≤140737488355328):
  (Builtin.append_ #[t,t'] ty' #[.slice ad len cap, .slice ad2 m cap2]).run P w=
   .ok (.slice (some ⟨w.heap.size,0,none⟩) (len+m) (grownCap w (len+m) cap e)) (w.drew.alloc (.cells ⟨xs++ys++abo z (grownCap w (len+m) cap e-(len+m))⟩ e)):=by
 obtain⟨d,hd1⟩:=hN.un
 obtain⟨i,hi,his,hib⟩:=hT.info
 obtain⟨i',hi',hiz⟩:=hz.info
 rw[hi] at hi';cases hi'
 have hfit:=growslice_fits (old:=cap) (need:=len+m) (bytes:=by_) hneed hb
 have hlen:len+m≤140737488355328:=cR (qN _ hby) hb
 have hn: ¬(len+m≤cap):=by omega
 have h63': ¬(9223372036854775807<((len:Int)+(m:Int))):=by omega
 have h48': ¬(281474976710656<Builtin.nextslicecap (len+m) cap*i.bytes):=by rw[hib];omega
 subst his
 simp[Builtin.append_,run_underlying hT.un,run_underlying hd1,sizeOf,typeInfo,zeroValue,hi,hiz,Builtin.lenOf,hn,h63',h48',Question.forced,hsx,hsy,newRow,grownCap]
 congr 2
 apply Array.ext'
 rw[ada,agC]
 simp[fT]
theorem adb[hT:acJ P t e s by_][hN:TyN P t']{z:Value}[hz:TyZ P e z]{ad:Option Addr}{len cap m cap2:Nat}{ad2:Option Addr}{xs ys:List Value}
  (hx:opv fr x=some (.slice ad len cap))(hy:opv fr y=some (.slice ad2 m cap2))(hsx:Src P C own G s len (.slice ad len cap) xs)(hsy:Src P C own G s m (.slice ad2 m cap2) ys)
  (hneed:cap<len+m)(hby:0<by_)(hb:(len+m)*by_≤140737488355328)(hd:aaO n dst=true)
  (h: ∀b cap',len+m≤cap'→St C n (put fr dst (.slice (some ⟨b,0,none⟩) (len+m) cap')) (⟨b,xs++ys++abo z (cap'-(len+m)),e,true⟩::own) G Φ):
  Ch P C n fr own G ⟨dst, .call ⟨.builtin .append, #[x,y], #[t,t']⟩,ty',pos,af,gd⟩ Φ:=by
 intro a w Q rl
 have hcap:len+m≤grownCap w (len+m) cap e:=by unfold grownCap;simp only[Question.cut];omega
 have hrun:=adK (P:=P) (t:=t) (t':=t') (ty':=ty') (w:=w) (w':=w) (hsx _ rl.h.drew) (hsy _ rl.h.drew) hneed hby hb
 refine abl (v:= .slice (some ⟨w.heap.size,0,none⟩) (len+m) (grownCap w (len+m) cap e)) (w':=w.drew.alloc (.cells ⟨xs++ys++abo z (grownCap w (len+m) cap e-(len+m))⟩ e)) ?_ ?_
 ·simp only[execOp,resolve,gW,cK,jV,aad rl.fr hx,aad rl.fr hy]
  exact aap hrun
 ·exact h w.heap.size _ hcap _ _ ((rl.heap ((rl.h.drew).alloc _ _)).put _ hd)
theorem alT.perm{o:Own}(h:alT own o own1):own.Perm (o::own1):=by
 induction h with
 |hd o t=>exact List.Perm.refl _
 |tl x t t' o h ih=>exact(List.Perm.cons x ih).trans (List.Perm.swap _ _ _)
theorem adQ{w:World}[hT:acJ P t e s by_][hN:TyN P t']{b len cap m cap2:Nat}{ad2:Option Addr}{cs ys:List Value}
  (hb:w.heap[b]? =some (.cells ⟨cs⟩ e (0,0)))(hcs:cs.length=cap*s)(hsy:(Builtin.firstCells s m (.slice ad2 m cap2)).run P w= .ok ⟨ys⟩ w)(hys:ys.length=m*s)(hf: ∀v∈ys,flat v=true)
  (hneed:len+m≤cap):
  (Builtin.append_ #[t,t'] ty' #[.slice (some ⟨b,0,none⟩) len cap, .slice ad2 m cap2]).run P w=
   .ok (.slice (some ⟨b,0,none⟩) (len+m) cap) (abA w b (.cells ⟨ovw cs (len*s) ys⟩ e (0,0))):=by
 obtain⟨d,hd1⟩:=hN.un
 obtain⟨i,hi,his,hib⟩:=hT.info
 subst his
 have hl:len*i.size+ys.length≤cs.length:=by rw[hys,hcs,←cS];exact bW _ hneed
 have hst:=abV (P:=P) ys w (len*i.size) 0 cs hf hb (by omega)
 rw[dY] at hst
 simp[Builtin.append_,run_underlying hT.un,run_underlying hd1,sizeOf,typeInfo,hi,Builtin.lenOf,hneed,hsy,acx,hst]
theorem ajP: ∀(vs cs:List Value) (off:Nat),(ovw cs off vs).length=cs.length
 |[],cs,off=>rfl
 |v::vs,cs,off=>by simp[ovw,ajP vs]
theorem acA: ∀(vs cs:List Value) (off:Nat),off+vs.length≤cs.length→ovw cs off vs=cs.take off++vs++cs.drop (off+vs.length)
 |[],cs,off,h=>by simp[ovw]
 |v::vs,cs,off,h=>by
  simp only[bY] at h
  rw[ovw,acA vs _ _ (by simp;omega)]
  rw[List.take_set,qZ (by omega)]
  have h1:(cs.take (off+1)).set off v=cs.take off++[v]:=by
   rw[fR (by omega),List.set_append_right _ _ (by simp;omega)]
   simp[fM (by omega:off≤cs.length)]
  rw[h1]
  simp only[bY,fT,jR,lJ]
  congr 4
  omega
theorem agS[hT:acJ P t e s by_][hN:TyN P t']{z:Value}[hz:TyZ P e z]{b len cap m cap2:Nat}{ad2:Option Addr}{xs ys rest:List Value}
  (hx:opv fr x=some (.slice (some ⟨b,0,none⟩) len cap))(hy:opv fr y=some (.slice ad2 m cap2))(hr:alT own ⟨b,xs++rest,e,true⟩ own1)(hxs:xs.length=len*s)(hcap:xs.length+rest.length=cap*s)(hlc:len≤cap)
  (hsy:Src P C own G s m (.slice ad2 m cap2) ys)(hys:ys.length=m*s)(hf: ∀v∈ys,flat v=true)
  (hby:0<by_)(hb:(len+m)*by_≤140737488355328)(hzs:(aag z).length=s)(hd:aaO n dst=true)
  (h: ∀b cap' rest',len+m≤cap'→rest'.length+(len+m)*s=cap'*s→St C n (put fr dst (.slice (some ⟨b,0,none⟩) (len+m) cap')) (⟨b,xs++ys++rest',e,true⟩::own1) G Φ):
  Ch P C n fr own G ⟨dst, .call ⟨.builtin .append, #[x,y], #[t,t']⟩,ty',pos,af,gd⟩ Φ:=by
 intro a w Q rl
 have hp:=rl.h.perm hr.perm
 have hblk:=(hp.hown _ aZ).1
 simp only[] at hblk
 by_cases hneed:len+m≤cap
 ·have hcs:(xs++rest).length=cap*s:=by simp;omega
  have hrun:=adQ (P:=P) (t:=t) (t':=t') (ty':=ty') (w:=w) (len:=len) hblk hcs (hsy w rl.h) hys hf hneed
  have hle:len*s+m*s≤cap*s:=by rw[←cS];exact bW _ hneed
  have hov:ovw (xs++rest) (len*s) ys=xs++ys++rest.drop (m*s):=by
   rw[acA _ _ _ (by rw[hys];omega),←hxs]
   simp[hys,mW]
  refine abl (v:= .slice (some ⟨b,0,none⟩) (len+m) cap) (w':=abA w b (.cells ⟨ovw (xs++rest) (len*s) ys⟩ e (0,0))) ?_ ?_
  ·simp only[execOp,resolve,gW,cK,jV,aad rl.fr hx,aad rl.fr hy]
   exact aap hrun
  ·rw[hov]
   refine h b cap (rest.drop (m*s)) hneed ?_ _ _ ((rl.heap (hp.store (.hd ..))).put _ hd)
   rw[gT,cS]
   omega
 ·have hx':Src P C own G s len (.slice (some ⟨b,0,none⟩) len cap) xs:=fun w' hw'=>by
   have hb':=(((hw'.perm hr.perm).hown _ aZ).1)
   refine adz hb' ?_
   rw[abN _ _ _ (by simp;omega),←hxs]
   simp
  have hcap':len+m≤grownCap w (len+m) cap e:=by unfold grownCap;simp only[Question.cut];omega
  have hrun:=adK (P:=P) (t:=t) (t':=t') (ty':=ty') (w:=w) (w':=w) (hx' _ rl.h.drew) (hsy _ rl.h.drew) (by omega) hby hb
  refine abl (v:= .slice (some ⟨w.heap.size,0,none⟩) (len+m) (grownCap w (len+m) cap e)) (w':=w.drew.alloc (.cells ⟨xs++ys++abo z (grownCap w (len+m) cap e-(len+m))⟩ e)) ?_ ?_
  ·simp only[execOp,resolve,gW,cK,jV,aad rl.fr hx,aad rl.fr hy]
   exact aap hrun
  ·refine h w.heap.size _ _ hcap' ?_ _ _ ((rl.heap (((hp.drew).drop (List.sublist_cons_self _ _)).alloc _ _)).put _ hd)
   rw[abP,hzs,←cS]
   congr 1
   omega
end
section
variable {P:Program} {ops:Array Oper} {Q:Exit→Act→World→Prop} {S:World→Prop} {fin:Nat→Bool}
def adP(ops:Array Oper)(fin:Nat→Bool):List (Nat×Bool)→Array Bool→Bool
 |[],listed=>(Region.ready .any ops listed).isEmpty
 |(i,true)::r,listed=>akS ops fin listed i&&adP ops fin r (listed.setIfInBounds i true)
 |(i,false)::r,listed=>(Region.ready .any ops listed==[i])&&adP ops fin r (listed.setIfInBounds i true)
def dwL(P:Program)(ops:Array Oper)(Q:Exit→Act→World→Prop)(S:World→Prop)(fin:Nat→Bool):List (Nat×Bool)→Act→World→Prop
 |[],a,w=>Q .normal a w
 |(i,true)::r,a,w=> ∃o v,ops[i]? =some o∧S w∧YieldsIf P ops S o v a∧dwL P ops Q S fin r (a.put o.dst v) w
 |(i,false)::r,a,w=>wpOp P ops Q i (fun a' w'=>(fin i=true∨S w')∧dwL P ops Q S fin r a' w') a w
theorem ab8(hQ: ∀c a d v w,Q (.panic c) (Act.put a d v) w→Q (.panic c) a w): ∀(π:List (Nat×Bool)) (listed:Array Bool) (a:Act) (w:World),adP ops fin π listed=true→dwL P ops Q S fin π a w→ ∀fuel,π.length≤fuel→aib P ops Q S fin fuel listed a w
 |[],listed,a,w,ho,h,fuel,hf=>by
  have hr:Region.ready .any ops listed=[]:=by simpa[adP] using ho
  cases fuel with
  |zero=>exact⟨hr,h⟩
  |succ k=>exact⟨fun _=>h,by rw[hr];simp⟩
 |(i,true)::r,listed,a,w,ho,h,0,hf=>by simp at hf
 |(i,false)::r,listed,a,w,ho,h,0,hf=>by simp at hf
 |(i,true)::r,listed,a,w,ho,h,fuel+1,hf=>by
  obtain⟨o,v,hoi,hS,hy,hk⟩:=h
  simp only[adP,akS,cX] at ho
  obtain⟨⟨⟨⟨h1,h2⟩,h3⟩,h4⟩,h5⟩:=ho
  obtain⟨h6,h7⟩:=arW h4
  exact amz hoi (Region.noSelect_spec h1) (fun c a w=>hQ c a _ _ w) h6 h7 fuel listed a w (Region.free_spec hoi h2) (by simpa using h3) hy hS
   (ab8 hQ r _ _ _ h5 hk fuel (by simpa using hf))
 |(i,false)::r,listed,a,w,ho,h,fuel+1,hf=>by
  simp only[adP,cX,beq_iff_eq] at ho
  exact arz ho.1 (wpOp_mono (fun a' w' h'=>⟨h'.1,ab8 hQ r _ _ _ ho.2 h'.2 fuel (by simpa using hf)⟩) h)
end
section
variable {P:Program} {C:Ctx} {n:Nat} {fr:Fr} {own own0:List Own} {G G0:Gh} {ops:Array Oper} {Q:Exit→Act→World→Prop} {fin:Nat→Bool} {π:List (Nat×Bool)}
theorem dr(fin:Nat→Bool)(π:List (Nat×Bool)){id:Nat}(hm:P.follows .mixedOrders=true)(ho:(adP ops fin π (Array.replicate ops.size false)&&Nat.ble π.length ops.size)=true)
  (h:St C n fr own G (dwL P ops (acG Q) (HS C own G) fin π)):St C n fr own G ((Code.region id ops true).wp P Q):=by
 simp only[cX] at ho
 refine asd fin hm fun a w rl=>ab8 (fun _ _ _ _ _ h=>h) π _ a w ho.1 (h a w rl) _ (by simpa using ho.2)
theorem dy{i:Nat}{o:Oper}{v:Value}(ho:ops[i]? =some o)(hy: ∀G':Gh,[GE G0 G']→Yd P C fr own0 G' o v)(hg:o.guard=none)(hd:aaO n o.dst=true)[hs:alH own0 own][hl:GL G0 G]
  (h:St C n (put fr o.dst v) own G (dwL P ops (acG Q) (HS C own0 G0) fin π)):St C n fr own G (dwL P ops (acG Q) (HS C own0 G0) fin ((i,true)::π)):=
 fun a w rl=>⟨o,v,ho,⟨G,hl.le,rl.h.drop hs.s⟩, .inl ⟨by simp[Region.wanted,hg],fun w' ⟨G',hle,hr⟩=> @hy G' ⟨hle⟩ a w' rl.fr hr⟩,h _ _ (rl.put v hd)⟩
theorem dM{i:Nat}{dst:Option Nat}{ty':TypeId}{pos:String}{af:Array Edge}{x:Operand}{v:Value}(ho:ops[i]? =some ⟨dst, .move x,ty',pos,af,none⟩)(hx:opv fr x=some v)(hd:aaO n dst=true)[hs:alH own0 own][hl:GL G0 G]
  (h:St C n (put fr dst v) own G (dwL P ops (acG Q) (HS C own0 G0) fin π)):St C n fr own G (dwL P ops (acG Q) (HS C own0 G0) fin ((i,true)::π)):=dy ho (fun _ _=>aaQ hx) rfl hd h
theorem dA{i:Nat}{dst:Option Nat}{ty':TypeId}{pos:String}{af:Array Edge}{x:Operand}{v:Value}(ho:ops[i]? =some ⟨dst, .assign x,ty',pos,af,none⟩)(hx:opv fr x=some v)(hd:aaO n dst=true)[hs:alH own0 own][hl:GL G0 G]
  (h:St C n (put fr dst v) own G (dwL P ops (acG Q) (HS C own0 G0) fin π)):St C n fr own G (dwL P ops (acG Q) (HS C own0 G0) fin ((i,true)::π)):=dy ho (fun _ _=>aiU hx) rfl hd h
theorem dF{i b o f off:Nat}{dst:Option Nat}{ty':TypeId}{pos:String}{af:Array Edge}{x:Operand}{t:TypeId}[hF:TyF P t f off](ho:ops[i]? =some ⟨dst, .fieldAddr t x f,ty',pos,af,none⟩)(hx:opv fr x=some (.pointer (some ⟨b,o,none⟩)))(hd:aaO n dst=true)[hs:alH own0 own][hl:GL G0 G]
  (h:St C n (put fr dst (.pointer (some ⟨b,o+off,none⟩))) own G (dwL P ops (acG Q) (HS C own0 G0) fin π)):St C n fr own G (dwL P ops (acG Q) (HS C own0 G0) fin ((i,true)::π)):=dy ho (fun _ _=>aaS hx) rfl hd h
theorem dL{i b off k:Nat}{dst:Option Nat}{ty':TypeId}{pos:String}{af:Array Edge}{x:Operand}{t ty:TypeId}{cs l:List Value}{lo:Bool}(ho:ops[i]? =some ⟨dst, .load t x,ty',pos,af,none⟩)(hx:opv fr x=some (.pointer (some ⟨b,off,none⟩)))[hw:OAt own0 b cs ty lo][TyA P t k](hv:aa1 cs off k=some l)(hd:aaO n dst=true)[hs:alH own0 own][hl:GL G0 G]
  (h:St C n (put fr dst (.agg ⟨l⟩)) own G (dwL P ops (acG Q) (HS C own0 G0) fin π)):St C n fr own G (dwL P ops (acG Q) (HS C own0 G0) fin ((i,true)::π)):=dy ho (fun _ _=>ae5 hx hv) rfl hd h
theorem dL1{i b off:Nat}{dst:Option Nat}{ty':TypeId}{pos:String}{af:Array Edge}{x:Operand}{t ty:TypeId}{cs:List Value}{v:Value}{lo:Bool}(ho:ops[i]? =some ⟨dst, .load t x,ty',pos,af,none⟩)(hx:opv fr x=some (.pointer (some ⟨b,off,none⟩)))[hw:OAt own0 b cs ty lo][TyS P t](hv:cs[off]? =some v)(hd:aaO n dst=true)[hs:alH own0 own][hl:GL G0 G]
  (h:St C n (put fr dst v) own G (dwL P ops (acG Q) (HS C own0 G0) fin π)):St C n fr own G (dwL P ops (acG Q) (HS C own0 G0) fin ((i,true)::π)):=dy ho (fun _ _=>aaC hx hv) rfl hd h
theorem dyg{i:Nat}{o:Oper}{v:Value}(ho:ops[i]? =some o){j d:Nat}{b:Bool}(hg:o.guard=some (j,b))(hj:(ops[j]?).bind (·.dst)=some d)(hlk:aig fr d=some (.bool b))(hy: ∀G':Gh,[GE G0 G']→Yd P C fr own0 G' o v)(hd:aaO n o.dst=true)[hs:alH own0 own][hl:GL G0 G]
  (h:St C n (put fr o.dst v) own G (dwL P ops (acG Q) (HS C own0 G0) fin π)):St C n fr own G (dwL P ops (acG Q) (HS C own0 G0) fin ((i,true)::π)):=
 fun a w rl=>⟨o,v,ho,⟨G,hl.le,rl.h.drop hs.s⟩, .inl ⟨by simp[Region.wanted,hg,afR rl.fr hj hlk],fun w' ⟨G',hle,hr⟩=> @hy G' ⟨hle⟩ a w' rl.fr hr⟩,h _ _ (rl.put v hd)⟩
theorem dys{i:Nat}{o:Oper}(ho:ops[i]? =some o){j d:Nat}{b c:Bool}(hg:o.guard=some (j,b))(hj:(ops[j]?).bind (·.dst)=some d)(hlk:aig fr d=some (.bool c))(hbc:(c==b)=false)(hd:aaO n o.dst=true)[hs:alH own0 own][hl:GL G0 G]
  (h:St C n (put fr o.dst undef) own G (dwL P ops (acG Q) (HS C own0 G0) fin π)):St C n fr own G (dwL P ops (acG Q) (HS C own0 G0) fin ((i,true)::π)):=
 fun a w rl=>⟨o,undef,ho,⟨G,hl.le,rl.h.drop hs.s⟩, .inr ⟨by simp[Region.wanted,hg,afR rl.fr hj hlk,hbc],rfl⟩,h _ _ (rl.put undef hd)⟩
theorem dc{i:Nat}{o:Oper}(ho:ops[i]? =some o)(hg:o.guard=none)(hc:Ch P C n fr own G o (fun a w=>(fin i=true∨HS C own0 G0 w)∧dwL P ops (acG Q) (HS C own0 G0) fin π a w)):St C n fr own G (dwL P ops (acG Q) (HS C own0 G0) fin ((i,false)::π)):=by
 intro a w rl
 show wpOp P ops (acG Q) i _ a w
 unfold wpOp
 simp only[ho,Region.wanted,hg,if_true]
 exact .inl (hc a w _ rl)
theorem dn(h:St C n fr own G (Q .normal)):St C n fr own G (dwL P ops (acG Q) (HS C own0 G0) fin []):=h
theorem ghi{A G:Gh}{b:Nat}{cs:List Value}[h:aET A b cs][k:GL A G]:G b=some cs:=k.le _ _ h.h
variable {dst:Option Nat} {t t' ty':TypeId} {pos:String} {af:Array Edge} {x y:Operand} {r:List Oper}
theorem sm{v:Value}(hx:opv fr x=some v)(hd:aaO n dst=true)(h:St C n (put fr dst v) own G (wpL P ops Q r)):St C n fr own G (wpL P ops Q (⟨dst, .move x,ty',pos,af,none⟩::r)):=awM (aaQ hx) rfl hd h
theorem sa{v:Value}(hx:opv fr x=some v)(hd:aaO n dst=true)(h:St C n (put fr dst v) own G (wpL P ops Q r)):St C n fr own G (wpL P ops Q (⟨dst, .assign x,ty',pos,af,none⟩::r)):=awM (aiU hx) rfl hd h
theorem sn{ad:Addr}(hx:opv fr x=some (.pointer (some ad)))(hd:aaO n dst=true)(h:St C n (put fr dst (.pointer (some ad))) own G (wpL P ops Q r)):St C n fr own G (wpL P ops Q (⟨dst, .nilCheck x,ty',pos,af,none⟩::r)):=awM (aaX hx) rfl hd h
theorem sf{b o f off:Nat}[hF:TyF P t f off](hx:opv fr x=some (.pointer (some ⟨b,o,none⟩)))(hd:aaO n dst=true)(h:St C n (put fr dst (.pointer (some ⟨b,o+off,none⟩))) own G (wpL P ops Q r)):St C n fr own G (wpL P ops Q (⟨dst, .fieldAddr t x f,ty',pos,af,none⟩::r)):=awM (aaS hx) rfl hd h
theorem slo{b off k:Nat}{cs l:List Value}{lo:Bool}{ty:TypeId}(hx:opv fr x=some (.pointer (some ⟨b,off,none⟩)))[ho:OAt own b cs ty lo][TyA P t k](hl:aa1 cs off k=some l)(hd:aaO n dst=true)
  (h:St C n (put fr dst (.agg ⟨l⟩)) own G (wpL P ops Q r)):St C n fr own G (wpL P ops Q (⟨dst, .load t x,ty',pos,af,none⟩::r)):=awM (ae5 hx hl) rfl hd h
theorem awd{b off:Nat}{cs:List Value}{v:Value}{lo:Bool}{ty:TypeId}(hx:opv fr x=some (.pointer (some ⟨b,off,none⟩)))[ho:OAt own b cs ty lo][TyS P t](hl:cs[off]? =some v)(hd:aaO n dst=true)
  (h:St C n (put fr dst v) own G (wpL P ops Q r)):St C n fr own G (wpL P ops Q (⟨dst, .load t x,ty',pos,af,none⟩::r)):=awM (aaC hx hl) rfl hd h
theorem ads{e s by_:Nat}{ad:Option Addr}{len cap:Nat}[hT:acJ P t e s by_](hx:opv fr x=some (.slice ad len cap))(hd:aaO n dst=true)
  (h:St C n (put fr dst (.int .i64 len)) own G (wpL P ops Q r)):St C n fr own G (wpL P ops Q (⟨dst, .call ⟨.builtin .len, #[x], #[t]⟩,ty',pos,af,none⟩::r)):=awM (aew hx) rfl hd h
theorem sx{vs:Array Value}{i:Nat}{v:Value}(hx:opv fr x=some (.tuple vs))(hv:vs[i]? =some v)(hd:aaO n dst=true)(h:St C n (put fr dst v) own G (wpL P ops Q r)):St C n fr own G (wpL P ops Q (⟨dst, .extract x i,ty',pos,af,none⟩::r)):=awM (ahK hx hv) rfl hd h
theorem abY{C:Ctx}{n:Nat}{fr:Fr}{own:List Own}{G:Gh}{K:Act→World→Prop}{Q:Exit→Act→World→Prop}{id:Nat}(h:St C n fr own G (Q (.exit id))):St C n fr own G (Exit.then K Q (.exit id)):=h
theorem syg{op:Op}{v:Value}{j d:Nat}{b:Bool}(hj:(ops[j]?).bind (·.dst)=some d)(hl:aig fr d=some (.bool b))(hy:Yd P C fr own G ⟨dst,op,ty',pos,af,some (j,b)⟩ v)(hd:aaO n dst=true)(h:St C n (put fr dst v) own G (wpL P ops Q r)):St C n fr own G (wpL P ops Q (⟨dst,op,ty',pos,af,some (j,b)⟩::r)):=aGz rfl hj hl hy hd h
theorem ss{op:Op}{j d:Nat}{b c:Bool}(hj:(ops[j]?).bind (·.dst)=some d)(hl:aig fr d=some (.bool c))(hbc:(c==b)=false)(hd:aaO n dst=true)(h:St C n (put fr dst undef) own G (wpL P ops Q r)):St C n fr own G (wpL P ops Q (⟨dst,op,ty',pos,af,some (j,b)⟩::r)):=az2 rfl hj hl hbc hd h
theorem sy{op:Op}{v:Value}(hy:Yd P C fr own G ⟨dst,op,ty',pos,af,none⟩ v)(hd:aaO n dst=true)(h:St C n (put fr dst v) own G (wpL P ops Q r)):St C n fr own G (wpL P ops Q (⟨dst,op,ty',pos,af,none⟩::r)):=awM hy rfl hd h
theorem sc{op:Op}(hc:Ch P C n fr own G ⟨dst,op,ty',pos,af,none⟩ (wpL P ops Q r)):St C n fr own G (wpL P ops Q (⟨dst,op,ty',pos,af,none⟩::r)):=aGp rfl hc
end
theorem Fn.of_calls{P:Program}{f:FuncId}{vs:List Value}{G:Gh}{v:Value}(ha:acP P f)(h: ∀w,Calls P f ⟨vs⟩ w fun e w'=>e= .returned v∧w'=w):Fn P f vs G (fun u _=>u=v):=
 ⟨ha,fun w hw=>(h w).mono fun e w' ⟨he,hww⟩=>⟨v,G,he,by
  subst hww
  exact⟨rfl,rfl,rfl,aM _,fun _ _ _=>rfl,hw,GLe.refl _,fun _ _=>rfl,fun o ho=>(by cases ho), .nil,aM _,fun p hp=>by cases hp⟩,rfl⟩⟩
end Go.Sx
end
section
namespace Go.Sx
def dv:List Nat→Nat
 |[]=>0
 |d::t=>d+4294967296*dv t
def DOk(ds:List Nat):Prop:= ∀d∈ds,d<4294967296
def Nrm(ds:List Nat):Prop:=ds.getLast? ≠some 0
instance (ds:List Nat):Decidable (Nrm ds):=inferInstanceAs (Decidable (ds.getLast? ≠some 0))
theorem DOk.nil:DOk []:=fun _ h=>by cases h
theorem DOk.cons{d:Nat}{ds:List Nat}(h:d<4294967296)(k:DOk ds):DOk (d::ds):=fun x hx=>by
 rcases aU.1 hx with rfl|h'
 ·exact h
 ·exact k _ h'
theorem DOk.head{d:Nat}{ds:List Nat}(h:DOk (d::ds)):d<4294967296:=h d aZ
theorem DOk.tail{d:Nat}{ds:List Nat}(h:DOk (d::ds)):DOk ds:=fun x hx=>h x (aJ _ hx)
theorem DOk.append{a b:List Nat}(h:DOk a)(k:DOk b):DOk (a++b):=fun x hx=>by
 rcases bZ.1 hx with h'|h'
 ·exact h _ h'
 ·exact k _ h'
theorem DOk.take{a:List Nat}(h:DOk a)(n:Nat):DOk (a.take n):=fun x hx=>h x (dZ hx)
theorem DOk.drop{a:List Nat}(h:DOk a)(n:Nat):DOk (a.drop n):=fun x hx=>h x (gK hx)
theorem DOk.get{a:List Nat}(h:DOk a)(i:Nat):a.getD i 0<4294967296:=by
 rw[aX]
 cases hi:a[i]? with
 |none=>simp
 |some d=>exact h d (aS hi)
theorem DOk.set{a:List Nat}(h:DOk a)(i:Nat){d:Nat}(hd:d<4294967296):DOk (a.set i d):=fun x hx=>by
 rcases List.mem_or_eq_of_mem_set hx with h'|rfl
 ·exact h _ h'
 ·exact hd
theorem DOk.replicate(n:Nat):DOk (List.replicate n 0):=fun x hx=>by
 rw[lU hx];omega
theorem aes(a b:List Nat):dv (a++b)=dv a+4294967296^a.length*dv b:=by
 induction a with
 |nil=>simp[dv]
 |cons d t ih=>
  simp only[jR,dv,ih,bY,fZ]
  rw[dJ,←jU,←bN,bL 4294967296 (4294967296^t.length)]
theorem aey{ds:List Nat}(h:DOk ds):dv ds<4294967296^ds.length:=by
 induction ds with
 |nil=>simp[dv]
 |cons d t ih=>
  have h1:=h.head
  have h2:=ih h.tail
  simp only[dv,bY,fZ]
  omega
theorem acI(n:Nat):dv (List.replicate n 0)=0:=by
 induction n with
 |zero=>rfl
 |succ n ih=>simp[iV,dv,ih]
theorem aax(ds:List Nat)(i:Nat):dv (ds.take (i+1))=dv (ds.take i)+4294967296^i*ds.getD i 0:=by
 by_cases h:i<ds.length
 ·rw[fR h,aes]
  simp[dv,fM (oR h),aX,h]
 ·have:ds.getD i 0=0:=by rw[aX,cN (by omega)];rfl
  rw[this,aR (by omega),aR (by omega)]
  simp
theorem aip(ds:List Nat)(i:Nat)(h:i≤ds.length):dv ds=dv (ds.take i)+4294967296^i*dv (ds.drop i):=by
 have:=aes (ds.take i) (ds.drop i)
 rw[jK] at this
 rw[this]
 simp[fM h]
def trimD:List Nat→List Nat
 |[]=>[]
 |d::t=>match trimD t with
  |[]=>if d=0 then [] else [d]
  |t'=>d::t'
theorem ac2(d:Nat)(t:List Nat):trimD (d::t)=if trimD t=[]∧d=0 then [] else d::trimD t:=by
 simp only[trimD]
 cases h:trimD t with
 |nil=>by_cases hd:d=0<;>simp[hd]
 |cons a b=>simp
theorem abb(ds:List Nat):dv (trimD ds)=dv ds:=by
 induction ds with
 |nil=>rfl
 |cons d t ih=>
  rw[ac2]
  split
  ·rename_i h
   rw[h.1] at ih
   simp[dv,←ih,h.2]
  ·simp[dv,ih]
theorem ai4(ds:List Nat):trimD (ds++[0])=trimD ds:=by
 induction ds with
 |nil=>rfl
 |cons d t ih=>rw[jR,ac2,ac2,ih]
theorem ahU{ds:List Nat}{d:Nat}(h:d≠0):trimD (ds++[d])=ds++[d]:=by
 induction ds with
 |nil=>simp[trimD,h]
 |cons e t ih=>rw[jR,ac2,ih];simp
theorem Nrm.trimD(ds:List Nat):Nrm (trimD ds):=by
 induction ds with
 |nil=>simp[Nrm,Sx.trimD]
 |cons d t ih=>
  rw[ac2]
  split
  ·simp[Nrm]
  ·rename_i h
   unfold Nrm at*
   rw[List.getLast?_cons]
   cases ht:(Sx.trimD t).getLast? with
   |none=>
    have:Sx.trimD t=[]:=by simpa using ht
    simp only[Option.getD_none,ne_eq,Option.some.injEq]
    exact fun hd=>h ⟨this,hd⟩
   |some x=>rw[ht] at ih;simpa using ih
theorem abw(ds:List Nat):(trimD ds).length≤ds.length:=by
 induction ds with
 |nil=>simp[trimD]
 |cons d t ih=>
  rw[ac2]
  split
  ·simp
  ·simp;omega
theorem ala(ds:List Nat):trimD ds=ds.take (trimD ds).length:=by
 induction ds with
 |nil=>rfl
 |cons d t ih=>
  rw[ac2]
  split
  ·rfl
  ·simp only[bY,oZ];rw[←ih]
theorem DOk.trimD{ds:List Nat}(h:DOk ds):DOk (trimD ds):=by rw[ala];exact h.take _
theorem anH{ds:List Nat}(h:Nrm ds):trimD ds=ds:=by
 rcases rY ds with rfl|⟨l,d,rfl⟩
 ·rfl
 ·rw[rU] at*
  exact ahU (fun e=>by subst e;simp[Nrm] at h)
theorem af3{ds:List Nat}(h:Nrm ds)(hne:ds≠[]):4294967296^(ds.length-1)≤dv ds:=by
 rcases rY ds with rfl|⟨l,d,rfl⟩
 ·exact absurd rfl hne
 ·rw[rU] at*
  have hd:d≠0:=fun e=>by subst e;simp[Nrm] at h
  rw[aes]
  simp only[aV,bY,fU,dv]
  have:4294967296^(l.length+(0+1)-1)=4294967296^l.length:=by congr 1
  rw[this]
  have h1:4294967296^l.length*1≤4294967296^l.length*(d+4294967296*0):=eY _ (by omega)
  omega
theorem av7{ds:List Nat}(h:Nrm ds):dv ds=0↔ds=[]:=by
 constructor
 ·intro h0
  by_cases hne:ds=[]
  ·exact hne
  ·have:=af3 h hne
   have hp:0<4294967296^(ds.length-1):=eX (by omega)
   omega
 ·rintro rfl;rfl
theorem acW{a b:List Nat}(ha:DOk a)(hb:Nrm b)(h:a.length<b.length):dv a<dv b:=by
 have h1:=aey ha
 have h2:=af3 hb (fun e=>by subst e;simp at h)
 have h3:4294967296^a.length≤4294967296^(b.length-1):=bT (by omega) (by omega)
 omega
theorem ayS: ∀{a b:List Nat},DOk a→DOk b→a.length=b.length→dv a=dv b→a=b
 |[],[],_,_,_,_=>rfl
 |d::t,e::u,ha,hb,hl,h=>by
  have h1:=ha.head
  have h2:=hb.head
  simp only[dv] at h
  have:d=e:=by omega
  subst this
  rw[ayS ha.tail hb.tail (by simpa using hl) (by omega)]
theorem aAB{a b:List Nat}(ha:DOk a)(hb:DOk b)(na:Nrm a)(nb:Nrm b)(h:dv a=dv b):a=b:=by
 refine ayS ha hb ?_ h
 rcases pZ a.length b.length with h'|h'|h'
 ·have:=acW ha nb h';omega
 ·exact h'
 ·have:=acW hb na h';omega
theorem aqY{a b:List Nat}(ha:DOk a)(hb:DOk b)(i:Nat)(hia:i<a.length)(hib:i<b.length)(hl:a.length=b.length)(hs:a.drop (i+1)=b.drop (i+1))(h:a.getD i 0<b.getD i 0):dv a<dv b:=by
 rw[aip a (i+1) (by omega),aip b (i+1) (by omega),hs,aax,aax]
 have h1:=aey (ha.take i)
 rw[cJ,fM (by omega)] at h1
 have h2:4294967296^i*(a.getD i 0+1)≤4294967296^i*b.getD i 0:=eY _ h
 rw[dJ] at h2
 omega
theorem atd{ds:List Nat}{k:Nat}(h:Nrm ds)(hk:dv ds<2^k):32*ds.length≤k+31:=by
 by_cases hne:ds=[]
 ·subst hne;simp
 ·have h1:=af3 h hne
  have h2:(4294967296:Nat)^(ds.length-1)=2^(32*(ds.length-1)):=by
   rw[pV]
  rw[h2] at h1
  have h3:2^(32*(ds.length-1))<2^k:=fS h1 hk
  have h4:=(nM (by omega:1<2)).1 h3
  have:0<ds.length:=by cases ds with|nil=>exact absurd rfl hne|cons _ _=>simp
  omega
def dg(x:Nat):List Nat:=if h:x=0 then [] else(x%4294967296)::dg (x/4294967296)
termination_by x
decreasing_by omega
theorem aaD(x:Nat):dv (dg x)=x∧DOk (dg x)∧Nrm (dg x):=by
 induction x using Nat.strongRecOn with
 |_ x ih=>
  unfold dg
  split
  ·rename_i h;subst h;exact⟨rfl, .nil,by simp[Nrm]⟩
  ·rename_i h
   obtain⟨h1,h2,h3⟩:=ih (x/4294967296) (by omega)
   refine⟨by rw[dv,h1];omega, .cons (by omega) h2,?_⟩
   unfold Nrm at*
   rw[List.getLast?_cons]
   cases hl:(dg (x/4294967296)).getLast? with
   |none=>
    have:dg (x/4294967296)=[]:=by simpa using hl
    rw[this] at h1
    simp only[Option.getD_none,ne_eq,Option.some.injEq]
    simp only[dv] at h1
    omega
   |some y=>rw[hl] at h3;simpa using h3
theorem arT{ds:List Nat}(h:DOk ds)(n:Nrm ds):dg (dv ds)=ds:=aAB (aaD _).2.1 h (aaD _).2.2 n (aaD _).1
theorem adv{ds:List Nat}(h:DOk ds):dg (dv ds)=trimD ds:=by rw[←abb];exact arT h.trimD (Nrm.trimD _)
theorem afp: ∀(ws:List Nat) (j d:Nat),j<ws.length→dv (ws.set j d)+4294967296^j*ws.getD j 0=dv ws+4294967296^j*d
 |[],j,d,h=>by simp at h
 |w::t,0,d,h=>by simp[dv];omega
 |w::t,j+1,d,h=>by
  have ih:=afp t j d (by simpa using h)
  simp only[List.set_cons_succ,dv,lZ,fZ]
  have h1:4294967296^j*4294967296*t.getD j 0=4294967296*(4294967296^j*t.getD j 0):=by rw[bL (4294967296^j),bN]
  have h2:4294967296^j*4294967296*d=4294967296*(4294967296^j*d):=by rw[bL (4294967296^j),bN]
  rw[h1,h2]
  omega
theorem abj{ws:List Nat}{k d:Nat}(h:k<ws.length):dv ((ws.set k d).take (k+1))=dv (ws.take k)+4294967296^k*d:=by
 rw[fR (by simpa using h),List.take_set_of_le (aM _),aes]
 simp[dv,fM (oR h)]
theorem ajk(p x:Nat):p*x=p*(x%4294967296)+p*4294967296*(x/4294967296):=by
 have h:p*x=p*(4294967296*(x/4294967296)+x%4294967296):=by rw[qY]
 rw[dJ,←bN] at h
 omega
theorem apX{p A E W c a b:Nat}(h:W+p*c=A+E):(W+p*((c+a+b)%4294967296))+(p*4294967296)*((c+a+b)/4294967296)=(A+p*a)+(E+p*b):=by
 have h1:=ajk p (c+a+b)
 rw[dJ,dJ] at h1
 omega
theorem ayp{p A E W bo b a:Nat}(h:W+E=A+p*bo)(hle:bo+b≤a):(W+p*(a-(bo+b)))+(E+p*b)=(A+p*a)+p*4294967296*0:=by
 have h1:p*a=p*(a-(bo+b))+p*bo+p*b:=by
  rw[←dJ,←dJ];congr 1;omega
 omega
theorem au2{p A E W bo b a:Nat}(h:W+E=A+p*bo)(hle:a<bo+b)(hb:bo+b≤a+4294967296):(W+p*(a+4294967296-(bo+b)))+(E+p*b)=(A+p*a)+p*4294967296*1:=by
 have h1:p*a+p*4294967296=p*(a+4294967296-(bo+b))+p*bo+p*b:=by
  rw[←dJ,←dJ,←dJ];congr 1;omega
 omega
theorem apY{p W W' T c m w:Nat}(hs:W'+p*w=W+p*((c+m+w)%4294967296))(h:W+p*c=T):W'+(p*4294967296)*((c+m+w)/4294967296)=T+p*m:=by
 have h1:=ajk p (c+m+w)
 rw[dJ,dJ] at h1
 omega
end Go.Sx
end
section
namespace Go.Sx
open Go
section
variable {P:Program} {C:Ctx} {n:Nat} {fr:Fr} {own:List Own} {G:Gh}
theorem awq{c:Code}{Q:Exit→Act→World→Prop}(h:St C n fr own G (c.wp P (Exit.noGoto Q))):St C n fr own G ((Code.scope c).wp P Q):=
 fun a w rl=>wp_scope_straight (h a w rl)
theorem awk{l:Nat}{Q:Exit→Act→World→Prop}(h:St C n fr own G (Q .normal)):St C n fr own G ((Code.label l).wp P Q):=
 fun a w rl=>wp_label (h a w rl)
def atb:Exit→Bool
 | .goto _=>false
 |_=>true
end
section
variable {P:Program} {ops:Array Oper} {Q:Exit→Act→World→Prop} {S:World→Prop} {fin:Nat→Bool} {k:Nat} {π₂:List (Nat×Bool)}
def apA(ops:Array Oper)(fin:Nat→Bool)(k:Nat)(π₂:List (Nat×Bool)):List (Nat×Bool)→Array Bool→Bool
 |[],listed=>(Region.ready .any ops listed==[k])&&adP ops fin π₂ (listed.setIfInBounds k true)
 |(i,true)::r,listed=>!(Nat.beq i k)&&akS ops fin listed i&&akS ops fin (listed.setIfInBounds k true) i&&apA ops fin k π₂ r (listed.setIfInBounds i true)
 |(i,false)::r,listed=>!(Nat.beq i k)&&(Region.ready .any ops listed).all (fun j=>Nat.beq j i||Nat.beq j k)&&(Region.ready .any ops listed).contains i&&(Region.ready .any ops (listed.setIfInBounds k true)==[i])&&apA ops fin k π₂ r (listed.setIfInBounds i true)
def dwF(P:Program)(ops:Array Oper)(Q:Exit→Act→World→Prop)(S:World→Prop)(fin:Nat→Bool)(k:Nat)(π₂:List (Nat×Bool)):List (Nat×Bool)→Act→World→Prop
 |[],a,w=>wpOp P ops Q k (fun a' w'=>(fin k=true∨S w')∧dwL P ops Q S fin π₂ a' w') a w
 |(i,true)::r,a,w=> ∃o v,ops[i]? =some o∧S w∧YieldsIf P ops S o v a∧dwF P ops Q S fin k π₂ r (a.put o.dst v) w
 |(i,false)::r,a,w=>wpOp P ops Q i (fun a' w'=>(fin i=true∨S w')∧dwF P ops Q S fin k π₂ r a' w') a w∧
   wpOp P ops Q k (fun a' w'=>(fin k=true∨S w')∧dwL P ops Q S fin ((i,false)::r++π₂) a' w') a w
end
section
variable {P:Program} {C:Ctx} {n:Nat} {fr:Fr} {own own0:List Own} {G G0:Gh} {ops:Array Oper} {Q:Exit→Act→World→Prop} {fin:Nat→Bool} {k:Nat} {π π₂:List (Nat×Bool)}
def fF(d:Nat):Option Nat→Fr
 |none=>[]
 |some b=>[(d, .pointer (some ⟨b,0,none⟩))]
def fO(t:TypeId)(z:Value):Option Nat→List Own
 |none=>[]
 |some b=>[⟨b,aag z,t,true⟩]
def dwE(P:Program)(ops:Array Oper)(Q:Exit→Act→World→Prop)(S:World→Prop)(fin:Nat→Bool)(k:Nat)(π₂:List (Nat×Bool))(fl:Option Nat)(π:List (Nat×Bool)):Act→World→Prop:=
 match fl with
 |none=>dwF P ops Q S fin k π₂ π
 |some _=>dwL P ops Q S fin (π++π₂)
end
def relo(fl:Nat→Bool)(o:Own):Own:={o with lo:=fl o.b}
structure FnO (P:Program) (f:FuncId) (vs:List Value) (M:List Own) (G:Gh) (K:Value→List Own→Gh→Prop):Prop where
 able:acP P f
 run: ∀w,ab5 ⟨w,G,M.map (·.b),[],[],none,fun _=>none⟩ (asB M) G w→
  Calls P f ⟨vs⟩ w fun e w'=> ∃v own' G',e= .returned v∧ab5 ⟨w,G,M.map (·.b),[],[],none,fun _=>none⟩ own' G' w'∧K v own' G'
def flM(M:List Own)(b:Nat):Bool:=M.all fun m=>!Nat.beq m.b b||m.lo
theorem ab5.calledO{C:Ctx}{M rest own':List Own}{G G':Gh}{w w':World}(h:ab5 C (M++rest) G w)(k:ab5 ⟨w,G,M.map (·.b),[],[],none,fun _=>none⟩ own' G' w'):
  ab5 C (own'.map (relo (flM M))++rest) G' w':=by
 have hsz:w.heap.size≤w'.heap.size:=k.size
 have hnd:=h.nd
 have inM: ∀b,b∈M.map (·.b)→ ∀o∈rest,o.b≠b:=fun b hb o ho e=>by
  obtain⟨m,hm,rfl⟩:=bJ.1 hb
  exact(fL.1 hnd).2.2 m hm o ho e.symm
 have bnd: ∀o∈own',o.b∉M.map (·.b)→w.heap.size≤o.b:=fun o ho hb=>by
  obtain⟨_,_,h3,h4⟩:=k.hown o ho
  cases hlo:o.lo with
  |true=>exact h3 hlo
  |false=>exact absurd (h4 hlo) hb
 refine⟨k.os.trans h.os,k.tape.trans h.tape,k.output.trans h.output,cR h.size hsz,?_,k.sub,h.gle.trans k.gle,?_,?_,?_,cR h.dr k.dr,fun p hp=>⟨(h.ext p hp).1,by rw[k.keep _ (aco (h.ext p hp).2) (h.extM hp)];exact(h.ext p hp).2⟩⟩
 ·intro b hb hm
  have hs:=h.size
  have hnM:b∉M.map (·.b):=fun hb'=>by
   obtain⟨m,hmM,rfl⟩:=bJ.1 hb'
   obtain⟨_,_,h3,h4⟩:=h.hown m (bU _ hmM)
   cases hlo:m.lo with
   |true=>have:=h3 hlo;omega
   |false=>exact hm (h4 hlo)
  rw[k.keep b (by show b<w.heap.size;omega) hnM];exact h.keep b hb hm
 ·intro b hb;have:=h.size;rw[k.gold b (by show b<w.heap.size;omega)];exact h.gold b hb
 ·intro o ho
  have hs:=h.size
  rcases bZ.1 ho with ho|ho
  ·obtain⟨o',ho',rfl⟩:=bJ.1 ho
   obtain⟨k1,k2,k3,k4⟩:=k.hown _ ho'
   refine⟨k1,k2,fun hl=>?_,fun hl=>?_⟩
   ·show C.w0.heap.size≤o'.b
    by_cases hb:o'.b∈M.map (·.b)
    ·obtain⟨m,hm,hmb⟩:=bJ.1 hb
     have hl':flM M o'.b=true:=hl
     have:=fK.1 hl' m hm
     simp only[hmb,gM,gU,nY] at this
     obtain⟨_,_,h3,_⟩:=h.hown m (bU _ hm)
     rw[←hmb]
     exact h3 (by rcases this with h|h;(cases h);(exact h))
    ·have:=bnd o' ho' hb;omega
   ·show o'.b∈C.mb
    have hl':flM M o'.b=false:=hl
    obtain⟨m,hm,hmb⟩:=List.all_eq_false.1 hl'
    simp only[gM,gU,not_or] at hmb
    obtain⟨h1,h2⟩:=hmb
    have e:m.b=o'.b:=by
     cases hq:Nat.beq m.b o'.b with
     |true=>exact aT hq
     |false=>exact absurd hq h1
    obtain⟨_,_,_,h4⟩:=h.hown m (bU _ hm)
    rw[←e]
    exact h4 (by cases hq:m.lo with
     |true=>exact absurd hq h2
     |false=>rfl)
  ·obtain⟨h1,h2,h3⟩:=h.hown o (bM _ ho)
   have hnM:o.b∉M.map (·.b):=fun hb=>inM _ hb o ho rfl
   exact⟨by rw[k.keep _ (aco h1) hnM];exact h1,by rw[k.gold _ (aco h1)];exact h2,h3⟩
 ·refine fL.2 ⟨?_,(fL.1 hnd).2.1,?_⟩
  ·rw[rX];exact k.nd
  ·intro x hx y hy
   obtain⟨o',ho',rfl⟩:=bJ.1 hx
   show o'.b≠y.b
   by_cases hb:o'.b∈M.map (·.b)
   ·exact fun e=>inM _ hb y hy e.symm
   ·have h1:=bnd o' ho' hb
    have h2:=aco (h.hown y (bM _ hy)).1
    omega
def ahg(C:Ctx)(K:Value→List Own→Gh→Prop):Ending→World→Prop:=fun e w'=> ∃v own' G',e= .returned v∧ab5 C own' G' w'∧K v own' G'
theorem FnO.introR{P:Program}{G:Gh}{f:FuncId}{fn:Func}{c:Code}{vs:List Value}{m:Nat}{M:List Own}{K:Value→List Own→Gh→Prop}(hf:P.funcs[f]? =some fn)(hb:fn.body=some c)(hn:(fn.name== "runtime.NumGoroutine")=false)(hm:fn.ntmps=m)(hlen:Nat.ble vs.length m=true)
  (h: ∀C:Ctx,C.G0=G→C.mb=M.map (·.b)→C.rd=none→(C.fx=fun _=>none)→St C m (aht 0 vs) (asB M) G (c.wp P (adi C P fn (ahg C K)))):FnO P f vs M G K:=by
 refine⟨⟨fn,hf,hn,by simp[hb]⟩,fun w hw=>?_⟩
 have hlen':vs.length≤m:=by simpa using hlen
 have:=calls_of_wp (P:=P) (f:=f) (args:=⟨vs⟩) (w:=w) (R:=ahg ⟨w,G,M.map (·.b),[],[],none,fun _=>none⟩ K) hf hb (wp_mono (h ⟨w,G,M.map (·.b),[],[],none,fun _=>none⟩ J J J J _ w
  ⟨hw,by simp;omega,fun k v hk=>by
   obtain⟨j,rfl,hj⟩:=aeI vs 0 k v hk
   have hj':=(aL.1 hj).1
   rw[mM (by simpa using hj')]
   simpa using hj,rfl⟩) fun _ _ _ k=>k rfl)
 exact this
section
variable {P:Program} {C:Ctx} {n:Nat} {fr:Fr} {own own':List Own} {G:Gh} {Φ:Act→World→Prop}
variable {dst:Option Nat} {t t' ty':TypeId} {pos:String} {af:Array Edge} {gd:Option (Nat×Bool)} {x y:Operand}
theorem ark{fn:Func}{K:Value→List Own→Gh→Prop}{vs:List Value}(hr:RVs P fr own fn.results.toList vs)(own2 own3:List Own)(hp:own.Perm own2)(hs:own3.Sublist own2)(hk:K (ab0 vs) own3 G):St C n fr own G (adi C P fn (ahg C K) .ret):=
 fun a w rl hmk=>⟨rl.df.trans hmk,_,adI hr rl.fr rl.h,_,own3,G,rfl,(rl.h.perm hp).drop hs,hk⟩
theorem atI{f:FuncId}{fo:Operand}{args:Array Operand}{tys:Array TypeId}{vs c1 c2:List Value}{M rest:List Own}{K:Value→List Own→Gh→Prop}(ho:opv fr fo=some (.func (.func f) ⟨c1⟩ ⟨c2⟩))(hv:agr fr args.toList=some vs)
  (hp:own.Perm (M++rest))(hF:FnO P f (c1++vs++c2) M G K)(hd:aaO n dst=true)(h: ∀v own1 (G':Gh),[GE G G']→K v own1 G'→St C n (put fr dst v) (own1.map (relo (flM M))++rest) G' Φ):
  Ch P C n fr own G ⟨dst, .call ⟨.value fo,args,tys⟩,ty',pos,af,gd⟩ Φ:=by
 intro a w Q rl
 have h2:=aiE (P:=P) (dst:=dst) (ty':=ty') (pos:=pos) (af:=af) (gd:=gd) (tys:=tys) (w:=w) hF.able rl.fr ho hv
 simp only[Oper.wp,h2,Oper.upon]
 have hh0:=rl.h.perm hp
 refine(hF.run w hh0.lend).mono ?_
 rintro e w' ⟨v,own1,G',rfl,hh,hK⟩
 exact @h v own1 G' ⟨hh.gle⟩ hK _ _ ((rl.heap (hh0.calledO hh)).put _ hd)
theorem ad9{f:FuncId}{fo:Operand}{args:Array Operand}{tys:Array TypeId}{vs:List Value}{M rest:List Own}{K:Value→List Own→Gh→Prop}(ho:opv fr fo=some (.func (.func f) #[] #[]))(hv:agr fr args.toList=some vs)
  (hp:own.Perm (M++rest))(hF:FnO P f vs M G K)(hd:aaO n dst=true)(h: ∀v own1 (G':Gh),[GE G G']→K v own1 G'→St C n (put fr dst v) (own1.map (relo (flM M))++rest) G' Φ):
  Ch P C n fr own G ⟨dst, .call ⟨.value fo,args,tys⟩,ty',pos,af,gd⟩ Φ:=
 atI (c1:=[]) (c2:=[]) ho hv hp (by simpa using hF) hd h
end
structure SV where
 a:Option Addr
 n:Nat
 c:Nat
def SV.v(x:SV):Value:= .slice x.a x.n x.c
structure afs (G:Gh) (s:Nat) (x:SV) (es:List Value):Prop where
 len:x.n=es.length
 cap:x.n≤x.c
 mem:es=[]∨ ∃b off cs,x.a=some ⟨b,off,none⟩∧G b=some cs∧ ∀i (h:i<es.length),aa1 cs (off+i*s) s=some (aag es[i])
theorem afs.up'{A G:Gh}{s:Nat}{x:SV}{es:List Value}(h:afs A s x es)(k:GLe A G):afs G s x es:=
 ⟨h.len,h.cap,h.mem.imp id (fun⟨b,off,cs,h1,h2,h3⟩=>⟨b,off,cs,h1,k _ _ h2,h3⟩)⟩
theorem afs.up{A G:Gh}{s:Nat}{x:SV}{es:List Value}(h:afs A s x es)[k:GL A G]:afs G s x es:=h.up' k.le
theorem afs.nil(G:Gh)(s:Nat):afs G s ⟨none,0,0⟩ []:=⟨rfl,aM _, .inl rfl⟩
theorem afs.take{G:Gh}{s:Nat}{x:SV}{es:List Value}(h:afs G s x es)(k:Nat)(hk:k≤es.length):afs G s ⟨x.a,k,x.c⟩ (es.take k):=by
 refine⟨by simp[hk],by show k≤x.c;have:=h.len;have:=h.cap;omega,?_⟩
 rcases h.mem with h0|⟨b,off,cs,h1,h2,h3⟩
 ·left;simp[h0]
 ·right;exact⟨b,off,cs,h1,h2,fun i hi=>by
   simp only[cJ] at hi
   rw[h3 i (by omega)];simp⟩
def aze(a:Option Addr)(k:Nat):Option Addr:=a.map (·.add k)
section
variable {P:Program} {C:Ctx} {n:Nat} {fr:Fr} {own own':List Own} {G:Gh} {Φ:Act→World→Prop}
variable {dst:Option Nat} {t t' ty':TypeId} {pos:String} {af:Array Edge} {gd:Option (Nat×Bool)} {x y:Operand} {e s by_:Nat}
theorem aBz{A:Gh}[hT:acJ P t e s by_]{k:IntKind}{z:SV}{es:List Value}{i:Int}(hs:afs A s z es)(hx:opv fr x=some (.slice z.a z.n z.c))(hy:opv fr y=some (.int k i))(h0:0≤i)(h1:i<z.n):
  Yd P C fr own G ⟨dst, .indexAddr t x y,ty',pos,af,gd⟩ (.pointer (aze z.a (i.toNat*s))):=by
 rcases hs.mem with h|⟨b,off,cs,ha,hg,hc⟩
 ·have:=hs.len;rw[h] at this;simp at this;omega
 ·rw[ha] at hx
  have:=ahj (P:=P) (C:=C) (own:=own) (G:=G) (t:=t) (dst:=dst) (ty':=ty') (pos:=pos) (af:=af) (gd:=gd) (by_:=by_) hx hy h0 h1
  rw[ha]
  simpa[aze,acx] using this
theorem ayG{A:Gh}[hA:TyA P t s]{z:SV}{es:List Value}{i:Nat}{l:List Value}(hs:afs A s z es)[hl:GL A G](hx:opv fr x=some (.pointer (aze z.a (i*s))))(h1:i<es.length)(he:es[i]? =some (.agg ⟨l⟩)):
  Yd P C fr own G ⟨dst, .load t x,ty',pos,af,gd⟩ (.agg ⟨l⟩):=by
 rcases hs.mem with h|⟨b,off,cs,ha,hg,hc⟩
 ·rw[h] at h1;simp at h1
 ·rw[ha] at hx
  have h2:=hc i h1
  rw[aQ h1] at he
  have he':es[i]= .agg ⟨l⟩:=by simpa using he
  rw[he'] at h2
  exact akx (by simpa[aze,acx] using hx) (hl.le _ _ hg) h2
theorem aC6{A:Gh}[hA:TyS P t]{z:SV}{es:List Value}{i:Nat}{v:Value}(hs:afs A 1 z es)[hl:GL A G](hx:opv fr x=some (.pointer (aze z.a (i*1))))(he:es[i]? =some v)(hv:flat v=true):
  Yd P C fr own G ⟨dst, .load t x,ty',pos,af,gd⟩ v:=by
 obtain⟨h1,he'⟩:=aL.1 he
 rcases hs.mem with h|⟨b,off,cs,ha,hg,hc⟩
 ·rw[h] at h1;simp at h1
 ·rw[ha] at hx
  have h2:=hc i h1
  rw[he'] at h2
  have hcv:aag v=[v]:=by cases v<;>first|rfl|(simp[flat] at hv)
  rw[hcv] at h2
  obtain⟨_,h3⟩:=abK _ _ _ _ h2
  have h4:=h3 0 (by omega)
  exact af8 (off:=off+i*1) (by simpa[aze,acx] using hx) (hl.le _ _ hg) (by simpa using h4)
end
def dI(d:Nat):Value:= .int .u32 (d:Int)
structure IsD (G:Gh) (x:SV) (ds:List Nat):Prop where
 ok:DOk ds
 sl:afs G 1 x (ds.map dI)
theorem IsD.len{G:Gh}{x:SV}{ds:List Nat}(h:IsD G x ds):x.n=ds.length:=by simpa using h.sl.len
theorem IsD.up{A G:Gh}{x:SV}{ds:List Nat}(h:IsD A x ds)[k:GL A G]:IsD G x ds:=⟨h.ok,h.sl.up⟩
theorem IsD.nil(G:Gh):IsD G ⟨none,0,0⟩ []:=⟨.nil, .nil G 1⟩
theorem IsD.take{G:Gh}{x:SV}{ds:List Nat}(h:IsD G x ds)(k:Nat)(hk:k≤ds.length):IsD G ⟨x.a,k,x.c⟩ (ds.take k):=
 ⟨h.ok.take k,by rw[gX];exact h.sl.take k (by simpa using hk)⟩
theorem IsD.trim{G:Gh}{x:SV}{ds:List Nat}(h:IsD G x ds):IsD G ⟨x.a,(trimD ds).length,x.c⟩ (trimD ds):=by
 have:=h.take _ (abw ds)
 rwa [←ala] at this
theorem IsD.of_block{G:Gh}{b c k:Nat}{cs:List Value}{ds:List Nat}(ok:DOk ds)(hg:G b=some cs)(hk:k=ds.length)(hc:k≤c)(hcs:cs.take ds.length=ds.map dI):IsD G ⟨some ⟨b,0,none⟩,k,c⟩ ds:=by
 refine⟨ok,by simpa using hk,hc, .inr ⟨b,0,cs,rfl,hg,fun i hi=>?_⟩⟩
 have hi':i<ds.length:=by simpa using hi
 have hl:ds.length≤cs.length:=by
  have:=congrArg List.length hcs
  simp at this;omega
 rw[abN _ _ _ (by omega)]
 congr 1
 have h1:(cs.take ds.length)[i]? =(ds.map dI)[i]? :=by rw[hcs]
 rw[qL,if_pos hi',cV,aQ hi',aQ (by omega)] at h1
 have h2:cs[i]=dI ds[i]:=by simpa using h1
 rw[fQ,gN,bQ (by omega),oZ,sT,h2,kY]
 rfl
structure IsN (k:Nat) (G:Gh) (x:SV) (v:Nat):Prop where
 d:IsD G x (dg v)
 lt:v<2^k
theorem IsN.up{k:Nat}{A G:Gh}{x:SV}{v:Nat}(h:IsN k A x v)[GL A G]:IsN k G x v:=⟨h.d.up,h.lt⟩
theorem IsN.len{k:Nat}{G:Gh}{x:SV}{v:Nat}(h:IsN k G x v):x.n=(dg v).length:=h.d.len
theorem IsN.mono{k k':Nat}{G:Gh}{x:SV}{v:Nat}(h:IsN k G x v)(hk:v<2^k'):IsN k' G x v:=⟨h.d,hk⟩
section
variable {P:Program} {C:Ctx} {n:Nat} {fr:Fr} {own own':List Own} {G:Gh} {Φ:Act→World→Prop}
variable {dst:Option Nat} {t t' ty':TypeId} {pos:String} {af:Array Edge} {gd:Option (Nat×Bool)} {x y:Operand} {e s by_:Nat}
theorem ab3{A:Gh}[hT:acJ P t e 1 by_]{k:IntKind}{z:SV}{ds:List Nat}{i:Int}(hs:IsD A z ds)(hx:opv fr x=some (.slice z.a z.n z.c))(hy:opv fr y=some (.int k i))(h0:0≤i)(h1:i<z.n):
  Yd P C fr own G ⟨dst, .indexAddr t x y,ty',pos,af,gd⟩ (.pointer (aze z.a (i.toNat*1))):=aBz hs.sl hx hy h0 h1
theorem ab2{A:Gh}[hA:TyS P t]{z:SV}{ds:List Nat}{i:Nat}(hs:IsD A z ds)[hl:GL A G](hx:opv fr x=some (.pointer (aze z.a (i*1))))(h1:i<ds.length):
  Yd P C fr own G ⟨dst, .load t x,ty',pos,af,gd⟩ (.int .u32 ((ds.getD i 0:Nat):Int)):=
 aC6 hs.sl hx (by rw[cV,aQ h1,aX,aQ h1];rfl) rfl
theorem aEi{A:Gh}{z:SV}{ds:List Nat}(h:IsD A z ds)[hl:GL A G]:Src P C own G 1 z.n (.slice z.a z.n z.c) (ds.map dI):=by
 intro w hw
 by_cases hne:ds=[]
 ·rw[h.len]
  subst hne
  exact aeY w hw
 rcases h.sl.mem with h0|⟨b,off,cs,ha,hg,hc⟩
 ·exact absurd (by simpa using h0) hne
 ·rw[ha]
  have hn:=h.len
  refine azd (hl.le _ _ hg) ?_ w hw
  rw[gN]
  have hel: ∀i,i<ds.length→cs[off+i]? =some (dI (ds.getD i 0)):=fun i hi=>by
   have h1:=hc i (by simpa using hi)
   obtain⟨_,h2⟩:=abK _ _ _ _ h1
   have h3:=h2 0 (by omega)
   rw[gN,dY] at h3
   rw[h3,kY,aX,aQ hi]
   rfl
  by_cases h00:ds.length=0
  ·exact absurd h00 (fun e=>hne (bS e))
  ·have hlast:=hel (ds.length-1) (by omega)
   have hle:off+ds.length≤cs.length:=by
    have:=(aL.1 hlast).1
    omega
   rw[hn,abN _ _ _ hle]
   congr 1
   apply jM
   intro i
   rw[qL]
   split
   ·rename_i hi
    rw[oT,hel i hi,cV,aX,aQ hi]
    rfl
   ·rename_i hi
    rw[cN (by simpa using hi)]
theorem ad3(n:Nat):abo (.int .u32 0) n=(List.replicate n 0).map dI:=by
 unfold abo
 induction n with
 |zero=>rfl
 |succ n ih=>rw[iV,kS,ih];rfl
theorem abp[hT:acJ P t e s by_]{k:IntKind}{b len cap:Nat}{i:Int}(hx:opv fr x=some (.slice (some ⟨b,0,none⟩) len cap))(hy:opv fr y=some (.int k i))(h0:0≤i)(h1:i<len):
  Yd P C fr own G ⟨dst, .indexAddr t x y,ty',pos,af,gd⟩ (.pointer (some ⟨b,i.toNat*s,none⟩)):=by
 have:=ahj (P:=P) (C:=C) (own:=own) (G:=G) (t:=t) (dst:=dst) (ty':=ty') (pos:=pos) (af:=af) (gd:=gd) (by_:=by_) hx hy h0 h1
 rwa [fQ] at this
theorem af6[hA:TyS P t]{b i:Nat}{ws:List Nat}{ty:TypeId}{lo:Bool}(hx:opv fr x=some (.pointer (some ⟨b,i*1,none⟩)))[ho:OAt own b (ws.map dI) ty lo](h1:i<ws.length):
  Yd P C fr own G ⟨dst, .load t x,ty',pos,af,gd⟩ (.int .u32 ((ws.getD i 0:Nat):Int)):=by
 rw[gN] at hx
 refine aaC hx ?_
 rw[cV,aQ h1,aX,aQ h1]
 rfl
theorem aa9{b i d:Nat}{ws:List Nat}{ty:TypeId}{lo:Bool}{v:Int}[hs:TyS P t](hx:opv fr x=some (.pointer (some ⟨b,i*1,none⟩)))(hy:opv fr y=some (.int .u32 v))(hv:v=(d:Int))
  (hu:agq own b (ws.map dI) ty lo ((ws.set i d).map dI) own')(hi:i<ws.length)(hd:aaO n dst=true)(h:St C n (put fr dst undef) own' G Φ):
  Ch P C n fr own G ⟨dst, .store t x y,ty',pos,af,gd⟩ Φ:=by
 rw[gN] at hx
 have hu':agq own b (ws.map dI) ty lo ((ws.map dI).set i (.int .u32 v)) own':=by
  rw[hv,←show dI d= .int .u32 (d:Int) from rfl,←kQ]
  exact hu
 exact adM hx hy hu' (by simpa using hi) rfl hd h
theorem aas{p q:Int}(hx:opv fr x=some (.int .i64 p))(hy:opv fr y=some (.int .i64 q))(h0: -9223372036854775808≤p+q:=by omega)(h1:p+q≤9223372036854775807:=by omega):Yd P C fr own G ⟨dst, .binOp .add t x y t',ty',pos,af,gd⟩ (.int .i64 (p+q)):=atw hx hy ⟨h0,h1⟩
theorem aba{p q:Int}(hx:opv fr x=some (.int .i64 p))(hy:opv fr y=some (.int .i64 q))(h0: -9223372036854775808≤p-q:=by omega)(h1:p-q≤9223372036854775807:=by omega):Yd P C fr own G ⟨dst, .binOp .sub t x y t',ty',pos,af,gd⟩ (.int .i64 (p-q)):=ar9 hx hy ⟨h0,h1⟩
theorem aqD{p q:Int}(hx:opv fr x=some (.int .i64 p))(hy:opv fr y=some (.int .i64 q))(h0: -9223372036854775808≤p*q)(h1:p*q≤9223372036854775807):Yd P C fr own G ⟨dst, .binOp .mul t x y t',ty',pos,af,gd⟩ (.int .i64 (p*q)):=atB hx hy ⟨h0,h1⟩
theorem aee{p q:Int}(hx:opv fr x=some (.int .u64 p))(hy:opv fr y=some (.int .u64 q))(h0:0≤p+q:=by omega)(h1:p+q≤18446744073709551615:=by omega):Yd P C fr own G ⟨dst, .binOp .add t x y t',ty',pos,af,gd⟩ (.int .u64 (p+q)):=atw hx hy ⟨h0,h1⟩
theorem atF{p q:Int}(hx:opv fr x=some (.int .u64 p))(hy:opv fr y=some (.int .u64 q))(h0:0≤p-q)(h1:p-q≤18446744073709551615):Yd P C fr own G ⟨dst, .binOp .sub t x y t',ty',pos,af,gd⟩ (.int .u64 (p-q)):=ar9 hx hy ⟨h0,h1⟩
theorem aow{p q:Int}(hx:opv fr x=some (.int .u64 p))(hy:opv fr y=some (.int .u64 q))(h0:0≤p*q)(h1:p*q≤18446744073709551615):Yd P C fr own G ⟨dst, .binOp .mul t x y t',ty',pos,af,gd⟩ (.int .u64 (p*q)):=atB hx hy ⟨h0,h1⟩
theorem adJ{k k':IntKind}{p q:Int}(hx:opv fr x=some (.int k p))(hy:opv fr y=some (.int k' q))(h0:0≤q):Yd P C fr own G ⟨dst, .binOp .shr t x y t',ty',pos,af,gd⟩ (.int k (p.fdiv (2^min q.toNat k.bits))):=by
 intro a w hf hh
 simp only[execOp,aad hf hx,aad hf hy]
 have h1:(eqGuard .shr t x y (.int k p) (.int k' q)).run P w= .ok () w:=rfl
 have h2:(binOp .shr t (.int k p) (.int k' q)).run P w= .ok (.int k (p.fdiv (2^min q.toNat k.bits))) w:=by
  simp[binOp,Op.shift,Int.not_lt.2 h0,run_pure]
 exact aap (by rw[aaa h1];exact h2)
theorem ajU{k k':IntKind}{p q:Int}(hx:opv fr x=some (.int k p))(hy:opv fr y=some (.int k' q))(h0:0≤q):Yd P C fr own G ⟨dst, .binOp .shl t x y t',ty',pos,af,gd⟩ (.int k (k.wrap (p*2^min q.toNat k.bits))):=by
 intro a w hf hh
 simp only[execOp,aad hf hx,aad hf hy]
 have h1:(eqGuard .shl t x y (.int k p) (.int k' q)).run P w= .ok () w:=rfl
 have h2:(binOp .shl t (.int k p) (.int k' q)).run P w= .ok (.int k (k.wrap (p*2^min q.toNat k.bits))) w:=by
  simp[binOp,Op.shift,Int.not_lt.2 h0,run_pure]
 exact aap (by rw[aaa h1];exact h2)
theorem aaK{k:IntKind}{p:Int}[hs:TyI P t k][hd:TyI P t' .u64](hx:opv fr x=some (.int k p))(h0:0≤p:=by omega)(h1:p≤18446744073709551615:=by omega):Yd P C fr own G ⟨dst, .convert t t' x,ty',pos,af,gd⟩ (.int .u64 p):=al8 hx ⟨h0,h1⟩
theorem aq9{k:IntKind}{p:Int}[hs:TyI P t k][hd:TyI P t' .i64](hx:opv fr x=some (.int k p))(h0: -9223372036854775808≤p:=by omega)(h1:p≤9223372036854775807:=by omega):Yd P C fr own G ⟨dst, .convert t t' x,ty',pos,af,gd⟩ (.int .i64 p):=al8 hx ⟨h0,h1⟩
theorem acQ(p:Int):IntKind.u32.wrap p=p%4294967296:=by simp[IntKind.wrap,IntKind.bits,IntKind.signed]
theorem ab6(p:Int):IntKind.u64.wrap p=p%18446744073709551616:=by simp[IntKind.wrap,IntKind.bits,IntKind.signed]
theorem abm{k:IntKind}{p:Int}[hs:TyI P t k][hd:TyI P t' .u32](hx:opv fr x=some (.int k p)):Yd P C fr own G ⟨dst, .convert t t' x,ty',pos,af,gd⟩ (.int .u32 (p%4294967296)):=by
 have:=alk (P:=P) (C:=C) (own:=own) (G:=G) (dst:=dst) (ty':=ty') (pos:=pos) (af:=af) (gd:=gd) (t:=t) (t':=t') hx
 rwa [acQ] at this
theorem ahB{k:IntKind}{p q:Int}(hx:opv fr x=some (.int k p))(hy:opv fr y=some (.int k q))(h0:0≤p)(h:q≠0):Yd P C fr own G ⟨dst, .binOp .rem t x y t',ty',pos,af,gd⟩ (.int k (p%q)):=by
 have:=ays (P:=P) (C:=C) (own:=own) (G:=G) (dst:=dst) (ty':=ty') (pos:=pos) (af:=af) (gd:=gd) (t:=t) (t':=t') hx hy h
 rwa [Int.tmod_eq_emod_of_nonneg h0] at this
theorem ahA{p q:Int}(hx:opv fr x=some (.int .u64 p))(hy:opv fr y=some (.int .u64 q))(h0:0≤p)(h1:p≤18446744073709551615)(h:0<q):Yd P C fr own G ⟨dst, .binOp .quo t x y t',ty',pos,af,gd⟩ (.int .u64 (p/q)):=by
 have:=auc (P:=P) (C:=C) (own:=own) (G:=G) (dst:=dst) (ty':=ty') (pos:=pos) (af:=af) (gd:=gd) (t:=t) (t':=t') hx hy (by omega)
 rw[Int.tdiv_eq_ediv_of_nonneg h0,ab6,Int.emod_eq_of_lt (Int.ediv_nonneg h0 (by omega)) (by have:=Int.ediv_le_self q h0;omega)] at this
 exact this
theorem abC{Q:Exit→Act→World→Prop}{p:Prop}{inst:Decidable p}{c:Operand}{x y:Code}(hc:opv fr c=some (.bool (@decide p inst)))(h2: ¬p→St C n fr own G (y.wp P Q))(h1:p→St C n fr own G (x.wp P Q)):
  St C n fr own G ((Code.cond c x y).wp P Q):=aaE hc h1 h2
end
section
variable {P:Program} {C:Ctx} {n:Nat} {fr:Fr} {own own' own1:List Own} {G:Gh} {Φ:Act→World→Prop}
variable {dst:Option Nat} {t t' ty':TypeId} {pos:String} {af:Array Edge} {gd:Option (Nat×Bool)} {x y:Operand} {e s by_:Nat}
theorem ahi{v:Value}{b off k:Nat}{cs cs':List Value}{ty:TypeId}{lo:Bool}(hx:opv fr x=some (.pointer (some ⟨b,off,none⟩)))(hy:opv fr y=some v)[hs:TyA P t k][ho:OAt own b cs ty lo]
  (hc:ovw cs off (aag v)=cs')(hu:agq own b cs ty lo cs' own')(hk:(aag v).length=k)(hl:off+k≤cs.length)(hf:(aag v).all flat=true)(hd:aaO n dst=true)(h:St C n (put fr dst undef) own' G Φ):
  Ch P C n fr own G ⟨dst, .store t x y,ty',pos,af,gd⟩ Φ:=alJ hx hy (hc▸hu) hk hl hf hd h
theorem adG{v:Value}{b off:Nat}{cs cs':List Value}{ty:TypeId}{lo:Bool}(hx:opv fr x=some (.pointer (some ⟨b,off,none⟩)))(hy:opv fr y=some v)[hs:TyS P t][ho:OAt own b cs ty lo]
  (hc:cs.set off v=cs')(hu:agq own b cs ty lo cs' own')(hl:off<cs.length)(hf:flat v=true)(hd:aaO n dst=true)(h:St C n (put fr dst undef) own' G Φ):
  Ch P C n fr own G ⟨dst, .store t x y,ty',pos,af,gd⟩ Φ:=adM hx hy (hc▸hu) hl hf hd h
theorem aE7[hT:acJ P t e s by_]{ad:Option Addr}{len cap:Nat}(hx:opv fr x=some (.slice ad len cap)):
  Yd P C fr own G ⟨dst, .call ⟨.builtin .cap, #[x], #[t]⟩,ty',pos,af,gd⟩ (.int .i64 cap):=by
 intro a w hf hh
 simp only[execOp,resolve,gW,cK,jV,aad hf hx]
 have h1:(Builtin.cap_ #[t] ty' #[.slice ad len cap]).run P w= .ok (.int .i64 cap) w:=by
  simp only[Builtin.cap_]
  show(underlying t>>=_).run P w=_
  rw[aaa (hT.u w)]
  rfl
 exact aap h1
theorem axE{w:World}[hT:acJ P t e s by_]{b off l c l2 c2 m:Nat}{ad2:Option Addr}{cs ys:List Value}{ty:TypeId}(hm:Nat.min l2 l=m)
  (hb:w.heap[b]? =some (.cells ⟨cs⟩ ty (0,0)))(hsy:(Builtin.firstCells s m (.slice ad2 l2 c2)).run P w= .ok ⟨ys⟩ w)(hf: ∀v∈ys,flat v=true)(hl:off+ys.length≤cs.length):
  (Builtin.copy_ #[t,t'] ty' #[.slice (some ⟨b,off,none⟩) l c, .slice ad2 l2 c2]).run P w=
   .ok (.int .i64 m) (abA w b (.cells ⟨ovw cs off ys⟩ ty (0,0))):=by
 obtain⟨i,hi,his,hib⟩:=hT.info
 subst his
 have hst:=abV (P:=P) ys w off 0 cs hf hb (by omega)
 rw[dY] at hst
 subst hm
 simp[Builtin.copy_,run_underlying hT.un,sizeOf,typeInfo,hi,Builtin.lenOf,hsy,hst]
 rfl
theorem avc[hT:acJ P t e s by_]{b off l c l2 c2 m:Nat}{ad2:Option Addr}{cs ys:List Value}{ty:TypeId}{lo:Bool}(hx:opv fr x=some (.slice (some ⟨b,off,none⟩) l c))(hy:opv fr y=some (.slice ad2 l2 c2))
  (hm:Nat.min l2 l=m)(hsy:Src P C own G s m (.slice ad2 l2 c2) ys)(hf: ∀v∈ys,flat v=true)(hl:off+ys.length≤cs.length)(hu:agq own b cs ty lo (ovw cs off ys) own')(hd:aaO n dst=true)
  (h:St C n (put fr dst (.int .i64 m)) own' G Φ):Ch P C n fr own G ⟨dst, .call ⟨.builtin .copy, #[x,y], #[t,t']⟩,ty',pos,af,gd⟩ Φ:=by
 intro a w Q rl
 have hb:=(rl.h.hown _ (hu.spec rl.h.nd).1).1
 refine abl (v:= .int .i64 m) (w':=abA w b (.cells ⟨ovw cs off ys⟩ ty (0,0))) ?_ (h _ _ ((rl.heap (rl.h.store hu)).put _ hd))
 simp only[execOp,resolve,gW,cK,jV,aad rl.fr hx,aad rl.fr hy]
 exact aap (axE hm hb (hsy w rl.h) hf hl)
theorem af7[hT:acJ P t e s by_][hN:TyN P t']{b len cap m cap2:Nat}{ad2:Option Addr}{cs ys:List Value}{lo:Bool}
  (hx:opv fr x=some (.slice (some ⟨b,0,none⟩) len cap))(hy:opv fr y=some (.slice ad2 m cap2))(hu:agq own b cs e lo (ovw cs (len*s) ys) own')(hcs:cs.length=cap*s)
  (hsy:Src P C own G s m (.slice ad2 m cap2) ys)(hys:ys.length=m*s)(hf: ∀v∈ys,flat v=true)(hneed:len+m≤cap)(hd:aaO n dst=true)
  (h:St C n (put fr dst (.slice (some ⟨b,0,none⟩) (len+m) cap)) own' G Φ):
  Ch P C n fr own G ⟨dst, .call ⟨.builtin .append, #[x,y], #[t,t']⟩,ty',pos,af,gd⟩ Φ:=by
 intro a w Q rl
 have hb:=(rl.h.hown _ (hu.spec rl.h.nd).1).1
 refine abl (v:= .slice (some ⟨b,0,none⟩) (len+m) cap) (w':=abA w b (.cells ⟨ovw cs (len*s) ys⟩ e (0,0))) ?_ (h _ _ ((rl.heap (rl.h.store hu)).put _ hd))
 simp only[execOp,resolve,gW,cK,jV,aad rl.fr hx,aad rl.fr hy]
 exact aap (adQ hb hcs (hsy w rl.h) hys hf hneed)
theorem amb[hT:acJ P t e s by_][hN:TyN P t']{z:Value}[hz:TyZ P e z]{b len cap m cap2:Nat}{ad2:Option Addr}{xs ys rest:List Value}{lo:Bool}
  (hx:opv fr x=some (.slice (some ⟨b,0,none⟩) len cap))(hy:opv fr y=some (.slice ad2 m cap2))(hr:alT own ⟨b,xs++rest,e,lo⟩ own1)(hxs:xs.length=len*s)(hcap:xs.length+rest.length=cap*s)(hlc:len≤cap)
  (hsy:Src P C own G s m (.slice ad2 m cap2) ys)(hys:ys.length=m*s)(hf: ∀v∈ys,flat v=true)
  (hby:0<by_)(hb:(len+m)*by_≤140737488355328)(hzs:(aag z).length=s)(hd:aaO n dst=true)
  (h: ∀b lo' cap' rest',len+m≤cap'→rest'.length+(len+m)*s=cap'*s→St C n (put fr dst (.slice (some ⟨b,0,none⟩) (len+m) cap')) (⟨b,xs++ys++rest',e,lo'⟩::own1) G Φ):
  Ch P C n fr own G ⟨dst, .call ⟨.builtin .append, #[x,y], #[t,t']⟩,ty',pos,af,gd⟩ Φ:=by
 intro a w Q rl
 have hp:=rl.h.perm hr.perm
 have hblk:=(hp.hown _ aZ).1
 simp only[] at hblk
 by_cases hneed:len+m≤cap
 ·have hcs:(xs++rest).length=cap*s:=by simp;omega
  have hrun:=adQ (P:=P) (t:=t) (t':=t') (ty':=ty') (w:=w) (len:=len) hblk hcs (hsy w rl.h) hys hf hneed
  have hle:len*s+m*s≤cap*s:=by rw[←cS];exact bW _ hneed
  have hov:ovw (xs++rest) (len*s) ys=xs++ys++rest.drop (m*s):=by
   rw[acA _ _ _ (by rw[hys];omega),←hxs]
   simp[hys,mW]
  refine abl (v:= .slice (some ⟨b,0,none⟩) (len+m) cap) (w':=abA w b (.cells ⟨ovw (xs++rest) (len*s) ys⟩ e (0,0))) ?_ ?_
  ·simp only[execOp,resolve,gW,cK,jV,aad rl.fr hx,aad rl.fr hy]
   exact aap hrun
  ·rw[hov]
   refine h b lo cap (rest.drop (m*s)) hneed ?_ _ _ ((rl.heap (hp.store (.hd ..))).put _ hd)
   rw[gT,cS]
   omega
 ·have hx':Src P C own G s len (.slice (some ⟨b,0,none⟩) len cap) xs:=fun w' hw'=>by
   have hb':=(((hw'.perm hr.perm).hown _ aZ).1)
   refine adz hb' ?_
   rw[abN _ _ _ (by simp;omega),←hxs]
   simp
  have hcap':len+m≤grownCap w (len+m) cap e:=by unfold grownCap;simp only[Question.cut];omega
  have hrun:=adK (P:=P) (t:=t) (t':=t') (ty':=ty') (w:=w) (w':=w) (hx' _ rl.h.drew) (hsy _ rl.h.drew) (by omega) hby hb
  refine abl (v:= .slice (some ⟨w.heap.size,0,none⟩) (len+m) (grownCap w (len+m) cap e)) (w':=w.drew.alloc (.cells ⟨xs++ys++abo z (grownCap w (len+m) cap e-(len+m))⟩ e)) ?_ ?_
  ·simp only[execOp,resolve,gW,cK,jV,aad rl.fr hx,aad rl.fr hy]
   exact aap hrun
  ·refine h w.heap.size _ _ _ hcap' ?_ _ _ ((rl.heap (((hp.drew).drop (List.sublist_cons_self _ _)).alloc _ _)).put _ hd)
   rw[abP,hzs,←cS]
   congr 1
   omega
theorem aox{f:FuncId}{fn:Func}{tS tR:TypeId}(hf:P.funcs[f]? =some fn)(hname:(fn.name== "runtime.NumGoroutine")=false)(hb:fn.body.isNone=true)(hn:Extern.findNext fn=none)
  (he:Extern.find fn=some (Extern.SlicesOverlaps.overlaps #[tS,tS] #[tR]))[hT:acJ P tS e s by_]{args:Array Operand}{tys:Array TypeId}{fo:Operand}
  {b1 b2 o1 o2 l1 l2 c1 c2:Nat}{cs1 cs2:List Value}{t1 t2:TypeId}{lo1 lo2:Bool}(ho:opv fr fo=some (.func (.func f) #[] #[]))
  (hv:agr fr args.toList=some [.slice (some ⟨b1,o1,none⟩) l1 c1, .slice (some ⟨b2,o2,none⟩) l2 c2])[h1:OAt own b1 cs1 t1 lo1][h2:OAt own b2 cs2 t2 lo2](hne:b1≠b2)(hc2:cs2≠[]):
  Yd P C fr own G ⟨dst, .call ⟨.value fo,args,tys⟩,ty',pos,af,gd⟩ (.bool false):=by
 intro a w hfr hh
 have e1:=(hh.hown _ h1.mem).1
 have e2:=(hh.hown _ h2.mem).1
 have ev:args.map a.eval=⟨[.slice (some ⟨b1,o1,none⟩) l1 c1, .slice (some ⟨b2,o2,none⟩) l2 c2]⟩:=by apply Array.ext';simpa using aiK hfr hv
 simp only[] at e1 e2
 have hrun:=Lib.run_overlaps_apart (P:=P) w tS tR e hT.un s hT.siz ⟨b1,o1,none⟩ ⟨b2,o2,none⟩ l1 c1 l2 c2 hne t1 t2 cs1.length cs2.length
  (by simp[World.shape?,e1]) (by simp[World.shape?,e2]) (by simpa using hc2) (by simp[World.frozen?,e1]) (by simp[World.frozen?,e1])
 simp only[execOp,resolve,aad hfr ho,ev,Deferred.ofValue]
 show(invoke (.fn (.func f) #[]) _).run P w=_
 simp only[invoke]
 have h3:=run_callFunc_extern (P:=P) hf hname hb hn he
 rw[h3]
 simp[hrun,Result.andThen]
end
instance alH.cons2 (l m:List Own) (o:Own) [h:alH l m]:alH (o::l) (o::m):=⟨h.s.cons_cons o⟩
theorem dr0{P:Program}{C:Ctx}{n:Nat}{fr:Fr}{own own0:List Own}{G:Gh}{ops:Array Oper}{Q:Exit→Act→World→Prop}{b:Nat}{cs:List Value}{ty:TypeId}{lo:Bool}(fin:Nat→Bool)(π:List (Nat×Bool)){id:Nat}(hm:P.follows .mixedOrders=true)(_hr:alT own ⟨b,cs,ty,lo⟩ own0)(ho:(adP ops fin π (Array.replicate ops.size false)&&Nat.ble π.length ops.size)=true)
  (h:St C n fr own G (dwL P ops (acG Q) (HS C own0 G) fin π)):St C n fr own G ((Code.region id ops true).wp P Q):=by
 simp only[cX] at ho
 intro a w rl
 exact wp_mono (wp_region_any hm (afN _ _ _ _ (ab8 (fun _ _ _ _ _ h=>h) π _ a _ ho.1 (h a _ (rl.heap rl.h.drew)) _ (by simpa using ho.2)))) acG.imp
def aak(vs:List Value):List Value:=(vs.map aag).flatten
theorem aar{s:Nat}: ∀(vs:List Value),(∀v∈vs,(aag v).length=s)→(aak vs).length=vs.length*s
 |[],_=>by simp[aak]
 |v::vs,h=>by
  have h1:=aar vs (fun u hu=>h u (aJ _ hu))
  have h2:=h v aZ
  unfold aak at*
  simp only[cK,kS,aV,bY,h1,h2,iW]
  omega
theorem ace(us vs:List Value):aak (us++vs)=aak us++aak vs:=by simp[aak]
theorem ajA(v:Value):aak [v]=aag v:=by simp[aak]
theorem afK{s:Nat}: ∀(vs:List Value) (i:Nat),(∀v∈vs,(aag v).length=s)→i≤vs.length→(aak vs).take (i*s)=aak (vs.take i)
 |vs,0,_,_=>by simp[aak]
 |[],i+1,_,h=>by simp at h
 |v::vs,i+1,h,hi=>by
  have h1:=afK vs i (fun u hu=>h u (aJ _ hu)) (by simpa using hi)
  have h2:=h v aZ
  unfold aak at*
  simp only[cK,kS,oZ]
  rw[List.take_append,h2,aR (by rw[h2,iW];omega),iW,kV,h1]
theorem afP{s:Nat}: ∀(vs:List Value) (i:Nat),(∀v∈vs,(aag v).length=s)→i≤vs.length→(aak vs).drop (i*s)=aak (vs.drop i)
 |vs,0,_,_=>by simp
 |[],i+1,_,h=>by simp at h
 |v::vs,i+1,h,hi=>by
  have h1:=afP vs i (fun u hu=>h u (aJ _ hu)) (by simpa using hi)
  have h2:=h v aZ
  unfold aak at*
  simp only[cK,kS,sV]
  rw[mW,h2,jT (by rw[h2,iW];omega),iW,kV,h1,lJ]
theorem ahT{s:Nat}{vs rest:List Value}(h: ∀v∈vs,(aag v).length=s){i:Nat}(hi:i<vs.length):aa1 (aak vs++rest) (i*s) s=some (aag vs[i]):=by
 have hl:=aar vs h
 have hle:i*s+s≤vs.length*s:=by rw[←iW];exact bW _ hi
 rw[abN _ _ _ (by simp only[aV];omega)]
 congr 1
 rw[iS (by omega),afP vs i h (by omega),bQ hi]
 have h2:=h vs[i] (cZ hi)
 rw[show(vs[i]::vs.drop (i+1))=[vs[i]]++vs.drop (i+1) from rfl,ace,ajA,fT,dW (by omega),aR (by omega)]
theorem afs.of_flat{G:Gh}{b c s:Nat}{vs rest:List Value}(h: ∀v∈vs,(aag v).length=s)(hg:G b=some (aak vs++rest))(hc:vs.length≤c):afs G s ⟨some ⟨b,0,none⟩,vs.length,c⟩ vs:=
 ⟨rfl,hc, .inr ⟨b,0,_,rfl,hg,fun i hi=>by rw[fQ];exact ahT h hi⟩⟩
section
variable {P:Program} {C:Ctx} {n:Nat} {fr:Fr} {own own':List Own} {G:Gh} {Φ:Act→World→Prop}
variable {dst:Option Nat} {ty':TypeId} {pos:String} {af:Array Edge} {gd:Option (Nat×Bool)} {x y:Operand} {tys:Array TypeId}
theorem drS{ops:Array Oper}{Q:Exit→Act→World→Prop}(own0:List Own)(fin:Nat→Bool)(π:List (Nat×Bool)){id:Nat}(hm:P.follows .mixedOrders=true)(ho:(adP ops fin π (Array.replicate ops.size false)&&Nat.ble π.length ops.size)=true)
  (h:St C n fr own G (dwL P ops (acG Q) (HS C own0 G) fin π)):St C n fr own G ((Code.region id ops true).wp P Q):=by
 simp only[cX] at ho
 intro a w rl
 exact wp_mono (wp_region_any hm (afN _ _ _ _ (ab8 (fun _ _ _ _ _ h=>h) π _ a _ ho.1 (h a _ (rl.heap rl.h.drew)) _ (by simpa using ho.2)))) acG.imp
end
end Go.Sx
end
