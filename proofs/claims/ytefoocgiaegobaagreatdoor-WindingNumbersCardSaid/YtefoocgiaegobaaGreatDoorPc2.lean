import Derived.Test.YtefoocgiaegobaaGreatDoorPc1
import Derived.Scope
import Derived.Laws.Externs
import Derived.Lib.Overlaps
set_option linter.all false
set_option maxRecDepth 100000
section
namespace Go.Sx
open Go
class Cw (P:Program) (t:TypeId):Prop where u: ∀w,(underlying t).run P w= .ok .bool w
class CS (P:Program) (t:TypeId):Prop where u: ∃e,∀w,(underlying t).run P w= .ok (.pointer e) w
class BB (P:Program) (t:TypeId):Prop where u: ∃ms,∀w,(underlying t).run P w= .ok (.interface ms) w
class Bs (P:Program) (t:TypeId) (f:Nat) (off ft:outParam Nat):Prop where
 u: ∃fs fd,(∀w,(underlying t).run P w= .ok (.struct fs) w)/\fs[f]? =some fd/\fd.offset=off/\fd.type=ft
class mp (P:Program) (t:TypeId):Prop where
 un: ∃e,P.underlying t=some (.slice e)
section
variable {P:Program} {C:aA} {n:Nat} {fr:Fr} {own own':List av} {G:Gh} {Φ:Act->World->Prop}
variable {dst:Option Nat} {t t' ty':TypeId} {pos:String} {af:Array Edge} {gd:Option (Nat×Bool)} {x y:Operand}
def mH{w:World}{p q:Value}{b:Bool}(h:(Op.equalIn (9999+1) t p q).run P w= .ok b w):(Op.equal t p q).run P w= .ok b w:=h
def UN[hT:Cw P t]{p q:Bool}(hx:az fr x=some (.bool p))(hy:az fr y=some (.bool q)):Yd P C fr own G ⟨dst, .binOp .eql t x y t',ty',pos,af,gd⟩ (.bool (p==q)):=by
 intro a w hf hh;simp only[execOp,aP hf hx,aP hf hy];have h1:(Op.equal t (.bool p) (.bool q)).run P w= .ok (p==q) w:=mH (by unfold Op.equalIn;rw[aE (hT.u w)];rfl);have h2:(eqGuard .eql t x y (.bool p) (.bool q)).run P w= .ok () w:=J;have h3:(binOp .eql t (.bool p) (.bool q)).run P w= .ok (.bool (p==q)) w:=by simp only[binOp];rw[aE h1];rfl
 exact cv (by rw[aE h2];exact h3)
def To[hT:Cw P t]{p q:Bool}(hx:az fr x=some (.bool p))(hy:az fr y=some (.bool q)):Yd P C fr own G ⟨dst, .binOp .neq t x y t',ty',pos,af,gd⟩ (.bool (!(p==q))):=by
 intro a w hf hh;simp only[execOp,aP hf hx,aP hf hy];have h1:(Op.equal t (.bool p) (.bool q)).run P w= .ok (p==q) w:=mH (by unfold Op.equalIn;rw[aE (hT.u w)];rfl);have h2:(eqGuard .neq t x y (.bool p) (.bool q)).run P w= .ok () w:=J;have h3:(binOp .neq t (.bool p) (.bool q)).run P w= .ok (.bool (!(p==q))) w:=by simp only[binOp];rw[aE h1];rfl
 exact cv (by rw[aE h2];exact h3)
def vY[hT:CS P t]{p:Option Addr}(hx:az fr x=some (.pointer p))(hy:az fr y=some (.pointer none)):Yd P C fr own G ⟨dst, .binOp .eql t x y t',ty',pos,af,gd⟩ (.bool p.isNone):=by
 obtain⟨e,he⟩:=hT.u;intro a w hf hh;simp only[execOp,aP hf hx,aP hf hy];have h1:(Op.equal t (.pointer p) (.pointer none)).run P w= .ok p.isNone w:=mH (by unfold Op.equalIn;rw[aE (he w)];cases p<;>rfl);have h2:(eqGuard .eql t x y (.pointer p) (.pointer none)).run P w= .ok () w:=by cases p<;>rfl
 have h3:(binOp .eql t (.pointer p) (.pointer none)).run P w= .ok (.bool p.isNone) w:=by cases p<;>(simp only[binOp];rw[aE h1];rfl)
 exact cv (by rw[aE h2];exact h3)
def xU[hT:CS P t]{p:Option Addr}(hx:az fr x=some (.pointer p))(hy:az fr y=some (.pointer none)):Yd P C fr own G ⟨dst, .binOp .neq t x y t',ty',pos,af,gd⟩ (.bool (!p.isNone)):=by
 obtain⟨e,he⟩:=hT.u;intro a w hf hh;simp only[execOp,aP hf hx,aP hf hy];have h1:(Op.equal t (.pointer p) (.pointer none)).run P w= .ok p.isNone w:=mH (by unfold Op.equalIn;rw[aE (he w)];cases p<;>rfl);have h2:(eqGuard .neq t x y (.pointer p) (.pointer none)).run P w= .ok () w:=by cases p<;>rfl
 have h3:(binOp .neq t (.pointer p) (.pointer none)).run P w= .ok (.bool (!p.isNone)) w:=by cases p<;>(simp only[binOp];rw[aE h1];rfl)
 exact cv (by rw[aE h2];exact h3)
def EF{v:Value}[hT:BB P t](hv:v= .nilIface\/ ∃k u,v= .iface k u)(hx:az fr x=some v):
  Yd P C fr own G ⟨dst, .binOp .eql t x (.const .nilIface) t',ty',pos,af,gd⟩ (.bool (match v with| .nilIface=>true|_=>false)):=by
 obtain⟨e,he⟩:=hT.u;intro a w hf hh;simp only[execOp,aP hf hx,show a.eval (.const .nilIface)= .nilIface from J];rcases hv with rfl|⟨k,u,rfl⟩
 ·have h1:(Op.equal t .nilIface .nilIface).run P w= .ok true w:=mH (by unfold Op.equalIn;rw[aE (he w)];rfl)
  have h2:(eqGuard .eql t x (.const .nilIface) .nilIface .nilIface).run P w= .ok () w:=by cases x<;>rfl
  exact cv (by rw[aE h2];simp only[binOp];rw[aE h1];rfl)
 ·have h1:(Op.equal t (.iface k u) .nilIface).run P w= .ok false w:=mH (by unfold Op.equalIn;rw[aE (he w)];rfl)
  exact cv (by rw[aE (a:=()) (w':=w) J];simp only[binOp];rw[aE h1];rfl)
def I5{v:Value}[hT:BB P t](hv:v= .nilIface\/ ∃k u,v= .iface k u)(hx:az fr x=some v):
  Yd P C fr own G ⟨dst, .binOp .neq t x (.const .nilIface) t',ty',pos,af,gd⟩ (.bool (match v with| .nilIface=>false|_=>true)):=by
 obtain⟨e,he⟩:=hT.u;intro a w hf hh;simp only[execOp,aP hf hx,show a.eval (.const .nilIface)= .nilIface from J];rcases hv with rfl|⟨k,u,rfl⟩
 ·have h1:(Op.equal t .nilIface .nilIface).run P w= .ok true w:=mH (by unfold Op.equalIn;rw[aE (he w)];rfl)
  have h2:(eqGuard .neq t x (.const .nilIface) .nilIface .nilIface).run P w= .ok () w:=by cases x<;>rfl
  exact cv (by rw[aE h2];simp only[binOp];rw[aE h1];rfl)
 ·have h1:(Op.equal t (.iface k u) .nilIface).run P w= .ok false w:=mH (by unfold Op.equalIn;rw[aE (he w)];rfl)
  exact cv (by rw[aE (a:=()) (w':=w) J];simp only[binOp];rw[aE h1];rfl)
def Ri{cs l:List Value}{f off ft k:Nat}[hF:Bs P t f off ft][hA:mq P ft k](hx:az fr x=some (.agg ⟨cs⟩))(hl:bO cs off k=some l):Yd P C fr own G ⟨dst, .field t x f,ty',pos,af,gd⟩ (.agg ⟨l⟩):=by
 obtain⟨fs,fd,h1,h2,h3,h4⟩:=hF.u;intro a w hf hh;simp only[execOp,aP hf hx];have:(Instr.field t (.agg ⟨cs⟩) f).run P w= .ok (.agg ⟨l⟩) w:=by
  unfold Instr.field;rw[aE (h1 w)];simp only[h2,h3,h4,asAgg];rw[aE (run_pure _ _ _)];unfold part;rw[aE (hA.agg w)];simp only[if_true];rw[aE (hA.siz w)];obtain⟨k1,k2⟩:=l9 _ _ _ _ hl;have:(⟨cs⟩:Array Value).extract off (off+k)=⟨l⟩:=by
   apply Array.ext';rw[Array.toList_extract];apply lR;intro i;rw[List.extract_eq_take_drop,oS];split
   ·rw[iM];exact k2 i (by omega)
   ·exact(dS (show l.length<=i by omega)).symm
  rw[this];rfl
 exact cv this
def Up{cs:List Value}{f off ft:Nat}{v:Value}[hF:Bs P t f off ft][hA:jq P ft](hx:az fr x=some (.agg ⟨cs⟩))(hl:cs[off]? =some v):Yd P C fr own G ⟨dst, .field t x f,ty',pos,af,gd⟩ v:=by
 obtain⟨fs,fd,h1,h2,h3,h4⟩:=hF.u;intro a w hf hh;simp only[execOp,aP hf hx];have:(Instr.field t (.agg ⟨cs⟩) f).run P w= .ok v w:=by
  unfold Instr.field;rw[aE (h1 w)];simp only[h2,h3,h4,asAgg];rw[aE (run_pure _ _ _)];unfold part;rw[aE (hA.agg w)];have:(⟨cs⟩:Array Value)[off]? =some v:=by simpa using hl
  simp only[lX,if_false,this];rfl
 exact cv this
class JW (P:Program) (t:TypeId) (offs:outParam (List (Nat×Nat))):Prop where
 u: ∃fs:Array Field,(∀w,(underlying t).run P w= .ok (.struct fs) w)/\(∀w,(fs.mapM (m:=Sem) fun f=>do pure (f.offset,<-sizeOf f.type)).run P w= .ok ⟨offs⟩ w)
def pI(fr:Fr)(offs:List (Nat×Nat)):List Value->List (Nat×Operand)->Option (List Value)
 |cs,[]=>some cs
 |cs,(i,x)::r=>match offs[i]?,az fr x with
  |some (off,k),some v=>if(aF v).length=k/\off+k<=cs.length then pI fr offs (cP cs off (aF v)) r else none
  |_,_=>none
def BY: ∀(vs:List Value) (cs:Array Value) (off j:Nat),(vs.zipIdx j).foldl (fun cs (c,j)=>cs.setIfInBounds (off+j) c) cs=⟨cP cs.toList (off+j) vs⟩
 |[],cs,off,j=>rfl
 |v::vs,cs,off,j=>by
  simp only[List.zipIdx_cons,iK];rw[BY vs _ off (j+1)];simp[cP,jW]
def CL{a:Act}(hf:iE fr a)(offs:List (Nat×Nat)): ∀(ps:List (Nat×Operand)) (cs out:List Value),pI fr offs cs ps=some out->
  Instr.fill ((⟨offs⟩:Array (Nat×Nat))[·]?) ⟨cs⟩ (ps.map fun(i,x)=>(i,a.eval x))=some ⟨out⟩
 |[],cs,out,h=>by simp only[pI] at h;cases h;rfl
 |(i,x)::ps,cs,out,h=>by
  simp only[pI] at h;split at h
  ·rename_i off k v ho hv
   split at h
   ·rename_i hc
    simp only[cZ,Instr.fill];have:(⟨offs⟩:Array (Nat×Nat))[i]? =some (off,k):=by simpa using ho
    simp only[this,aP hf hv,mv];have h1: ¬((⟨aF v⟩:Array Value).size≠k):=by simp[hc.1]
    have h2: ¬(off+(⟨aF v⟩:Array Value).size>(⟨cs⟩:Array Value).size):=by simp only[lT,hc.1];omega
    rw[if_neg (by simp only[gK,decide_eq_true_eq,not_or];exact⟨by simpa using h1,by simpa using h2⟩)];have e:=BY (aF v) ⟨cs⟩ off 0;have e':(⟨aF v⟩:Array Value).zipIdx.foldl (fun cs (c,j)=>cs.setIfInBounds (off+j) c) (⟨cs⟩:Array Value)=⟨cP cs off (aF v)⟩:=by
     rw[<-Array.foldl_toList,Array.toList_zipIdx];simpa using e
    rw[e'];exact CL hf offs ps _ _ h
   ·cases h
  ·cases h
def K4{parts:Array (Nat×Operand)}{offs:List (Nat×Nat)}{z:Value}{out:List Value}[hT:JW P t offs][hz:io P t z](hb:pI fr offs (aF z) parts.toList=some out):Yd P C fr own G ⟨dst, .build t parts,ty',pos,af,gd⟩ (.agg ⟨out⟩):=by
 obtain⟨fs,h1,h2⟩:=hT.u;intro a w hf hh;simp only[execOp];have:(Instr.build t (parts.map fun(i,x)=>(i,a.eval x))).run P w= .ok (.agg ⟨out⟩) w:=by
  unfold Instr.build;rw[aE (hz.zero w),mv];rw[aE (h1 w)];simp only[];rw[aE (h2 w)];have:=CL hf offs parts.toList _ _ hb;simp only[mW,this];rfl
 exact cv this
end
def dw(z:Value)(k:Nat):List Value:=(List.replicate k (aF z)).flatten
def HQ{α:Type}(l:List α): ∀(k i:Nat),i<k*l.length->(List.replicate k l).flatten[i]? =l[i%l.length]?
 |0,i,h=>by omega
 |k+1,i,h=>by
  rw[fM,jY];by_cases hi:i<l.length
  ·rw[cR hi,dR hi]
  ·rw[fY (by omega),HQ l k (i-l.length) (by rw[cK] at h;omega)]
   rw[Nat.mod_eq_sub_mod (Nat.ge_of_not_lt hi)]
def rG(z:Value)(k:Nat):(dw z k).length=k*(aF z).length:=by simp[dw]
def zc{z:Value}{k m:Nat}(h:m=k*(aF z).length):((Array.range m).map fun i=>(⟨aF z⟩:Array Value)[i%(⟨aF z⟩:Array Value).size]!)=⟨dw z k⟩:=by
 subst h;apply Array.ext';apply lR;intro i;simp only[mW,Array.toList_range,fW,lT];by_cases hi:i<k*(aF z).length
 ·rw[qK hi]
  simp only[iJ];have h1:=HQ (aF z) k i hi;have hpos:0<(aF z).length:=by
   rcases dQ (aF z).length with h|h
   ·rw[h,nT] at hi;omega
   ·exact h
  have hm:=cV i hpos;show _=(dw z k)[i]?;unfold dw;rw[h1];simp[hm]
 ·rw[dS (by simpa using hi)]
  rw[dS (by show(dw z k).length<=i;rw[rG];omega)];rfl
section
variable {P:Program} {C:aA} {n:Nat} {fr:Fr} {own own':List av} {G:Gh} {Φ:Act->World->Prop}
variable {dst:Option Nat} {t t' ty':TypeId} {pos:String} {af:Array Edge} {gd:Option (Nat×Bool)} {x y:Operand} {e s by_:Nat}
def NI[hT:cB P t e s by_](w:World): ∃i:TypeInfo,(typeInfo e).run P w= .ok i w/\i.bytes=by_:=by
 obtain⟨i,h1,_,h2⟩:=hT.info;exact⟨i,by simp[typeInfo,program,Sem.run_bind,Sem.run,h1,run_pure],h2⟩
def pB[hT:cB P t e s by_]{z:Value}[hz:io P e z]{k k':IntKind}{l:Int}(hx:az fr x=some (.int k l))(hy:az fr y=some (.int k' l))(h0:0<=l)(hb:by_*l<=2^47)(hl:l<=2^60)(hs:(aF z).length=s)(hd:bH n dst=true)
  (h: ∀b,St C n (put fr dst (.slice (some ⟨b,0,none⟩) l.toNat l.toNat)) (⟨b,dw z l.toNat,e,true⟩::own) G Φ):
  Ch P C n fr own G ⟨dst, .makeSlice t x y,ty',pos,af,gd⟩ Φ:=by
 intro a w Q rl;have h1:(Instr.makeSlice t (a.eval x) (a.eval y)).run P w= .ok (.slice (some ⟨w.heap.size,0,none⟩) l.toNat l.toNat) (w.alloc (.cells ⟨dw z l.toNat⟩ e)):=by
  obtain⟨i,hi,hib⟩:=NI (P:=P) (t:=t) (e:=e) (s:=s) (by_:=by_) w;rw[aP rl.fr hx,aP rl.fr hy];unfold Instr.makeSlice;rw[aE (hT.u w)];simp only[asInt,asIntOf];rw[aE (a:=l) (w':=w) J,aE (a:=l) (w':=w) J,aE hi,hib];have hw:IntKind.i64.wrap l=l:=pq (by simp[IntKind.min,IntKind.max,IntKind.signed,IntKind.bits];omega);simp only[hw];have c1: ¬((by_:Int)*l>2^48):=by
   have:(2:Int)^47<=2^48:=by decide
   omega
  have c2:(decide (l<0)||decide ((by_:Int)*l>2^48))=false:=by simp[c1];omega
  simp only[c2,Int.lt_irrefl,decide_false,Bool.or_false,Bool.false_or];have c3:decide (l<0)=false:=by simp;omega
  simp only[c3,lX,if_false,gt_iff_lt,Int.lt_irrefl,decide_false,Bool.or_false];have hr: ¬(l.toNat*by_>roomBytes):=by
   unfold roomBytes;have:((l.toNat*by_:Nat):Int)=by_*l:=by rw[iV,qV h0,Int.mul_comm]
   have h47:((2^47:Nat):Int)=2^47:=by decide
   omega
  unfold askRoom;simp only[hr,if_false];rw[aE (run_pure _ _ _),aE (hT.siz w)];have hn:l.toNat*s=l.toNat*(aF z).length:=by rw[hs]
  by_cases h00:l.toNat*s=0
  ·rw[if_pos h00,aE (run_pure _ _ _)]
   have e0:dw z l.toNat=[]:=bM (by rw[rG,hs];exact h00);rw[h00,e0,show(Array.range 0)= #[] from J,Array.map_empty];rfl
  ·rw[if_neg h00,aE (hz.zero w),mv]
   rw[aE (run_pure _ _ _),zc hn];rfl
 refine(fun hk=>?_:Φ (a.put dst (.slice (some ⟨w.heap.size,0,none⟩) l.toNat l.toNat)) (w.alloc (.cells ⟨dw z l.toNat⟩ e))->_) (h w.heap.size _ _ ((rl.heap (rl.h.alloc _ _)).put _ hd));exact kr (v:= .slice (some ⟨w.heap.size,0,none⟩) l.toNat l.toNat) (cv h1) hk
end
section
variable {P:Program} {C:aA} {n:Nat} {fr:Fr} {own own':List av} {G:Gh} {Φ:Act->World->Prop}
variable {dst:Option Nat} {t t' ty':TypeId} {pos:String} {af:Array Edge} {gd:Option (Nat×Bool)} {x y:Operand} {e s by_:Nat}
def o5(fr:Fr)(s:Nat):List Value->List (Nat×Operand)->Option (List Value)
 |cs,[]=>some cs
 |cs,(i,x)::r=>match az fr x with
  |some v=>if(aF v).length=s/\i*s+s<=cs.length then o5 fr s (cP cs (i*s) (aF v)) r else none
  |none=>none
def FL{a:Act}(hf:iE fr a)(s:Nat): ∀(ps:List (Nat×Operand)) (cs out:List Value),o5 fr s cs ps=some out->
  Instr.fill (fun i=>some (i*s,s)) ⟨cs⟩ (ps.map fun(i,x)=>(i,a.eval x))=some ⟨out⟩
 |[],cs,out,h=>by simp only[o5] at h;cases h;rfl
 |(i,x)::ps,cs,out,h=>by
  simp only[o5] at h;split at h
  ·rename_i v hv
   split at h
   ·rename_i hc
    simp only[cZ,Instr.fill,aP hf hv,mv];have h1: ¬((⟨aF v⟩:Array Value).size≠s):=by simp[hc.1]
    have h2: ¬(i*s+(⟨aF v⟩:Array Value).size>(⟨cs⟩:Array Value).size):=by simp only[lT,hc.1];omega
    rw[if_neg (by simp only[gK,decide_eq_true_eq,not_or];exact⟨by simpa using h1,by simpa using h2⟩)];have e:=BY (aF v) ⟨cs⟩ (i*s) 0;have e':(⟨aF v⟩:Array Value).zipIdx.foldl (fun cs (c,j)=>cs.setIfInBounds (i*s+j) c) (⟨cs⟩:Array Value)=⟨cP cs (i*s) (aF v)⟩:=by
     rw[<-Array.foldl_toList,Array.toList_zipIdx];simpa using e
    rw[e'];exact FL hf s ps _ _ h
   ·cases h
  ·cases h
def BE[hT:cB P t e s by_]{z:Value}[hz:io P e z]{len:Nat}{parts:Array (Nat×Operand)}{out:List Value}(hs:(aF z).length=s)(hb:o5 fr s (dw z len) parts.toList=some out)(hsm:Nat.ble (len*s) 1000=true)(hs0:Nat.blt 0 (len*s)=true)(hd:bH n dst=true)
  (h: ∀b,St C n (put fr dst (.slice (some ⟨b,0,none⟩) len len)) (⟨b,out,e,true⟩::own) G Φ):
  Ch P C n fr own G ⟨dst, .buildSlice t len parts,ty',pos,af,gd⟩ Φ:=by
 intro a w Q rl;have hsm':len*s<=1000:=by simpa using hsm
 have hs0':0<len*s:=by simpa[lN] using hs0
 have h1:(Instr.buildSlice t len (parts.map fun(i,x)=>(i,a.eval x))).run P w= .ok (.slice (some ⟨w.heap.size,0,none⟩) len len) (w.alloc (.cells ⟨out⟩ e)):=by
  unfold Instr.buildSlice;rw[aE (hT.u w)];simp only[];rw[aE (hT.siz w)];have c1: ¬(len*s>2^24):=by omega
  have c2: ¬(len*s=0):=by omega
  simp only[c1,if_false];rw[if_neg c2,aE (hz.zero w),mv,aE (run_pure _ _ _)];rw[zc (k:=len) (by rw[hs])];have hf:=FL rl.fr s parts.toList _ _ hb;simp only[mW,hf];rfl
 refine kr (v:= .slice (some ⟨w.heap.size,0,none⟩) len len) (w':=w.alloc (.cells ⟨out⟩ e)) ?_ (h w.heap.size _ _ ((rl.heap (rl.h.alloc _ _)).put _ hd));simp only[execOp];exact cv h1
def FI[hT:cB P t e s by_](hd:bH n dst=true)(h: ∀b,St C n (put fr dst (.slice (some ⟨b,0,none⟩) 0 0)) (⟨b,[],e,true⟩::own) G Φ):
  Ch P C n fr own G ⟨dst, .buildSlice t 0 #[],ty',pos,af,gd⟩ Φ:=by
 intro a w Q rl;have h1:(Instr.buildSlice t 0 #[]).run P w= .ok (.slice (some ⟨w.heap.size,0,none⟩) 0 0) (w.alloc (.cells ⟨[]⟩ e)):=by
  unfold Instr.buildSlice;rw[aE (hT.u w)];simp only[];rw[aE (hT.siz w)];simp only[kX,gt_iff_lt,Nat.not_lt_zero,if_false,if_true];rw[aE (run_pure _ _ _),show(Array.range 0)= #[] from J,Array.map_empty];rfl
 refine kr (v:= .slice (some ⟨w.heap.size,0,none⟩) 0 0) (w':=w.alloc (.cells ⟨[]⟩ e)) ?_ (h w.heap.size _ _ ((rl.heap (rl.h.alloc _ _)).put _ hd));simp only[execOp,iW,iR];exact cv h1
def Dt[hT:cB P t e s by_]{ad:Option Addr}{len cap l2 c2:Nat}(hx:az fr x=some (.slice ad len cap))(hy:az fr y=some (.slice none l2 c2)):Yd P C fr own G ⟨dst, .binOp .eql t x y t',ty',pos,af,gd⟩ (.bool ad.isNone):=by
 intro a w hf hh;simp only[execOp,aP hf hx,aP hf hy];have h1:(Op.equal t (.slice ad len cap) (.slice none l2 c2)).run P w= .ok ad.isNone w:=mH (by unfold Op.equalIn;rw[aE (hT.u w)];cases ad<;>rfl);have h2:(eqGuard .eql t x y (.slice ad len cap) (.slice none l2 c2)).run P w= .ok () w:=J;have h3:(binOp .eql t (.slice ad len cap) (.slice none l2 c2)).run P w= .ok (.bool ad.isNone) w:=by simp only[binOp];rw[aE h1];rfl
 exact cv (by rw[aE h2];exact h3)
def Pg[hT:cB P t e s by_]{ad:Option Addr}{len cap l2 c2:Nat}(hx:az fr x=some (.slice ad len cap))(hy:az fr y=some (.slice none l2 c2)):Yd P C fr own G ⟨dst, .binOp .neq t x y t',ty',pos,af,gd⟩ (.bool (!ad.isNone)):=by
 intro a w hf hh;simp only[execOp,aP hf hx,aP hf hy];have h1:(Op.equal t (.slice ad len cap) (.slice none l2 c2)).run P w= .ok ad.isNone w:=mH (by unfold Op.equalIn;rw[aE (hT.u w)];cases ad<;>rfl);have h2:(eqGuard .neq t x y (.slice ad len cap) (.slice none l2 c2)).run P w= .ok () w:=J;have h3:(binOp .neq t (.slice ad len cap) (.slice none l2 c2)).run P w= .ok (.bool (!ad.isNone)) w:=by simp only[binOp];rw[aE h1];rfl
 exact cv (by rw[aE h2];exact h3)
end
def kw: ∀(cs:List Value) (off k:Nat),off+k<=cs.length->bO cs off k=some ((cs.drop off).take k)
 |cs,0,0,_=>by cases cs<;>rfl
 |[],0,k+1,h=>by simp at h
 |v::t,0,k+1,h=>by
  simp only[bO,kw t 0 k (by simp at h;omega)];simp
 |[],_+1,k,h=>by simp at h
 |_::t,off+1,k,h=>by
  simp only[bO,kw t off k (by simp at h;omega)];simp
section
variable {P:Program} {C:aA} {n:Nat} {fr:Fr} {own own' own1:List av} {G:Gh} {Φ:Act->World->Prop}
variable {dst:Option Nat} {t t' ty':TypeId} {pos:String} {af:Array Edge} {gd:Option (Nat×Bool)} {x y:Operand} {e s by_:Nat}
def mr(P:Program)(C:aA)(own:List av)(G:Gh)(s m:Nat)(v:Value)(ys:List Value):Prop:=
 ∀w,bh C own G w->(Builtin.firstCells s m v).run P w= .ok ⟨ys⟩ w
def yV{w:World}{b off k:Nat}{cs l:List Value}{ty:TypeId}{fz:Nat×Nat}(h:w.heap[b]? =some (.cells ⟨cs⟩ ty fz))(hl:bO cs off k=some l):(loadCells ⟨b,off,none⟩ k).run P w= .ok ⟨l⟩ w:=by
 obtain⟨h1,h2⟩:=l9 _ _ _ _ hl;unfold loadCells;rw[CP (l:=l) k 0 #[] (fun j hj=>by rw[uT h];simpa using h2 j hj) (by omega)];simp[<-h1]
def GD{b off m len cap:Nat}{cs ys:List Value}{ty:TypeId}{lo:Bool}(ho:iO own b cs ty lo)(hl:bO cs off (m*s)=some ys):mr P C own G s m (.slice (some ⟨b,off,none⟩) len cap) ys:=
 fun w h=>yV (h.hown _ ho.mem).1 hl
def F8{b off m len cap:Nat}{cs ys:List Value}(hg:G b=some cs)(hl:bO cs off (m*s)=some ys):mr P C own G s m (.slice (some ⟨b,off,none⟩) len cap) ys:=
 fun w h=>by obtain⟨ty,fz,hb⟩:=h.sub _ _ hg;exact yV hb hl
def tr{ad:Option Addr}{len cap:Nat}:mr P C own G s 0 (.slice ad len cap) []:=fun w _=>by
 cases ad with
 |none=>rfl
 |some a=>unfold Builtin.firstCells loadCells;simp[loadCellsFrom,run_pure]
def KI(z:Value)(k:Nat):Builtin.zeroCells ⟨aF z⟩ k=⟨dw z k⟩:=by
 unfold Builtin.zeroCells;exact zc J
def GP{w w':World}[hT:cB P t e s by_][hN:mp P t']{z:Value}[hz:io P e z]{ad:Option Addr}{len cap m cap2:Nat}{ad2:Option Addr}{xs ys:List Value}
  (hsx:(Builtin.firstCells s len (.slice ad len cap)).run P w.drew= .ok ⟨xs⟩ w.drew)(hsy:(Builtin.firstCells s m (.slice ad2 m cap2)).run P w.drew= .ok ⟨ys⟩ w.drew)
  (hneed:cap<len+m)(hby:0<by_)(hb:(len+m)*by_<=140737488355328):
  (Builtin.append_ #[t,t'] ty' #[.slice ad len cap, .slice ad2 m cap2]).run P w=
   .ok (.slice (some ⟨w.heap.size,0,none⟩) (len+m) (grownCap w (len+m) cap e)) (w.drew.alloc (.cells ⟨xs++ys++dw z (grownCap w (len+m) cap e-(len+m))⟩ e)):=by
 obtain⟨d,hd1⟩:=hN.un;obtain⟨i,hi,his,hib⟩:=hT.info;obtain⟨i',hi',hiz⟩:=hz.info;rw[hi] at hi';cases hi';have hfit:=growslice_fits (old:=cap) (need:=len+m) (bytes:=by_) hneed hb;have hlen:len+m<=140737488355328:=fQ (Nat.le_mul_of_pos_right _ hby) hb;have hn: ¬(len+m<=cap):=by omega
 have h63': ¬(9223372036854775807<((len:Int)+(m:Int))):=by omega
 have h48': ¬(281474976710656<Builtin.nextslicecap (len+m) cap*i.bytes):=by rw[hib];omega
 subst his;simp[Builtin.append_,run_underlying hT.un,run_underlying hd1,sizeOf,typeInfo,zeroValue,hi,hiz,Builtin.lenOf,hn,h63',h48',Question.forced,hsx,hsy,newRow,grownCap];congr 2;apply Array.ext';rw[mv,KI];simp[fX]
def BV[hT:cB P t e s by_][hN:mp P t']{z:Value}[hz:io P e z]{ad:Option Addr}{len cap m cap2:Nat}{ad2:Option Addr}{xs ys:List Value}
  (hx:az fr x=some (.slice ad len cap))(hy:az fr y=some (.slice ad2 m cap2))(hsx:mr P C own G s len (.slice ad len cap) xs)(hsy:mr P C own G s m (.slice ad2 m cap2) ys)
  (hneed:cap<len+m)(hby:0<by_)(hb:(len+m)*by_<=140737488355328)(hd:bH n dst=true)
  (h: ∀b cap',len+m<=cap'->St C n (put fr dst (.slice (some ⟨b,0,none⟩) (len+m) cap')) (⟨b,xs++ys++dw z (cap'-(len+m)),e,true⟩::own) G Φ):
  Ch P C n fr own G ⟨dst, .call ⟨.builtin .append, #[x,y], #[t,t']⟩,ty',pos,af,gd⟩ Φ:=by
 intro a w Q rl;have hcap:len+m<=grownCap w (len+m) cap e:=by unfold grownCap;simp only[Question.cut];omega
 have hrun:=GP (P:=P) (t:=t) (t':=t') (ty':=ty') (w:=w) (w':=w) (hsx _ rl.h.drew) (hsy _ rl.h.drew) hneed hby hb;refine kr (v:= .slice (some ⟨w.heap.size,0,none⟩) (len+m) (grownCap w (len+m) cap e)) (w':=w.drew.alloc (.cells ⟨xs++ys++dw z (grownCap w (len+m) cap e-(len+m))⟩ e)) ?_ ?_
 ·simp only[execOp,resolve,iW,cZ,iR,aP rl.fr hx,aP rl.fr hy]
  exact cv hrun
 ·exact h w.heap.size _ hcap _ _ ((rl.heap ((rl.h.drew).alloc _ _)).put _ hd)
def jd.perm{o:av}(h:jd own o own1):own.Perm (o::own1):=by
 induction h with
 |hd o t=>exact List.Perm.refl _
 |tl x t t' o h ih=>exact(List.Perm.cons x ih).trans (List.Perm.swap _ _ _)
def Tz{w:World}[hT:cB P t e s by_][hN:mp P t']{b len cap m cap2:Nat}{ad2:Option Addr}{cs ys:List Value}
  (hb:w.heap[b]? =some (.cells ⟨cs⟩ e (0,0)))(hcs:cs.length=cap*s)(hsy:(Builtin.firstCells s m (.slice ad2 m cap2)).run P w= .ok ⟨ys⟩ w)(hys:ys.length=m*s)(hf: ∀v∈ys,flat v=true)
  (hneed:len+m<=cap):
  (Builtin.append_ #[t,t'] ty' #[.slice (some ⟨b,0,none⟩) len cap, .slice ad2 m cap2]).run P w=
   .ok (.slice (some ⟨b,0,none⟩) (len+m) cap) (e8 w b (.cells ⟨cP cs (len*s) ys⟩ e (0,0))):=by
 obtain⟨d,hd1⟩:=hN.un;obtain⟨i,hi,his,hib⟩:=hT.info;subst his;have hl:len*i.size+ys.length<=cs.length:=by rw[hys,hcs,<-cK];exact bX _ hneed
 have hst:=uD (P:=P) ys w (len*i.size) 0 cs hf hb (by omega);rw[cN] at hst;simp[Builtin.append_,run_underlying hT.un,run_underlying hd1,sizeOf,typeInfo,hi,Builtin.lenOf,hneed,hsy,mO,hst]
def wN: ∀(vs cs:List Value) (off:Nat),(cP cs off vs).length=cs.length
 |[],cs,off=>rfl
 |v::vs,cs,off=>by simp[cP,wN vs]
def rR: ∀(vs cs:List Value) (off:Nat),off+vs.length<=cs.length->cP cs off vs=cs.take off++vs++cs.drop (off+vs.length)
 |[],cs,off,h=>by simp[cP]
 |v::vs,cs,off,h=>by
  simp only[bL] at h;rw[cP,rR vs _ _ (by simp;omega)];rw[List.take_set,mJ (by omega)];have h1:(cs.take (off+1)).set off v=cs.take off++[v]:=by
   rw[dL (by omega),List.set_append_right _ _ (by simp;omega)];simp[fV (by omega:off<=cs.length)]
  rw[h1];simp only[bL,fX,jZ,jL];congr 4;omega
def Hu[hT:cB P t e s by_][hN:mp P t']{z:Value}[hz:io P e z]{b len cap m cap2:Nat}{ad2:Option Addr}{xs ys rest:List Value}
  (hx:az fr x=some (.slice (some ⟨b,0,none⟩) len cap))(hy:az fr y=some (.slice ad2 m cap2))(hr:jd own ⟨b,xs++rest,e,true⟩ own1)(hxs:xs.length=len*s)(hcap:xs.length+rest.length=cap*s)(hlc:len<=cap)
  (hsy:mr P C own G s m (.slice ad2 m cap2) ys)(hys:ys.length=m*s)(hf: ∀v∈ys,flat v=true)
  (hby:0<by_)(hb:(len+m)*by_<=140737488355328)(hzs:(aF z).length=s)(hd:bH n dst=true)
  (h: ∀b cap' rest',len+m<=cap'->rest'.length+(len+m)*s=cap'*s->St C n (put fr dst (.slice (some ⟨b,0,none⟩) (len+m) cap')) (⟨b,xs++ys++rest',e,true⟩::own1) G Φ):
  Ch P C n fr own G ⟨dst, .call ⟨.builtin .append, #[x,y], #[t,t']⟩,ty',pos,af,gd⟩ Φ:=by
 intro a w Q rl;have hp:=rl.h.perm hr.perm;have hblk:=(hp.hown _ aZ).1;simp only[] at hblk;by_cases hneed:len+m<=cap
 ·have hcs:(xs++rest).length=cap*s:=by simp;omega
  have hrun:=Tz (P:=P) (t:=t) (t':=t') (ty':=ty') (w:=w) (len:=len) hblk hcs (hsy w rl.h) hys hf hneed;have hle:len*s+m*s<=cap*s:=by rw[<-cK];exact bX _ hneed
  have hov:cP (xs++rest) (len*s) ys=xs++ys++rest.drop (m*s):=by
   rw[rR _ _ _ (by rw[hys];omega),<-hxs];simp[hys,List.drop_append]
  refine kr (v:= .slice (some ⟨b,0,none⟩) (len+m) cap) (w':=e8 w b (.cells ⟨cP (xs++rest) (len*s) ys⟩ e (0,0))) ?_ ?_
  ·simp only[execOp,resolve,iW,cZ,iR,aP rl.fr hx,aP rl.fr hy]
   exact cv hrun
  ·rw[hov]
   refine h b cap (rest.drop (m*s)) hneed ?_ _ _ ((rl.heap (hp.store (.hd ..))).put _ hd);rw[lQ,cK];omega
 ·have hx':mr P C own G s len (.slice (some ⟨b,0,none⟩) len cap) xs:=fun w' hw'=>by
   have hb':=(((hw'.perm hr.perm).hown _ aZ).1);refine yV hb' ?_;rw[kw _ _ _ (by simp;omega),<-hxs];simp
  have hcap':len+m<=grownCap w (len+m) cap e:=by unfold grownCap;simp only[Question.cut];omega
  have hrun:=GP (P:=P) (t:=t) (t':=t') (ty':=ty') (w:=w) (w':=w) (hx' _ rl.h.drew) (hsy _ rl.h.drew) (by omega) hby hb;refine kr (v:= .slice (some ⟨w.heap.size,0,none⟩) (len+m) (grownCap w (len+m) cap e)) (w':=w.drew.alloc (.cells ⟨xs++ys++dw z (grownCap w (len+m) cap e-(len+m))⟩ e)) ?_ ?_
  ·simp only[execOp,resolve,iW,cZ,iR,aP rl.fr hx,aP rl.fr hy]
   exact cv hrun
  ·refine h w.heap.size _ _ hcap' ?_ _ _ ((rl.heap (((hp.drew).drop (List.sublist_cons_self _ _)).alloc _ _)).put _ hd)
   rw[rG,hzs,<-cK];congr 1;omega
end
section
variable {P:Program} {ops:Array Oper} {Q:Exit->Act->World->Prop} {S:World->Prop} {fin:Nat->Bool}
def oG(ops:Array Oper)(fin:Nat->Bool):List (Nat×Bool)->Array Bool->Bool
 |[],listed=>(Region.ready .any ops listed).isEmpty
 |(i,true)::r,listed=>sX ops fin listed i&&oG ops fin r (listed.setIfInBounds i true)
 |(i,false)::r,listed=>(Region.ready .any ops listed==[i])&&oG ops fin r (listed.setIfInBounds i true)
def iA(P:Program)(ops:Array Oper)(Q:Exit->Act->World->Prop)(S:World->Prop)(fin:Nat->Bool):List (Nat×Bool)->Act->World->Prop
 |[],a,w=>Q .normal a w
 |(i,true)::r,a,w=> ∃o v,ops[i]? =some o/\S w/\YieldsIf P ops S o v a/\iA P ops Q S fin r (a.put o.dst v) w
 |(i,false)::r,a,w=>wpOp P ops Q i (fun a' w'=>(fin i=true\/S w')/\iA P ops Q S fin r a' w') a w
def CW(hQ: ∀c a d v w,Q (.panic c) (Act.put a d v) w->Q (.panic c) a w): ∀(π:List (Nat×Bool)) (listed:Array Bool) (a:Act) (w:World),oG ops fin π listed=true->iA P ops Q S fin π a w-> ∀fuel,π.length<=fuel->p9 P ops Q S fin fuel listed a w
 |[],listed,a,w,ho,h,fuel,hf=>by
  have hr:Region.ready .any ops listed=[]:=by simpa[oG] using ho
  cases fuel with
  |zero=>exact⟨hr,h⟩
  |succ k=>exact⟨fun _=>h,by rw[hr];simp⟩
 |(i,true)::r,listed,a,w,ho,h,0,hf=>by simp at hf
 |(i,false)::r,listed,a,w,ho,h,0,hf=>by simp at hf
 |(i,true)::r,listed,a,w,ho,h,fuel+1,hf=>by
  obtain⟨o,v,hoi,hS,hy,hk⟩:=h;simp only[oG,sX,bZ] at ho;obtain⟨⟨⟨⟨h1,h2⟩,h3⟩,h4⟩,h5⟩:=ho;obtain⟨h6,h7⟩:=Lv h4;exact Mj hoi (Region.noSelect_spec h1) (fun c a w=>hQ c a _ _ w) h6 h7 fuel listed a w (Region.free_spec hoi h2) (by simpa using h3) hy hS
   (CW hQ r _ _ _ h5 hk fuel (by simpa using hf))
 |(i,false)::r,listed,a,w,ho,h,fuel+1,hf=>by
  simp only[oG,bZ,beq_iff_eq] at ho;exact Vo ho.1 (wpOp_mono (fun a' w' h'=>⟨h'.1,CW hQ r _ _ _ ho.2 h'.2 fuel (by simpa using hf)⟩) h)
end
section
variable {P:Program} {C:aA} {n:Nat} {fr:Fr} {own own0:List av} {G G0:Gh} {ops:Array Oper} {Q:Exit->Act->World->Prop} {fin:Nat->Bool} {π:List (Nat×Bool)}
def dr(fin:Nat->Bool)(π:List (Nat×Bool)){id:Nat}(hm:P.follows .mixedOrders=true)(ho:(oG ops fin π (Array.replicate ops.size false)&&Nat.ble π.length ops.size)=true)
  (h:St C n fr own G (iA P ops (iH Q) (HS C own G) fin π)):St C n fr own G ((Code.region id ops true).wp P Q):=by
 simp only[bZ] at ho;refine Sw fin hm fun a w rl=>CW (fun _ _ _ _ _ h=>h) π _ a w ho.1 (h a w rl) _ (by simpa using ho.2)
def dy{i:Nat}{o:Oper}{v:Value}(ho:ops[i]? =some o)(hy: ∀G':Gh,[GE G0 G']->Yd P C fr own0 G' o v)(hg:o.guard=none)(hd:bH n o.dst=true)[hs:ki own0 own][hl:GL G0 G]
  (h:St C n (put fr o.dst v) own G (iA P ops (iH Q) (HS C own0 G0) fin π)):St C n fr own G (iA P ops (iH Q) (HS C own0 G0) fin ((i,true)::π)):=
 fun a w rl=>⟨o,v,ho,⟨G,hl.le,rl.h.drop hs.s⟩, .inl ⟨by simp[Region.wanted,hg],fun w' ⟨G',hle,hr⟩=> @hy G' ⟨hle⟩ a w' rl.fr hr⟩,h _ _ (rl.put v hd)⟩
def dM{i:Nat}{dst:Option Nat}{ty':TypeId}{pos:String}{af:Array Edge}{x:Operand}{v:Value}(ho:ops[i]? =some ⟨dst, .move x,ty',pos,af,none⟩)(hx:az fr x=some v)(hd:bH n dst=true)[hs:ki own0 own][hl:GL G0 G]
  (h:St C n (put fr dst v) own G (iA P ops (iH Q) (HS C own0 G0) fin π)):St C n fr own G (iA P ops (iH Q) (HS C own0 G0) fin ((i,true)::π)):=dy ho (fun _ _=>jF hx) J hd h
def dA{i:Nat}{dst:Option Nat}{ty':TypeId}{pos:String}{af:Array Edge}{x:Operand}{v:Value}(ho:ops[i]? =some ⟨dst, .assign x,ty',pos,af,none⟩)(hx:az fr x=some v)(hd:bH n dst=true)[hs:ki own0 own][hl:GL G0 G]
  (h:St C n (put fr dst v) own G (iA P ops (iH Q) (HS C own0 G0) fin π)):St C n fr own G (iA P ops (iH Q) (HS C own0 G0) fin ((i,true)::π)):=dy ho (fun _ _=>Ck hx) J hd h
def dc{i:Nat}{o:Oper}(ho:ops[i]? =some o)(hg:o.guard=none)(hc:Ch P C n fr own G o (fun a w=>(fin i=true\/HS C own0 G0 w)/\iA P ops (iH Q) (HS C own0 G0) fin π a w)):St C n fr own G (iA P ops (iH Q) (HS C own0 G0) fin ((i,false)::π)):=by
 intro a w rl;show wpOp P ops (iH Q) i _ a w;unfold wpOp;simp only[ho,Region.wanted,hg,if_true];exact .inl (hc a w _ rl)
def dn(h:St C n fr own G (Q .normal)):St C n fr own G (iA P ops (iH Q) (HS C own0 G0) fin []):=h
def MD{A G:Gh}{b:Nat}{cs:List Value}[h:uO A b cs][k:GL A G]:G b=some cs:=k.le _ _ h.h
variable {dst:Option Nat} {t t' ty':TypeId} {pos:String} {af:Array Edge} {x y:Operand} {r:List Oper}
def sm{v:Value}(hx:az fr x=some v)(hd:bH n dst=true)(h:St C n (put fr dst v) own G (dm P ops Q r)):St C n fr own G (dm P ops Q (⟨dst, .move x,ty',pos,af,none⟩::r)):=sP (jF hx) J hd h
def sa{v:Value}(hx:az fr x=some v)(hd:bH n dst=true)(h:St C n (put fr dst v) own G (dm P ops Q r)):St C n fr own G (dm P ops Q (⟨dst, .assign x,ty',pos,af,none⟩::r)):=sP (Ck hx) J hd h
def nO{b off k:Nat}{cs l:List Value}{lo:Bool}{ty:TypeId}(hx:az fr x=some (.pointer (some ⟨b,off,none⟩)))[ho:iO own b cs ty lo][mq P t k](hl:bO cs off k=some l)(hd:bH n dst=true)
  (h:St C n (put fr dst (.agg ⟨l⟩)) own G (dm P ops Q r)):St C n fr own G (dm P ops Q (⟨dst, .load t x,ty',pos,af,none⟩::r)):=sP (B7 hx hl) J hd h
def cg{e s by_:Nat}{ad:Option Addr}{len cap:Nat}[hT:cB P t e s by_](hx:az fr x=some (.slice ad len cap))(hd:bH n dst=true)
  (h:St C n (put fr dst (.int .i64 len)) own G (dm P ops Q r)):St C n fr own G (dm P ops Q (⟨dst, .call ⟨.builtin .len, #[x], #[t]⟩,ty',pos,af,none⟩::r)):=sP (pH hx) J hd h
def sx{vs:Array Value}{i:Nat}{v:Value}(hx:az fr x=some (.tuple vs))(hv:vs[i]? =some v)(hd:bH n dst=true)(h:St C n (put fr dst v) own G (dm P ops Q r)):St C n fr own G (dm P ops Q (⟨dst, .extract x i,ty',pos,af,none⟩::r)):=sP (Ci hx hv) J hd h
def du{C:aA}{n:Nat}{fr:Fr}{own:List av}{G:Gh}{K:Act->World->Prop}{Q:Exit->Act->World->Prop}{id:Nat}(h:St C n fr own G (Q (.exit id))):St C n fr own G (Exit.then K Q (.exit id)):=h
def d8{op:Op}{v:Value}{j d:Nat}{b:Bool}(hj:(ops[j]?).bind (·.dst)=some d)(hl:fj fr d=some (.bool b))(hy:Yd P C fr own G ⟨dst,op,ty',pos,af,some (j,b)⟩ v)(hd:bH n dst=true)(h:St C n (put fr dst v) own G (dm P ops Q r)):St C n fr own G (dm P ops Q (⟨dst,op,ty',pos,af,some (j,b)⟩::r)):=Vs J hj hl hy hd h
def ss{op:Op}{j d:Nat}{b c:Bool}(hj:(ops[j]?).bind (·.dst)=some d)(hl:fj fr d=some (.bool c))(hbc:(c==b)=false)(hd:bH n dst=true)(h:St C n (put fr dst undef) own G (dm P ops Q r)):St C n fr own G (dm P ops Q (⟨dst,op,ty',pos,af,some (j,b)⟩::r)):=Qt J hj hl hbc hd h
def sy{op:Op}{v:Value}(hy:Yd P C fr own G ⟨dst,op,ty',pos,af,none⟩ v)(hd:bH n dst=true)(h:St C n (put fr dst v) own G (dm P ops Q r)):St C n fr own G (dm P ops Q (⟨dst,op,ty',pos,af,none⟩::r)):=sP hy J hd h
def sc{op:Op}(hc:Ch P C n fr own G ⟨dst,op,ty',pos,af,none⟩ (dm P ops Q r)):St C n fr own G (dm P ops Q (⟨dst,op,ty',pos,af,none⟩::r)):=Pm J hc
end
def Fn.of_calls{P:Program}{f:FuncId}{vs:List Value}{G:Gh}{v:Value}(ha:kO P f)(h: ∀w,Calls P f ⟨vs⟩ w fun e w'=>e= .returned v/\w'=w):Fn P f vs G (fun u _=>u=v):=
 ⟨ha,fun w hw=>(h w).mono fun e w' ⟨he,hww⟩=>⟨v,G,he,by
  subst hww;exact⟨J,J,J,aS _,fun _ _ _=>J,hw,bg.refl _,fun _ _=>J,fun o ho=>(by cases ho), .nil,aS _,fun p hp=>by cases hp⟩,J⟩⟩
end Go.Sx
end
section
namespace Go.Sx
def dv:List Nat->Nat
 |[]=>0
 |d::t=>d+4294967296*dv t
def aO(ds:List Nat):Prop:= ∀d∈ds,d<4294967296
def c8(ds:List Nat):Prop:=ds.getLast? ≠some 0
instance (ds:List Nat):Decidable (c8 ds):=inferInstanceAs (Decidable (ds.getLast? ≠some 0))
def aO.nil:aO []:=fun _ h=>by cases h
def aO.cons{d:Nat}{ds:List Nat}(h:d<4294967296)(k:aO ds):aO (d::ds):=fun x hx=>by
 rcases aR.1 hx with rfl|h'
 ·exact h
 ·exact k _ h'
def aO.head{d:Nat}{ds:List Nat}(h:aO (d::ds)):d<4294967296:=h d aZ
def aO.tail{d:Nat}{ds:List Nat}(h:aO (d::ds)):aO ds:=fun x hx=>h x (aK _ hx)
def aO.append{a b:List Nat}(h:aO a)(k:aO b):aO (a++b):=fun x hx=>by
 rcases dK.1 hx with h'|h'
 ·exact h _ h'
 ·exact k _ h'
def aO.take{a:List Nat}(h:aO a)(n:Nat):aO (a.take n):=fun x hx=>h x (fJ hx)
def aO.drop{a:List Nat}(h:aO a)(n:Nat):aO (a.drop n):=fun x hx=>h x (List.mem_of_mem_drop hx)
def aO.get{a:List Nat}(h:aO a)(i:Nat):a.getD i 0<4294967296:=by
 rw[aJ]
 cases hi:a[i]? with
 |none=>simp
 |some d=>exact h d (aU hi)
def aO.set{a:List Nat}(h:aO a)(i:Nat){d:Nat}(hd:d<4294967296):aO (a.set i d):=fun x hx=>by
 rcases List.mem_or_eq_of_mem_set hx with h'|rfl
 ·exact h _ h'
 ·exact hd
def aO.replicate(n:Nat):aO (List.replicate n 0):=fun x hx=>by
 rw[kJ hx];omega
def s9(a b:List Nat):dv (a++b)=dv a+4294967296^a.length*dv b:=by
 induction a with
 |nil=>simp[dv]
 |cons d t ih=>
  simp only[jZ,dv,ih,bL,eX];rw[cY,<-jW,<-bW,bV 4294967296 (4294967296^t.length)]
def gq{ds:List Nat}(h:aO ds):dv ds<4294967296^ds.length:=by
 induction ds with
 |nil=>simp[dv]
 |cons d t ih=>
  have h1:=h.head;have h2:=ih h.tail;simp only[dv,bL,eX];omega
def r7(n:Nat):dv (List.replicate n 0)=0:=by
 induction n with
 |zero=>rfl
 |succ n ih=>simp[fM,dv,ih]
def fP(ds:List Nat)(i:Nat):dv (ds.take (i+1))=dv (ds.take i)+4294967296^i*ds.getD i 0:=by
 by_cases h:i<ds.length
 ·rw[dL h,s9]
  simp[dv,fV (mM h),aJ,h]
 ·have:ds.getD i 0=0:=by rw[aJ,dS (by omega)];rfl
  rw[this,aT (by omega),aT (by omega)];simp
def vA(ds:List Nat)(i:Nat)(h:i<=ds.length):dv ds=dv (ds.take i)+4294967296^i*dv (ds.drop i):=by
 have:=s9 (ds.take i) (ds.drop i);rw[lV] at this;rw[this];simp[fV h]
def trimD:List Nat->List Nat
 |[]=>[]
 |d::t=>match trimD t with
  |[]=>if d=0 then [] else [d]
  |t'=>d::t'
def qq(d:Nat)(t:List Nat):trimD (d::t)=if trimD t=[]/\d=0 then [] else d::trimD t:=by
 simp only[trimD]
 cases h:trimD t with
 |nil=>by_cases hd:d=0<;>simp[hd]
 |cons a b=>simp
def gw(ds:List Nat):dv (trimD ds)=dv ds:=by
 induction ds with
 |nil=>rfl
 |cons d t ih=>
  rw[qq];split
  ·rename_i h
   rw[h.1] at ih;simp[dv,<-ih,h.2]
  ·simp[dv,ih]
def JX(ds:List Nat):trimD (ds++[0])=trimD ds:=by
 induction ds with
 |nil=>rfl
 |cons d t ih=>rw[jZ,qq,qq,ih]
def yP{ds:List Nat}{d:Nat}(h:d≠0):trimD (ds++[d])=ds++[d]:=by
 induction ds with
 |nil=>simp[trimD,h]
 |cons e t ih=>rw[jZ,qq,ih];simp
def c8.trimD(ds:List Nat):c8 (trimD ds):=by
 induction ds with
 |nil=>simp[c8,Sx.trimD]
 |cons d t ih=>
  rw[qq];split
  ·simp[c8]
  ·rename_i h
   unfold c8 at*;rw[List.getLast?_cons]
   cases ht:(Sx.trimD t).getLast? with
   |none=>
    have:Sx.trimD t=[]:=by simpa using ht
    simp only[Option.getD_none,ne_eq,Option.some.injEq];exact fun hd=>h ⟨this,hd⟩
   |some x=>rw[ht] at ih;simpa using ih
def kp(ds:List Nat):(trimD ds).length<=ds.length:=by
 induction ds with
 |nil=>simp[trimD]
 |cons d t ih=>
  rw[qq];split
  ·simp
  ·simp;omega
def J1(ds:List Nat):trimD ds=ds.take (trimD ds).length:=by
 induction ds with
 |nil=>rfl
 |cons d t ih=>
  rw[qq];split
  ·rfl
  ·simp only[bL,mX];rw[<-ih]
def aO.trimD{ds:List Nat}(h:aO ds):aO (trimD ds):=by rw[J1];exact h.take _
def Ed{ds:List Nat}(h:c8 ds):trimD ds=ds:=by
 rcases pW ds with rfl|⟨l,d,rfl⟩
 ·rfl
 ·rw[pY] at*
  exact yP (fun e=>by subst e;simp[c8] at h)
def ng{ds:List Nat}(h:c8 ds)(hne:ds≠[]):4294967296^(ds.length-1)<=dv ds:=by
 rcases pW ds with rfl|⟨l,d,rfl⟩
 ·exact absurd J hne
 ·rw[pY] at*
  have hd:d≠0:=fun e=>by subst e;simp[c8] at h
  rw[s9];simp only[bK,bL,iS,dv];have:4294967296^(l.length+(0+1)-1)=4294967296^l.length:=by congr 1
  rw[this];have h1:4294967296^l.length*1<=4294967296^l.length*(d+4294967296*0):=dY _ (by omega);omega
def N2{ds:List Nat}(h:c8 ds):dv ds=0↔ds=[]:=by
 constructor
 ·intro h0
  by_cases hne:ds=[]
  ·exact hne
  ·have:=ng h hne
   have hp:0<4294967296^(ds.length-1):=dZ (by omega);omega
 ·rintro rfl;rfl
def og{a b:List Nat}(ha:aO a)(hb:c8 b)(h:a.length<b.length):dv a<dv b:=by
 have h1:=gq ha;have h2:=ng hb (fun e=>by subst e;simp at h);have h3:4294967296^a.length<=4294967296^(b.length-1):=aM (by omega) (by omega);omega
def D9: ∀{a b:List Nat},aO a->aO b->a.length=b.length->dv a=dv b->a=b
 |[],[],_,_,_,_=>rfl
 |d::t,e::u,ha,hb,hl,h=>by
  have h1:=ha.head;have h2:=hb.head;simp only[dv] at h;have:d=e:=by omega
  subst this;rw[D9 ha.tail hb.tail (by simpa using hl) (by omega)]
def LH{a b:List Nat}(ha:aO a)(hb:aO b)(na:c8 a)(nb:c8 b)(h:dv a=dv b):a=b:=by
 refine D9 ha hb ?_ h;rcases Nat.lt_trichotomy a.length b.length with h'|h'|h'
 ·have:=og ha nb h';omega
 ·exact h'
 ·have:=og hb na h';omega
def yt{a b:List Nat}(ha:aO a)(hb:aO b)(i:Nat)(hia:i<a.length)(hib:i<b.length)(hl:a.length=b.length)(hs:a.drop (i+1)=b.drop (i+1))(h:a.getD i 0<b.getD i 0):dv a<dv b:=by
 rw[vA a (i+1) (by omega),vA b (i+1) (by omega),hs,fP,fP];have h1:=gq (ha.take i);rw[bR,fV (by omega)] at h1;have h2:4294967296^i*(a.getD i 0+1)<=4294967296^i*b.getD i 0:=dY _ h;rw[cY] at h2;omega
def D7{ds:List Nat}{k:Nat}(h:c8 ds)(hk:dv ds<2^k):32*ds.length<=k+31:=by
 by_cases hne:ds=[]
 ·subst hne;simp
 ·have h1:=ng h hne
  have h2:(4294967296:Nat)^(ds.length-1)=2^(32*(ds.length-1)):=by
   rw[nY]
  rw[h2] at h1;have h3:2^(32*(ds.length-1))<2^k:=eJ h1 hk;have h4:=(mQ (by omega:1<2)).1 h3;have:0<ds.length:=by cases ds with|nil=>exact absurd J hne|cons _ _=>simp
  omega
def dg(x:Nat):List Nat:=if h:x=0 then [] else(x%4294967296)::dg (x/4294967296)
termination_by x
decreasing_by omega
def dB(x:Nat):dv (dg x)=x/\aO (dg x)/\c8 (dg x):=by
 induction x using Nat.strongRecOn with
 |_ x ih=>
  unfold dg;split
  ·rename_i h;subst h;exact⟨rfl, .nil,by simp[c8]⟩
  ·rename_i h
   obtain⟨h1,h2,h3⟩:=ih (x/4294967296) (by omega);refine⟨by rw[dv,h1];omega, .cons (by omega) h2,?_⟩;unfold c8 at*;rw[List.getLast?_cons]
   cases hl:(dg (x/4294967296)).getLast? with
   |none=>
    have:dg (x/4294967296)=[]:=by simpa using hl
    rw[this] at h1;simp only[Option.getD_none,ne_eq,Option.some.injEq];simp only[dv] at h1;omega
   |some y=>rw[hl] at h3;simpa using h3
def FR{ds:List Nat}(h:aO ds)(n:c8 ds):dg (dv ds)=ds:=LH (dB _).2.1 h (dB _).2.2 n (dB _).1
def lm{ds:List Nat}(h:aO ds):dg (dv ds)=trimD ds:=by rw[<-gw];exact FR h.trimD (c8.trimD _)
def lE: ∀(ws:List Nat) (j d:Nat),j<ws.length->dv (ws.set j d)+4294967296^j*ws.getD j 0=dv ws+4294967296^j*d
 |[],j,d,h=>by simp at h
 |w::t,0,d,h=>by simp[dv];omega
 |w::t,j+1,d,h=>by
  have ih:=lE t j d (by simpa using h);simp only[List.set_cons_succ,dv,List.getD_cons_succ,eX];have h1:4294967296^j*4294967296*t.getD j 0=4294967296*(4294967296^j*t.getD j 0):=by rw[bV (4294967296^j),bW]
  have h2:4294967296^j*4294967296*d=4294967296*(4294967296^j*d):=by rw[bV (4294967296^j),bW]
  rw[h1,h2];omega
def lC{ws:List Nat}{k d:Nat}(h:k<ws.length):dv ((ws.set k d).take (k+1))=dv (ws.take k)+4294967296^k*d:=by
 rw[dL (by simpa using h),qW (aS _),s9];simp[dv,fV (mM h)]
def Bh(p x:Nat):p*x=p*(x%4294967296)+p*4294967296*(x/4294967296):=by
 have h:p*x=p*(4294967296*(x/4294967296)+x%4294967296):=by rw[oY]
 rw[cY,<-bW] at h;omega
def Ik{p A E W c a b:Nat}(h:W+p*c=A+E):(W+p*((c+a+b)%4294967296))+(p*4294967296)*((c+a+b)/4294967296)=(A+p*a)+(E+p*b):=by
 have h1:=Bh p (c+a+b);rw[cY,cY] at h1;omega
def J8{p A E W bo b a:Nat}(h:W+E=A+p*bo)(hle:bo+b<=a):(W+p*(a-(bo+b)))+(E+p*b)=(A+p*a)+p*4294967296*0:=by
 have h1:p*a=p*(a-(bo+b))+p*bo+p*b:=by
  rw[<-cY,<-cY];congr 1;omega
 omega
def DR{p A E W bo b a:Nat}(h:W+E=A+p*bo)(hle:a<bo+b)(hb:bo+b<=a+4294967296):(W+p*(a+4294967296-(bo+b)))+(E+p*b)=(A+p*a)+p*4294967296*1:=by
 have h1:p*a+p*4294967296=p*(a+4294967296-(bo+b))+p*bo+p*b:=by
  rw[<-cY,<-cY,<-cY];congr 1;omega
 omega
def Fb{p W W' T c m w:Nat}(hs:W'+p*w=W+p*((c+m+w)%4294967296))(h:W+p*c=T):W'+(p*4294967296)*((c+m+w)/4294967296)=T+p*m:=by
 have h1:=Bh p (c+m+w);rw[cY,cY] at h1;omega
end Go.Sx
end
section
namespace Go.Sx
open Go
section
variable {P:Program} {C:aA} {n:Nat} {fr:Fr} {own:List av} {G:Gh}
def RM{c:Code}{Q:Exit->Act->World->Prop}(h:St C n fr own G (c.wp P (Exit.noGoto Q))):St C n fr own G ((Code.scope c).wp P Q):=
 fun a w rl=>wp_scope_straight (h a w rl)
def Q3{l:Nat}{Q:Exit->Act->World->Prop}(h:St C n fr own G (Q .normal)):St C n fr own G ((Code.label l).wp P Q):=
 fun a w rl=>wp_label (h a w rl)
def HD:Exit->Bool
 | .goto _=>false
 |_=>true
end
section
variable {P:Program} {ops:Array Oper} {Q:Exit->Act->World->Prop} {S:World->Prop} {fin:Nat->Bool} {k:Nat} {π₂:List (Nat×Bool)}
def E'(ops:Array Oper)(fin:Nat->Bool)(k:Nat)(π₂:List (Nat×Bool)):List (Nat×Bool)->Array Bool->Bool
 |[],listed=>(Region.ready .any ops listed==[k])&&oG ops fin π₂ (listed.setIfInBounds k true)
 |(i,true)::r,listed=>!(Nat.beq i k)&&sX ops fin listed i&&sX ops fin (listed.setIfInBounds k true) i&&E' ops fin k π₂ r (listed.setIfInBounds i true)
 |(i,false)::r,listed=>!(Nat.beq i k)&&(Region.ready .any ops listed).all (fun j=>Nat.beq j i||Nat.beq j k)&&(Region.ready .any ops listed).contains i&&(Region.ready .any ops (listed.setIfInBounds k true)==[i])&&E' ops fin k π₂ r (listed.setIfInBounds i true)
def By(P:Program)(ops:Array Oper)(Q:Exit->Act->World->Prop)(S:World->Prop)(fin:Nat->Bool)(k:Nat)(π₂:List (Nat×Bool)):List (Nat×Bool)->Act->World->Prop
 |[],a,w=>wpOp P ops Q k (fun a' w'=>(fin k=true\/S w')/\iA P ops Q S fin π₂ a' w') a w
 |(i,true)::r,a,w=> ∃o v,ops[i]? =some o/\S w/\YieldsIf P ops S o v a/\By P ops Q S fin k π₂ r (a.put o.dst v) w
 |(i,false)::r,a,w=>wpOp P ops Q i (fun a' w'=>(fin i=true\/S w')/\By P ops Q S fin k π₂ r a' w') a w/\
   wpOp P ops Q k (fun a' w'=>(fin k=true\/S w')/\iA P ops Q S fin ((i,false)::r++π₂) a' w') a w
end
section
variable {P:Program} {C:aA} {n:Nat} {fr:Fr} {own own0:List av} {G G0:Gh} {ops:Array Oper} {Q:Exit->Act->World->Prop} {fin:Nat->Bool} {k:Nat} {π π₂:List (Nat×Bool)}
def fF(d:Nat):Option Nat->Fr
 |none=>[]
 |some b=>[(d, .pointer (some ⟨b,0,none⟩))]
def fO(t:TypeId)(z:Value):Option Nat->List av
 |none=>[]
 |some b=>[⟨b,aF z,t,true⟩]
def XY(P:Program)(ops:Array Oper)(Q:Exit->Act->World->Prop)(S:World->Prop)(fin:Nat->Bool)(k:Nat)(π₂:List (Nat×Bool))(fl:Option Nat)(π:List (Nat×Bool)):Act->World->Prop:=
 match fl with
 |none=>By P ops Q S fin k π₂ π
 |some _=>iA P ops Q S fin (π++π₂)
end
def relo(fl:Nat->Bool)(o:av):av:={o with lo:=fl o.b}
structure j' (P:Program) (f:FuncId) (vs:List Value) (M:List av) (G:Gh) (K:Value->List av->Gh->Prop):Prop where
 able:kO P f
 run: ∀w,bh ⟨w,G,M.map (·.b),[],[],none,fun _=>none⟩ (asB M) G w->
  Calls P f ⟨vs⟩ w fun e w'=> ∃v own' G',e= .returned v/\bh ⟨w,G,M.map (·.b),[],[],none,fun _=>none⟩ own' G' w'/\K v own' G'
def gE(M:List av)(b:Nat):Bool:=M.all fun m=>!Nat.beq m.b b||m.lo
def bh.calledO{C:aA}{M rest own':List av}{G G':Gh}{w w':World}(h:bh C (M++rest) G w)(k:bh ⟨w,G,M.map (·.b),[],[],none,fun _=>none⟩ own' G' w'):
  bh C (own'.map (relo (gE M))++rest) G' w':=by
 have hsz:w.heap.size<=w'.heap.size:=k.size;have hnd:=h.nd;have inM: ∀b,b∈M.map (·.b)-> ∀o∈rest,o.b≠b:=fun b hb o ho e=>by
  obtain⟨m,hm,rfl⟩:=bY.1 hb;exact(iQ.1 hnd).2.2 m hm o ho e.symm
 have bnd: ∀o∈own',o.b∉M.map (·.b)->w.heap.size<=o.b:=fun o ho hb=>by
  obtain⟨_,_,h3,h4⟩:=k.hown o ho
  cases hlo:o.lo with
  |true=>exact h3 hlo
  |false=>exact absurd (h4 hlo) hb
 refine⟨k.os.trans h.os,k.tape.trans h.tape,k.output.trans h.output,fQ h.size hsz,?_,k.sub,h.gle.trans k.gle,?_,?_,?_,fQ h.dr k.dr,fun p hp=>⟨(h.ext p hp).1,by rw[k.keep _ (eH (h.ext p hp).2) (h.extM hp)];exact(h.ext p hp).2⟩⟩
 ·intro b hb hm
  have hs:=h.size;have hnM:b∉M.map (·.b):=fun hb'=>by
   obtain⟨m,hmM,rfl⟩:=bY.1 hb';obtain⟨_,_,h3,h4⟩:=h.hown m (cW _ hmM)
   cases hlo:m.lo with
   |true=>have:=h3 hlo;omega
   |false=>exact hm (h4 hlo)
  rw[k.keep b (by show b<w.heap.size;omega) hnM];exact h.keep b hb hm
 ·intro b hb;have:=h.size;rw[k.gold b (by show b<w.heap.size;omega)];exact h.gold b hb
 ·intro o ho
  have hs:=h.size;rcases dK.1 ho with ho|ho
  ·obtain⟨o',ho',rfl⟩:=bY.1 ho
   obtain⟨k1,k2,k3,k4⟩:=k.hown _ ho';refine⟨k1,k2,fun hl=>?_,fun hl=>?_⟩
   ·show C.w0.heap.size<=o'.b
    by_cases hb:o'.b∈M.map (·.b)
    ·obtain⟨m,hm,hmb⟩:=bY.1 hb
     have hl':gE M o'.b=true:=hl;have:=dT.1 hl' m hm;simp only[hmb,gK,gM,qT] at this;obtain⟨_,_,h3,_⟩:=h.hown m (cW _ hm);rw[<-hmb];exact h3 (by rcases this with h|h;(cases h);(exact h))
    ·have:=bnd o' ho' hb;omega
   ·show o'.b∈C.mb
    have hl':gE M o'.b=false:=hl;obtain⟨m,hm,hmb⟩:=List.all_eq_false.1 hl';simp only[gK,gM,not_or] at hmb;obtain⟨h1,h2⟩:=hmb;have e:m.b=o'.b:=by
     cases hq:Nat.beq m.b o'.b with
     |true=>exact aY hq
     |false=>exact absurd hq h1
    obtain⟨_,_,_,h4⟩:=h.hown m (cW _ hm);rw[<-e];exact h4 (by cases hq:m.lo with
     |true=>exact absurd hq h2
     |false=>rfl)
  ·obtain⟨h1,h2,h3⟩:=h.hown o (fZ _ ho)
   have hnM:o.b∉M.map (·.b):=fun hb=>inM _ hb o ho J;exact⟨by rw[k.keep _ (eH h1) hnM];exact h1,by rw[k.gold _ (eH h1)];exact h2,h3⟩
 ·refine iQ.2 ⟨?_,(iQ.1 hnd).2.1,?_⟩
  ·rw[pZ];exact k.nd
  ·intro x hx y hy
   obtain⟨o',ho',rfl⟩:=bY.1 hx;show o'.b≠y.b;by_cases hb:o'.b∈M.map (·.b)
   ·exact fun e=>inM _ hb y hy e.symm
   ·have h1:=bnd o' ho' hb
    have h2:=eH (h.hown y (fZ _ hy)).1;omega
def oc(C:aA)(K:Value->List av->Gh->Prop):Ending->World->Prop:=fun e w'=> ∃v own' G',e= .returned v/\bh C own' G' w'/\K v own' G'
def j'.introR{P:Program}{G:Gh}{f:FuncId}{fn:Func}{c:Code}{vs:List Value}{m:Nat}{M:List av}{K:Value->List av->Gh->Prop}(hf:P.funcs[f]? =some fn)(hb:fn.body=some c)(hn:(fn.name== "runtime.NumGoroutine")=false)(hm:fn.ntmps=m)(hlen:Nat.ble vs.length m=true)
  (h: ∀C:aA,C.G0=G->C.mb=M.map (·.b)->C.rd=none->(C.fx=fun _=>none)->St C m (ld 0 vs) (asB M) G (c.wp P (en C P fn (oc C K)))):j' P f vs M G K:=by
 refine⟨⟨fn,hf,hn,by simp[hb]⟩,fun w hw=>?_⟩;have hlen':vs.length<=m:=by simpa using hlen
 have:=calls_of_wp (P:=P) (f:=f) (args:=⟨vs⟩) (w:=w) (R:=oc ⟨w,G,M.map (·.b),[],[],none,fun _=>none⟩ K) hf hb (wp_mono (h ⟨w,G,M.map (·.b),[],[],none,fun _=>none⟩ J J J J _ w
  ⟨hw,by simp;omega,fun k v hk=>by
   obtain⟨j,rfl,hj⟩:=qG vs 0 k v hk;have hj':=(aL.1 hj).1;rw[iZ (by simpa using hj')];simpa using hj,J⟩) fun _ _ _ k=>k J)
 exact this
section
variable {P:Program} {C:aA} {n:Nat} {fr:Fr} {own own':List av} {G:Gh} {Φ:Act->World->Prop}
variable {dst:Option Nat} {t t' ty':TypeId} {pos:String} {af:Array Edge} {gd:Option (Nat×Bool)} {x y:Operand}
def M1{fn:Func}{K:Value->List av->Gh->Prop}{vs:List Value}(hr:il P fr own fn.results.toList vs)(own2 own3:List av)(hp:own.Perm own2)(hs:own3.Sublist own2)(hk:K (eE vs) own3 G):St C n fr own G (en C P fn (oc C K) .ret):=
 fun a w rl hmk=>⟨rl.df.trans hmk,_,oP hr rl.fr rl.h,_,own3,G,J,(rl.h.perm hp).drop hs,hk⟩
def OW{f:FuncId}{fo:Operand}{args:Array Operand}{tys:Array TypeId}{vs c1 c2:List Value}{M rest:List av}{K:Value->List av->Gh->Prop}(ho:az fr fo=some (.func (.func f) ⟨c1⟩ ⟨c2⟩))(hv:fI fr args.toList=some vs)
  (hp:own.Perm (M++rest))(hF:j' P f (c1++vs++c2) M G K)(hd:bH n dst=true)(h: ∀v own1 (G':Gh),[GE G G']->K v own1 G'->St C n (put fr dst v) (own1.map (relo (gE M))++rest) G' Φ):
  Ch P C n fr own G ⟨dst, .call ⟨.value fo,args,tys⟩,ty',pos,af,gd⟩ Φ:=by
 intro a w Q rl;have h2:=Cl (P:=P) (dst:=dst) (ty':=ty') (pos:=pos) (af:=af) (gd:=gd) (tys:=tys) (w:=w) hF.able rl.fr ho hv;simp only[Oper.wp,h2,Oper.upon];have hh0:=rl.h.perm hp;refine(hF.run w hh0.lend).mono ?_;rintro e w' ⟨v,own1,G',rfl,hh,hK⟩;exact @h v own1 G' ⟨hh.gle⟩ hK _ _ ((rl.heap (hh0.calledO hh)).put _ hd)
def vm{f:FuncId}{fo:Operand}{args:Array Operand}{tys:Array TypeId}{vs:List Value}{M rest:List av}{K:Value->List av->Gh->Prop}(ho:az fr fo=some (.func (.func f) #[] #[]))(hv:fI fr args.toList=some vs)
  (hp:own.Perm (M++rest))(hF:j' P f vs M G K)(hd:bH n dst=true)(h: ∀v own1 (G':Gh),[GE G G']->K v own1 G'->St C n (put fr dst v) (own1.map (relo (gE M))++rest) G' Φ):
  Ch P C n fr own G ⟨dst, .call ⟨.value fo,args,tys⟩,ty',pos,af,gd⟩ Φ:=
 OW (c1:=[]) (c2:=[]) ho hv hp (by simpa using hF) hd h
end
structure SV where
 a:Option Addr
 n:Nat
 c:Nat
def SV.v(x:SV):Value:= .slice x.a x.n x.c
structure d6 (G:Gh) (s:Nat) (x:SV) (es:List Value):Prop where
 len:x.n=es.length
 cap:x.n<=x.c
 mem:es=[]\/ ∃b off cs,x.a=some ⟨b,off,none⟩/\G b=some cs/\ ∀i (h:i<es.length),bO cs (off+i*s) s=some (aF es[i])
def d6.up'{A G:Gh}{s:Nat}{x:SV}{es:List Value}(h:d6 A s x es)(k:bg A G):d6 G s x es:=
 ⟨h.len,h.cap,h.mem.imp id (fun⟨b,off,cs,h1,h2,h3⟩=>⟨b,off,cs,h1,k _ _ h2,h3⟩)⟩
def d6.up{A G:Gh}{s:Nat}{x:SV}{es:List Value}(h:d6 A s x es)[k:GL A G]:d6 G s x es:=h.up' k.le
def d6.nil(G:Gh)(s:Nat):d6 G s ⟨none,0,0⟩ []:=⟨J,aS _, .inl J⟩
def d6.take{G:Gh}{s:Nat}{x:SV}{es:List Value}(h:d6 G s x es)(k:Nat)(hk:k<=es.length):d6 G s ⟨x.a,k,x.c⟩ (es.take k):=by
 refine⟨by simp[hk],by show k<=x.c;have:=h.len;have:=h.cap;omega,?_⟩;rcases h.mem with h0|⟨b,off,cs,h1,h2,h3⟩
 ·left;simp[h0]
 ·right;exact⟨b,off,cs,h1,h2,fun i hi=>by
   simp only[bR] at hi;rw[h3 i (by omega)];simp⟩
def sg(a:Option Addr)(k:Nat):Option Addr:=a.map (·.add k)
section
variable {P:Program} {C:aA} {n:Nat} {fr:Fr} {own own':List av} {G:Gh} {Φ:Act->World->Prop}
variable {dst:Option Nat} {t t' ty':TypeId} {pos:String} {af:Array Edge} {gd:Option (Nat×Bool)} {x y:Operand} {e s by_:Nat}
def QF{A:Gh}[hT:cB P t e s by_]{k:IntKind}{z:SV}{es:List Value}{i:Int}(hs:d6 A s z es)(hx:az fr x=some (.slice z.a z.n z.c))(hy:az fr y=some (.int k i))(h0:0<=i)(h1:i<z.n):
  Yd P C fr own G ⟨dst, .indexAddr t x y,ty',pos,af,gd⟩ (.pointer (sg z.a (i.toNat*s))):=by
 rcases hs.mem with h|⟨b,off,cs,ha,hg,hc⟩
 ·have:=hs.len;rw[h] at this;simp at this;omega
 ·rw[ha] at hx
  have:=t6 (P:=P) (C:=C) (own:=own) (G:=G) (t:=t) (dst:=dst) (ty':=ty') (pos:=pos) (af:=af) (gd:=gd) (by_:=by_) hx hy h0 h1;rw[ha];simpa[sg,mO] using this
def Nc{A:Gh}[hA:jq P t]{z:SV}{es:List Value}{i:Nat}{v:Value}(hs:d6 A 1 z es)[hl:GL A G](hx:az fr x=some (.pointer (sg z.a (i*1))))(he:es[i]? =some v)(hv:flat v=true):
  Yd P C fr own G ⟨dst, .load t x,ty',pos,af,gd⟩ v:=by
 obtain⟨h1,he'⟩:=aL.1 he;rcases hs.mem with h|⟨b,off,cs,ha,hg,hc⟩
 ·rw[h] at h1;simp at h1
 ·rw[ha] at hx
  have h2:=hc i h1;rw[he'] at h2;have hcv:aF v=[v]:=by cases v<;>first|rfl|(simp[flat] at hv)
  rw[hcv] at h2;obtain⟨_,h3⟩:=l9 _ _ _ _ h2;have h4:=h3 0 (by omega);exact xN (off:=off+i*1) (by simpa[sg,mO] using hx) (hl.le _ _ hg) (by simpa using h4)
end
def dI(d:Nat):Value:= .int .u32 (d:Int)
structure bE (G:Gh) (x:SV) (ds:List Nat):Prop where
 ok:aO ds
 sl:d6 G 1 x (ds.map dI)
def bE.len{G:Gh}{x:SV}{ds:List Nat}(h:bE G x ds):x.n=ds.length:=by simpa using h.sl.len
def bE.up{A G:Gh}{x:SV}{ds:List Nat}(h:bE A x ds)[k:GL A G]:bE G x ds:=⟨h.ok,h.sl.up⟩
def bE.nil(G:Gh):bE G ⟨none,0,0⟩ []:=⟨.nil, .nil G 1⟩
def bE.take{G:Gh}{x:SV}{ds:List Nat}(h:bE G x ds)(k:Nat)(hk:k<=ds.length):bE G ⟨x.a,k,x.c⟩ (ds.take k):=
 ⟨h.ok.take k,by rw[kK];exact h.sl.take k (by simpa using hk)⟩
def bE.trim{G:Gh}{x:SV}{ds:List Nat}(h:bE G x ds):bE G ⟨x.a,(trimD ds).length,x.c⟩ (trimD ds):=by
 have:=h.take _ (kp ds);rwa [<-J1] at this
def bE.of_block{G:Gh}{b c k:Nat}{cs:List Value}{ds:List Nat}(ok:aO ds)(hg:G b=some cs)(hk:k=ds.length)(hc:k<=c)(hcs:cs.take ds.length=ds.map dI):bE G ⟨some ⟨b,0,none⟩,k,c⟩ ds:=by
 refine⟨ok,by simpa using hk,hc, .inr ⟨b,0,cs,J,hg,fun i hi=>?_⟩⟩;have hi':i<ds.length:=by simpa using hi
 have hl:ds.length<=cs.length:=by
  have:=congrArg List.length hcs;simp at this;omega
 rw[kw _ _ _ (by omega)];congr 1;have h1:(cs.take ds.length)[i]? =(ds.map dI)[i]? :=by rw[hcs]
 rw[oS,if_pos hi',fW,aQ hi',aQ (by omega)] at h1;have h2:cs[i]=dI ds[i]:=by simpa using h1
 rw[dV,jX,bS (by omega),mX,List.take_zero,h2,List.getElem_map];rfl
structure ee (k:Nat) (G:Gh) (x:SV) (v:Nat):Prop where
 d:bE G x (dg v)
 lt:v<2^k
def ee.up{k:Nat}{A G:Gh}{x:SV}{v:Nat}(h:ee k A x v)[GL A G]:ee k G x v:=⟨h.d.up,h.lt⟩
def ee.len{k:Nat}{G:Gh}{x:SV}{v:Nat}(h:ee k G x v):x.n=(dg v).length:=h.d.len
def ee.mono{k k':Nat}{G:Gh}{x:SV}{v:Nat}(h:ee k G x v)(hk:v<2^k'):ee k' G x v:=⟨h.d,hk⟩
section
variable {P:Program} {C:aA} {n:Nat} {fr:Fr} {own own':List av} {G:Gh} {Φ:Act->World->Prop}
variable {dst:Option Nat} {t t' ty':TypeId} {pos:String} {af:Array Edge} {gd:Option (Nat×Bool)} {x y:Operand} {e s by_:Nat}
def fe{A:Gh}[hT:cB P t e 1 by_]{k:IntKind}{z:SV}{ds:List Nat}{i:Int}(hs:bE A z ds)(hx:az fr x=some (.slice z.a z.n z.c))(hy:az fr y=some (.int k i))(h0:0<=i)(h1:i<z.n):
  Yd P C fr own G ⟨dst, .indexAddr t x y,ty',pos,af,gd⟩ (.pointer (sg z.a (i.toNat*1))):=QF hs.sl hx hy h0 h1
def fi{A:Gh}[hA:jq P t]{z:SV}{ds:List Nat}{i:Nat}(hs:bE A z ds)[hl:GL A G](hx:az fr x=some (.pointer (sg z.a (i*1))))(h1:i<ds.length):
  Yd P C fr own G ⟨dst, .load t x,ty',pos,af,gd⟩ (.int .u32 ((ds.getD i 0:Nat):Int)):=
 Nc hs.sl hx (by rw[fW,aQ h1,aJ,aQ h1];rfl) J
def FF{A:Gh}{z:SV}{ds:List Nat}(h:bE A z ds)[hl:GL A G]:mr P C own G 1 z.n (.slice z.a z.n z.c) (ds.map dI):=by
 intro w hw;by_cases hne:ds=[]
 ·rw[h.len]
  subst hne;exact tr w hw
 rcases h.sl.mem with h0|⟨b,off,cs,ha,hg,hc⟩
 ·exact absurd (by simpa using h0) hne
 ·rw[ha]
  have hn:=h.len;refine F8 (hl.le _ _ hg) ?_ w hw;rw[jX];have hel: ∀i,i<ds.length->cs[off+i]? =some (dI (ds.getD i 0)):=fun i hi=>by
   have h1:=hc i (by simpa using hi);obtain⟨_,h2⟩:=l9 _ _ _ _ h1;have h3:=h2 0 (by omega);rw[jX,cN] at h3;rw[h3,List.getElem_map,aJ,aQ hi];rfl
  by_cases h00:ds.length=0
  ·exact absurd h00 (fun e=>hne (bM e))
  ·have hlast:=hel (ds.length-1) (by omega)
   have hle:off+ds.length<=cs.length:=by
    have:=(aL.1 hlast).1;omega
   rw[hn,kw _ _ _ hle];congr 1;apply lR;intro i;rw[oS];split
   ·rename_i hi
    rw[iM,hel i hi,fW,aJ,aQ hi];rfl
   ·rename_i hi
    rw[dS (by simpa using hi)]
def pG(n:Nat):dw (.int .u32 0) n=(List.replicate n 0).map dI:=by
 unfold dw
 induction n with
 |zero=>rfl
 |succ n ih=>rw[fM,jY,ih];rfl
def e6[hT:cB P t e s by_]{k:IntKind}{b len cap:Nat}{i:Int}(hx:az fr x=some (.slice (some ⟨b,0,none⟩) len cap))(hy:az fr y=some (.int k i))(h0:0<=i)(h1:i<len):
  Yd P C fr own G ⟨dst, .indexAddr t x y,ty',pos,af,gd⟩ (.pointer (some ⟨b,i.toNat*s,none⟩)):=by
 have:=t6 (P:=P) (C:=C) (own:=own) (G:=G) (t:=t) (dst:=dst) (ty':=ty') (pos:=pos) (af:=af) (gd:=gd) (by_:=by_) hx hy h0 h1;rwa [dV] at this
def nF[hA:jq P t]{b i:Nat}{ws:List Nat}{ty:TypeId}{lo:Bool}(hx:az fr x=some (.pointer (some ⟨b,i*1,none⟩)))[ho:iO own b (ws.map dI) ty lo](h1:i<ws.length):
  Yd P C fr own G ⟨dst, .load t x,ty',pos,af,gd⟩ (.int .u32 ((ws.getD i 0:Nat):Int)):=by
 rw[jX] at hx;refine z7 hx ?_;rw[fW,aQ h1,aJ,aQ h1];rfl
def jf{b i d:Nat}{ws:List Nat}{ty:TypeId}{lo:Bool}{v:Int}[hs:jq P t](hx:az fr x=some (.pointer (some ⟨b,i*1,none⟩)))(hy:az fr y=some (.int .u32 v))(hv:v=(d:Int))
  (hu:f5 own b (ws.map dI) ty lo ((ws.set i d).map dI) own')(hi:i<ws.length)(hd:bH n dst=true)(h:St C n (put fr dst undef) own' G Φ):
  Ch P C n fr own G ⟨dst, .store t x y,ty',pos,af,gd⟩ Φ:=by
 rw[jX] at hx;have hu':f5 own b (ws.map dI) ty lo ((ws.map dI).set i (.int .u32 v)) own':=by
  rw[hv,<-show dI d= .int .u32 (d:Int) from J,<-nR];exact hu
 exact x5 hx hy hu' (by simpa using hi) J hd h
def dC{p q:Int}(hx:az fr x=some (.int .i64 p))(hy:az fr y=some (.int .i64 q))(h0: -9223372036854775808<=p+q:=by omega)(h1:p+q<=9223372036854775807:=by omega):Yd P C fr own G ⟨dst, .binOp .add t x y t',ty',pos,af,gd⟩ (.int .i64 (p+q)):=Cu hx hy ⟨h0,h1⟩
def gt{p q:Int}(hx:az fr x=some (.int .i64 p))(hy:az fr y=some (.int .i64 q))(h0: -9223372036854775808<=p-q:=by omega)(h1:p-q<=9223372036854775807:=by omega):Yd P C fr own G ⟨dst, .binOp .sub t x y t',ty',pos,af,gd⟩ (.int .i64 (p-q)):=AA hx hy ⟨h0,h1⟩
def HG{p q:Int}(hx:az fr x=some (.int .i64 p))(hy:az fr y=some (.int .i64 q))(h0: -9223372036854775808<=p*q)(h1:p*q<=9223372036854775807):Yd P C fr own G ⟨dst, .binOp .mul t x y t',ty',pos,af,gd⟩ (.int .i64 (p*q)):=A9 hx hy ⟨h0,h1⟩
def nB{p q:Int}(hx:az fr x=some (.int .u64 p))(hy:az fr y=some (.int .u64 q))(h0:0<=p+q:=by omega)(h1:p+q<=18446744073709551615:=by omega):Yd P C fr own G ⟨dst, .binOp .add t x y t',ty',pos,af,gd⟩ (.int .u64 (p+q)):=Cu hx hy ⟨h0,h1⟩
def Gv{p q:Int}(hx:az fr x=some (.int .u64 p))(hy:az fr y=some (.int .u64 q))(h0:0<=p-q)(h1:p-q<=18446744073709551615):Yd P C fr own G ⟨dst, .binOp .sub t x y t',ty',pos,af,gd⟩ (.int .u64 (p-q)):=AA hx hy ⟨h0,h1⟩
def Ai{p q:Int}(hx:az fr x=some (.int .u64 p))(hy:az fr y=some (.int .u64 q))(h0:0<=p*q)(h1:p*q<=18446744073709551615):Yd P C fr own G ⟨dst, .binOp .mul t x y t',ty',pos,af,gd⟩ (.int .u64 (p*q)):=A9 hx hy ⟨h0,h1⟩
def jx{k k':IntKind}{p q:Int}(hx:az fr x=some (.int k p))(hy:az fr y=some (.int k' q))(h0:0<=q):Yd P C fr own G ⟨dst, .binOp .shr t x y t',ty',pos,af,gd⟩ (.int k (p.fdiv (2^min q.toNat k.bits))):=by
 intro a w hf hh;simp only[execOp,aP hf hx,aP hf hy];have h1:(eqGuard .shr t x y (.int k p) (.int k' q)).run P w= .ok () w:=J;have h2:(binOp .shr t (.int k p) (.int k' q)).run P w= .ok (.int k (p.fdiv (2^min q.toNat k.bits))) w:=by
  simp[binOp,Op.shift,Int.not_lt.2 h0,run_pure]
 exact cv (by rw[aE h1];exact h2)
def q8{k k':IntKind}{p q:Int}(hx:az fr x=some (.int k p))(hy:az fr y=some (.int k' q))(h0:0<=q):Yd P C fr own G ⟨dst, .binOp .shl t x y t',ty',pos,af,gd⟩ (.int k (k.wrap (p*2^min q.toNat k.bits))):=by
 intro a w hf hh;simp only[execOp,aP hf hx,aP hf hy];have h1:(eqGuard .shl t x y (.int k p) (.int k' q)).run P w= .ok () w:=J;have h2:(binOp .shl t (.int k p) (.int k' q)).run P w= .ok (.int k (k.wrap (p*2^min q.toNat k.bits))) w:=by
  simp[binOp,Op.shift,Int.not_lt.2 h0,run_pure]
 exact cv (by rw[aE h1];exact h2)
def ey{k:IntKind}{p:Int}[hs:jn P t k][hd:jn P t' .u64](hx:az fr x=some (.int k p))(h0:0<=p:=by omega)(h1:p<=18446744073709551615:=by omega):Yd P C fr own G ⟨dst, .convert t t' x,ty',pos,af,gd⟩ (.int .u64 p):=BU hx ⟨h0,h1⟩
def Fi{k:IntKind}{p:Int}[hs:jn P t k][hd:jn P t' .i64](hx:az fr x=some (.int k p))(h0: -9223372036854775808<=p:=by omega)(h1:p<=9223372036854775807:=by omega):Yd P C fr own G ⟨dst, .convert t t' x,ty',pos,af,gd⟩ (.int .i64 p):=BU hx ⟨h0,h1⟩
def mi(p:Int):IntKind.u32.wrap p=p%4294967296:=by simp[IntKind.wrap,IntKind.bits,IntKind.signed]
def kj(p:Int):IntKind.u64.wrap p=p%18446744073709551616:=by simp[IntKind.wrap,IntKind.bits,IntKind.signed]
def gG{k:IntKind}{p:Int}[hs:jn P t k][hd:jn P t' .u32](hx:az fr x=some (.int k p)):Yd P C fr own G ⟨dst, .convert t t' x,ty',pos,af,gd⟩ (.int .u32 (p%4294967296)):=by
 have:=vU (P:=P) (C:=C) (own:=own) (G:=G) (dst:=dst) (ty':=ty') (pos:=pos) (af:=af) (gd:=gd) (t:=t) (t':=t') hx;rwa [mi] at this
def sj{k:IntKind}{p q:Int}(hx:az fr x=some (.int k p))(hy:az fr y=some (.int k q))(h0:0<=p)(h:q≠0):Yd P C fr own G ⟨dst, .binOp .rem t x y t',ty',pos,af,gd⟩ (.int k (p%q)):=by
 have:=Kl (P:=P) (C:=C) (own:=own) (G:=G) (dst:=dst) (ty':=ty') (pos:=pos) (af:=af) (gd:=gd) (t:=t) (t':=t') hx hy h;rwa [Int.tmod_eq_emod_of_nonneg h0] at this
def tq{p q:Int}(hx:az fr x=some (.int .u64 p))(hy:az fr y=some (.int .u64 q))(h0:0<=p)(h1:p<=18446744073709551615)(h:0<q):Yd P C fr own G ⟨dst, .binOp .quo t x y t',ty',pos,af,gd⟩ (.int .u64 (p/q)):=by
 have:=KM (P:=P) (C:=C) (own:=own) (G:=G) (dst:=dst) (ty':=ty') (pos:=pos) (af:=af) (gd:=gd) (t:=t) (t':=t') hx hy (by omega);rw[Int.tdiv_eq_ediv_of_nonneg h0,kj,Int.emod_eq_of_lt (Int.ediv_nonneg h0 (by omega)) (by have:=Int.ediv_le_self q h0;omega)] at this;exact this
def ji{Q:Exit->Act->World->Prop}{p:Prop}{inst:Decidable p}{c:Operand}{x y:Code}(hc:az fr c=some (.bool (@decide p inst)))(h2: ¬p->St C n fr own G (y.wp P Q))(h1:p->St C n fr own G (x.wp P Q)):
  St C n fr own G ((Code.cond c x y).wp P Q):=fB hc h1 h2
end
section
variable {P:Program} {C:aA} {n:Nat} {fr:Fr} {own own' own1:List av} {G:Gh} {Φ:Act->World->Prop}
variable {dst:Option Nat} {t t' ty':TypeId} {pos:String} {af:Array Edge} {gd:Option (Nat×Bool)} {x y:Operand} {e s by_:Nat}
end
instance ki.cons2 (l m:List av) (o:av) [h:ki l m]:ki (o::l) (o::m):=⟨h.s.cons_cons o⟩
def aH(vs:List Value):List Value:=(vs.map aF).flatten
def f0{s:Nat}: ∀(vs:List Value),(∀v∈vs,(aF v).length=s)->(aH vs).length=vs.length*s
 |[],_=>by simp[aH]
 |v::vs,h=>by
  have h1:=f0 vs (fun u hu=>h u (aK _ hu));have h2:=h v aZ;unfold aH at*;simp only[cZ,jY,bK,bL,h1,h2,gN];omega
def qo(us vs:List Value):aH (us++vs)=aH us++aH vs:=by simp[aH]
def Hb(v:Value):aH [v]=aF v:=by simp[aH]
def yN{s:Nat}: ∀(vs:List Value) (i:Nat),(∀v∈vs,(aF v).length=s)->i<=vs.length->(aH vs).take (i*s)=aH (vs.take i)
 |vs,0,_,_=>by simp[aH]
 |[],i+1,_,h=>by simp at h
 |v::vs,i+1,h,hi=>by
  have h1:=yN vs i (fun u hu=>h u (aK _ hu)) (by simpa using hi);have h2:=h v aZ;unfold aH at*;simp only[cZ,jY,mX];rw[List.take_append,h2,aT (by rw[h2,gN];omega),gN,iN,h1]
def Da{s:Nat}: ∀(vs:List Value) (i:Nat),(∀v∈vs,(aF v).length=s)->i<=vs.length->(aH vs).drop (i*s)=aH (vs.drop i)
 |vs,0,_,_=>by simp
 |[],i+1,_,h=>by simp at h
 |v::vs,i+1,h,hi=>by
  have h1:=Da vs i (fun u hu=>h u (aK _ hu)) (by simpa using hi);have h2:=h v aZ;unfold aH at*;simp only[cZ,jY,qY];rw[List.drop_append,h2,pQ (by rw[h2,gN];omega),gN,iN,h1,jL]
def yZ{s:Nat}{vs rest:List Value}(h: ∀v∈vs,(aF v).length=s){i:Nat}(hi:i<vs.length):bO (aH vs++rest) (i*s) s=some (aF vs[i]):=by
 have hl:=f0 vs h;have hle:i*s+s<=vs.length*s:=by rw[<-gN];exact bX _ hi
 rw[kw _ _ _ (by simp only[bK];omega)];congr 1;rw[iU (by omega),Da vs i h (by omega),bS hi];have h2:=h vs[i] (gT hi);rw[show(vs[i]::vs.drop (i+1))=[vs[i]]++vs.drop (i+1) from J,qo,Hb,fX,fK (by omega),aT (by omega)]
def d6.of_flat{G:Gh}{b c s:Nat}{vs rest:List Value}(h: ∀v∈vs,(aF v).length=s)(hg:G b=some (aH vs++rest))(hc:vs.length<=c):d6 G s ⟨some ⟨b,0,none⟩,vs.length,c⟩ vs:=
 ⟨J,hc, .inr ⟨b,0,_,J,hg,fun i hi=>by rw[dV];exact yZ h hi⟩⟩
section
variable {P:Program} {C:aA} {n:Nat} {fr:Fr} {own own':List av} {G:Gh} {Φ:Act->World->Prop}
variable {dst:Option Nat} {ty':TypeId} {pos:String} {af:Array Edge} {gd:Option (Nat×Bool)} {x y:Operand} {tys:Array TypeId}
end
section
variable {P:Program} {ops:Array Oper} {Q:Exit->Act->World->Prop} {S:World->Prop} {fin:Nat->Bool} {π₂:List (Nat×Bool)}
def jc(l:List Nat)(k:Nat):List Nat:=l.filter fun j=>!Nat.beq j k
def Aa{l:List Nat}{k:Nat}(h:k∈l):(jc l k).length<l.length:=by
 unfold jc;rw[List.length_filter_lt_length_iff_exists];exact⟨k,h,by simp⟩
def uE(ops:Array Oper)(fin:Nat->Bool)(π₂:List (Nat×Bool)):Nat->List Nat->List (Nat×Bool)->Array Bool->Bool
 |0,_,_,_=>false
 |_+1,[],[],listed=>oG ops fin π₂ listed
 |n+1,k::ks,[],listed=>!(Region.ready .any ops listed).isEmpty&&(Region.ready .any ops listed).all (fun j=>(k::ks).contains j)&&(k::ks).all fun j=>uE ops fin π₂ n (jc (k::ks) j) [] (listed.setIfInBounds j true)
 |n+1,ks,(i,true)::r,listed=>sX ops fin listed i&&uE ops fin π₂ n ks r (listed.setIfInBounds i true)
 |n+1,ks,(i,false)::r,listed=>!(Region.ready .any ops listed).isEmpty&&(Region.ready .any ops listed).all (fun j=>Nat.beq j i||ks.contains j)&&uE ops fin π₂ n ks r (listed.setIfInBounds i true)&&ks.all fun j=>uE ops fin π₂ n (jc ks j) ((i,false)::r) (listed.setIfInBounds j true)
def tL(P:Program)(ops:Array Oper)(Q:Exit->Act->World->Prop)(S:World->Prop)(fin:Nat->Bool)(π₂:List (Nat×Bool)):List Nat->List (Nat×Bool)->Act->World->Prop
 |[],[],a,w=>iA P ops Q S fin π₂ a w
 |k::ks,[],a,w=> ∀j,(h:j∈k::ks)->wpOp P ops Q j (fun a' w'=>(fin j=true\/S w')/\tL P ops Q S fin π₂ (jc (k::ks) j) [] a' w') a w
 |ks,(i,true)::r,a,w=> ∃o v,ops[i]? =some o/\S w/\YieldsIf P ops S o v a/\tL P ops Q S fin π₂ ks r (a.put o.dst v) w
 |ks,(i,false)::r,a,w=>wpOp P ops Q i (fun a' w'=>(fin i=true\/S w')/\tL P ops Q S fin π₂ ks r a' w') a w/\
   ∀j,(h:j∈ks)->wpOp P ops Q j (fun a' w'=>(fin j=true\/S w')/\tL P ops Q S fin π₂ (jc ks j) ((i,false)::r) a' w') a w
termination_by ks π=>ks.length+π.length
decreasing_by
 all_goals (first|(have:=Aa h;simp only[bL,iS] at*;omega)|(simp only[bL];omega))
end
structure FD where
 k:Nat
 d:Nat
 t:TypeId
 z:Value
abbrev Fs:=Nat->Option Nat
def CK:List FD->Fs->Fr
 |[],_=>[]
 |f::r,fs=>fF f.d (fs f.k)++CK r fs
def zd:List FD->Fs->List av
 |[],_=>[]
 |f::r,fs=>fO f.t f.z (fs f.k)++zd r fs
def An(fd:List FD)(fs:Fs):List Nat:=(fd.filter fun f=>(fs f.k).isNone).map (·.k)
def WF(fs:Fs)(k b:Nat):Fs:=fun j=>if j=k then some b else fs j
structure V3 (P:Program) (ops:Array Oper) (n:Nat) (fd:List FD):Prop where
 op: ∀f∈fd,∃ty' pos af,ops[f.k]? =some ⟨some f.d, .alloc f.t,ty',pos,af,none⟩/\bH n (some f.d)=true
 z: ∀f∈fd,io P f.t f.z
 nd:(fd.map (·.k)).Nodup
 dd: ∀f∈fd,∀g∈fd,f.d=g.d->f.k=g.k
section
variable {P:Program} {C:aA} {n:Nat} {fr:Fr} {own own0:List av} {G G0:Gh} {ops:Array Oper} {Q:Exit->Act->World->Prop} {fin:Nat->Bool} {π π₂:List (Nat×Bool)} {fd:List FD}
def WA(P:Program)(ops:Array Oper)(Q:Exit->Act->World->Prop)(S:World->Prop)(fin:Nat->Bool)(π₂:List (Nat×Bool))(fd:List FD)(fs:Fs)(π:List (Nat×Bool)):Act->World->Prop:=tL P ops Q S fin π₂ (An fd fs) π
end
def jA(s:Nat)(ty:TypeId)(x:SV)(vs:List Value)(B:List av):Prop:=
 (vs=[]/\x=⟨none,0,0⟩/\B=[])\/
 ∃b rest lo,x=⟨some ⟨b,0,none⟩,vs.length,x.c⟩/\B=[⟨b,aH vs++rest,ty,lo⟩]/\(aH vs).length=vs.length*s/\(aH vs).length+rest.length=x.c*s/\vs.length<=x.c
def jA.relo{s:Nat}{ty:TypeId}{x:SV}{vs:List Value}{B:List av}(h:jA s ty x vs B)(fl:Nat->Bool):jA s ty x vs (B.map (Go.Sx.relo fl)):=by
 rcases h with⟨h1,h2,h3⟩|⟨b,rest,lo,h1,h2,h3,h4,h5⟩
 ·exact .inl ⟨h1,h2,by rw[h3];rfl⟩
 ·exact .inr ⟨b,rest,fl b,h1,by rw[h2];rfl,h3,h4,h5⟩
def jA.asB{s:Nat}{ty:TypeId}{x:SV}{vs:List Value}{B:List av}(h:jA s ty x vs B):jA s ty x vs (asB B):=by
 rcases h with⟨h1,h2,h3⟩|⟨b,rest,lo,h1,h2,h3,h4,h5⟩
 ·exact .inl ⟨h1,h2,by rw[h3];rfl⟩
 ·exact .inr ⟨b,rest,false,h1,by rw[h2];rfl,h3,h4,h5⟩
def jA.len{s:Nat}{ty:TypeId}{x:SV}{vs:List Value}{B:List av}(h:jA s ty x vs B):x.n=vs.length:=by
 rcases h with⟨h1,h2,h3⟩|⟨b,rest,lo,h1,h2,h3,h4,h5⟩
 ·rw[h2,h1];rfl
 ·rw[h1]
def AN{M:List av}(b:Nat)(h: ∀m∈M,m.lo=true):gE M b=true:=by
 refine dT.2 fun m hm=>?_;simp[h m hm]
section
variable {P:Program} {C:aA} {n:Nat} {fr:Fr} {own own':List av} {G:Gh} {Φ:Act->World->Prop}
variable {dst:Option Nat} {t t' ty':TypeId} {pos:String} {af:Array Edge} {gd:Option (Nat×Bool)} {x y:Operand} {e s by_:Nat}
end
instance ki.nil (l:List av):ki [] l:=⟨mV l⟩
end Go.Sx
end
