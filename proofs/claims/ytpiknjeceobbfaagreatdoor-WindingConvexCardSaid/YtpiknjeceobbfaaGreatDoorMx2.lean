import Derived.Test.YtpiknjeceobbfaaGreatDoorMx1
import Derived.Scope
import Derived.Laws.Externs
import Derived.Lib.Overlaps
set_option linter.all false
set_option maxRecDepth 100000
section
namespace Go.Sx
open Go
class AM (P:Program) (t:TypeId):Prop where u: ∀w,(underlying t).run P w= .ok .bool w
class ET (P:Program) (t:TypeId):Prop where u: ∃e,∀w,(underlying t).run P w= .ok (.pointer e) w
class BV (P:Program) (t:TypeId):Prop where u: ∃ms,∀w,(underlying t).run P w= .ok (.interface ms) w
class C7 (P:Program) (t:TypeId) (f:Nat) (off ft:outParam Nat):Prop where
 u: ∃fs fd,(∀w,(underlying t).run P w= .ok (.struct fs) w)/\fs[f]? =some fd/\fd.offset=off/\fd.type=ft
class pm (P:Program) (t:TypeId):Prop where
 un: ∃e,P.underlying t=some (.slice e)
section
variable {P:Program} {C:az} {n:Nat} {fr:Fr} {own own':List aq} {G:Gh} {Φ:Act->World->Prop}
variable {dst:Option Nat} {t t' ty':TypeId} {pos:String} {af:Array Edge} {gd:Option (Nat×Bool)} {x y:Operand}
def ow{w:World}{p q:Value}{b:Bool}(h:(Op.equalIn (9999+1) t p q).run P w= .ok b w):(Op.equal t p q).run P w= .ok b w:=h
def PS[hT:AM P t]{p q:Bool}(hx:av fr x=some (.bool p))(hy:av fr y=some (.bool q)):Yd P C fr own G ⟨dst, .binOp .eql t x y t',ty',pos,af,gd⟩ (.bool (p==q)):=by
 intro a w hf hh;simp only[execOp,bh hf hx,bh hf hy];have h1:(Op.equal t (.bool p) (.bool q)).run P w= .ok (p==q) w:=ow (by unfold Op.equalIn;rw[aH (hT.u w)];rfl);have h2:(eqGuard .eql t x y (.bool p) (.bool q)).run P w= .ok () w:=J;have h3:(binOp .eql t (.bool p) (.bool q)).run P w= .ok (.bool (p==q)) w:=by simp only[binOp];rw[aH h1];rfl
 exact cO (by rw[aH h2];exact h3)
def Pa[hT:AM P t]{p q:Bool}(hx:av fr x=some (.bool p))(hy:av fr y=some (.bool q)):Yd P C fr own G ⟨dst, .binOp .neq t x y t',ty',pos,af,gd⟩ (.bool (!(p==q))):=by
 intro a w hf hh;simp only[execOp,bh hf hx,bh hf hy];have h1:(Op.equal t (.bool p) (.bool q)).run P w= .ok (p==q) w:=ow (by unfold Op.equalIn;rw[aH (hT.u w)];rfl);have h2:(eqGuard .neq t x y (.bool p) (.bool q)).run P w= .ok () w:=J;have h3:(binOp .neq t (.bool p) (.bool q)).run P w= .ok (.bool (!(p==q))) w:=by simp only[binOp];rw[aH h1];rfl
 exact cO (by rw[aH h2];exact h3)
def AC[hT:ET P t]{p:Option Addr}(hx:av fr x=some (.pointer p))(hy:av fr y=some (.pointer none)):Yd P C fr own G ⟨dst, .binOp .eql t x y t',ty',pos,af,gd⟩ (.bool p.isNone):=by
 obtain⟨e,he⟩:=hT.u;intro a w hf hh;simp only[execOp,bh hf hx,bh hf hy];have h1:(Op.equal t (.pointer p) (.pointer none)).run P w= .ok p.isNone w:=ow (by unfold Op.equalIn;rw[aH (he w)];cases p<;>rfl);have h2:(eqGuard .eql t x y (.pointer p) (.pointer none)).run P w= .ok () w:=by cases p<;>rfl
 have h3:(binOp .eql t (.pointer p) (.pointer none)).run P w= .ok (.bool p.isNone) w:=by cases p<;>(simp only[binOp];rw[aH h1];rfl)
 exact cO (by rw[aH h2];exact h3)
def zr[hT:ET P t]{p:Option Addr}(hx:av fr x=some (.pointer p))(hy:av fr y=some (.pointer none)):Yd P C fr own G ⟨dst, .binOp .neq t x y t',ty',pos,af,gd⟩ (.bool (!p.isNone)):=by
 obtain⟨e,he⟩:=hT.u;intro a w hf hh;simp only[execOp,bh hf hx,bh hf hy];have h1:(Op.equal t (.pointer p) (.pointer none)).run P w= .ok p.isNone w:=ow (by unfold Op.equalIn;rw[aH (he w)];cases p<;>rfl);have h2:(eqGuard .neq t x y (.pointer p) (.pointer none)).run P w= .ok () w:=by cases p<;>rfl
 have h3:(binOp .neq t (.pointer p) (.pointer none)).run P w= .ok (.bool (!p.isNone)) w:=by cases p<;>(simp only[binOp];rw[aH h1];rfl)
 exact cO (by rw[aH h2];exact h3)
def Gi{v:Value}[hT:BV P t](hv:v= .nilIface\/ ∃k u,v= .iface k u)(hx:av fr x=some v):
  Yd P C fr own G ⟨dst, .binOp .eql t x (.const .nilIface) t',ty',pos,af,gd⟩ (.bool (match v with| .nilIface=>true|_=>false)):=by
 obtain⟨e,he⟩:=hT.u;intro a w hf hh;simp only[execOp,bh hf hx,show a.eval (.const .nilIface)= .nilIface from J];rcases hv with rfl|⟨k,u,rfl⟩
 ·have h1:(Op.equal t .nilIface .nilIface).run P w= .ok true w:=ow (by unfold Op.equalIn;rw[aH (he w)];rfl)
  have h2:(eqGuard .eql t x (.const .nilIface) .nilIface .nilIface).run P w= .ok () w:=by cases x<;>rfl
  exact cO (by rw[aH h2];simp only[binOp];rw[aH h1];rfl)
 ·have h1:(Op.equal t (.iface k u) .nilIface).run P w= .ok false w:=ow (by unfold Op.equalIn;rw[aH (he w)];rfl)
  exact cO (by rw[aH (a:=()) (w':=w) J];simp only[binOp];rw[aH h1];rfl)
def Km{v:Value}[hT:BV P t](hv:v= .nilIface\/ ∃k u,v= .iface k u)(hx:av fr x=some v):
  Yd P C fr own G ⟨dst, .binOp .neq t x (.const .nilIface) t',ty',pos,af,gd⟩ (.bool (match v with| .nilIface=>false|_=>true)):=by
 obtain⟨e,he⟩:=hT.u;intro a w hf hh;simp only[execOp,bh hf hx,show a.eval (.const .nilIface)= .nilIface from J];rcases hv with rfl|⟨k,u,rfl⟩
 ·have h1:(Op.equal t .nilIface .nilIface).run P w= .ok true w:=ow (by unfold Op.equalIn;rw[aH (he w)];rfl)
  have h2:(eqGuard .neq t x (.const .nilIface) .nilIface .nilIface).run P w= .ok () w:=by cases x<;>rfl
  exact cO (by rw[aH h2];simp only[binOp];rw[aH h1];rfl)
 ·have h1:(Op.equal t (.iface k u) .nilIface).run P w= .ok false w:=ow (by unfold Op.equalIn;rw[aH (he w)];rfl)
  exact cO (by rw[aH (a:=()) (w':=w) J];simp only[binOp];rw[aH h1];rfl)
def TQ{cs l:List Value}{f off ft k:Nat}[hF:C7 P t f off ft][hA:pz P ft k](hx:av fr x=some (.agg ⟨cs⟩))(hl:cp cs off k=some l):Yd P C fr own G ⟨dst, .field t x f,ty',pos,af,gd⟩ (.agg ⟨l⟩):=by
 obtain⟨fs,fd,h1,h2,h3,h4⟩:=hF.u;intro a w hf hh;simp only[execOp,bh hf hx];have:(Instr.field t (.agg ⟨cs⟩) f).run P w= .ok (.agg ⟨l⟩) w:=by
  unfold Instr.field;rw[aH (h1 w)];simp only[h2,h3,h4,asAgg];rw[aH (run_pure _ _ _)];unfold part;rw[aH (hA.agg w)];simp only[if_true];rw[aH (hA.siz w)];obtain⟨k1,k2⟩:=oh _ _ _ _ hl;have:(⟨cs⟩:Array Value).extract off (off+k)=⟨l⟩:=by
   apply Array.ext';rw[Array.toList_extract];apply mX;intro i;rw[List.extract_eq_take_drop,pX];split
   ·rw[kV];exact k2 i (by omega)
   ·exact(fQ (show l.length<=i by omega)).symm
  rw[this];rfl
 exact cO this
def Sm{cs:List Value}{f off ft:Nat}{v:Value}[hF:C7 P t f off ft][hA:kD P ft](hx:av fr x=some (.agg ⟨cs⟩))(hl:cs[off]? =some v):Yd P C fr own G ⟨dst, .field t x f,ty',pos,af,gd⟩ v:=by
 obtain⟨fs,fd,h1,h2,h3,h4⟩:=hF.u;intro a w hf hh;simp only[execOp,bh hf hx];have:(Instr.field t (.agg ⟨cs⟩) f).run P w= .ok v w:=by
  unfold Instr.field;rw[aH (h1 w)];simp only[h2,h3,h4,asAgg];rw[aH (run_pure _ _ _)];unfold part;rw[aH (hA.agg w)];have:(⟨cs⟩:Array Value)[off]? =some v:=by simpa using hl
  simp only[gV,if_false,this];rfl
 exact cO this
class KJ (P:Program) (t:TypeId) (offs:outParam (List (Nat×Nat))):Prop where
 u: ∃fs:Array Field,(∀w,(underlying t).run P w= .ok (.struct fs) w)/\(∀w,(fs.mapM (m:=Sem) fun f=>do pure (f.offset,<-sizeOf f.type)).run P w= .ok ⟨offs⟩ w)
def rT(fr:Fr)(offs:List (Nat×Nat)):List Value->List (Nat×Operand)->Option (List Value)
 |cs,[]=>some cs
 |cs,(i,x)::r=>match offs[i]?,av fr x with
  |some (off,k),some v=>if(aI v).length=k/\off+k<=cs.length then rT fr offs (dm cs off (aI v)) r else none
  |_,_=>none
def Fm: ∀(vs:List Value) (cs:Array Value) (off j:Nat),(vs.zipIdx j).foldl (fun cs (c,j)=>cs.setIfInBounds (off+j) c) cs=⟨dm cs.toList (off+j) vs⟩
 |[],cs,off,j=>rfl
 |v::vs,cs,off,j=>by
  simp only[List.zipIdx_cons,gS];rw[Fm vs _ off (j+1)];simp[dm,jM]
def Bv{a:Act}(hf:jx fr a)(offs:List (Nat×Nat)): ∀(ps:List (Nat×Operand)) (cs out:List Value),rT fr offs cs ps=some out->
  Instr.fill ((⟨offs⟩:Array (Nat×Nat))[·]?) ⟨cs⟩ (ps.map fun(i,x)=>(i,a.eval x))=some ⟨out⟩
 |[],cs,out,h=>by simp only[rT] at h;cases h;rfl
 |(i,x)::ps,cs,out,h=>by
  simp only[rT] at h;split at h
  ·rename_i off k v ho hv
   split at h
   ·rename_i hc
    simp only[dX,Instr.fill];have:(⟨offs⟩:Array (Nat×Nat))[i]? =some (off,k):=by simpa using ho
    simp only[this,bh hf hv,oI];have h1: ¬((⟨aI v⟩:Array Value).size≠k):=by simp[hc.1]
    have h2: ¬(off+(⟨aI v⟩:Array Value).size>(⟨cs⟩:Array Value).size):=by simp only[mZ,hc.1];omega
    rw[if_neg (by simp only[fR,decide_eq_true_eq,not_or];exact⟨by simpa using h1,by simpa using h2⟩)];have e:=Fm (aI v) ⟨cs⟩ off 0;have e':(⟨aI v⟩:Array Value).zipIdx.foldl (fun cs (c,j)=>cs.setIfInBounds (off+j) c) (⟨cs⟩:Array Value)=⟨dm cs off (aI v)⟩:=by
     rw[<-Array.foldl_toList,Array.toList_zipIdx];simpa using e
    rw[e'];exact Bv hf offs ps _ _ h
   ·cases h
  ·cases h
def Se{parts:Array (Nat×Operand)}{offs:List (Nat×Nat)}{z:Value}{out:List Value}[hT:KJ P t offs][hz:jd P t z](hb:rT fr offs (aI z) parts.toList=some out):Yd P C fr own G ⟨dst, .build t parts,ty',pos,af,gd⟩ (.agg ⟨out⟩):=by
 obtain⟨fs,h1,h2⟩:=hT.u;intro a w hf hh;simp only[execOp];have:(Instr.build t (parts.map fun(i,x)=>(i,a.eval x))).run P w= .ok (.agg ⟨out⟩) w:=by
  unfold Instr.build;rw[aH (hz.zero w),oI];rw[aH (h1 w)];simp only[];rw[aH (h2 w)];have:=Bv hf offs parts.toList _ _ hb;simp only[mM,this];rfl
 exact cO this
end
def dH(z:Value)(k:Nat):List Value:=(List.replicate k (aI z)).flatten
def Hy{α:Type}(l:List α): ∀(k i:Nat),i<k*l.length->(List.replicate k l).flatten[i]? =l[i%l.length]?
 |0,i,h=>by omega
 |k+1,i,h=>by
  rw[gU,jN];by_cases hi:i<l.length
  ·rw[dR hi,dY hi]
  ·rw[fL (by omega),Hy l k (i-l.length) (by rw[cL] at h;omega)]
   rw[Nat.mod_eq_sub_mod (Nat.ge_of_not_lt hi)]
def tk(z:Value)(k:Nat):(dH z k).length=k*(aI z).length:=by simp[dH]
def BP{z:Value}{k m:Nat}(h:m=k*(aI z).length):((Array.range m).map fun i=>(⟨aI z⟩:Array Value)[i%(⟨aI z⟩:Array Value).size]!)=⟨dH z k⟩:=by
 subst h;apply Array.ext';apply mX;intro i;simp only[mM,Array.toList_range,fS,mZ];by_cases hi:i<k*(aI z).length
 ·rw[qT hi]
  simp only[iL];have h1:=Hy (aI z) k i hi;have hpos:0<(aI z).length:=by
   rcases eJ (aI z).length with h|h
   ·rw[h,oZ] at hi;omega
   ·exact h
  have hm:=cS i hpos;show _=(dH z k)[i]?;unfold dH;rw[h1];simp[hm]
 ·rw[fQ (by simpa using hi)]
  rw[fQ (by show(dH z k).length<=i;rw[tk];omega)];rfl
section
variable {P:Program} {C:az} {n:Nat} {fr:Fr} {own own':List aq} {G:Gh} {Φ:Act->World->Prop}
variable {dst:Option Nat} {t t' ty':TypeId} {pos:String} {af:Array Edge} {gd:Option (Nat×Bool)} {x y:Operand} {e s by_:Nat}
def WG[hT:de P t e s by_](w:World): ∃i:TypeInfo,(typeInfo e).run P w= .ok i w/\i.bytes=by_:=by
 obtain⟨i,h1,_,h2⟩:=hT.info;exact⟨i,by simp[typeInfo,program,Sem.run_bind,Sem.run,h1,run_pure],h2⟩
def sB[hT:de P t e s by_]{z:Value}[hz:jd P e z]{k k':IntKind}{l:Int}(hx:av fr x=some (.int k l))(hy:av fr y=some (.int k' l))(h0:0<=l)(hb:by_*l<=2^47)(hl:l<=2^60)(hs:(aI z).length=s)(hd:cj n dst=true)
  (h: ∀b,St C n (put fr dst (.slice (some ⟨b,0,none⟩) l.toNat l.toNat)) (⟨b,dH z l.toNat,e,true⟩::own) G Φ):
  Ch P C n fr own G ⟨dst, .makeSlice t x y,ty',pos,af,gd⟩ Φ:=by
 intro a w Q rl;have h1:(Instr.makeSlice t (a.eval x) (a.eval y)).run P w= .ok (.slice (some ⟨w.heap.size,0,none⟩) l.toNat l.toNat) (w.alloc (.cells ⟨dH z l.toNat⟩ e)):=by
  obtain⟨i,hi,hib⟩:=WG (P:=P) (t:=t) (e:=e) (s:=s) (by_:=by_) w;rw[bh rl.fr hx,bh rl.fr hy];unfold Instr.makeSlice;rw[aH (hT.u w)];simp only[asInt,asIntOf];rw[aH (a:=l) (w':=w) J,aH (a:=l) (w':=w) J,aH hi,hib];have hw:IntKind.i64.wrap l=l:=rY (by simp[IntKind.min,IntKind.max,IntKind.signed,IntKind.bits];omega);simp only[hw];have c1: ¬((by_:Int)*l>2^48):=by
   have:(2:Int)^47<=2^48:=by decide
   omega
  have c2:(decide (l<0)||decide ((by_:Int)*l>2^48))=false:=by simp[c1];omega
  simp only[c2,Int.lt_irrefl,decide_false,Bool.or_false,oY];have c3:decide (l<0)=false:=by simp;omega
  simp only[c3,gV,if_false,gt_iff_lt,Int.lt_irrefl,decide_false,Bool.or_false];have hr: ¬(l.toNat*by_>roomBytes):=by
   unfold roomBytes;have:((l.toNat*by_:Nat):Int)=by_*l:=by rw[iM,qR h0,Int.mul_comm]
   have h47:((2^47:Nat):Int)=2^47:=by decide
   omega
  unfold askRoom;simp only[hr,if_false];rw[aH (run_pure _ _ _),aH (hT.siz w)];have hn:l.toNat*s=l.toNat*(aI z).length:=by rw[hs]
  by_cases h00:l.toNat*s=0
  ·rw[if_pos h00,aH (run_pure _ _ _)]
   have e0:dH z l.toNat=[]:=cX (by rw[tk,hs];exact h00);rw[h00,e0,show(Array.range 0)= #[] from J,Array.map_empty];rfl
  ·rw[if_neg h00,aH (hz.zero w),oI]
   rw[aH (run_pure _ _ _),BP hn];rfl
 refine(fun hk=>?_:Φ (a.put dst (.slice (some ⟨w.heap.size,0,none⟩) l.toNat l.toNat)) (w.alloc (.cells ⟨dH z l.toNat⟩ e))->_) (h w.heap.size _ _ ((rl.heap (rl.h.alloc _ _)).put _ hd));exact m9 (v:= .slice (some ⟨w.heap.size,0,none⟩) l.toNat l.toNat) (cO h1) hk
end
section
variable {P:Program} {C:az} {n:Nat} {fr:Fr} {own own':List aq} {G:Gh} {Φ:Act->World->Prop}
variable {dst:Option Nat} {t t' ty':TypeId} {pos:String} {af:Array Edge} {gd:Option (Nat×Bool)} {x y:Operand} {e s by_:Nat}
def rS(fr:Fr)(s:Nat):List Value->List (Nat×Operand)->Option (List Value)
 |cs,[]=>some cs
 |cs,(i,x)::r=>match av fr x with
  |some v=>if(aI v).length=s/\i*s+s<=cs.length then rS fr s (dm cs (i*s) (aI v)) r else none
  |none=>none
def JY{a:Act}(hf:jx fr a)(s:Nat): ∀(ps:List (Nat×Operand)) (cs out:List Value),rS fr s cs ps=some out->
  Instr.fill (fun i=>some (i*s,s)) ⟨cs⟩ (ps.map fun(i,x)=>(i,a.eval x))=some ⟨out⟩
 |[],cs,out,h=>by simp only[rS] at h;cases h;rfl
 |(i,x)::ps,cs,out,h=>by
  simp only[rS] at h;split at h
  ·rename_i v hv
   split at h
   ·rename_i hc
    simp only[dX,Instr.fill,bh hf hv,oI];have h1: ¬((⟨aI v⟩:Array Value).size≠s):=by simp[hc.1]
    have h2: ¬(i*s+(⟨aI v⟩:Array Value).size>(⟨cs⟩:Array Value).size):=by simp only[mZ,hc.1];omega
    rw[if_neg (by simp only[fR,decide_eq_true_eq,not_or];exact⟨by simpa using h1,by simpa using h2⟩)];have e:=Fm (aI v) ⟨cs⟩ (i*s) 0;have e':(⟨aI v⟩:Array Value).zipIdx.foldl (fun cs (c,j)=>cs.setIfInBounds (i*s+j) c) (⟨cs⟩:Array Value)=⟨dm cs (i*s) (aI v)⟩:=by
     rw[<-Array.foldl_toList,Array.toList_zipIdx];simpa using e
    rw[e'];exact JY hf s ps _ _ h
   ·cases h
  ·cases h
def Cv[hT:de P t e s by_]{z:Value}[hz:jd P e z]{len:Nat}{parts:Array (Nat×Operand)}{out:List Value}(hs:(aI z).length=s)(hb:rS fr s (dH z len) parts.toList=some out)(hsm:Nat.ble (len*s) 1000=true)(hs0:Nat.blt 0 (len*s)=true)(hd:cj n dst=true)
  (h: ∀b,St C n (put fr dst (.slice (some ⟨b,0,none⟩) len len)) (⟨b,out,e,true⟩::own) G Φ):
  Ch P C n fr own G ⟨dst, .buildSlice t len parts,ty',pos,af,gd⟩ Φ:=by
 intro a w Q rl;have hsm':len*s<=1000:=by simpa using hsm
 have hs0':0<len*s:=by simpa[mV] using hs0
 have h1:(Instr.buildSlice t len (parts.map fun(i,x)=>(i,a.eval x))).run P w= .ok (.slice (some ⟨w.heap.size,0,none⟩) len len) (w.alloc (.cells ⟨out⟩ e)):=by
  unfold Instr.buildSlice;rw[aH (hT.u w)];simp only[];rw[aH (hT.siz w)];have c1: ¬(len*s>2^24):=by omega
  have c2: ¬(len*s=0):=by omega
  simp only[c1,if_false];rw[if_neg c2,aH (hz.zero w),oI,aH (run_pure _ _ _)];rw[BP (k:=len) (by rw[hs])];have hf:=JY rl.fr s parts.toList _ _ hb;simp only[mM,hf];rfl
 refine m9 (v:= .slice (some ⟨w.heap.size,0,none⟩) len len) (w':=w.alloc (.cells ⟨out⟩ e)) ?_ (h w.heap.size _ _ ((rl.heap (rl.h.alloc _ _)).put _ hd));simp only[execOp];exact cO h1
def Lb[hT:de P t e s by_](hd:cj n dst=true)(h: ∀b,St C n (put fr dst (.slice (some ⟨b,0,none⟩) 0 0)) (⟨b,[],e,true⟩::own) G Φ):
  Ch P C n fr own G ⟨dst, .buildSlice t 0 #[],ty',pos,af,gd⟩ Φ:=by
 intro a w Q rl;have h1:(Instr.buildSlice t 0 #[]).run P w= .ok (.slice (some ⟨w.heap.size,0,none⟩) 0 0) (w.alloc (.cells ⟨[]⟩ e)):=by
  unfold Instr.buildSlice;rw[aH (hT.u w)];simp only[];rw[aH (hT.siz w)];simp only[kU,gt_iff_lt,Nat.not_lt_zero,if_false,if_true];rw[aH (run_pure _ _ _),show(Array.range 0)= #[] from J,Array.map_empty];rfl
 refine m9 (v:= .slice (some ⟨w.heap.size,0,none⟩) 0 0) (w':=w.alloc (.cells ⟨[]⟩ e)) ?_ (h w.heap.size _ _ ((rl.heap (rl.h.alloc _ _)).put _ hd));simp only[execOp,iN,jV];exact cO h1
def L9[hT:de P t e s by_]{ad:Option Addr}{len cap l2 c2:Nat}(hx:av fr x=some (.slice ad len cap))(hy:av fr y=some (.slice none l2 c2)):Yd P C fr own G ⟨dst, .binOp .eql t x y t',ty',pos,af,gd⟩ (.bool ad.isNone):=by
 intro a w hf hh;simp only[execOp,bh hf hx,bh hf hy];have h1:(Op.equal t (.slice ad len cap) (.slice none l2 c2)).run P w= .ok ad.isNone w:=ow (by unfold Op.equalIn;rw[aH (hT.u w)];cases ad<;>rfl);have h2:(eqGuard .eql t x y (.slice ad len cap) (.slice none l2 c2)).run P w= .ok () w:=J;have h3:(binOp .eql t (.slice ad len cap) (.slice none l2 c2)).run P w= .ok (.bool ad.isNone) w:=by simp only[binOp];rw[aH h1];rfl
 exact cO (by rw[aH h2];exact h3)
def XQ[hT:de P t e s by_]{ad:Option Addr}{len cap l2 c2:Nat}(hx:av fr x=some (.slice ad len cap))(hy:av fr y=some (.slice none l2 c2)):Yd P C fr own G ⟨dst, .binOp .neq t x y t',ty',pos,af,gd⟩ (.bool (!ad.isNone)):=by
 intro a w hf hh;simp only[execOp,bh hf hx,bh hf hy];have h1:(Op.equal t (.slice ad len cap) (.slice none l2 c2)).run P w= .ok ad.isNone w:=ow (by unfold Op.equalIn;rw[aH (hT.u w)];cases ad<;>rfl);have h2:(eqGuard .neq t x y (.slice ad len cap) (.slice none l2 c2)).run P w= .ok () w:=J;have h3:(binOp .neq t (.slice ad len cap) (.slice none l2 c2)).run P w= .ok (.bool (!ad.isNone)) w:=by simp only[binOp];rw[aH h1];rfl
 exact cO (by rw[aH h2];exact h3)
end
def l6: ∀(cs:List Value) (off k:Nat),off+k<=cs.length->cp cs off k=some ((cs.drop off).take k)
 |cs,0,0,_=>by cases cs<;>rfl
 |[],0,k+1,h=>by simp at h
 |v::t,0,k+1,h=>by
  simp only[cp,l6 t 0 k (by simp at h;omega)];simp
 |[],_+1,k,h=>by simp at h
 |_::t,off+1,k,h=>by
  simp only[cp,l6 t off k (by simp at h;omega)];simp
section
variable {P:Program} {C:az} {n:Nat} {fr:Fr} {own own' own1:List aq} {G:Gh} {Φ:Act->World->Prop}
variable {dst:Option Nat} {t t' ty':TypeId} {pos:String} {af:Array Edge} {gd:Option (Nat×Bool)} {x y:Operand} {e s by_:Nat}
def oz(P:Program)(C:az)(own:List aq)(G:Gh)(s m:Nat)(v:Value)(ys:List Value):Prop:=
 ∀w,bt C own G w->(Builtin.firstCells s m v).run P w= .ok ⟨ys⟩ w
def Bm{w:World}{b off k:Nat}{cs l:List Value}{ty:TypeId}{fz:Nat×Nat}(h:w.heap[b]? =some (.cells ⟨cs⟩ ty fz))(hl:cp cs off k=some l):(loadCells ⟨b,off,none⟩ k).run P w= .ok ⟨l⟩ w:=by
 obtain⟨h1,h2⟩:=oh _ _ _ _ hl;unfold loadCells;rw[D4 (l:=l) k 0 #[] (fun j hj=>by rw[wM h];simpa using h2 j hj) (by omega)];simp[<-h1]
def JT{b off m len cap:Nat}{cs ys:List Value}{ty:TypeId}{lo:Bool}(ho:ju own b cs ty lo)(hl:cp cs off (m*s)=some ys):oz P C own G s m (.slice (some ⟨b,off,none⟩) len cap) ys:=
 fun w h=>Bm (h.hown _ ho.mem).1 hl
def MC{b off m len cap:Nat}{cs ys:List Value}(hg:G b=some cs)(hl:cp cs off (m*s)=some ys):oz P C own G s m (.slice (some ⟨b,off,none⟩) len cap) ys:=
 fun w h=>by obtain⟨ty,fz,hb⟩:=h.sub _ _ hg;exact Bm hb hl
def tP{ad:Option Addr}{len cap:Nat}:oz P C own G s 0 (.slice ad len cap) []:=fun w _=>by
 cases ad with
 |none=>rfl
 |some a=>unfold Builtin.firstCells loadCells;simp[loadCellsFrom,run_pure]
def Hr(z:Value)(k:Nat):Builtin.zeroCells ⟨aI z⟩ k=⟨dH z k⟩:=by
 unfold Builtin.zeroCells;exact BP J
def Mz{w w':World}[hT:de P t e s by_][hN:pm P t']{z:Value}[hz:jd P e z]{ad:Option Addr}{len cap m cap2:Nat}{ad2:Option Addr}{xs ys:List Value}
  (hsx:(Builtin.firstCells s len (.slice ad len cap)).run P w.drew= .ok ⟨xs⟩ w.drew)(hsy:(Builtin.firstCells s m (.slice ad2 m cap2)).run P w.drew= .ok ⟨ys⟩ w.drew)
  (hneed:cap<len+m)(hby:0<by_)(hb:(len+m)*by_<=140737488355328):
  (Builtin.append_ #[t,t'] ty' #[.slice ad len cap, .slice ad2 m cap2]).run P w=
   .ok (.slice (some ⟨w.heap.size,0,none⟩) (len+m) (grownCap w (len+m) cap e)) (w.drew.alloc (.cells ⟨xs++ys++dH z (grownCap w (len+m) cap e-(len+m))⟩ e)):=by
 obtain⟨d,hd1⟩:=hN.un;obtain⟨i,hi,his,hib⟩:=hT.info;obtain⟨i',hi',hiz⟩:=hz.info;rw[hi] at hi';cases hi';have hfit:=growslice_fits (old:=cap) (need:=len+m) (bytes:=by_) hneed hb;have hlen:len+m<=140737488355328:=fY (Nat.le_mul_of_pos_right _ hby) hb;have hn: ¬(len+m<=cap):=by omega
 have h63': ¬(9223372036854775807<((len:Int)+(m:Int))):=by omega
 have h48': ¬(281474976710656<Builtin.nextslicecap (len+m) cap*i.bytes):=by rw[hib];omega
 subst his;simp[Builtin.append_,run_underlying hT.un,run_underlying hd1,sizeOf,typeInfo,zeroValue,hi,hiz,Builtin.lenOf,hn,h63',h48',Question.forced,hsx,hsy,newRow,grownCap];congr 2;apply Array.ext';rw[oI,Hr];simp[gK]
def Fl[hT:de P t e s by_][hN:pm P t']{z:Value}[hz:jd P e z]{ad:Option Addr}{len cap m cap2:Nat}{ad2:Option Addr}{xs ys:List Value}
  (hx:av fr x=some (.slice ad len cap))(hy:av fr y=some (.slice ad2 m cap2))(hsx:oz P C own G s len (.slice ad len cap) xs)(hsy:oz P C own G s m (.slice ad2 m cap2) ys)
  (hneed:cap<len+m)(hby:0<by_)(hb:(len+m)*by_<=140737488355328)(hd:cj n dst=true)
  (h: ∀b cap',len+m<=cap'->St C n (put fr dst (.slice (some ⟨b,0,none⟩) (len+m) cap')) (⟨b,xs++ys++dH z (cap'-(len+m)),e,true⟩::own) G Φ):
  Ch P C n fr own G ⟨dst, .call ⟨.builtin .append, #[x,y], #[t,t']⟩,ty',pos,af,gd⟩ Φ:=by
 intro a w Q rl;have hcap:len+m<=grownCap w (len+m) cap e:=by unfold grownCap;simp only[Question.cut];omega
 have hrun:=Mz (P:=P) (t:=t) (t':=t') (ty':=ty') (w:=w) (w':=w) (hsx _ rl.h.drew) (hsy _ rl.h.drew) hneed hby hb;refine m9 (v:= .slice (some ⟨w.heap.size,0,none⟩) (len+m) (grownCap w (len+m) cap e)) (w':=w.drew.alloc (.cells ⟨xs++ys++dH z (grownCap w (len+m) cap e-(len+m))⟩ e)) ?_ ?_
 ·simp only[execOp,resolve,iN,dX,jV,bh rl.fr hx,bh rl.fr hy]
  exact cO hrun
 ·exact h w.heap.size _ hcap _ _ ((rl.heap ((rl.h.drew).alloc _ _)).put _ hd)
def jG.perm{o:aq}(h:jG own o own1):own.Perm (o::own1):=by
 induction h with
 |hd o t=>exact List.Perm.refl _
 |tl x t t' o h ih=>exact(List.Perm.cons x ih).trans (List.Perm.swap _ _ _)
def WX{w:World}[hT:de P t e s by_][hN:pm P t']{b len cap m cap2:Nat}{ad2:Option Addr}{cs ys:List Value}
  (hb:w.heap[b]? =some (.cells ⟨cs⟩ e (0,0)))(hcs:cs.length=cap*s)(hsy:(Builtin.firstCells s m (.slice ad2 m cap2)).run P w= .ok ⟨ys⟩ w)(hys:ys.length=m*s)(hf: ∀v∈ys,flat v=true)
  (hneed:len+m<=cap):
  (Builtin.append_ #[t,t'] ty' #[.slice (some ⟨b,0,none⟩) len cap, .slice ad2 m cap2]).run P w=
   .ok (.slice (some ⟨b,0,none⟩) (len+m) cap) (gk w b (.cells ⟨dm cs (len*s) ys⟩ e (0,0))):=by
 obtain⟨d,hd1⟩:=hN.un;obtain⟨i,hi,his,hib⟩:=hT.info;subst his;have hl:len*i.size+ys.length<=cs.length:=by rw[hys,hcs,<-cL];exact bX _ hneed
 have hst:=vz (P:=P) ys w (len*i.size) 0 cs hf hb (by omega);rw[dW] at hst;simp[Builtin.append_,run_underlying hT.un,run_underlying hd1,sizeOf,typeInfo,hi,Builtin.lenOf,hneed,hsy,oO,hst]
def yi: ∀(vs cs:List Value) (off:Nat),(dm cs off vs).length=cs.length
 |[],cs,off=>rfl
 |v::vs,cs,off=>by simp[dm,yi vs]
def sM: ∀(vs cs:List Value) (off:Nat),off+vs.length<=cs.length->dm cs off vs=cs.take off++vs++cs.drop (off+vs.length)
 |[],cs,off,h=>by simp[dm]
 |v::vs,cs,off,h=>by
  simp only[bS] at h;rw[dm,sM vs _ _ (by simp;omega)];rw[List.take_set,oW (by omega)];have h1:(cs.take (off+1)).set off v=cs.take off++[v]:=by
   rw[fU (by omega),List.set_append_right _ _ (by simp;omega)];simp[fT (by omega:off<=cs.length)]
  rw[h1];simp only[bS,gK,jU,kK];congr 4;omega
def Ku[hT:de P t e s by_][hN:pm P t']{z:Value}[hz:jd P e z]{b len cap m cap2:Nat}{ad2:Option Addr}{xs ys rest:List Value}
  (hx:av fr x=some (.slice (some ⟨b,0,none⟩) len cap))(hy:av fr y=some (.slice ad2 m cap2))(hr:jG own ⟨b,xs++rest,e,true⟩ own1)(hxs:xs.length=len*s)(hcap:xs.length+rest.length=cap*s)(hlc:len<=cap)
  (hsy:oz P C own G s m (.slice ad2 m cap2) ys)(hys:ys.length=m*s)(hf: ∀v∈ys,flat v=true)
  (hby:0<by_)(hb:(len+m)*by_<=140737488355328)(hzs:(aI z).length=s)(hd:cj n dst=true)
  (h: ∀b cap' rest',len+m<=cap'->rest'.length+(len+m)*s=cap'*s->St C n (put fr dst (.slice (some ⟨b,0,none⟩) (len+m) cap')) (⟨b,xs++ys++rest',e,true⟩::own1) G Φ):
  Ch P C n fr own G ⟨dst, .call ⟨.builtin .append, #[x,y], #[t,t']⟩,ty',pos,af,gd⟩ Φ:=by
 intro a w Q rl;have hp:=rl.h.perm hr.perm;have hblk:=(hp.hown _ aQ).1;simp only[] at hblk;by_cases hneed:len+m<=cap
 ·have hcs:(xs++rest).length=cap*s:=by simp;omega
  have hrun:=WX (P:=P) (t:=t) (t':=t') (ty':=ty') (w:=w) (len:=len) hblk hcs (hsy w rl.h) hys hf hneed;have hle:len*s+m*s<=cap*s:=by rw[<-cL];exact bX _ hneed
  have hov:dm (xs++rest) (len*s) ys=xs++ys++rest.drop (m*s):=by
   rw[sM _ _ _ (by rw[hys];omega),<-hxs];simp[hys,List.drop_append]
  refine m9 (v:= .slice (some ⟨b,0,none⟩) (len+m) cap) (w':=gk w b (.cells ⟨dm (xs++rest) (len*s) ys⟩ e (0,0))) ?_ ?_
  ·simp only[execOp,resolve,iN,dX,jV,bh rl.fr hx,bh rl.fr hy]
   exact cO hrun
  ·rw[hov]
   refine h b cap (rest.drop (m*s)) hneed ?_ _ _ ((rl.heap (hp.store (.hd ..))).put _ hd);rw[lY,cL];omega
 ·have hx':oz P C own G s len (.slice (some ⟨b,0,none⟩) len cap) xs:=fun w' hw'=>by
   have hb':=(((hw'.perm hr.perm).hown _ aQ).1);refine Bm hb' ?_;rw[l6 _ _ _ (by simp;omega),<-hxs];simp
  have hcap':len+m<=grownCap w (len+m) cap e:=by unfold grownCap;simp only[Question.cut];omega
  have hrun:=Mz (P:=P) (t:=t) (t':=t') (ty':=ty') (w:=w) (w':=w) (hx' _ rl.h.drew) (hsy _ rl.h.drew) (by omega) hby hb;refine m9 (v:= .slice (some ⟨w.heap.size,0,none⟩) (len+m) (grownCap w (len+m) cap e)) (w':=w.drew.alloc (.cells ⟨xs++ys++dH z (grownCap w (len+m) cap e-(len+m))⟩ e)) ?_ ?_
  ·simp only[execOp,resolve,iN,dX,jV,bh rl.fr hx,bh rl.fr hy]
   exact cO hrun
  ·refine h w.heap.size _ _ hcap' ?_ _ _ ((rl.heap (((hp.drew).drop (List.sublist_cons_self _ _)).alloc _ _)).put _ hd)
   rw[tk,hzs,<-cL];congr 1;omega
end
section
variable {P:Program} {ops:Array Oper} {Q:Exit->Act->World->Prop} {S:World->Prop} {fin:Nat->Bool}
def pE(ops:Array Oper)(fin:Nat->Bool):List (Nat×Bool)->Array Bool->Bool
 |[],listed=>(Region.ready .any ops listed).isEmpty
 |(i,true)::r,listed=>uR ops fin listed i&&pE ops fin r (listed.setIfInBounds i true)
 |(i,false)::r,listed=>(Region.ready .any ops listed==[i])&&pE ops fin r (listed.setIfInBounds i true)
def jq(P:Program)(ops:Array Oper)(Q:Exit->Act->World->Prop)(S:World->Prop)(fin:Nat->Bool):List (Nat×Bool)->Act->World->Prop
 |[],a,w=>Q .normal a w
 |(i,true)::r,a,w=> ∃o v,ops[i]? =some o/\S w/\YieldsIf P ops S o v a/\jq P ops Q S fin r (a.put o.dst v) w
 |(i,false)::r,a,w=>wpOp P ops Q i (fun a' w'=>(fin i=true\/S w')/\jq P ops Q S fin r a' w') a w
def E7(hQ: ∀c a d v w,Q (.panic c) (Act.put a d v) w->Q (.panic c) a w): ∀(π:List (Nat×Bool)) (listed:Array Bool) (a:Act) (w:World),pE ops fin π listed=true->jq P ops Q S fin π a w-> ∀fuel,π.length<=fuel->sj P ops Q S fin fuel listed a w
 |[],listed,a,w,ho,h,fuel,hf=>by
  have hr:Region.ready .any ops listed=[]:=by simpa[pE] using ho
  cases fuel with
  |zero=>exact⟨hr,h⟩
  |succ k=>exact⟨fun _=>h,by rw[hr];simp⟩
 |(i,true)::r,listed,a,w,ho,h,0,hf=>by simp at hf
 |(i,false)::r,listed,a,w,ho,h,0,hf=>by simp at hf
 |(i,true)::r,listed,a,w,ho,h,fuel+1,hf=>by
  obtain⟨o,v,hoi,hS,hy,hk⟩:=h;simp only[pE,uR,aM] at ho;obtain⟨⟨⟨⟨h1,h2⟩,h3⟩,h4⟩,h5⟩:=ho;obtain⟨h6,h7⟩:=Sc h4;exact Vu hoi (Region.noSelect_spec h1) (fun c a w=>hQ c a _ _ w) h6 h7 fuel listed a w (Region.free_spec hoi h2) (by simpa using h3) hy hS
   (E7 hQ r _ _ _ h5 hk fuel (by simpa using hf))
 |(i,false)::r,listed,a,w,ho,h,fuel+1,hf=>by
  simp only[pE,aM,beq_iff_eq] at ho;exact VC ho.1 (wpOp_mono (fun a' w' h'=>⟨h'.1,E7 hQ r _ _ _ ho.2 h'.2 fuel (by simpa using hf)⟩) h)
end
section
variable {P:Program} {C:az} {n:Nat} {fr:Fr} {own own0:List aq} {G G0:Gh} {ops:Array Oper} {Q:Exit->Act->World->Prop} {fin:Nat->Bool} {π:List (Nat×Bool)}
def dr(fin:Nat->Bool)(π:List (Nat×Bool)){id:Nat}(hm:P.follows .mixedOrders=true)(ho:(pE ops fin π (Array.replicate ops.size false)&&Nat.ble π.length ops.size)=true)
  (h:St C n fr own G (jq P ops (js Q) (HS C own G) fin π)):St C n fr own G ((Code.region id ops true).wp P Q):=by
 simp only[aM] at ho;refine Xj fin hm fun a w rl=>E7 (fun _ _ _ _ _ h=>h) π _ a w ho.1 (h a w rl) _ (by simpa using ho.2)
def dy{i:Nat}{o:Oper}{v:Value}(ho:ops[i]? =some o)(hy: ∀G':Gh,[GE G0 G']->Yd P C fr own0 G' o v)(hg:o.guard=none)(hd:cj n o.dst=true)[hs:k9 own0 own][hl:GL G0 G]
  (h:St C n (put fr o.dst v) own G (jq P ops (js Q) (HS C own0 G0) fin π)):St C n fr own G (jq P ops (js Q) (HS C own0 G0) fin ((i,true)::π)):=
 fun a w rl=>⟨o,v,ho,⟨G,hl.le,rl.h.drop hs.s⟩, .inl ⟨by simp[Region.wanted,hg],fun w' ⟨G',hle,hr⟩=> @hy G' ⟨hle⟩ a w' rl.fr hr⟩,h _ _ (rl.put v hd)⟩
def dM{i:Nat}{dst:Option Nat}{ty':TypeId}{pos:String}{af:Array Edge}{x:Operand}{v:Value}(ho:ops[i]? =some ⟨dst, .move x,ty',pos,af,none⟩)(hx:av fr x=some v)(hd:cj n dst=true)[hs:k9 own0 own][hl:GL G0 G]
  (h:St C n (put fr dst v) own G (jq P ops (js Q) (HS C own0 G0) fin π)):St C n fr own G (jq P ops (js Q) (HS C own0 G0) fin ((i,true)::π)):=dy ho (fun _ _=>kP hx) J hd h
def dA{i:Nat}{dst:Option Nat}{ty':TypeId}{pos:String}{af:Array Edge}{x:Operand}{v:Value}(ho:ops[i]? =some ⟨dst, .assign x,ty',pos,af,none⟩)(hx:av fr x=some v)(hd:cj n dst=true)[hs:k9 own0 own][hl:GL G0 G]
  (h:St C n (put fr dst v) own G (jq P ops (js Q) (HS C own0 G0) fin π)):St C n fr own G (jq P ops (js Q) (HS C own0 G0) fin ((i,true)::π)):=dy ho (fun _ _=>CM hx) J hd h
def dc{i:Nat}{o:Oper}(ho:ops[i]? =some o)(hg:o.guard=none)(hc:Ch P C n fr own G o (fun a w=>(fin i=true\/HS C own0 G0 w)/\jq P ops (js Q) (HS C own0 G0) fin π a w)):St C n fr own G (jq P ops (js Q) (HS C own0 G0) fin ((i,false)::π)):=by
 intro a w rl;show wpOp P ops (js Q) i _ a w;unfold wpOp;simp only[ho,Region.wanted,hg,if_true];exact .inl (hc a w _ rl)
def dn(h:St C n fr own G (Q .normal)):St C n fr own G (jq P ops (js Q) (HS C own0 G0) fin []):=h
def Tz{A G:Gh}{b:Nat}{cs:List Value}[h:wm A b cs][k:GL A G]:G b=some cs:=k.le _ _ h.h
variable {dst:Option Nat} {t t' ty':TypeId} {pos:String} {af:Array Edge} {x y:Operand} {r:List Oper}
def sm{v:Value}(hx:av fr x=some v)(hd:cj n dst=true)(h:St C n (put fr dst v) own G (dE P ops Q r)):St C n fr own G (dE P ops Q (⟨dst, .move x,ty',pos,af,none⟩::r)):=tg (kP hx) J hd h
def sa{v:Value}(hx:av fr x=some v)(hd:cj n dst=true)(h:St C n (put fr dst v) own G (dE P ops Q r)):St C n fr own G (dE P ops Q (⟨dst, .assign x,ty',pos,af,none⟩::r)):=tg (CM hx) J hd h
def sn{ad:Addr}(hx:av fr x=some (.pointer (some ad)))(hd:cj n dst=true)(h:St C n (put fr dst (.pointer (some ad))) own G (dE P ops Q r)):St C n fr own G (dE P ops Q (⟨dst, .nilCheck x,ty',pos,af,none⟩::r)):=tg (w9 hx) J hd h
def qc{b off k:Nat}{cs l:List Value}{lo:Bool}{ty:TypeId}(hx:av fr x=some (.pointer (some ⟨b,off,none⟩)))[ho:ju own b cs ty lo][pz P t k](hl:cp cs off k=some l)(hd:cj n dst=true)
  (h:St C n (put fr dst (.agg ⟨l⟩)) own G (dE P ops Q r)):St C n fr own G (dE P ops Q (⟨dst, .load t x,ty',pos,af,none⟩::r)):=tg (CX hx hl) J hd h
def cE{e s by_:Nat}{ad:Option Addr}{len cap:Nat}[hT:de P t e s by_](hx:av fr x=some (.slice ad len cap))(hd:cj n dst=true)
  (h:St C n (put fr dst (.int .i64 len)) own G (dE P ops Q r)):St C n fr own G (dE P ops Q (⟨dst, .call ⟨.builtin .len, #[x], #[t]⟩,ty',pos,af,none⟩::r)):=tg (r4 hx) J hd h
def sx{vs:Array Value}{i:Nat}{v:Value}(hx:av fr x=some (.tuple vs))(hv:vs[i]? =some v)(hd:cj n dst=true)(h:St C n (put fr dst v) own G (dE P ops Q r)):St C n fr own G (dE P ops Q (⟨dst, .extract x i,ty',pos,af,none⟩::r)):=tg (AZ hx hv) J hd h
def dO{C:az}{n:Nat}{fr:Fr}{own:List aq}{G:Gh}{K:Act->World->Prop}{Q:Exit->Act->World->Prop}{id:Nat}(h:St C n fr own G (Q (.exit id))):St C n fr own G (Exit.then K Q (.exit id)):=h
def ew{op:Op}{v:Value}{j d:Nat}{b:Bool}(hj:(ops[j]?).bind (·.dst)=some d)(hl:gt fr d=some (.bool b))(hy:Yd P C fr own G ⟨dst,op,ty',pos,af,some (j,b)⟩ v)(hd:cj n dst=true)(h:St C n (put fr dst v) own G (dE P ops Q r)):St C n fr own G (dE P ops Q (⟨dst,op,ty',pos,af,some (j,b)⟩::r)):=UE J hj hl hy hd h
def ss{op:Op}{j d:Nat}{b c:Bool}(hj:(ops[j]?).bind (·.dst)=some d)(hl:gt fr d=some (.bool c))(hbc:(c==b)=false)(hd:cj n dst=true)(h:St C n (put fr dst undef) own G (dE P ops Q r)):St C n fr own G (dE P ops Q (⟨dst,op,ty',pos,af,some (j,b)⟩::r)):=VM J hj hl hbc hd h
def sy{op:Op}{v:Value}(hy:Yd P C fr own G ⟨dst,op,ty',pos,af,none⟩ v)(hd:cj n dst=true)(h:St C n (put fr dst v) own G (dE P ops Q r)):St C n fr own G (dE P ops Q (⟨dst,op,ty',pos,af,none⟩::r)):=tg hy J hd h
def sc{op:Op}(hc:Ch P C n fr own G ⟨dst,op,ty',pos,af,none⟩ (dE P ops Q r)):St C n fr own G (dE P ops Q (⟨dst,op,ty',pos,af,none⟩::r)):=N6 J hc
end
def Fn.of_calls{P:Program}{f:FuncId}{vs:List Value}{G:Gh}{v:Value}(ha:ml P f)(h: ∀w,Calls P f ⟨vs⟩ w fun e w'=>e= .returned v/\w'=w):Fn P f vs G (fun u _=>u=v):=
 ⟨ha,fun w hw=>(h w).mono fun e w' ⟨he,hww⟩=>⟨v,G,he,by
  subst hww;exact⟨J,J,J,aN _,fun _ _ _=>J,hw,bu.refl _,fun _ _=>J,fun o ho=>(by cases ho), .nil,aN _,fun p hp=>by cases hp⟩,J⟩⟩
end Go.Sx
end
section
namespace Go.Sx
def dv:List Nat->Nat
 |[]=>0
 |d::t=>d+4294967296*dv t
def bi(ds:List Nat):Prop:= ∀d∈ds,d<4294967296
def dC(ds:List Nat):Prop:=ds.getLast? ≠some 0
instance (ds:List Nat):Decidable (dC ds):=inferInstanceAs (Decidable (ds.getLast? ≠some 0))
def bi.nil:bi []:=fun _ h=>by cases h
def bi.cons{d:Nat}{ds:List Nat}(h:d<4294967296)(k:bi ds):bi (d::ds):=fun x hx=>by
 rcases aU.1 hx with rfl|h'
 ·exact h
 ·exact k _ h'
def bi.head{d:Nat}{ds:List Nat}(h:bi (d::ds)):d<4294967296:=h d aQ
def bi.tail{d:Nat}{ds:List Nat}(h:bi (d::ds)):bi ds:=fun x hx=>h x (aZ _ hx)
def bi.append{a b:List Nat}(h:bi a)(k:bi b):bi (a++b):=fun x hx=>by
 rcases bL.1 hx with h'|h'
 ·exact h _ h'
 ·exact k _ h'
def bi.take{a:List Nat}(h:bi a)(n:Nat):bi (a.take n):=fun x hx=>h x (gN hx)
def bi.drop{a:List Nat}(h:bi a)(n:Nat):bi (a.drop n):=fun x hx=>h x (List.mem_of_mem_drop hx)
def bi.get{a:List Nat}(h:bi a)(i:Nat):a.getD i 0<4294967296:=by
 rw[aJ]
 cases hi:a[i]? with
 |none=>simp
 |some d=>exact h d (bJ hi)
def bi.set{a:List Nat}(h:bi a)(i:Nat){d:Nat}(hd:d<4294967296):bi (a.set i d):=fun x hx=>by
 rcases List.mem_or_eq_of_mem_set hx with h'|rfl
 ·exact h _ h'
 ·exact hd
def bi.replicate(n:Nat):bi (List.replicate n 0):=fun x hx=>by
 rw[kR hx];omega
def t6(a b:List Nat):dv (a++b)=dv a+4294967296^a.length*dv b:=by
 induction a with
 |nil=>simp[dv]
 |cons d t ih=>
  simp only[jU,dv,ih,bS,fZ];rw[cN,<-jM,<-bW,bV 4294967296 (4294967296^t.length)]
def iI{ds:List Nat}(h:bi ds):dv ds<4294967296^ds.length:=by
 induction ds with
 |nil=>simp[dv]
 |cons d t ih=>
  have h1:=h.head;have h2:=ih h.tail;simp only[dv,bS,fZ];omega
def u7(n:Nat):dv (List.replicate n 0)=0:=by
 induction n with
 |zero=>rfl
 |succ n ih=>simp[gU,dv,ih]
def il(ds:List Nat)(i:Nat):dv (ds.take (i+1))=dv (ds.take i)+4294967296^i*ds.getD i 0:=by
 by_cases h:i<ds.length
 ·rw[fU h,t6]
  simp[dv,fT (nV h),aJ,h]
 ·have:ds.getD i 0=0:=by rw[aJ,fQ (by omega)];rfl
  rw[this,aL (by omega),aL (by omega)];simp
def zS(ds:List Nat)(i:Nat)(h:i<=ds.length):dv ds=dv (ds.take i)+4294967296^i*dv (ds.drop i):=by
 have:=t6 (ds.take i) (ds.drop i);rw[lL] at this;rw[this];simp[fT h]
def trimD:List Nat->List Nat
 |[]=>[]
 |d::t=>match trimD t with
  |[]=>if d=0 then [] else [d]
  |t'=>d::t'
def tH(d:Nat)(t:List Nat):trimD (d::t)=if trimD t=[]/\d=0 then [] else d::trimD t:=by
 simp only[trimD]
 cases h:trimD t with
 |nil=>by_cases hd:d=0<;>simp[hd]
 |cons a b=>simp
def iG(ds:List Nat):dv (trimD ds)=dv ds:=by
 induction ds with
 |nil=>rfl
 |cons d t ih=>
  rw[tH];split
  ·rename_i h
   rw[h.1] at ih;simp[dv,<-ih,h.2]
  ·simp[dv,ih]
def Gc(ds:List Nat):trimD (ds++[0])=trimD ds:=by
 induction ds with
 |nil=>rfl
 |cons d t ih=>rw[jU,tH,tH,ih]
def CB{ds:List Nat}{d:Nat}(h:d≠0):trimD (ds++[d])=ds++[d]:=by
 induction ds with
 |nil=>simp[trimD,h]
 |cons e t ih=>rw[jU,tH,ih];simp
def dC.trimD(ds:List Nat):dC (trimD ds):=by
 induction ds with
 |nil=>simp[dC,Sx.trimD]
 |cons d t ih=>
  rw[tH];split
  ·simp[dC]
  ·rename_i h
   unfold dC at*;rw[List.getLast?_cons]
   cases ht:(Sx.trimD t).getLast? with
   |none=>
    have:Sx.trimD t=[]:=by simpa using ht
    simp only[Option.getD_none,ne_eq,Option.some.injEq];exact fun hd=>h ⟨this,hd⟩
   |some x=>rw[ht] at ih;simpa using ih
def k8(ds:List Nat):(trimD ds).length<=ds.length:=by
 induction ds with
 |nil=>simp[trimD]
 |cons d t ih=>
  rw[tH];split
  ·simp
  ·simp;omega
def J3(ds:List Nat):trimD ds=ds.take (trimD ds).length:=by
 induction ds with
 |nil=>rfl
 |cons d t ih=>
  rw[tH];split
  ·rfl
  ·simp only[bS,mT];rw[<-ih]
def bi.trimD{ds:List Nat}(h:bi ds):bi (trimD ds):=by rw[J3];exact h.take _
def Nf{ds:List Nat}(h:dC ds):trimD ds=ds:=by
 rcases pM ds with rfl|⟨l,d,rfl⟩
 ·rfl
 ·rw[pN] at*
  exact CB (fun e=>by subst e;simp[dC] at h)
def pw{ds:List Nat}(h:dC ds)(hne:ds≠[]):4294967296^(ds.length-1)<=dv ds:=by
 rcases pM ds with rfl|⟨l,d,rfl⟩
 ·exact absurd J hne
 ·rw[pN] at*
  have hd:d≠0:=fun e=>by subst e;simp[dC] at h
  rw[t6];simp only[cZ,bS,iZ,dv];have:4294967296^(l.length+(0+1)-1)=4294967296^l.length:=by congr 1
  rw[this];have h1:4294967296^l.length*1<=4294967296^l.length*(d+4294967296*0):=eK _ (by omega);omega
def Pt{ds:List Nat}(h:dC ds):dv ds=0↔ds=[]:=by
 constructor
 ·intro h0
  by_cases hne:ds=[]
  ·exact hne
  ·have:=pw h hne
   have hp:0<4294967296^(ds.length-1):=dS (by omega);omega
 ·rintro rfl;rfl
def pP{a b:List Nat}(ha:bi a)(hb:dC b)(h:a.length<b.length):dv a<dv b:=by
 have h1:=iI ha;have h2:=pw hb (fun e=>by subst e;simp at h);have h3:4294967296^a.length<=4294967296^(b.length-1):=bQ (by omega) (by omega);omega
def Ie: ∀{a b:List Nat},bi a->bi b->a.length=b.length->dv a=dv b->a=b
 |[],[],_,_,_,_=>rfl
 |d::t,e::u,ha,hb,hl,h=>by
  have h1:=ha.head;have h2:=hb.head;simp only[dv] at h;have:d=e:=by omega
  subst this;rw[Ie ha.tail hb.tail (by simpa using hl) (by omega)]
def P9{a b:List Nat}(ha:bi a)(hb:bi b)(na:dC a)(nb:dC b)(h:dv a=dv b):a=b:=by
 refine Ie ha hb ?_ h;rcases nU a.length b.length with h'|h'|h'
 ·have:=pP ha nb h';omega
 ·exact h'
 ·have:=pP hb na h';omega
def xR{a b:List Nat}(ha:bi a)(hb:bi b)(i:Nat)(hia:i<a.length)(hib:i<b.length)(hl:a.length=b.length)(hs:a.drop (i+1)=b.drop (i+1))(h:a.getD i 0<b.getD i 0):dv a<dv b:=by
 rw[zS a (i+1) (by omega),zS b (i+1) (by omega),hs,il,il];have h1:=iI (ha.take i);rw[cW,fT (by omega)] at h1;have h2:4294967296^i*(a.getD i 0+1)<=4294967296^i*b.getD i 0:=eK _ h;rw[cN] at h2;omega
def Jg{ds:List Nat}{k:Nat}(h:dC ds)(hk:dv ds<2^k):32*ds.length<=k+31:=by
 by_cases hne:ds=[]
 ·subst hne;simp
 ·have h1:=pw h hne
  have h2:(4294967296:Nat)^(ds.length-1)=2^(32*(ds.length-1)):=by
   rw[nM]
  rw[h2] at h1;have h3:2^(32*(ds.length-1))<2^k:=fW h1 hk;have h4:=(mW (by omega:1<2)).1 h3;have:0<ds.length:=by cases ds with|nil=>exact absurd J hne|cons _ _=>simp
  omega
def dg(x:Nat):List Nat:=if h:x=0 then [] else(x%4294967296)::dg (x/4294967296)
termination_by x
decreasing_by omega
def dP(x:Nat):dv (dg x)=x/\bi (dg x)/\dC (dg x):=by
 induction x using Nat.strongRecOn with
 |_ x ih=>
  unfold dg;split
  ·rename_i h;subst h;exact⟨rfl, .nil,by simp[dC]⟩
  ·rename_i h
   obtain⟨h1,h2,h3⟩:=ih (x/4294967296) (by omega);refine⟨by rw[dv,h1];omega, .cons (by omega) h2,?_⟩;unfold dC at*;rw[List.getLast?_cons]
   cases hl:(dg (x/4294967296)).getLast? with
   |none=>
    have:dg (x/4294967296)=[]:=by simpa using hl
    rw[this] at h1;simp only[Option.getD_none,ne_eq,Option.some.injEq];simp only[dv] at h1;omega
   |some y=>rw[hl] at h3;simpa using h3
def MU{ds:List Nat}(h:bi ds)(n:dC ds):dg (dv ds)=ds:=P9 (dP _).2.1 h (dP _).2.2 n (dP _).1
def nD{ds:List Nat}(h:bi ds):dg (dv ds)=trimD ds:=by rw[<-iG];exact MU h.trimD (dC.trimD _)
def nA: ∀(ws:List Nat) (j d:Nat),j<ws.length->dv (ws.set j d)+4294967296^j*ws.getD j 0=dv ws+4294967296^j*d
 |[],j,d,h=>by simp at h
 |w::t,0,d,h=>by simp[dv];omega
 |w::t,j+1,d,h=>by
  have ih:=nA t j d (by simpa using h);simp only[List.set_cons_succ,dv,gT,fZ];have h1:4294967296^j*4294967296*t.getD j 0=4294967296*(4294967296^j*t.getD j 0):=by rw[bV (4294967296^j),bW]
  have h2:4294967296^j*4294967296*d=4294967296*(4294967296^j*d):=by rw[bV (4294967296^j),bW]
  rw[h1,h2];omega
def nG{ws:List Nat}{k d:Nat}(h:k<ws.length):dv ((ws.set k d).take (k+1))=dv (ws.take k)+4294967296^k*d:=by
 rw[fU (by simpa using h),List.take_set_of_le (aN _),t6];simp[dv,fT (nV h)]
def Et(p x:Nat):p*x=p*(x%4294967296)+p*4294967296*(x/4294967296):=by
 have h:p*x=p*(4294967296*(x/4294967296)+x%4294967296):=by rw[oL]
 rw[cN,<-bW] at h;omega
def Jw{p A E W c a b:Nat}(h:W+p*c=A+E):(W+p*((c+a+b)%4294967296))+(p*4294967296)*((c+a+b)/4294967296)=(A+p*a)+(E+p*b):=by
 have h1:=Et p (c+a+b);rw[cN,cN] at h1;omega
def Ka{p A E W bo b a:Nat}(h:W+E=A+p*bo)(hle:bo+b<=a):(W+p*(a-(bo+b)))+(E+p*b)=(A+p*a)+p*4294967296*0:=by
 have h1:p*a=p*(a-(bo+b))+p*bo+p*b:=by
  rw[<-cN,<-cN];congr 1;omega
 omega
def La{p A E W bo b a:Nat}(h:W+E=A+p*bo)(hle:a<bo+b)(hb:bo+b<=a+4294967296):(W+p*(a+4294967296-(bo+b)))+(E+p*b)=(A+p*a)+p*4294967296*1:=by
 have h1:p*a+p*4294967296=p*(a+4294967296-(bo+b))+p*bo+p*b:=by
  rw[<-cN,<-cN,<-cN];congr 1;omega
 omega
def KU{p W W' T c m w:Nat}(hs:W'+p*w=W+p*((c+m+w)%4294967296))(h:W+p*c=T):W'+(p*4294967296)*((c+m+w)/4294967296)=T+p*m:=by
 have h1:=Et p (c+m+w);rw[cN,cN] at h1;omega
end Go.Sx
end
section
namespace Go.Sx
open Go
section
variable {P:Program} {C:az} {n:Nat} {fr:Fr} {own:List aq} {G:Gh}
def XP{c:Code}{Q:Exit->Act->World->Prop}(h:St C n fr own G (c.wp P (Exit.noGoto Q))):St C n fr own G ((Code.scope c).wp P Q):=
 fun a w rl=>wp_scope_straight (h a w rl)
def OL{l:Nat}{Q:Exit->Act->World->Prop}(h:St C n fr own G (Q .normal)):St C n fr own G ((Code.label l).wp P Q):=
 fun a w rl=>wp_label (h a w rl)
def HJ:Exit->Bool
 | .goto _=>false
 |_=>true
end
section
variable {P:Program} {ops:Array Oper} {Q:Exit->Act->World->Prop} {S:World->Prop} {fin:Nat->Bool} {k:Nat} {π₂:List (Nat×Bool)}
def FH(ops:Array Oper)(fin:Nat->Bool)(k:Nat)(π₂:List (Nat×Bool)):List (Nat×Bool)->Array Bool->Bool
 |[],listed=>(Region.ready .any ops listed==[k])&&pE ops fin π₂ (listed.setIfInBounds k true)
 |(i,true)::r,listed=>!(Nat.beq i k)&&uR ops fin listed i&&uR ops fin (listed.setIfInBounds k true) i&&FH ops fin k π₂ r (listed.setIfInBounds i true)
 |(i,false)::r,listed=>!(Nat.beq i k)&&(Region.ready .any ops listed).all (fun j=>Nat.beq j i||Nat.beq j k)&&(Region.ready .any ops listed).contains i&&(Region.ready .any ops (listed.setIfInBounds k true)==[i])&&FH ops fin k π₂ r (listed.setIfInBounds i true)
def E8(P:Program)(ops:Array Oper)(Q:Exit->Act->World->Prop)(S:World->Prop)(fin:Nat->Bool)(k:Nat)(π₂:List (Nat×Bool)):List (Nat×Bool)->Act->World->Prop
 |[],a,w=>wpOp P ops Q k (fun a' w'=>(fin k=true\/S w')/\jq P ops Q S fin π₂ a' w') a w
 |(i,true)::r,a,w=> ∃o v,ops[i]? =some o/\S w/\YieldsIf P ops S o v a/\E8 P ops Q S fin k π₂ r (a.put o.dst v) w
 |(i,false)::r,a,w=>wpOp P ops Q i (fun a' w'=>(fin i=true\/S w')/\E8 P ops Q S fin k π₂ r a' w') a w/\
   wpOp P ops Q k (fun a' w'=>(fin k=true\/S w')/\jq P ops Q S fin ((i,false)::r++π₂) a' w') a w
end
section
variable {P:Program} {C:az} {n:Nat} {fr:Fr} {own own0:List aq} {G G0:Gh} {ops:Array Oper} {Q:Exit->Act->World->Prop} {fin:Nat->Bool} {k:Nat} {π π₂:List (Nat×Bool)}
def fF(d:Nat):Option Nat->Fr
 |none=>[]
 |some b=>[(d, .pointer (some ⟨b,0,none⟩))]
def fO(t:TypeId)(z:Value):Option Nat->List aq
 |none=>[]
 |some b=>[⟨b,aI z,t,true⟩]
def Y2(P:Program)(ops:Array Oper)(Q:Exit->Act->World->Prop)(S:World->Prop)(fin:Nat->Bool)(k:Nat)(π₂:List (Nat×Bool))(fl:Option Nat)(π:List (Nat×Bool)):Act->World->Prop:=
 match fl with
 |none=>E8 P ops Q S fin k π₂ π
 |some _=>jq P ops Q S fin (π++π₂)
end
def relo(fl:Nat->Bool)(o:aq):aq:={o with lo:=fl o.b}
structure lP (P:Program) (f:FuncId) (vs:List Value) (M:List aq) (G:Gh) (K:Value->List aq->Gh->Prop):Prop where
 able:ml P f
 run: ∀w,bt ⟨w,G,M.map (·.b),[],[],none,fun _=>none⟩ (asB M) G w->
  Calls P f ⟨vs⟩ w fun e w'=> ∃v own' G',e= .returned v/\bt ⟨w,G,M.map (·.b),[],[],none,fun _=>none⟩ own' G' w'/\K v own' G'
def kB(M:List aq)(b:Nat):Bool:=M.all fun m=>!Nat.beq m.b b||m.lo
def bt.calledO{C:az}{M rest own':List aq}{G G':Gh}{w w':World}(h:bt C (M++rest) G w)(k:bt ⟨w,G,M.map (·.b),[],[],none,fun _=>none⟩ own' G' w'):
  bt C (own'.map (relo (kB M))++rest) G' w':=by
 have hsz:w.heap.size<=w'.heap.size:=k.size;have hnd:=h.nd;have inM: ∀b,b∈M.map (·.b)-> ∀o∈rest,o.b≠b:=fun b hb o ho e=>by
  obtain⟨m,hm,rfl⟩:=bK.1 hb;exact(jY.1 hnd).2.2 m hm o ho e.symm
 have bnd: ∀o∈own',o.b∉M.map (·.b)->w.heap.size<=o.b:=fun o ho hb=>by
  obtain⟨_,_,h3,h4⟩:=k.hown o ho
  cases hlo:o.lo with
  |true=>exact h3 hlo
  |false=>exact absurd (h4 hlo) hb
 refine⟨k.os.trans h.os,k.tape.trans h.tape,k.output.trans h.output,fY h.size hsz,?_,k.sub,h.gle.trans k.gle,?_,?_,?_,fY h.dr k.dr,fun p hp=>⟨(h.ext p hp).1,by rw[k.keep _ (fP (h.ext p hp).2) (h.extM hp)];exact(h.ext p hp).2⟩⟩
 ·intro b hb hm
  have hs:=h.size;have hnM:b∉M.map (·.b):=fun hb'=>by
   obtain⟨m,hmM,rfl⟩:=bK.1 hb';obtain⟨_,_,h3,h4⟩:=h.hown m (bU _ hmM)
   cases hlo:m.lo with
   |true=>have:=h3 hlo;omega
   |false=>exact hm (h4 hlo)
  rw[k.keep b (by show b<w.heap.size;omega) hnM];exact h.keep b hb hm
 ·intro b hb;have:=h.size;rw[k.gold b (by show b<w.heap.size;omega)];exact h.gold b hb
 ·intro o ho
  have hs:=h.size;rcases bL.1 ho with ho|ho
  ·obtain⟨o',ho',rfl⟩:=bK.1 ho
   obtain⟨k1,k2,k3,k4⟩:=k.hown _ ho';refine⟨k1,k2,fun hl=>?_,fun hl=>?_⟩
   ·show C.w0.heap.size<=o'.b
    by_cases hb:o'.b∈M.map (·.b)
    ·obtain⟨m,hm,hmb⟩:=bK.1 hb
     have hl':kB M o'.b=true:=hl;have:=cM.1 hl' m hm;simp only[hmb,fR,gM,Nat.beq_refl] at this;obtain⟨_,_,h3,_⟩:=h.hown m (bU _ hm);rw[<-hmb];exact h3 (by rcases this with h|h;(cases h);(exact h))
    ·have:=bnd o' ho' hb;omega
   ·show o'.b∈C.mb
    have hl':kB M o'.b=false:=hl;obtain⟨m,hm,hmb⟩:=List.all_eq_false.1 hl';simp only[fR,gM,not_or] at hmb;obtain⟨h1,h2⟩:=hmb;have e:m.b=o'.b:=by
     cases hq:Nat.beq m.b o'.b with
     |true=>exact aT hq
     |false=>exact absurd hq h1
    obtain⟨_,_,_,h4⟩:=h.hown m (bU _ hm);rw[<-e];exact h4 (by cases hq:m.lo with
     |true=>exact absurd hq h2
     |false=>rfl)
  ·obtain⟨h1,h2,h3⟩:=h.hown o (cJ _ ho)
   have hnM:o.b∉M.map (·.b):=fun hb=>inM _ hb o ho J;exact⟨by rw[k.keep _ (fP h1) hnM];exact h1,by rw[k.gold _ (fP h1)];exact h2,h3⟩
 ·refine jY.2 ⟨?_,(jY.1 hnd).2.1,?_⟩
  ·rw[pU];exact k.nd
  ·intro x hx y hy
   obtain⟨o',ho',rfl⟩:=bK.1 hx;show o'.b≠y.b;by_cases hb:o'.b∈M.map (·.b)
   ·exact fun e=>inM _ hb y hy e.symm
   ·have h1:=bnd o' ho' hb
    have h2:=fP (h.hown y (cJ _ hy)).1;omega
def qn(C:az)(K:Value->List aq->Gh->Prop):Ending->World->Prop:=fun e w'=> ∃v own' G',e= .returned v/\bt C own' G' w'/\K v own' G'
def lP.introR{P:Program}{G:Gh}{f:FuncId}{fn:Func}{c:Code}{vs:List Value}{m:Nat}{M:List aq}{K:Value->List aq->Gh->Prop}(hf:P.funcs[f]? =some fn)(hb:fn.body=some c)(hn:(fn.name== "runtime.NumGoroutine")=false)(hm:fn.ntmps=m)(hlen:Nat.ble vs.length m=true)
  (h: ∀C:az,C.G0=G->C.mb=M.map (·.b)->C.rd=none->(C.fx=fun _=>none)->St C m (mz 0 vs) (asB M) G (c.wp P (fh C P fn (qn C K)))):lP P f vs M G K:=by
 refine⟨⟨fn,hf,hn,by simp[hb]⟩,fun w hw=>?_⟩;have hlen':vs.length<=m:=by simpa using hlen
 have:=calls_of_wp (P:=P) (f:=f) (args:=⟨vs⟩) (w:=w) (R:=qn ⟨w,G,M.map (·.b),[],[],none,fun _=>none⟩ K) hf hb (wp_mono (h ⟨w,G,M.map (·.b),[],[],none,fun _=>none⟩ J J J J _ w
  ⟨hw,by simp;omega,fun k v hk=>by
   obtain⟨j,rfl,hj⟩:=tc vs 0 k v hk;have hj':=(aS.1 hj).1;rw[iR (by simpa using hj')];simpa using hj,J⟩) fun _ _ _ k=>k J)
 exact this
section
variable {P:Program} {C:az} {n:Nat} {fr:Fr} {own own':List aq} {G:Gh} {Φ:Act->World->Prop}
variable {dst:Option Nat} {t t' ty':TypeId} {pos:String} {af:Array Edge} {gd:Option (Nat×Bool)} {x y:Operand}
def R4{fn:Func}{K:Value->List aq->Gh->Prop}{vs:List Value}(hr:i7 P fr own fn.results.toList vs)(own2 own3:List aq)(hp:own.Perm own2)(hs:own3.Sublist own2)(hk:K (fD vs) own3 G):St C n fr own G (fh C P fn (qn C K) .ret):=
 fun a w rl hmk=>⟨rl.df.trans hmk,_,qO hr rl.fr rl.h,_,own3,G,J,(rl.h.perm hp).drop hs,hk⟩
def WS{f:FuncId}{fo:Operand}{args:Array Operand}{tys:Array TypeId}{vs c1 c2:List Value}{M rest:List aq}{K:Value->List aq->Gh->Prop}(ho:av fr fo=some (.func (.func f) ⟨c1⟩ ⟨c2⟩))(hv:gG fr args.toList=some vs)
  (hp:own.Perm (M++rest))(hF:lP P f (c1++vs++c2) M G K)(hd:cj n dst=true)(h: ∀v own1 (G':Gh),[GE G G']->K v own1 G'->St C n (put fr dst v) (own1.map (relo (kB M))++rest) G' Φ):
  Ch P C n fr own G ⟨dst, .call ⟨.value fo,args,tys⟩,ty',pos,af,gd⟩ Φ:=by
 intro a w Q rl;have h2:=Dv (P:=P) (dst:=dst) (ty':=ty') (pos:=pos) (af:=af) (gd:=gd) (tys:=tys) (w:=w) hF.able rl.fr ho hv;simp only[Oper.wp,h2,Oper.upon];have hh0:=rl.h.perm hp;refine(hF.run w hh0.lend).mono ?_;rintro e w' ⟨v,own1,G',rfl,hh,hK⟩;exact @h v own1 G' ⟨hh.gle⟩ hK _ _ ((rl.heap (hh0.calledO hh)).put _ hd)
def z6{f:FuncId}{fo:Operand}{args:Array Operand}{tys:Array TypeId}{vs:List Value}{M rest:List aq}{K:Value->List aq->Gh->Prop}(ho:av fr fo=some (.func (.func f) #[] #[]))(hv:gG fr args.toList=some vs)
  (hp:own.Perm (M++rest))(hF:lP P f vs M G K)(hd:cj n dst=true)(h: ∀v own1 (G':Gh),[GE G G']->K v own1 G'->St C n (put fr dst v) (own1.map (relo (kB M))++rest) G' Φ):
  Ch P C n fr own G ⟨dst, .call ⟨.value fo,args,tys⟩,ty',pos,af,gd⟩ Φ:=
 WS (c1:=[]) (c2:=[]) ho hv hp (by simpa using hF) hd h
end
structure SV where
 a:Option Addr
 n:Nat
 c:Nat
def SV.v(x:SV):Value:= .slice x.a x.n x.c
structure er (G:Gh) (s:Nat) (x:SV) (es:List Value):Prop where
 len:x.n=es.length
 cap:x.n<=x.c
 mem:es=[]\/ ∃b off cs,x.a=some ⟨b,off,none⟩/\G b=some cs/\ ∀i (h:i<es.length),cp cs (off+i*s) s=some (aI es[i])
def er.up'{A G:Gh}{s:Nat}{x:SV}{es:List Value}(h:er A s x es)(k:bu A G):er G s x es:=
 ⟨h.len,h.cap,h.mem.imp id (fun⟨b,off,cs,h1,h2,h3⟩=>⟨b,off,cs,h1,k _ _ h2,h3⟩)⟩
def er.up{A G:Gh}{s:Nat}{x:SV}{es:List Value}(h:er A s x es)[k:GL A G]:er G s x es:=h.up' k.le
def er.nil(G:Gh)(s:Nat):er G s ⟨none,0,0⟩ []:=⟨J,aN _, .inl J⟩
def er.take{G:Gh}{s:Nat}{x:SV}{es:List Value}(h:er G s x es)(k:Nat)(hk:k<=es.length):er G s ⟨x.a,k,x.c⟩ (es.take k):=by
 refine⟨by simp[hk],by show k<=x.c;have:=h.len;have:=h.cap;omega,?_⟩;rcases h.mem with h0|⟨b,off,cs,h1,h2,h3⟩
 ·left;simp[h0]
 ·right;exact⟨b,off,cs,h1,h2,fun i hi=>by
   simp only[cW] at hi;rw[h3 i (by omega)];simp⟩
def vh(a:Option Addr)(k:Nat):Option Addr:=a.map (·.add k)
section
variable {P:Program} {C:az} {n:Nat} {fr:Fr} {own own':List aq} {G:Gh} {Φ:Act->World->Prop}
variable {dst:Option Nat} {t t' ty':TypeId} {pos:String} {af:Array Edge} {gd:Option (Nat×Bool)} {x y:Operand} {e s by_:Nat}
def Vy{A:Gh}[hT:de P t e s by_]{k:IntKind}{z:SV}{es:List Value}{i:Int}(hs:er A s z es)(hx:av fr x=some (.slice z.a z.n z.c))(hy:av fr y=some (.int k i))(h0:0<=i)(h1:i<z.n):
  Yd P C fr own G ⟨dst, .indexAddr t x y,ty',pos,af,gd⟩ (.pointer (vh z.a (i.toNat*s))):=by
 rcases hs.mem with h|⟨b,off,cs,ha,hg,hc⟩
 ·have:=hs.len;rw[h] at this;simp at this;omega
 ·rw[ha] at hx
  have:=vt (P:=P) (C:=C) (own:=own) (G:=G) (t:=t) (dst:=dst) (ty':=ty') (pos:=pos) (af:=af) (gd:=gd) (by_:=by_) hx hy h0 h1;rw[ha];simpa[vh,oO] using this
def S3{A:Gh}[hA:kD P t]{z:SV}{es:List Value}{i:Nat}{v:Value}(hs:er A 1 z es)[hl:GL A G](hx:av fr x=some (.pointer (vh z.a (i*1))))(he:es[i]? =some v)(hv:flat v=true):
  Yd P C fr own G ⟨dst, .load t x,ty',pos,af,gd⟩ v:=by
 obtain⟨h1,he'⟩:=aS.1 he;rcases hs.mem with h|⟨b,off,cs,ha,hg,hc⟩
 ·rw[h] at h1;simp at h1
 ·rw[ha] at hx
  have h2:=hc i h1;rw[he'] at h2;have hcv:aI v=[v]:=by cases v<;>first|rfl|(simp[flat] at hv)
  rw[hcv] at h2;obtain⟨_,h3⟩:=oh _ _ _ _ h2;have h4:=h3 0 (by omega);exact yy (off:=off+i*1) (by simpa[vh,oO] using hx) (hl.le _ _ hg) (by simpa using h4)
end
def dI(d:Nat):Value:= .int .u32 (d:Int)
structure bO (G:Gh) (x:SV) (ds:List Nat):Prop where
 ok:bi ds
 sl:er G 1 x (ds.map dI)
def bO.len{G:Gh}{x:SV}{ds:List Nat}(h:bO G x ds):x.n=ds.length:=by simpa using h.sl.len
def bO.up{A G:Gh}{x:SV}{ds:List Nat}(h:bO A x ds)[k:GL A G]:bO G x ds:=⟨h.ok,h.sl.up⟩
def bO.nil(G:Gh):bO G ⟨none,0,0⟩ []:=⟨.nil, .nil G 1⟩
def bO.take{G:Gh}{x:SV}{ds:List Nat}(h:bO G x ds)(k:Nat)(hk:k<=ds.length):bO G ⟨x.a,k,x.c⟩ (ds.take k):=
 ⟨h.ok.take k,by rw[List.map_take];exact h.sl.take k (by simpa using hk)⟩
def bO.trim{G:Gh}{x:SV}{ds:List Nat}(h:bO G x ds):bO G ⟨x.a,(trimD ds).length,x.c⟩ (trimD ds):=by
 have:=h.take _ (k8 ds);rwa [<-J3] at this
def bO.of_block{G:Gh}{b c k:Nat}{cs:List Value}{ds:List Nat}(ok:bi ds)(hg:G b=some cs)(hk:k=ds.length)(hc:k<=c)(hcs:cs.take ds.length=ds.map dI):bO G ⟨some ⟨b,0,none⟩,k,c⟩ ds:=by
 refine⟨ok,by simpa using hk,hc, .inr ⟨b,0,cs,J,hg,fun i hi=>?_⟩⟩;have hi':i<ds.length:=by simpa using hi
 have hl:ds.length<=cs.length:=by
  have:=congrArg List.length hcs;simp at this;omega
 rw[l6 _ _ _ (by omega)];congr 1;have h1:(cs.take ds.length)[i]? =(ds.map dI)[i]? :=by rw[hcs]
 rw[pX,if_pos hi',fS,aX hi',aX (by omega)] at h1;have h2:cs[i]=dI ds[i]:=by simpa using h1
 rw[eX,jT,cV (by omega),mT,List.take_zero,h2,List.getElem_map];rfl
structure ey (k:Nat) (G:Gh) (x:SV) (v:Nat):Prop where
 d:bO G x (dg v)
 lt:v<2^k
def ey.up{k:Nat}{A G:Gh}{x:SV}{v:Nat}(h:ey k A x v)[GL A G]:ey k G x v:=⟨h.d.up,h.lt⟩
def ey.len{k:Nat}{G:Gh}{x:SV}{v:Nat}(h:ey k G x v):x.n=(dg v).length:=h.d.len
def ey.mono{k k':Nat}{G:Gh}{x:SV}{v:Nat}(h:ey k G x v)(hk:v<2^k'):ey k' G x v:=⟨h.d,hk⟩
section
variable {P:Program} {C:az} {n:Nat} {fr:Fr} {own own':List aq} {G:Gh} {Φ:Act->World->Prop}
variable {dst:Option Nat} {t t' ty':TypeId} {pos:String} {af:Array Edge} {gd:Option (Nat×Bool)} {x y:Operand} {e s by_:Nat}
def gj{A:Gh}[hT:de P t e 1 by_]{k:IntKind}{z:SV}{ds:List Nat}{i:Int}(hs:bO A z ds)(hx:av fr x=some (.slice z.a z.n z.c))(hy:av fr y=some (.int k i))(h0:0<=i)(h1:i<z.n):
  Yd P C fr own G ⟨dst, .indexAddr t x y,ty',pos,af,gd⟩ (.pointer (vh z.a (i.toNat*1))):=Vy hs.sl hx hy h0 h1
def ge{A:Gh}[hA:kD P t]{z:SV}{ds:List Nat}{i:Nat}(hs:bO A z ds)[hl:GL A G](hx:av fr x=some (.pointer (vh z.a (i*1))))(h1:i<ds.length):
  Yd P C fr own G ⟨dst, .load t x,ty',pos,af,gd⟩ (.int .u32 ((ds.getD i 0:Nat):Int)):=
 S3 hs.sl hx (by rw[fS,aX h1,aJ,aX h1];rfl) J
def H1{A:Gh}{z:SV}{ds:List Nat}(h:bO A z ds)[hl:GL A G]:oz P C own G 1 z.n (.slice z.a z.n z.c) (ds.map dI):=by
 intro w hw;by_cases hne:ds=[]
 ·rw[h.len]
  subst hne;exact tP w hw
 rcases h.sl.mem with h0|⟨b,off,cs,ha,hg,hc⟩
 ·exact absurd (by simpa using h0) hne
 ·rw[ha]
  have hn:=h.len;refine MC (hl.le _ _ hg) ?_ w hw;rw[jT];have hel: ∀i,i<ds.length->cs[off+i]? =some (dI (ds.getD i 0)):=fun i hi=>by
   have h1:=hc i (by simpa using hi);obtain⟨_,h2⟩:=oh _ _ _ _ h1;have h3:=h2 0 (by omega);rw[jT,dW] at h3;rw[h3,List.getElem_map,aJ,aX hi];rfl
  by_cases h00:ds.length=0
  ·exact absurd h00 (fun e=>hne (cX e))
  ·have hlast:=hel (ds.length-1) (by omega)
   have hle:off+ds.length<=cs.length:=by
    have:=(aS.1 hlast).1;omega
   rw[hn,l6 _ _ _ hle];congr 1;apply mX;intro i;rw[pX];split
   ·rename_i hi
    rw[kV,hel i hi,fS,aJ,aX hi];rfl
   ·rename_i hi
    rw[fQ (by simpa using hi)]
def rB(n:Nat):dH (.int .u32 0) n=(List.replicate n 0).map dI:=by
 unfold dH
 induction n with
 |zero=>rfl
 |succ n ih=>rw[gU,jN,ih];rfl
def f7[hT:de P t e s by_]{k:IntKind}{b len cap:Nat}{i:Int}(hx:av fr x=some (.slice (some ⟨b,0,none⟩) len cap))(hy:av fr y=some (.int k i))(h0:0<=i)(h1:i<len):
  Yd P C fr own G ⟨dst, .indexAddr t x y,ty',pos,af,gd⟩ (.pointer (some ⟨b,i.toNat*s,none⟩)):=by
 have:=vt (P:=P) (C:=C) (own:=own) (G:=G) (t:=t) (dst:=dst) (ty':=ty') (pos:=pos) (af:=af) (gd:=gd) (by_:=by_) hx hy h0 h1;rwa [eX] at this
def oE[hA:kD P t]{b i:Nat}{ws:List Nat}{ty:TypeId}{lo:Bool}(hx:av fr x=some (.pointer (some ⟨b,i*1,none⟩)))[ho:ju own b (ws.map dI) ty lo](h1:i<ws.length):
  Yd P C fr own G ⟨dst, .load t x,ty',pos,af,gd⟩ (.int .u32 ((ws.getD i 0:Nat):Int)):=by
 rw[jT] at hx;refine Bh hx ?_;rw[fS,aX h1,aJ,aX h1];rfl
def jH{b i d:Nat}{ws:List Nat}{ty:TypeId}{lo:Bool}{v:Int}[hs:kD P t](hx:av fr x=some (.pointer (some ⟨b,i*1,none⟩)))(hy:av fr y=some (.int .u32 v))(hv:v=(d:Int))
  (hu:iv own b (ws.map dI) ty lo ((ws.set i d).map dI) own')(hi:i<ws.length)(hd:cj n dst=true)(h:St C n (put fr dst undef) own' G Φ):
  Ch P C n fr own G ⟨dst, .store t x y,ty',pos,af,gd⟩ Φ:=by
 rw[jT] at hx;have hu':iv own b (ws.map dI) ty lo ((ws.map dI).set i (.int .u32 v)) own':=by
  rw[hv,<-show dI d= .int .u32 (d:Int) from J,<-pT];exact hu
 exact yJ hx hy hu' (by simpa using hi) J hd h
def d5{p q:Int}(hx:av fr x=some (.int .i64 p))(hy:av fr y=some (.int .i64 q))(h0: -9223372036854775808<=p+q:=by omega)(h1:p+q<=9223372036854775807:=by omega):Yd P C fr own G ⟨dst, .binOp .add t x y t',ty',pos,af,gd⟩ (.int .i64 (p+q)):=Bz hx hy ⟨h0,h1⟩
def iC{p q:Int}(hx:av fr x=some (.int .i64 p))(hy:av fr y=some (.int .i64 q))(h0: -9223372036854775808<=p-q:=by omega)(h1:p-q<=9223372036854775807:=by omega):Yd P C fr own G ⟨dst, .binOp .sub t x y t',ty',pos,af,gd⟩ (.int .i64 (p-q)):=AW hx hy ⟨h0,h1⟩
def Hp{p q:Int}(hx:av fr x=some (.int .i64 p))(hy:av fr y=some (.int .i64 q))(h0: -9223372036854775808<=p*q)(h1:p*q<=9223372036854775807):Yd P C fr own G ⟨dst, .binOp .mul t x y t',ty',pos,af,gd⟩ (.int .i64 (p*q)):=DS hx hy ⟨h0,h1⟩
def oP{p q:Int}(hx:av fr x=some (.int .u64 p))(hy:av fr y=some (.int .u64 q))(h0:0<=p+q:=by omega)(h1:p+q<=18446744073709551615:=by omega):Yd P C fr own G ⟨dst, .binOp .add t x y t',ty',pos,af,gd⟩ (.int .u64 (p+q)):=Bz hx hy ⟨h0,h1⟩
def Kq{p q:Int}(hx:av fr x=some (.int .u64 p))(hy:av fr y=some (.int .u64 q))(h0:0<=p-q)(h1:p-q<=18446744073709551615):Yd P C fr own G ⟨dst, .binOp .sub t x y t',ty',pos,af,gd⟩ (.int .u64 (p-q)):=AW hx hy ⟨h0,h1⟩
def B9{p q:Int}(hx:av fr x=some (.int .u64 p))(hy:av fr y=some (.int .u64 q))(h0:0<=p*q)(h1:p*q<=18446744073709551615):Yd P C fr own G ⟨dst, .binOp .mul t x y t',ty',pos,af,gd⟩ (.int .u64 (p*q)):=DS hx hy ⟨h0,h1⟩
def kw{k k':IntKind}{p q:Int}(hx:av fr x=some (.int k p))(hy:av fr y=some (.int k' q))(h0:0<=q):Yd P C fr own G ⟨dst, .binOp .shr t x y t',ty',pos,af,gd⟩ (.int k (p.fdiv (2^min q.toNat k.bits))):=by
 intro a w hf hh;simp only[execOp,bh hf hx,bh hf hy];have h1:(eqGuard .shr t x y (.int k p) (.int k' q)).run P w= .ok () w:=J;have h2:(binOp .shr t (.int k p) (.int k' q)).run P w= .ok (.int k (p.fdiv (2^min q.toNat k.bits))) w:=by
  simp[binOp,Op.shift,Int.not_lt.2 h0,run_pure]
 exact cO (by rw[aH h1];exact h2)
def tC{k k':IntKind}{p q:Int}(hx:av fr x=some (.int k p))(hy:av fr y=some (.int k' q))(h0:0<=q):Yd P C fr own G ⟨dst, .binOp .shl t x y t',ty',pos,af,gd⟩ (.int k (k.wrap (p*2^min q.toNat k.bits))):=by
 intro a w hf hh;simp only[execOp,bh hf hx,bh hf hy];have h1:(eqGuard .shl t x y (.int k p) (.int k' q)).run P w= .ok () w:=J;have h2:(binOp .shl t (.int k p) (.int k' q)).run P w= .ok (.int k (k.wrap (p*2^min q.toNat k.bits))) w:=by
  simp[binOp,Op.shift,Int.not_lt.2 h0,run_pure]
 exact cO (by rw[aH h1];exact h2)
def fA{k:IntKind}{p:Int}[hs:ki P t k][hd:ki P t' .u64](hx:av fr x=some (.int k p))(h0:0<=p:=by omega)(h1:p<=18446744073709551615:=by omega):Yd P C fr own G ⟨dst, .convert t t' x,ty',pos,af,gd⟩ (.int .u64 p):=CP hx ⟨h0,h1⟩
def Lu{k:IntKind}{p:Int}[hs:ki P t k][hd:ki P t' .i64](hx:av fr x=some (.int k p))(h0: -9223372036854775808<=p:=by omega)(h1:p<=9223372036854775807:=by omega):Yd P C fr own G ⟨dst, .convert t t' x,ty',pos,af,gd⟩ (.int .i64 p):=CP hx ⟨h0,h1⟩
def nH(p:Int):IntKind.u32.wrap p=p%4294967296:=by simp[IntKind.wrap,IntKind.bits,IntKind.signed]
def lv(p:Int):IntKind.u64.wrap p=p%18446744073709551616:=by simp[IntKind.wrap,IntKind.bits,IntKind.signed]
def ji{k:IntKind}{p:Int}[hs:ki P t k][hd:ki P t' .u32](hx:av fr x=some (.int k p)):Yd P C fr own G ⟨dst, .convert t t' x,ty',pos,af,gd⟩ (.int .u32 (p%4294967296)):=by
 have:=AI (P:=P) (C:=C) (own:=own) (G:=G) (dst:=dst) (ty':=ty') (pos:=pos) (af:=af) (gd:=gd) (t:=t) (t':=t') hx;rwa [nH] at this
def vk{k:IntKind}{p q:Int}(hx:av fr x=some (.int k p))(hy:av fr y=some (.int k q))(h0:0<=p)(h:q≠0):Yd P C fr own G ⟨dst, .binOp .rem t x y t',ty',pos,af,gd⟩ (.int k (p%q)):=by
 have:=KC (P:=P) (C:=C) (own:=own) (G:=G) (dst:=dst) (ty':=ty') (pos:=pos) (af:=af) (gd:=gd) (t:=t) (t':=t') hx hy h;rwa [Int.tmod_eq_emod_of_nonneg h0] at this
def uw{p q:Int}(hx:av fr x=some (.int .u64 p))(hy:av fr y=some (.int .u64 q))(h0:0<=p)(h1:p<=18446744073709551615)(h:0<q):Yd P C fr own G ⟨dst, .binOp .quo t x y t',ty',pos,af,gd⟩ (.int .u64 (p/q)):=by
 have:=K2 (P:=P) (C:=C) (own:=own) (G:=G) (dst:=dst) (ty':=ty') (pos:=pos) (af:=af) (gd:=gd) (t:=t) (t':=t') hx hy (by omega);rw[Int.tdiv_eq_ediv_of_nonneg h0,lv,Int.emod_eq_of_lt (Int.ediv_nonneg h0 (by omega)) (by have:=Int.ediv_le_self q h0;omega)] at this;exact this
def jy{Q:Exit->Act->World->Prop}{p:Prop}{inst:Decidable p}{c:Operand}{x y:Code}(hc:av fr c=some (.bool (@decide p inst)))(h2: ¬p->St C n fr own G (y.wp P Q))(h1:p->St C n fr own G (x.wp P Q)):
  St C n fr own G ((Code.cond c x y).wp P Q):=gA hc h1 h2
end
section
variable {P:Program} {C:az} {n:Nat} {fr:Fr} {own own' own1:List aq} {G:Gh} {Φ:Act->World->Prop}
variable {dst:Option Nat} {t t' ty':TypeId} {pos:String} {af:Array Edge} {gd:Option (Nat×Bool)} {x y:Operand} {e s by_:Nat}
end
instance k9.cons2 (l m:List aq) (o:aq) [h:k9 l m]:k9 (o::l) (o::m):=⟨h.s.cons_cons o⟩
def bg(vs:List Value):List Value:=(vs.map aI).flatten
def gP{s:Nat}: ∀(vs:List Value),(∀v∈vs,(aI v).length=s)->(bg vs).length=vs.length*s
 |[],_=>by simp[bg]
 |v::vs,h=>by
  have h1:=gP vs (fun u hu=>h u (aZ _ hu));have h2:=h v aQ;unfold bg at*;simp only[dX,jN,cZ,bS,h1,h2,iU];omega
def rH(us vs:List Value):bg (us++vs)=bg us++bg vs:=by simp[bg]
def Gp(v:Value):bg [v]=aI v:=by simp[bg]
def B5{s:Nat}: ∀(vs:List Value) (i:Nat),(∀v∈vs,(aI v).length=s)->i<=vs.length->(bg vs).take (i*s)=bg (vs.take i)
 |vs,0,_,_=>by simp[bg]
 |[],i+1,_,h=>by simp at h
 |v::vs,i+1,h,hi=>by
  have h1:=B5 vs i (fun u hu=>h u (aZ _ hu)) (by simpa using hi);have h2:=h v aQ;unfold bg at*;simp only[dX,jN,mT];rw[List.take_append,h2,aL (by rw[h2,iU];omega),iU,lU,h1]
def Du{s:Nat}: ∀(vs:List Value) (i:Nat),(∀v∈vs,(aI v).length=s)->i<=vs.length->(bg vs).drop (i*s)=bg (vs.drop i)
 |vs,0,_,_=>by simp
 |[],i+1,_,h=>by simp at h
 |v::vs,i+1,h,hi=>by
  have h1:=Du vs i (fun u hu=>h u (aZ _ hu)) (by simpa using hi);have h2:=h v aQ;unfold bg at*;simp only[dX,jN,qS];rw[List.drop_append,h2,pY (by rw[h2,iU];omega),iU,lU,h1,kK]
def Ce{s:Nat}{vs rest:List Value}(h: ∀v∈vs,(aI v).length=s){i:Nat}(hi:i<vs.length):cp (bg vs++rest) (i*s) s=some (aI vs[i]):=by
 have hl:=gP vs h;have hle:i*s+s<=vs.length*s:=by rw[<-iU];exact bX _ hi
 rw[l6 _ _ _ (by simp only[cZ];omega)];congr 1;rw[jJ (by omega),Du vs i h (by omega),cV hi];have h2:=h vs[i] (gL hi);rw[show(vs[i]::vs.drop (i+1))=[vs[i]]++vs.drop (i+1) from J,rH,Gp,gK,fN (by omega),aL (by omega)]
def er.of_flat{G:Gh}{b c s:Nat}{vs rest:List Value}(h: ∀v∈vs,(aI v).length=s)(hg:G b=some (bg vs++rest))(hc:vs.length<=c):er G s ⟨some ⟨b,0,none⟩,vs.length,c⟩ vs:=
 ⟨J,hc, .inr ⟨b,0,_,J,hg,fun i hi=>by rw[eX];exact Ce h hi⟩⟩
section
variable {P:Program} {C:az} {n:Nat} {fr:Fr} {own own':List aq} {G:Gh} {Φ:Act->World->Prop}
variable {dst:Option Nat} {ty':TypeId} {pos:String} {af:Array Edge} {gd:Option (Nat×Bool)} {x y:Operand} {tys:Array TypeId}
end
section
variable {P:Program} {ops:Array Oper} {Q:Exit->Act->World->Prop} {S:World->Prop} {fin:Nat->Bool} {π₂:List (Nat×Bool)}
def jO(l:List Nat)(k:Nat):List Nat:=l.filter fun j=>!Nat.beq j k
def EH{l:List Nat}{k:Nat}(h:k∈l):(jO l k).length<l.length:=by
 unfold jO;rw[nS];exact⟨k,h,by simp⟩
def xp(ops:Array Oper)(fin:Nat->Bool)(π₂:List (Nat×Bool)):Nat->List Nat->List (Nat×Bool)->Array Bool->Bool
 |0,_,_,_=>false
 |_+1,[],[],listed=>pE ops fin π₂ listed
 |n+1,k::ks,[],listed=>!(Region.ready .any ops listed).isEmpty&&(Region.ready .any ops listed).all (fun j=>(k::ks).contains j)&&(k::ks).all fun j=>xp ops fin π₂ n (jO (k::ks) j) [] (listed.setIfInBounds j true)
 |n+1,ks,(i,true)::r,listed=>uR ops fin listed i&&xp ops fin π₂ n ks r (listed.setIfInBounds i true)
 |n+1,ks,(i,false)::r,listed=>!(Region.ready .any ops listed).isEmpty&&(Region.ready .any ops listed).all (fun j=>Nat.beq j i||ks.contains j)&&xp ops fin π₂ n ks r (listed.setIfInBounds i true)&&ks.all fun j=>xp ops fin π₂ n (jO ks j) ((i,false)::r) (listed.setIfInBounds j true)
def xt(P:Program)(ops:Array Oper)(Q:Exit->Act->World->Prop)(S:World->Prop)(fin:Nat->Bool)(π₂:List (Nat×Bool)):List Nat->List (Nat×Bool)->Act->World->Prop
 |[],[],a,w=>jq P ops Q S fin π₂ a w
 |k::ks,[],a,w=> ∀j,(h:j∈k::ks)->wpOp P ops Q j (fun a' w'=>(fin j=true\/S w')/\xt P ops Q S fin π₂ (jO (k::ks) j) [] a' w') a w
 |ks,(i,true)::r,a,w=> ∃o v,ops[i]? =some o/\S w/\YieldsIf P ops S o v a/\xt P ops Q S fin π₂ ks r (a.put o.dst v) w
 |ks,(i,false)::r,a,w=>wpOp P ops Q i (fun a' w'=>(fin i=true\/S w')/\xt P ops Q S fin π₂ ks r a' w') a w/\
   ∀j,(h:j∈ks)->wpOp P ops Q j (fun a' w'=>(fin j=true\/S w')/\xt P ops Q S fin π₂ (jO ks j) ((i,false)::r) a' w') a w
termination_by ks π=>ks.length+π.length
decreasing_by
 all_goals (first|(have:=EH h;simp only[bS,iZ] at*;omega)|(simp only[bS];omega))
end
structure FD where
 k:Nat
 d:Nat
 t:TypeId
 z:Value
abbrev Fs:=Nat->Option Nat
def DW:List FD->Fs->Fr
 |[],_=>[]
 |f::r,fs=>fF f.d (fs f.k)++DW r fs
def CQ:List FD->Fs->List aq
 |[],_=>[]
 |f::r,fs=>fO f.t f.z (fs f.k)++CQ r fs
def B8(fd:List FD)(fs:Fs):List Nat:=(fd.filter fun f=>(fs f.k).isNone).map (·.k)
def aFM(fs:Fs)(k b:Nat):Fs:=fun j=>if j=k then some b else fs j
structure YF (P:Program) (ops:Array Oper) (n:Nat) (fd:List FD):Prop where
 op: ∀f∈fd,∃ty' pos af,ops[f.k]? =some ⟨some f.d, .alloc f.t,ty',pos,af,none⟩/\cj n (some f.d)=true
 z: ∀f∈fd,jd P f.t f.z
 nd:(fd.map (·.k)).Nodup
 dd: ∀f∈fd,∀g∈fd,f.d=g.d->f.k=g.k
section
variable {P:Program} {C:az} {n:Nat} {fr:Fr} {own own0:List aq} {G G0:Gh} {ops:Array Oper} {Q:Exit->Act->World->Prop} {fin:Nat->Bool} {π π₂:List (Nat×Bool)} {fd:List FD}
def Yn(P:Program)(ops:Array Oper)(Q:Exit->Act->World->Prop)(S:World->Prop)(fin:Nat->Bool)(π₂:List (Nat×Bool))(fd:List FD)(fs:Fs)(π:List (Nat×Bool)):Act->World->Prop:=xt P ops Q S fin π₂ (B8 fd fs) π
end
def kC(s:Nat)(ty:TypeId)(x:SV)(vs:List Value)(B:List aq):Prop:=
 (vs=[]/\x=⟨none,0,0⟩/\B=[])\/
 ∃b rest lo,x=⟨some ⟨b,0,none⟩,vs.length,x.c⟩/\B=[⟨b,bg vs++rest,ty,lo⟩]/\(bg vs).length=vs.length*s/\(bg vs).length+rest.length=x.c*s/\vs.length<=x.c
def kC.relo{s:Nat}{ty:TypeId}{x:SV}{vs:List Value}{B:List aq}(h:kC s ty x vs B)(fl:Nat->Bool):kC s ty x vs (B.map (Go.Sx.relo fl)):=by
 rcases h with⟨h1,h2,h3⟩|⟨b,rest,lo,h1,h2,h3,h4,h5⟩
 ·exact .inl ⟨h1,h2,by rw[h3];rfl⟩
 ·exact .inr ⟨b,rest,fl b,h1,by rw[h2];rfl,h3,h4,h5⟩
def kC.asB{s:Nat}{ty:TypeId}{x:SV}{vs:List Value}{B:List aq}(h:kC s ty x vs B):kC s ty x vs (asB B):=by
 rcases h with⟨h1,h2,h3⟩|⟨b,rest,lo,h1,h2,h3,h4,h5⟩
 ·exact .inl ⟨h1,h2,by rw[h3];rfl⟩
 ·exact .inr ⟨b,rest,false,h1,by rw[h2];rfl,h3,h4,h5⟩
def kC.len{s:Nat}{ty:TypeId}{x:SV}{vs:List Value}{B:List aq}(h:kC s ty x vs B):x.n=vs.length:=by
 rcases h with⟨h1,h2,h3⟩|⟨b,rest,lo,h1,h2,h3,h4,h5⟩
 ·rw[h2,h1];rfl
 ·rw[h1]
def HM{M:List aq}(b:Nat)(h: ∀m∈M,m.lo=true):kB M b=true:=by
 refine cM.2 fun m hm=>?_;simp[h m hm]
section
variable {P:Program} {C:az} {n:Nat} {fr:Fr} {own own':List aq} {G:Gh} {Φ:Act->World->Prop}
variable {dst:Option Nat} {t t' ty':TypeId} {pos:String} {af:Array Edge} {gd:Option (Nat×Bool)} {x y:Operand} {e s by_:Nat}
end
instance k9.nil (l:List aq):k9 [] l:=⟨mL l⟩
end Go.Sx
end
