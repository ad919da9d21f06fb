import Derived.Test.YtefoocgiaegobaaGreatDoorPb1
import Derived.Scope
import Derived.Laws.Externs
import Derived.Lib.Overlaps
set_option linter.all false
set_option maxRecDepth 100000
section
namespace Go.Sx
open Go
class B8 (P:Program) (t:TypeId):Prop where u: ∀w,(underlying t).run P w= .ok .bool w
class Al (P:Program) (t:TypeId):Prop where u: ∃e,∀w,(underlying t).run P w= .ok (.pointer e) w
class Cm (P:Program) (t:TypeId):Prop where u: ∃ms,∀w,(underlying t).run P w= .ok (.interface ms) w
class Bq (P:Program) (t:TypeId) (f:Nat) (off ft:outParam Nat):Prop where
 u: ∃fs fd,(∀w,(underlying t).run P w= .ok (.struct fs) w)/\fs[f]? =some fd/\fd.offset=off/\fd.type=ft
class mp (P:Program) (t:TypeId):Prop where
 un: ∃e,P.underlying t=some (.slice e)
section
variable {P:Program} {C:az} {n:Nat} {fr:Fr} {own own':List av} {G:Gh} {Φ:Act->World->Prop}
variable {dst:Option Nat} {t t' ty':TypeId} {pos:String} {af:Array Edge} {gd:Option (Nat×Bool)} {x y:Operand}
def mG{w:World}{p q:Value}{b:Bool}(h:(Op.equalIn (9999+1) t p q).run P w= .ok b w):(Op.equal t p q).run P w= .ok b w:=h
def Oo[hT:B8 P t]{p q:Bool}(hx:aw fr x=some (.bool p))(hy:aw fr y=some (.bool q)):Yd P C fr own G ⟨dst, .binOp .eql t x y t',ty',pos,af,gd⟩ (.bool (p==q)):=by
 intro a w hf hh;simp only[execOp,aO hf hx,aO hf hy];have h1:(Op.equal t (.bool p) (.bool q)).run P w= .ok (p==q) w:=mG (by unfold Op.equalIn;rw[aE (hT.u w)];rfl);have h2:(eqGuard .eql t x y (.bool p) (.bool q)).run P w= .ok () w:=J;have h3:(binOp .eql t (.bool p) (.bool q)).run P w= .ok (.bool (p==q)) w:=by simp only[binOp];rw[aE h1];rfl
 exact cj (by rw[aE h2];exact h3)
def Ty[hT:B8 P t]{p q:Bool}(hx:aw fr x=some (.bool p))(hy:aw fr y=some (.bool q)):Yd P C fr own G ⟨dst, .binOp .neq t x y t',ty',pos,af,gd⟩ (.bool (!(p==q))):=by
 intro a w hf hh;simp only[execOp,aO hf hx,aO hf hy];have h1:(Op.equal t (.bool p) (.bool q)).run P w= .ok (p==q) w:=mG (by unfold Op.equalIn;rw[aE (hT.u w)];rfl);have h2:(eqGuard .neq t x y (.bool p) (.bool q)).run P w= .ok () w:=J;have h3:(binOp .neq t (.bool p) (.bool q)).run P w= .ok (.bool (!(p==q))) w:=by simp only[binOp];rw[aE h1];rfl
 exact cj (by rw[aE h2];exact h3)
def wR[hT:Al P t]{p:Option Addr}(hx:aw fr x=some (.pointer p))(hy:aw fr y=some (.pointer none)):Yd P C fr own G ⟨dst, .binOp .eql t x y t',ty',pos,af,gd⟩ (.bool p.isNone):=by
 obtain⟨e,he⟩:=hT.u;intro a w hf hh;simp only[execOp,aO hf hx,aO hf hy];have h1:(Op.equal t (.pointer p) (.pointer none)).run P w= .ok p.isNone w:=mG (by unfold Op.equalIn;rw[aE (he w)];cases p<;>rfl);have h2:(eqGuard .eql t x y (.pointer p) (.pointer none)).run P w= .ok () w:=by cases p<;>rfl
 have h3:(binOp .eql t (.pointer p) (.pointer none)).run P w= .ok (.bool p.isNone) w:=by cases p<;>(simp only[binOp];rw[aE h1];rfl)
 exact cj (by rw[aE h2];exact h3)
def uR[hT:Al P t]{p:Option Addr}(hx:aw fr x=some (.pointer p))(hy:aw fr y=some (.pointer none)):Yd P C fr own G ⟨dst, .binOp .neq t x y t',ty',pos,af,gd⟩ (.bool (!p.isNone)):=by
 obtain⟨e,he⟩:=hT.u;intro a w hf hh;simp only[execOp,aO hf hx,aO hf hy];have h1:(Op.equal t (.pointer p) (.pointer none)).run P w= .ok p.isNone w:=mG (by unfold Op.equalIn;rw[aE (he w)];cases p<;>rfl);have h2:(eqGuard .neq t x y (.pointer p) (.pointer none)).run P w= .ok () w:=by cases p<;>rfl
 have h3:(binOp .neq t (.pointer p) (.pointer none)).run P w= .ok (.bool (!p.isNone)) w:=by cases p<;>(simp only[binOp];rw[aE h1];rfl)
 exact cj (by rw[aE h2];exact h3)
def I4{v:Value}[hT:Cm P t](hv:v= .nilIface\/ ∃k u,v= .iface k u)(hx:aw fr x=some v):
  Yd P C fr own G ⟨dst, .binOp .eql t x (.const .nilIface) t',ty',pos,af,gd⟩ (.bool (match v with| .nilIface=>true|_=>false)):=by
 obtain⟨e,he⟩:=hT.u;intro a w hf hh;simp only[execOp,aO hf hx,show a.eval (.const .nilIface)= .nilIface from J];rcases hv with rfl|⟨k,u,rfl⟩
 ·have h1:(Op.equal t .nilIface .nilIface).run P w= .ok true w:=mG (by unfold Op.equalIn;rw[aE (he w)];rfl)
  have h2:(eqGuard .eql t x (.const .nilIface) .nilIface .nilIface).run P w= .ok () w:=by cases x<;>rfl
  exact cj (by rw[aE h2];simp only[binOp];rw[aE h1];rfl)
 ·have h1:(Op.equal t (.iface k u) .nilIface).run P w= .ok false w:=mG (by unfold Op.equalIn;rw[aE (he w)];rfl)
  exact cj (by rw[aE (a:=()) (w':=w) J];simp only[binOp];rw[aE h1];rfl)
def Dd{v:Value}[hT:Cm P t](hv:v= .nilIface\/ ∃k u,v= .iface k u)(hx:aw fr x=some v):
  Yd P C fr own G ⟨dst, .binOp .neq t x (.const .nilIface) t',ty',pos,af,gd⟩ (.bool (match v with| .nilIface=>false|_=>true)):=by
 obtain⟨e,he⟩:=hT.u;intro a w hf hh;simp only[execOp,aO hf hx,show a.eval (.const .nilIface)= .nilIface from J];rcases hv with rfl|⟨k,u,rfl⟩
 ·have h1:(Op.equal t .nilIface .nilIface).run P w= .ok true w:=mG (by unfold Op.equalIn;rw[aE (he w)];rfl)
  have h2:(eqGuard .neq t x (.const .nilIface) .nilIface .nilIface).run P w= .ok () w:=by cases x<;>rfl
  exact cj (by rw[aE h2];simp only[binOp];rw[aE h1];rfl)
 ·have h1:(Op.equal t (.iface k u) .nilIface).run P w= .ok false w:=mG (by unfold Op.equalIn;rw[aE (he w)];rfl)
  exact cj (by rw[aE (a:=()) (w':=w) J];simp only[binOp];rw[aE h1];rfl)
def RX{cs l:List Value}{f off ft k:Nat}[hF:Bq P t f off ft][hA:lP P ft k](hx:aw fr x=some (.agg ⟨cs⟩))(hl:bH cs off k=some l):Yd P C fr own G ⟨dst, .field t x f,ty',pos,af,gd⟩ (.agg ⟨l⟩):=by
 obtain⟨fs,fd,h1,h2,h3,h4⟩:=hF.u;intro a w hf hh;simp only[execOp,aO hf hx];have:(Instr.field t (.agg ⟨cs⟩) f).run P w= .ok (.agg ⟨l⟩) w:=by
  unfold Instr.field;rw[aE (h1 w)];simp only[h2,h3,h4,asAgg];rw[aE (run_pure _ _ _)];unfold part;rw[aE (hA.agg w)];simp only[if_true];rw[aE (hA.siz w)];obtain⟨k1,k2⟩:=lB _ _ _ _ hl;have:(⟨cs⟩:Array Value).extract off (off+k)=⟨l⟩:=by
   apply Array.ext';rw[Array.toList_extract];apply kX;intro i;rw[List.extract_eq_take_drop,oV];split
   ·rw[iR];exact k2 i (by omega)
   ·exact(dS (show l.length<=i by omega)).symm
  rw[this];rfl
 exact cj this
def S3{cs:List Value}{f off ft:Nat}{v:Value}[hF:Bq P t f off ft][hA:je P ft](hx:aw fr x=some (.agg ⟨cs⟩))(hl:cs[off]? =some v):Yd P C fr own G ⟨dst, .field t x f,ty',pos,af,gd⟩ v:=by
 obtain⟨fs,fd,h1,h2,h3,h4⟩:=hF.u;intro a w hf hh;simp only[execOp,aO hf hx];have:(Instr.field t (.agg ⟨cs⟩) f).run P w= .ok v w:=by
  unfold Instr.field;rw[aE (h1 w)];simp only[h2,h3,h4,asAgg];rw[aE (run_pure _ _ _)];unfold part;rw[aE (hA.agg w)];have:(⟨cs⟩:Array Value)[off]? =some v:=by simpa using hl
  simp only[mV,if_false,this];rfl
 exact cj this
class GT (P:Program) (t:TypeId) (offs:outParam (List (Nat×Nat))):Prop where
 u: ∃fs:Array Field,(∀w,(underlying t).run P w= .ok (.struct fs) w)/\(∀w,(fs.mapM (m:=Sem) fun f=>do pure (f.offset,<-sizeOf f.type)).run P w= .ok ⟨offs⟩ w)
def oo(fr:Fr)(offs:List (Nat×Nat)):List Value->List (Nat×Operand)->Option (List Value)
 |cs,[]=>some cs
 |cs,(i,x)::r=>match offs[i]?,aw fr x with
  |some (off,k),some v=>if(aG v).length=k/\off+k<=cs.length then oo fr offs (cE cs off (aG v)) r else none
  |_,_=>none
def Bp: ∀(vs:List Value) (cs:Array Value) (off j:Nat),(vs.zipIdx j).foldl (fun cs (c,j)=>cs.setIfInBounds (off+j) c) cs=⟨cE cs.toList (off+j) vs⟩
 |[],cs,off,j=>rfl
 |v::vs,cs,off,j=>by
  simp only[List.zipIdx_cons,gN];rw[Bp vs _ off (j+1)];simp[cE,jZ]
def BG{a:Act}(hf:io fr a)(offs:List (Nat×Nat)): ∀(ps:List (Nat×Operand)) (cs out:List Value),oo fr offs cs ps=some out->
  Instr.fill ((⟨offs⟩:Array (Nat×Nat))[·]?) ⟨cs⟩ (ps.map fun(i,x)=>(i,a.eval x))=some ⟨out⟩
 |[],cs,out,h=>by simp only[oo] at h;cases h;rfl
 |(i,x)::ps,cs,out,h=>by
  simp only[oo] at h;split at h
  ·rename_i off k v ho hv
   split at h
   ·rename_i hc
    simp only[cZ,Instr.fill];have:(⟨offs⟩:Array (Nat×Nat))[i]? =some (off,k):=by simpa using ho
    simp only[this,aO hf hv,my];have h1: ¬((⟨aG v⟩:Array Value).size≠k):=by simp[hc.1]
    have h2: ¬(off+(⟨aG v⟩:Array Value).size>(⟨cs⟩:Array Value).size):=by simp only[kZ,hc.1];omega
    rw[if_neg (by simp only[gX,decide_eq_true_eq,not_or];exact⟨by simpa using h1,by simpa using h2⟩)];have e:=Bp (aG v) ⟨cs⟩ off 0;have e':(⟨aG v⟩:Array Value).zipIdx.foldl (fun cs (c,j)=>cs.setIfInBounds (off+j) c) (⟨cs⟩:Array Value)=⟨cE cs off (aG v)⟩:=by
     rw[<-Array.foldl_toList,Array.toList_zipIdx];simpa using e
    rw[e'];exact BG hf offs ps _ _ h
   ·cases h
  ·cases h
def TQ{parts:Array (Nat×Operand)}{offs:List (Nat×Nat)}{z:Value}{out:List Value}[hT:GT P t offs][hz:gy P t z](hb:oo fr offs (aG z) parts.toList=some out):Yd P C fr own G ⟨dst, .build t parts,ty',pos,af,gd⟩ (.agg ⟨out⟩):=by
 obtain⟨fs,h1,h2⟩:=hT.u;intro a w hf hh;simp only[execOp];have:(Instr.build t (parts.map fun(i,x)=>(i,a.eval x))).run P w= .ok (.agg ⟨out⟩) w:=by
  unfold Instr.build;rw[aE (hz.zero w),my];rw[aE (h1 w)];simp only[];rw[aE (h2 w)];have:=BG hf offs parts.toList _ _ hb;simp only[lM,this];rfl
 exact cj this
end
def di(z:Value)(k:Nat):List Value:=(List.replicate k (aG z)).flatten
def F2{α:Type}(l:List α): ∀(k i:Nat),i<k*l.length->(List.replicate k l).flatten[i]? =l[i%l.length]?
 |0,i,h=>by omega
 |k+1,i,h=>by
  rw[fL,jX];by_cases hi:i<l.length
  ·rw[bS hi,dQ hi]
  ·rw[cV (by omega),F2 l k (i-l.length) (by rw[cK] at h;omega)]
   rw[Nat.mod_eq_sub_mod (Nat.ge_of_not_lt hi)]
def qO(z:Value)(k:Nat):(di z k).length=k*(aG z).length:=by simp[di]
def CN{z:Value}{k m:Nat}(h:m=k*(aG z).length):((Array.range m).map fun i=>(⟨aG z⟩:Array Value)[i%(⟨aG z⟩:Array Value).size]!)=⟨di z k⟩:=by
 subst h;apply Array.ext';apply kX;intro i;simp only[lM,Array.toList_range,fR,kZ];by_cases hi:i<k*(aG z).length
 ·rw[qX hi]
  simp only[gM];have h1:=F2 (aG z) k i hi;have hpos:0<(aG z).length:=by
   rcases dY (aG z).length with h|h
   ·rw[h,nZ] at hi;omega
   ·exact h
  have hm:=cY i hpos;show _=(di z k)[i]?;unfold di;rw[h1];simp[hm]
 ·rw[dS (by simpa using hi)]
  rw[dS (by show(di z k).length<=i;rw[qO];omega)];rfl
section
variable {P:Program} {C:az} {n:Nat} {fr:Fr} {own own':List av} {G:Gh} {Φ:Act->World->Prop}
variable {dst:Option Nat} {t t' ty':TypeId} {pos:String} {af:Array Edge} {gd:Option (Nat×Bool)} {x y:Operand} {e s by_:Nat}
def Kx[hT:cA P t e s by_](w:World): ∃i:TypeInfo,(typeInfo e).run P w= .ok i w/\i.bytes=by_:=by
 obtain⟨i,h1,_,h2⟩:=hT.info;exact⟨i,by simp[typeInfo,program,Sem.run_bind,Sem.run,h1,run_pure],h2⟩
def ot[hT:cA P t e s by_]{z:Value}[hz:gy P e z]{k k':IntKind}{l:Int}(hx:aw fr x=some (.int k l))(hy:aw fr y=some (.int k' l))(h0:0<=l)(hb:by_*l<=2^47)(hl:l<=2^60)(hs:(aG z).length=s)(hd:bG n dst=true)
  (h: ∀b,St C n (put fr dst (.slice (some ⟨b,0,none⟩) l.toNat l.toNat)) (⟨b,di z l.toNat,e,true⟩::own) G Φ):
  Ch P C n fr own G ⟨dst, .makeSlice t x y,ty',pos,af,gd⟩ Φ:=by
 intro a w Q rl;have h1:(Instr.makeSlice t (a.eval x) (a.eval y)).run P w= .ok (.slice (some ⟨w.heap.size,0,none⟩) l.toNat l.toNat) (w.alloc (.cells ⟨di z l.toNat⟩ e)):=by
  obtain⟨i,hi,hib⟩:=Kx (P:=P) (t:=t) (e:=e) (s:=s) (by_:=by_) w;rw[aO rl.fr hx,aO rl.fr hy];unfold Instr.makeSlice;rw[aE (hT.u w)];simp only[asInt,asIntOf];rw[aE (a:=l) (w':=w) J,aE (a:=l) (w':=w) J,aE hi,hib];have hw:IntKind.i64.wrap l=l:=pe (by simp[IntKind.min,IntKind.max,IntKind.signed,IntKind.bits];omega);simp only[hw];have c1: ¬((by_:Int)*l>2^48):=by
   have:(2:Int)^47<=2^48:=by decide
   omega
  have c2:(decide (l<0)||decide ((by_:Int)*l>2^48))=false:=by simp[c1];omega
  simp only[c2,Int.lt_irrefl,decide_false,Bool.or_false,Bool.false_or];have c3:decide (l<0)=false:=by simp;omega
  simp only[c3,mV,if_false,gt_iff_lt,Int.lt_irrefl,decide_false,Bool.or_false];have hr: ¬(l.toNat*by_>roomBytes):=by
   unfold roomBytes;have:((l.toNat*by_:Nat):Int)=by_*l:=by rw[iQ,qJ h0,Int.mul_comm]
   have h47:((2^47:Nat):Int)=2^47:=by decide
   omega
  unfold askRoom;simp only[hr,if_false];rw[aE (run_pure _ _ _),aE (hT.siz w)];have hn:l.toNat*s=l.toNat*(aG z).length:=by rw[hs]
  by_cases h00:l.toNat*s=0
  ·rw[if_pos h00,aE (run_pure _ _ _)]
   have e0:di z l.toNat=[]:=bU (by rw[qO,hs];exact h00);rw[h00,e0,show(Array.range 0)= #[] from J,Array.map_empty];rfl
  ·rw[if_neg h00,aE (hz.zero w),my]
   rw[aE (run_pure _ _ _),CN hn];rfl
 refine(fun hk=>?_:Φ (a.put dst (.slice (some ⟨w.heap.size,0,none⟩) l.toNat l.toNat)) (w.alloc (.cells ⟨di z l.toNat⟩ e))->_) (h w.heap.size _ _ ((rl.heap (rl.h.alloc _ _)).put _ hd));exact kD (v:= .slice (some ⟨w.heap.size,0,none⟩) l.toNat l.toNat) (cj h1) hk
end
section
variable {P:Program} {C:az} {n:Nat} {fr:Fr} {own own':List av} {G:Gh} {Φ:Act->World->Prop}
variable {dst:Option Nat} {t t' ty':TypeId} {pos:String} {af:Array Edge} {gd:Option (Nat×Bool)} {x y:Operand} {e s by_:Nat}
def pf(fr:Fr)(s:Nat):List Value->List (Nat×Operand)->Option (List Value)
 |cs,[]=>some cs
 |cs,(i,x)::r=>match aw fr x with
  |some v=>if(aG v).length=s/\i*s+s<=cs.length then pf fr s (cE cs (i*s) (aG v)) r else none
  |none=>none
def Et{a:Act}(hf:io fr a)(s:Nat): ∀(ps:List (Nat×Operand)) (cs out:List Value),pf fr s cs ps=some out->
  Instr.fill (fun i=>some (i*s,s)) ⟨cs⟩ (ps.map fun(i,x)=>(i,a.eval x))=some ⟨out⟩
 |[],cs,out,h=>by simp only[pf] at h;cases h;rfl
 |(i,x)::ps,cs,out,h=>by
  simp only[pf] at h;split at h
  ·rename_i v hv
   split at h
   ·rename_i hc
    simp only[cZ,Instr.fill,aO hf hv,my];have h1: ¬((⟨aG v⟩:Array Value).size≠s):=by simp[hc.1]
    have h2: ¬(i*s+(⟨aG v⟩:Array Value).size>(⟨cs⟩:Array Value).size):=by simp only[kZ,hc.1];omega
    rw[if_neg (by simp only[gX,decide_eq_true_eq,not_or];exact⟨by simpa using h1,by simpa using h2⟩)];have e:=Bp (aG v) ⟨cs⟩ (i*s) 0;have e':(⟨aG v⟩:Array Value).zipIdx.foldl (fun cs (c,j)=>cs.setIfInBounds (i*s+j) c) (⟨cs⟩:Array Value)=⟨cE cs (i*s) (aG v)⟩:=by
     rw[<-Array.foldl_toList,Array.toList_zipIdx];simpa using e
    rw[e'];exact Et hf s ps _ _ h
   ·cases h
  ·cases h
def CL[hT:cA P t e s by_]{z:Value}[hz:gy P e z]{len:Nat}{parts:Array (Nat×Operand)}{out:List Value}(hs:(aG z).length=s)(hb:pf fr s (di z len) parts.toList=some out)(hsm:Nat.ble (len*s) 1000=true)(hs0:Nat.blt 0 (len*s)=true)(hd:bG n dst=true)
  (h: ∀b,St C n (put fr dst (.slice (some ⟨b,0,none⟩) len len)) (⟨b,out,e,true⟩::own) G Φ):
  Ch P C n fr own G ⟨dst, .buildSlice t len parts,ty',pos,af,gd⟩ Φ:=by
 intro a w Q rl;have hsm':len*s<=1000:=by simpa using hsm
 have hs0':0<len*s:=by simpa[lY] using hs0
 have h1:(Instr.buildSlice t len (parts.map fun(i,x)=>(i,a.eval x))).run P w= .ok (.slice (some ⟨w.heap.size,0,none⟩) len len) (w.alloc (.cells ⟨out⟩ e)):=by
  unfold Instr.buildSlice;rw[aE (hT.u w)];simp only[];rw[aE (hT.siz w)];have c1: ¬(len*s>2^24):=by omega
  have c2: ¬(len*s=0):=by omega
  simp only[c1,if_false];rw[if_neg c2,aE (hz.zero w),my,aE (run_pure _ _ _)];rw[CN (k:=len) (by rw[hs])];have hf:=Et rl.fr s parts.toList _ _ hb;simp only[lM,hf];rfl
 refine kD (v:= .slice (some ⟨w.heap.size,0,none⟩) len len) (w':=w.alloc (.cells ⟨out⟩ e)) ?_ (h w.heap.size _ _ ((rl.heap (rl.h.alloc _ _)).put _ hd));simp only[execOp];exact cj h1
def J2[hT:cA P t e s by_](hd:bG n dst=true)(h: ∀b,St C n (put fr dst (.slice (some ⟨b,0,none⟩) 0 0)) (⟨b,[],e,true⟩::own) G Φ):
  Ch P C n fr own G ⟨dst, .buildSlice t 0 #[],ty',pos,af,gd⟩ Φ:=by
 intro a w Q rl;have h1:(Instr.buildSlice t 0 #[]).run P w= .ok (.slice (some ⟨w.heap.size,0,none⟩) 0 0) (w.alloc (.cells ⟨[]⟩ e)):=by
  unfold Instr.buildSlice;rw[aE (hT.u w)];simp only[];rw[aE (hT.siz w)];simp only[jL,gt_iff_lt,Nat.not_lt_zero,if_false,if_true];rw[aE (run_pure _ _ _),show(Array.range 0)= #[] from J,Array.map_empty];rfl
 refine kD (v:= .slice (some ⟨w.heap.size,0,none⟩) 0 0) (w':=w.alloc (.cells ⟨[]⟩ e)) ?_ (h w.heap.size _ _ ((rl.heap (rl.h.alloc _ _)).put _ hd));simp only[execOp,iZ,iY];exact cj h1
def B4[hT:cA P t e s by_]{ad:Option Addr}{len cap l2 c2:Nat}(hx:aw fr x=some (.slice ad len cap))(hy:aw fr y=some (.slice none l2 c2)):Yd P C fr own G ⟨dst, .binOp .eql t x y t',ty',pos,af,gd⟩ (.bool ad.isNone):=by
 intro a w hf hh;simp only[execOp,aO hf hx,aO hf hy];have h1:(Op.equal t (.slice ad len cap) (.slice none l2 c2)).run P w= .ok ad.isNone w:=mG (by unfold Op.equalIn;rw[aE (hT.u w)];cases ad<;>rfl);have h2:(eqGuard .eql t x y (.slice ad len cap) (.slice none l2 c2)).run P w= .ok () w:=J;have h3:(binOp .eql t (.slice ad len cap) (.slice none l2 c2)).run P w= .ok (.bool ad.isNone) w:=by simp only[binOp];rw[aE h1];rfl
 exact cj (by rw[aE h2];exact h3)
def Sw[hT:cA P t e s by_]{ad:Option Addr}{len cap l2 c2:Nat}(hx:aw fr x=some (.slice ad len cap))(hy:aw fr y=some (.slice none l2 c2)):Yd P C fr own G ⟨dst, .binOp .neq t x y t',ty',pos,af,gd⟩ (.bool (!ad.isNone)):=by
 intro a w hf hh;simp only[execOp,aO hf hx,aO hf hy];have h1:(Op.equal t (.slice ad len cap) (.slice none l2 c2)).run P w= .ok ad.isNone w:=mG (by unfold Op.equalIn;rw[aE (hT.u w)];cases ad<;>rfl);have h2:(eqGuard .neq t x y (.slice ad len cap) (.slice none l2 c2)).run P w= .ok () w:=J;have h3:(binOp .neq t (.slice ad len cap) (.slice none l2 c2)).run P w= .ok (.bool (!ad.isNone)) w:=by simp only[binOp];rw[aE h1];rfl
 exact cj (by rw[aE h2];exact h3)
end
def jE: ∀(cs:List Value) (off k:Nat),off+k<=cs.length->bH cs off k=some ((cs.drop off).take k)
 |cs,0,0,_=>by cases cs<;>rfl
 |[],0,k+1,h=>by simp at h
 |v::t,0,k+1,h=>by
  simp only[bH,jE t 0 k (by simp at h;omega)];simp
 |[],_+1,k,h=>by simp at h
 |_::t,off+1,k,h=>by
  simp only[bH,jE t off k (by simp at h;omega)];simp
section
variable {P:Program} {C:az} {n:Nat} {fr:Fr} {own own' own1:List av} {G:Gh} {Φ:Act->World->Prop}
variable {dst:Option Nat} {t t' ty':TypeId} {pos:String} {af:Array Edge} {gd:Option (Nat×Bool)} {x y:Operand} {e s by_:Nat}
def mD(P:Program)(C:az)(own:List av)(G:Gh)(s m:Nat)(v:Value)(ys:List Value):Prop:=
 ∀w,bh C own G w->(Builtin.firstCells s m v).run P w= .ok ⟨ys⟩ w
def yh{w:World}{b off k:Nat}{cs l:List Value}{ty:TypeId}{fz:Nat×Nat}(h:w.heap[b]? =some (.cells ⟨cs⟩ ty fz))(hl:bH cs off k=some l):(loadCells ⟨b,off,none⟩ k).run P w= .ok ⟨l⟩ w:=by
 obtain⟨h1,h2⟩:=lB _ _ _ _ hl;unfold loadCells;rw[Av (l:=l) k 0 #[] (fun j hj=>by rw[ry h];simpa using h2 j hj) (by omega)];simp[<-h1]
def I9{b off m len cap:Nat}{cs ys:List Value}{ty:TypeId}{lo:Bool}(ho:gI own b cs ty lo)(hl:bH cs off (m*s)=some ys):mD P C own G s m (.slice (some ⟨b,off,none⟩) len cap) ys:=
 fun w h=>yh (h.hown _ ho.mem).1 hl
def EY{b off m len cap:Nat}{cs ys:List Value}(hg:G b=some cs)(hl:bH cs off (m*s)=some ys):mD P C own G s m (.slice (some ⟨b,off,none⟩) len cap) ys:=
 fun w h=>by obtain⟨ty,fz,hb⟩:=h.sub _ _ hg;exact yh hb hl
def sg{ad:Option Addr}{len cap:Nat}:mD P C own G s 0 (.slice ad len cap) []:=fun w _=>by
 cases ad with
 |none=>rfl
 |some a=>unfold Builtin.firstCells loadCells;simp[loadCellsFrom,run_pure]
def C5(z:Value)(k:Nat):Builtin.zeroCells ⟨aG z⟩ k=⟨di z k⟩:=by
 unfold Builtin.zeroCells;exact CN J
def F9{w w':World}[hT:cA P t e s by_][hN:mp P t']{z:Value}[hz:gy P e z]{ad:Option Addr}{len cap m cap2:Nat}{ad2:Option Addr}{xs ys:List Value}
  (hsx:(Builtin.firstCells s len (.slice ad len cap)).run P w.drew= .ok ⟨xs⟩ w.drew)(hsy:(Builtin.firstCells s m (.slice ad2 m cap2)).run P w.drew= .ok ⟨ys⟩ w.drew)
  (hneed:cap<len+m)(hby:0<by_)(hb:(len+m)*by_<=140737488355328):
  (Builtin.append_ #[t,t'] ty' #[.slice ad len cap, .slice ad2 m cap2]).run P w=
   .ok (.slice (some ⟨w.heap.size,0,none⟩) (len+m) (grownCap w (len+m) cap e)) (w.drew.alloc (.cells ⟨xs++ys++di z (grownCap w (len+m) cap e-(len+m))⟩ e)):=by
 obtain⟨d,hd1⟩:=hN.un;obtain⟨i,hi,his,hib⟩:=hT.info;obtain⟨i',hi',hiz⟩:=hz.info;rw[hi] at hi';cases hi';have hfit:=growslice_fits (old:=cap) (need:=len+m) (bytes:=by_) hneed hb;have hlen:len+m<=140737488355328:=fX (Nat.le_mul_of_pos_right _ hby) hb;have hn: ¬(len+m<=cap):=by omega
 have h63': ¬(9223372036854775807<((len:Int)+(m:Int))):=by omega
 have h48': ¬(281474976710656<Builtin.nextslicecap (len+m) cap*i.bytes):=by rw[hib];omega
 subst his;simp[Builtin.append_,run_underlying hT.un,run_underlying hd1,sizeOf,typeInfo,zeroValue,hi,hiz,Builtin.lenOf,hn,h63',h48',Question.forced,hsx,hsy,newRow,grownCap];congr 2;apply Array.ext';rw[my,C5];simp[fJ]
def BS[hT:cA P t e s by_][hN:mp P t']{z:Value}[hz:gy P e z]{ad:Option Addr}{len cap m cap2:Nat}{ad2:Option Addr}{xs ys:List Value}
  (hx:aw fr x=some (.slice ad len cap))(hy:aw fr y=some (.slice ad2 m cap2))(hsx:mD P C own G s len (.slice ad len cap) xs)(hsy:mD P C own G s m (.slice ad2 m cap2) ys)
  (hneed:cap<len+m)(hby:0<by_)(hb:(len+m)*by_<=140737488355328)(hd:bG n dst=true)
  (h: ∀b cap',len+m<=cap'->St C n (put fr dst (.slice (some ⟨b,0,none⟩) (len+m) cap')) (⟨b,xs++ys++di z (cap'-(len+m)),e,true⟩::own) G Φ):
  Ch P C n fr own G ⟨dst, .call ⟨.builtin .append, #[x,y], #[t,t']⟩,ty',pos,af,gd⟩ Φ:=by
 intro a w Q rl;have hcap:len+m<=grownCap w (len+m) cap e:=by unfold grownCap;simp only[Question.cut];omega
 have hrun:=F9 (P:=P) (t:=t) (t':=t') (ty':=ty') (w:=w) (w':=w) (hsx _ rl.h.drew) (hsy _ rl.h.drew) hneed hby hb;refine kD (v:= .slice (some ⟨w.heap.size,0,none⟩) (len+m) (grownCap w (len+m) cap e)) (w':=w.drew.alloc (.cells ⟨xs++ys++di z (grownCap w (len+m) cap e-(len+m))⟩ e)) ?_ ?_
 ·simp only[execOp,resolve,iZ,cZ,iY,aO rl.fr hx,aO rl.fr hy]
  exact cj hrun
 ·exact h w.heap.size _ hcap _ _ ((rl.heap ((rl.h.drew).alloc _ _)).put _ hd)
def iu.perm{o:av}(h:iu own o own1):own.Perm (o::own1):=by
 induction h with
 |hd o t=>exact List.Perm.refl _
 |tl x t t' o h ih=>exact(List.Perm.cons x ih).trans (List.Perm.swap _ _ _)
def Q2{w:World}[hT:cA P t e s by_][hN:mp P t']{b len cap m cap2:Nat}{ad2:Option Addr}{cs ys:List Value}
  (hb:w.heap[b]? =some (.cells ⟨cs⟩ e (0,0)))(hcs:cs.length=cap*s)(hsy:(Builtin.firstCells s m (.slice ad2 m cap2)).run P w= .ok ⟨ys⟩ w)(hys:ys.length=m*s)(hf: ∀v∈ys,flat v=true)
  (hneed:len+m<=cap):
  (Builtin.append_ #[t,t'] ty' #[.slice (some ⟨b,0,none⟩) len cap, .slice ad2 m cap2]).run P w=
   .ok (.slice (some ⟨b,0,none⟩) (len+m) cap) (eO w b (.cells ⟨cE cs (len*s) ys⟩ e (0,0))):=by
 obtain⟨d,hd1⟩:=hN.un;obtain⟨i,hi,his,hib⟩:=hT.info;subst his;have hl:len*i.size+ys.length<=cs.length:=by rw[hys,hcs,<-cK];exact bX _ hneed
 have hst:=tf (P:=P) ys w (len*i.size) 0 cs hf hb (by omega);rw[cN] at hst;simp[Builtin.append_,run_underlying hT.un,run_underlying hd1,sizeOf,typeInfo,hi,Builtin.lenOf,hneed,hsy,me,hst]
def wD: ∀(vs cs:List Value) (off:Nat),(cE cs off vs).length=cs.length
 |[],cs,off=>rfl
 |v::vs,cs,off=>by simp[cE,wD vs]
def qt: ∀(vs cs:List Value) (off:Nat),off+vs.length<=cs.length->cE cs off vs=cs.take off++vs++cs.drop (off+vs.length)
 |[],cs,off,h=>by simp[cE]
 |v::vs,cs,off,h=>by
  simp only[bN] at h;rw[cE,qt vs _ _ (by simp;omega)];rw[List.take_set,nT (by omega)];have h1:(cs.take (off+1)).set off v=cs.take off++[v]:=by
   rw[fK (by omega),List.set_append_right _ _ (by simp;omega)];simp[fV (by omega:off<=cs.length)]
  rw[h1];simp only[bN,fJ,iL,jW];congr 4;omega
def Hh[hT:cA P t e s by_][hN:mp P t']{z:Value}[hz:gy P e z]{b len cap m cap2:Nat}{ad2:Option Addr}{xs ys rest:List Value}
  (hx:aw fr x=some (.slice (some ⟨b,0,none⟩) len cap))(hy:aw fr y=some (.slice ad2 m cap2))(hr:iu own ⟨b,xs++rest,e,true⟩ own1)(hxs:xs.length=len*s)(hcap:xs.length+rest.length=cap*s)(hlc:len<=cap)
  (hsy:mD P C own G s m (.slice ad2 m cap2) ys)(hys:ys.length=m*s)(hf: ∀v∈ys,flat v=true)
  (hby:0<by_)(hb:(len+m)*by_<=140737488355328)(hzs:(aG z).length=s)(hd:bG n dst=true)
  (h: ∀b cap' rest',len+m<=cap'->rest'.length+(len+m)*s=cap'*s->St C n (put fr dst (.slice (some ⟨b,0,none⟩) (len+m) cap')) (⟨b,xs++ys++rest',e,true⟩::own1) G Φ):
  Ch P C n fr own G ⟨dst, .call ⟨.builtin .append, #[x,y], #[t,t']⟩,ty',pos,af,gd⟩ Φ:=by
 intro a w Q rl;have hp:=rl.h.perm hr.perm;have hblk:=(hp.hown _ aQ).1;simp only[] at hblk;by_cases hneed:len+m<=cap
 ·have hcs:(xs++rest).length=cap*s:=by simp;omega
  have hrun:=Q2 (P:=P) (t:=t) (t':=t') (ty':=ty') (w:=w) (len:=len) hblk hcs (hsy w rl.h) hys hf hneed;have hle:len*s+m*s<=cap*s:=by rw[<-cK];exact bX _ hneed
  have hov:cE (xs++rest) (len*s) ys=xs++ys++rest.drop (m*s):=by
   rw[qt _ _ _ (by rw[hys];omega),<-hxs];simp[hys,List.drop_append]
  refine kD (v:= .slice (some ⟨b,0,none⟩) (len+m) cap) (w':=eO w b (.cells ⟨cE (xs++rest) (len*s) ys⟩ e (0,0))) ?_ ?_
  ·simp only[execOp,resolve,iZ,cZ,iY,aO rl.fr hx,aO rl.fr hy]
   exact cj hrun
  ·rw[hov]
   refine h b cap (rest.drop (m*s)) hneed ?_ _ _ ((rl.heap (hp.store (.hd ..))).put _ hd);rw[gW,cK];omega
 ·have hx':mD P C own G s len (.slice (some ⟨b,0,none⟩) len cap) xs:=fun w' hw'=>by
   have hb':=(((hw'.perm hr.perm).hown _ aQ).1);refine yh hb' ?_;rw[jE _ _ _ (by simp;omega),<-hxs];simp
  have hcap':len+m<=grownCap w (len+m) cap e:=by unfold grownCap;simp only[Question.cut];omega
  have hrun:=F9 (P:=P) (t:=t) (t':=t') (ty':=ty') (w:=w) (w':=w) (hx' _ rl.h.drew) (hsy _ rl.h.drew) (by omega) hby hb;refine kD (v:= .slice (some ⟨w.heap.size,0,none⟩) (len+m) (grownCap w (len+m) cap e)) (w':=w.drew.alloc (.cells ⟨xs++ys++di z (grownCap w (len+m) cap e-(len+m))⟩ e)) ?_ ?_
  ·simp only[execOp,resolve,iZ,cZ,iY,aO rl.fr hx,aO rl.fr hy]
   exact cj hrun
  ·refine h w.heap.size _ _ hcap' ?_ _ _ ((rl.heap (((hp.drew).drop (List.sublist_cons_self _ _)).alloc _ _)).put _ hd)
   rw[qO,hzs,<-cK];congr 1;omega
end
section
variable {P:Program} {ops:Array Oper} {Q:Exit->Act->World->Prop} {S:World->Prop} {fin:Nat->Bool}
def nk(ops:Array Oper)(fin:Nat->Bool):List (Nat×Bool)->Array Bool->Bool
 |[],listed=>(Region.ready .any ops listed).isEmpty
 |(i,true)::r,listed=>r9 ops fin listed i&&nk ops fin r (listed.setIfInBounds i true)
 |(i,false)::r,listed=>(Region.ready .any ops listed==[i])&&nk ops fin r (listed.setIfInBounds i true)
def ip(P:Program)(ops:Array Oper)(Q:Exit->Act->World->Prop)(S:World->Prop)(fin:Nat->Bool):List (Nat×Bool)->Act->World->Prop
 |[],a,w=>Q .normal a w
 |(i,true)::r,a,w=> ∃o v,ops[i]? =some o/\S w/\YieldsIf P ops S o v a/\ip P ops Q S fin r (a.put o.dst v) w
 |(i,false)::r,a,w=>wpOp P ops Q i (fun a' w'=>(fin i=true\/S w')/\ip P ops Q S fin r a' w') a w
def AA(hQ: ∀c a d v w,Q (.panic c) (Act.put a d v) w->Q (.panic c) a w): ∀(π:List (Nat×Bool)) (listed:Array Bool) (a:Act) (w:World),nk ops fin π listed=true->ip P ops Q S fin π a w-> ∀fuel,π.length<=fuel->oE P ops Q S fin fuel listed a w
 |[],listed,a,w,ho,h,fuel,hf=>by
  have hr:Region.ready .any ops listed=[]:=by simpa[nk] using ho
  cases fuel with
  |zero=>exact⟨hr,h⟩
  |succ k=>exact⟨fun _=>h,by rw[hr];simp⟩
 |(i,true)::r,listed,a,w,ho,h,0,hf=>by simp at hf
 |(i,false)::r,listed,a,w,ho,h,0,hf=>by simp at hf
 |(i,true)::r,listed,a,w,ho,h,fuel+1,hf=>by
  obtain⟨o,v,hoi,hS,hy,hk⟩:=h;simp only[nk,r9,bJ] at ho;obtain⟨⟨⟨⟨h1,h2⟩,h3⟩,h4⟩,h5⟩:=ho;obtain⟨h6,h7⟩:=Qc h4;exact OZ hoi (Region.noSelect_spec h1) (fun c a w=>hQ c a _ _ w) h6 h7 fuel listed a w (Region.free_spec hoi h2) (by simpa using h3) hy hS
   (AA hQ r _ _ _ h5 hk fuel (by simpa using hf))
 |(i,false)::r,listed,a,w,ho,h,fuel+1,hf=>by
  simp only[nk,bJ,beq_iff_eq] at ho;exact LL ho.1 (wpOp_mono (fun a' w' h'=>⟨h'.1,AA hQ r _ _ _ ho.2 h'.2 fuel (by simpa using hf)⟩) h)
end
section
variable {P:Program} {C:az} {n:Nat} {fr:Fr} {own own0:List av} {G G0:Gh} {ops:Array Oper} {Q:Exit->Act->World->Prop} {fin:Nat->Bool} {π:List (Nat×Bool)}
def dr(fin:Nat->Bool)(π:List (Nat×Bool)){id:Nat}(hm:P.follows .mixedOrders=true)(ho:(nk ops fin π (Array.replicate ops.size false)&&Nat.ble π.length ops.size)=true)
  (h:St C n fr own G (ip P ops (ic Q) (HS C own G) fin π)):St C n fr own G ((Code.region id ops true).wp P Q):=by
 simp only[bJ] at ho;refine KK fin hm fun a w rl=>AA (fun _ _ _ _ _ h=>h) π _ a w ho.1 (h a w rl) _ (by simpa using ho.2)
def dy{i:Nat}{o:Oper}{v:Value}(ho:ops[i]? =some o)(hy: ∀G':Gh,[GE G0 G']->Yd P C fr own0 G' o v)(hg:o.guard=none)(hd:bG n o.dst=true)[hs:jr own0 own][hl:GL G0 G]
  (h:St C n (put fr o.dst v) own G (ip P ops (ic Q) (HS C own0 G0) fin π)):St C n fr own G (ip P ops (ic Q) (HS C own0 G0) fin ((i,true)::π)):=
 fun a w rl=>⟨o,v,ho,⟨G,hl.le,rl.h.drop hs.s⟩, .inl ⟨by simp[Region.wanted,hg],fun w' ⟨G',hle,hr⟩=> @hy G' ⟨hle⟩ a w' rl.fr hr⟩,h _ _ (rl.put v hd)⟩
def dM{i:Nat}{dst:Option Nat}{ty':TypeId}{pos:String}{af:Array Edge}{x:Operand}{v:Value}(ho:ops[i]? =some ⟨dst, .move x,ty',pos,af,none⟩)(hx:aw fr x=some v)(hd:bG n dst=true)[hs:jr own0 own][hl:GL G0 G]
  (h:St C n (put fr dst v) own G (ip P ops (ic Q) (HS C own0 G0) fin π)):St C n fr own G (ip P ops (ic Q) (HS C own0 G0) fin ((i,true)::π)):=dy ho (fun _ _=>jx hx) J hd h
def dA{i:Nat}{dst:Option Nat}{ty':TypeId}{pos:String}{af:Array Edge}{x:Operand}{v:Value}(ho:ops[i]? =some ⟨dst, .assign x,ty',pos,af,none⟩)(hx:aw fr x=some v)(hd:bG n dst=true)[hs:jr own0 own][hl:GL G0 G]
  (h:St C n (put fr dst v) own G (ip P ops (ic Q) (HS C own0 G0) fin π)):St C n fr own G (ip P ops (ic Q) (HS C own0 G0) fin ((i,true)::π)):=dy ho (fun _ _=>A9 hx) J hd h
def dc{i:Nat}{o:Oper}(ho:ops[i]? =some o)(hg:o.guard=none)(hc:Ch P C n fr own G o (fun a w=>(fin i=true\/HS C own0 G0 w)/\ip P ops (ic Q) (HS C own0 G0) fin π a w)):St C n fr own G (ip P ops (ic Q) (HS C own0 G0) fin ((i,false)::π)):=by
 intro a w rl;show wpOp P ops (ic Q) i _ a w;unfold wpOp;simp only[ho,Region.wanted,hg,if_true];exact .inl (hc a w _ rl)
def dn(h:St C n fr own G (Q .normal)):St C n fr own G (ip P ops (ic Q) (HS C own0 G0) fin []):=h
def N1{A G:Gh}{b:Nat}{cs:List Value}[h:uc A b cs][k:GL A G]:G b=some cs:=k.le _ _ h.h
variable {dst:Option Nat} {t t' ty':TypeId} {pos:String} {af:Array Edge} {x y:Operand} {r:List Oper}
def sm{v:Value}(hx:aw fr x=some v)(hd:bG n dst=true)(h:St C n (put fr dst v) own G (c9 P ops Q r)):St C n fr own G (c9 P ops Q (⟨dst, .move x,ty',pos,af,none⟩::r)):=sj (jx hx) J hd h
def sa{v:Value}(hx:aw fr x=some v)(hd:bG n dst=true)(h:St C n (put fr dst v) own G (c9 P ops Q r)):St C n fr own G (c9 P ops Q (⟨dst, .assign x,ty',pos,af,none⟩::r)):=sj (A9 hx) J hd h
def nj{b off k:Nat}{cs l:List Value}{lo:Bool}{ty:TypeId}(hx:aw fr x=some (.pointer (some ⟨b,off,none⟩)))[ho:gI own b cs ty lo][lP P t k](hl:bH cs off k=some l)(hd:bG n dst=true)
  (h:St C n (put fr dst (.agg ⟨l⟩)) own G (c9 P ops Q r)):St C n fr own G (c9 P ops Q (⟨dst, .load t x,ty',pos,af,none⟩::r)):=sj (yn hx hl) J hd h
def cd{e s by_:Nat}{ad:Option Addr}{len cap:Nat}[hT:cA P t e s by_](hx:aw fr x=some (.slice ad len cap))(hd:bG n dst=true)
  (h:St C n (put fr dst (.int .i64 len)) own G (c9 P ops Q r)):St C n fr own G (c9 P ops Q (⟨dst, .call ⟨.builtin .len, #[x], #[t]⟩,ty',pos,af,none⟩::r)):=sj (ph hx) J hd h
def sx{vs:Array Value}{i:Nat}{v:Value}(hx:aw fr x=some (.tuple vs))(hv:vs[i]? =some v)(hd:bG n dst=true)(h:St C n (put fr dst v) own G (c9 P ops Q r)):St C n fr own G (c9 P ops Q (⟨dst, .extract x i,ty',pos,af,none⟩::r)):=sj (ze hx hv) J hd h
def dh{C:az}{n:Nat}{fr:Fr}{own:List av}{G:Gh}{K:Act->World->Prop}{Q:Exit->Act->World->Prop}{id:Nat}(h:St C n fr own G (Q (.exit id))):St C n fr own G (Exit.then K Q (.exit id)):=h
def dH{op:Op}{v:Value}{j d:Nat}{b:Bool}(hj:(ops[j]?).bind (·.dst)=some d)(hl:fi fr d=some (.bool b))(hy:Yd P C fr own G ⟨dst,op,ty',pos,af,some (j,b)⟩ v)(hd:bG n dst=true)(h:St C n (put fr dst v) own G (c9 P ops Q r)):St C n fr own G (c9 P ops Q (⟨dst,op,ty',pos,af,some (j,b)⟩::r)):=P2 J hj hl hy hd h
def ss{op:Op}{j d:Nat}{b c:Bool}(hj:(ops[j]?).bind (·.dst)=some d)(hl:fi fr d=some (.bool c))(hbc:(c==b)=false)(hd:bG n dst=true)(h:St C n (put fr dst undef) own G (c9 P ops Q r)):St C n fr own G (c9 P ops Q (⟨dst,op,ty',pos,af,some (j,b)⟩::r)):=K7 J hj hl hbc hd h
def sy{op:Op}{v:Value}(hy:Yd P C fr own G ⟨dst,op,ty',pos,af,none⟩ v)(hd:bG n dst=true)(h:St C n (put fr dst v) own G (c9 P ops Q r)):St C n fr own G (c9 P ops Q (⟨dst,op,ty',pos,af,none⟩::r)):=sj hy J hd h
def sc{op:Op}(hc:Ch P C n fr own G ⟨dst,op,ty',pos,af,none⟩ (c9 P ops Q r)):St C n fr own G (c9 P ops Q (⟨dst,op,ty',pos,af,none⟩::r)):=Lm J hc
end
def Fn.of_calls{P:Program}{f:FuncId}{vs:List Value}{G:Gh}{v:Value}(ha:jC P f)(h: ∀w,Calls P f ⟨vs⟩ w fun e w'=>e= .returned v/\w'=w):Fn P f vs G (fun u _=>u=v):=
 ⟨ha,fun w hw=>(h w).mono fun e w' ⟨he,hww⟩=>⟨v,G,he,by
  subst hww;exact⟨J,J,J,aR _,fun _ _ _=>J,hw,bc.refl _,fun _ _=>J,fun o ho=>(by cases ho), .nil,aR _,fun p hp=>by cases hp⟩,J⟩⟩
end Go.Sx
end
section
namespace Go.Sx
def dv:List Nat->Nat
 |[]=>0
 |d::t=>d+4294967296*dv t
def aP(ds:List Nat):Prop:= ∀d∈ds,d<4294967296
def cH(ds:List Nat):Prop:=ds.getLast? ≠some 0
instance (ds:List Nat):Decidable (cH ds):=inferInstanceAs (Decidable (ds.getLast? ≠some 0))
def aP.nil:aP []:=fun _ h=>by cases h
def aP.cons{d:Nat}{ds:List Nat}(h:d<4294967296)(k:aP ds):aP (d::ds):=fun x hx=>by
 rcases bZ.1 hx with rfl|h'
 ·exact h
 ·exact k _ h'
def aP.head{d:Nat}{ds:List Nat}(h:aP (d::ds)):d<4294967296:=h d aQ
def aP.tail{d:Nat}{ds:List Nat}(h:aP (d::ds)):aP ds:=fun x hx=>h x (aV _ hx)
def aP.append{a b:List Nat}(h:aP a)(k:aP b):aP (a++b):=fun x hx=>by
 rcases cL.1 hx with h'|h'
 ·exact h _ h'
 ·exact k _ h'
def aP.take{a:List Nat}(h:aP a)(n:Nat):aP (a.take n):=fun x hx=>h x (eK hx)
def aP.drop{a:List Nat}(h:aP a)(n:Nat):aP (a.drop n):=fun x hx=>h x (mM hx)
def aP.get{a:List Nat}(h:aP a)(i:Nat):a.getD i 0<4294967296:=by
 rw[aJ]
 cases hi:a[i]? with
 |none=>simp
 |some d=>exact h d (aS hi)
def aP.set{a:List Nat}(h:aP a)(i:Nat){d:Nat}(hd:d<4294967296):aP (a.set i d):=fun x hx=>by
 rcases List.mem_or_eq_of_mem_set hx with h'|rfl
 ·exact h _ h'
 ·exact hd
def aP.replicate(n:Nat):aP (List.replicate n 0):=fun x hx=>by
 rw[jM hx];omega
def rP(a b:List Nat):dv (a++b)=dv a+4294967296^a.length*dv b:=by
 induction a with
 |nil=>simp[dv]
 |cons d t ih=>
  simp only[iL,dv,ih,bN,dL];rw[cW,<-jZ,<-bV,bK 4294967296 (4294967296^t.length)]
def gj{ds:List Nat}(h:aP ds):dv ds<4294967296^ds.length:=by
 induction ds with
 |nil=>simp[dv]
 |cons d t ih=>
  have h1:=h.head;have h2:=ih h.tail;simp only[dv,bN,dL];omega
def r6(n:Nat):dv (List.replicate n 0)=0:=by
 induction n with
 |zero=>rfl
 |succ n ih=>simp[fL,dv,ih]
def fB(ds:List Nat)(i:Nat):dv (ds.take (i+1))=dv (ds.take i)+4294967296^i*ds.getD i 0:=by
 by_cases h:i<ds.length
 ·rw[fK h,rP]
  simp[dv,fV (mW h),aJ,h]
 ·have:ds.getD i 0=0:=by rw[aJ,dS (by omega)];rfl
  rw[this,aU (by omega),aU (by omega)];simp
def wB(ds:List Nat)(i:Nat)(h:i<=ds.length):dv ds=dv (ds.take i)+4294967296^i*dv (ds.drop i):=by
 have:=rP (ds.take i) (ds.drop i);rw[iV] at this;rw[this];simp[fV h]
def trimD:List Nat->List Nat
 |[]=>[]
 |d::t=>match trimD t with
  |[]=>if d=0 then [] else [d]
  |t'=>d::t'
def pH(d:Nat)(t:List Nat):trimD (d::t)=if trimD t=[]/\d=0 then [] else d::trimD t:=by
 simp only[trimD]
 cases h:trimD t with
 |nil=>by_cases hd:d=0<;>simp[hd]
 |cons a b=>simp
def gi(ds:List Nat):dv (trimD ds)=dv ds:=by
 induction ds with
 |nil=>rfl
 |cons d t ih=>
  rw[pH];split
  ·rename_i h
   rw[h.1] at ih;simp[dv,<-ih,h.2]
  ·simp[dv,ih]
def HP(ds:List Nat):trimD (ds++[0])=trimD ds:=by
 induction ds with
 |nil=>rfl
 |cons d t ih=>rw[iL,pH,pH,ih]
def AN{ds:List Nat}{d:Nat}(h:d≠0):trimD (ds++[d])=ds++[d]:=by
 induction ds with
 |nil=>simp[trimD,h]
 |cons e t ih=>rw[iL,pH,ih];simp
def cH.trimD(ds:List Nat):cH (trimD ds):=by
 induction ds with
 |nil=>simp[cH,Sx.trimD]
 |cons d t ih=>
  rw[pH];split
  ·simp[cH]
  ·rename_i h
   unfold cH at*;rw[List.getLast?_cons]
   cases ht:(Sx.trimD t).getLast? with
   |none=>
    have:Sx.trimD t=[]:=by simpa using ht
    simp only[Option.getD_none,ne_eq,Option.some.injEq];exact fun hd=>h ⟨this,hd⟩
   |some x=>rw[ht] at ih;simpa using ih
def jt(ds:List Nat):(trimD ds).length<=ds.length:=by
 induction ds with
 |nil=>simp[trimD]
 |cons d t ih=>
  rw[pH];split
  ·simp
  ·simp;omega
def Gb(ds:List Nat):trimD ds=ds.take (trimD ds).length:=by
 induction ds with
 |nil=>rfl
 |cons d t ih=>
  rw[pH];split
  ·rfl
  ·simp only[bN,lS];rw[<-ih]
def aP.trimD{ds:List Nat}(h:aP ds):aP (trimD ds):=by rw[Gb];exact h.take _
def ES{ds:List Nat}(h:cH ds):trimD ds=ds:=by
 rcases pV ds with rfl|⟨l,d,rfl⟩
 ·rfl
 ·rw[pW] at*
  exact AN (fun e=>by subst e;simp[cH] at h)
def mw{ds:List Nat}(h:cH ds)(hne:ds≠[]):4294967296^(ds.length-1)<=dv ds:=by
 rcases pV ds with rfl|⟨l,d,rfl⟩
 ·exact absurd J hne
 ·rw[pW] at*
  have hd:d≠0:=fun e=>by subst e;simp[cH] at h
  rw[rP];simp only[aT,bN,iU,dv];have:4294967296^(l.length+(0+1)-1)=4294967296^l.length:=by congr 1
  rw[this];have h1:4294967296^l.length*1<=4294967296^l.length*(d+4294967296*0):=dT _ (by omega);omega
def Te{ds:List Nat}(h:cH ds):dv ds=0↔ds=[]:=by
 constructor
 ·intro h0
  by_cases hne:ds=[]
  ·exact hne
  ·have:=mw h hne
   have hp:0<4294967296^(ds.length-1):=dZ (by omega);omega
 ·rintro rfl;rfl
def mP{a b:List Nat}(ha:aP a)(hb:cH b)(h:a.length<b.length):dv a<dv b:=by
 have h1:=gj ha;have h2:=mw hb (fun e=>by subst e;simp at h);have h3:4294967296^a.length<=4294967296^(b.length-1):=aM (by omega) (by omega);omega
def H6: ∀{a b:List Nat},aP a->aP b->a.length=b.length->dv a=dv b->a=b
 |[],[],_,_,_,_=>rfl
 |d::t,e::u,ha,hb,hl,h=>by
  have h1:=ha.head;have h2:=hb.head;simp only[dv] at h;have:d=e:=by omega
  subst this;rw[H6 ha.tail hb.tail (by simpa using hl) (by omega)]
def KE{a b:List Nat}(ha:aP a)(hb:aP b)(na:cH a)(nb:cH b)(h:dv a=dv b):a=b:=by
 refine H6 ha hb ?_ h;rcases Nat.lt_trichotomy a.length b.length with h'|h'|h'
 ·have:=mP ha nb h';omega
 ·exact h'
 ·have:=mP hb na h';omega
def vf{a b:List Nat}(ha:aP a)(hb:aP b)(i:Nat)(hia:i<a.length)(hib:i<b.length)(hl:a.length=b.length)(hs:a.drop (i+1)=b.drop (i+1))(h:a.getD i 0<b.getD i 0):dv a<dv b:=by
 rw[wB a (i+1) (by omega),wB b (i+1) (by omega),hs,fB,fB];have h1:=gj (ha.take i);rw[bW,fV (by omega)] at h1;have h2:4294967296^i*(a.getD i 0+1)<=4294967296^i*b.getD i 0:=dT _ h;rw[cW] at h2;omega
def H3{ds:List Nat}{k:Nat}(h:cH ds)(hk:dv ds<2^k):32*ds.length<=k+31:=by
 by_cases hne:ds=[]
 ·subst hne;simp
 ·have h1:=mw h hne
  have h2:(4294967296:Nat)^(ds.length-1)=2^(32*(ds.length-1)):=by
   rw[mN]
  rw[h2] at h1;have h3:2^(32*(ds.length-1))<2^k:=fZ h1 hk;have h4:=(lU (by omega:1<2)).1 h3;have:0<ds.length:=by cases ds with|nil=>exact absurd J hne|cons _ _=>simp
  omega
def dg(x:Nat):List Nat:=if h:x=0 then [] else(x%4294967296)::dg (x/4294967296)
termination_by x
decreasing_by omega
def dm(x:Nat):dv (dg x)=x/\aP (dg x)/\cH (dg x):=by
 induction x using Nat.strongRecOn with
 |_ x ih=>
  unfold dg;split
  ·rename_i h;subst h;exact⟨rfl, .nil,by simp[cH]⟩
  ·rename_i h
   obtain⟨h1,h2,h3⟩:=ih (x/4294967296) (by omega);refine⟨by rw[dv,h1];omega, .cons (by omega) h2,?_⟩;unfold cH at*;rw[List.getLast?_cons]
   cases hl:(dg (x/4294967296)).getLast? with
   |none=>
    have:dg (x/4294967296)=[]:=by simpa using hl
    rw[this] at h1;simp only[Option.getD_none,ne_eq,Option.some.injEq];simp only[dv] at h1;omega
   |some y=>rw[hl] at h3;simpa using h3
def H8{ds:List Nat}(h:aP ds)(n:cH ds):dg (dv ds)=ds:=KE (dm _).2.1 h (dm _).2.2 n (dm _).1
def lg{ds:List Nat}(h:aP ds):dg (dv ds)=trimD ds:=by rw[<-gi];exact H8 h.trimD (cH.trimD _)
def lD: ∀(ws:List Nat) (j d:Nat),j<ws.length->dv (ws.set j d)+4294967296^j*ws.getD j 0=dv ws+4294967296^j*d
 |[],j,d,h=>by simp at h
 |w::t,0,d,h=>by simp[dv];omega
 |w::t,j+1,d,h=>by
  have ih:=lD t j d (by simpa using h);simp only[List.set_cons_succ,dv,List.getD_cons_succ,dL];have h1:4294967296^j*4294967296*t.getD j 0=4294967296*(4294967296^j*t.getD j 0):=by rw[bK (4294967296^j),bV]
  have h2:4294967296^j*4294967296*d=4294967296*(4294967296^j*d):=by rw[bK (4294967296^j),bV]
  rw[h1,h2];omega
def lv{ws:List Nat}{k d:Nat}(h:k<ws.length):dv ((ws.set k d).take (k+1))=dv (ws.take k)+4294967296^k*d:=by
 rw[fK (by simpa using h),List.take_set_of_le (aR _),rP];simp[dv,fV (mW h)]
def Cq(p x:Nat):p*x=p*(x%4294967296)+p*4294967296*(x/4294967296):=by
 have h:p*x=p*(4294967296*(x/4294967296)+x%4294967296):=by rw[oQ]
 rw[cW,<-bV] at h;omega
def Gd{p A E W c a b:Nat}(h:W+p*c=A+E):(W+p*((c+a+b)%4294967296))+(p*4294967296)*((c+a+b)/4294967296)=(A+p*a)+(E+p*b):=by
 have h1:=Cq p (c+a+b);rw[cW,cW] at h1;omega
def DB{p A E W bo b a:Nat}(h:W+E=A+p*bo)(hle:bo+b<=a):(W+p*(a-(bo+b)))+(E+p*b)=(A+p*a)+p*4294967296*0:=by
 have h1:p*a=p*(a-(bo+b))+p*bo+p*b:=by
  rw[<-cW,<-cW];congr 1;omega
 omega
def EN{p A E W bo b a:Nat}(h:W+E=A+p*bo)(hle:a<bo+b)(hb:bo+b<=a+4294967296):(W+p*(a+4294967296-(bo+b)))+(E+p*b)=(A+p*a)+p*4294967296*1:=by
 have h1:p*a+p*4294967296=p*(a+4294967296-(bo+b))+p*bo+p*b:=by
  rw[<-cW,<-cW,<-cW];congr 1;omega
 omega
def JZ{p W W' T c m w:Nat}(hs:W'+p*w=W+p*((c+m+w)%4294967296))(h:W+p*c=T):W'+(p*4294967296)*((c+m+w)/4294967296)=T+p*m:=by
 have h1:=Cq p (c+m+w);rw[cW,cW] at h1;omega
end Go.Sx
end
section
namespace Go.Sx
open Go
section
variable {P:Program} {C:az} {n:Nat} {fr:Fr} {own:List av} {G:Gh}
def MZ{c:Code}{Q:Exit->Act->World->Prop}(h:St C n fr own G (c.wp P (Exit.noGoto Q))):St C n fr own G ((Code.scope c).wp P Q):=
 fun a w rl=>wp_scope_straight (h a w rl)
def SQ{l:Nat}{Q:Exit->Act->World->Prop}(h:St C n fr own G (Q .normal)):St C n fr own G ((Code.label l).wp P Q):=
 fun a w rl=>wp_label (h a w rl)
def Gp:Exit->Bool
 | .goto _=>false
 |_=>true
end
section
variable {P:Program} {ops:Array Oper} {Q:Exit->Act->World->Prop} {S:World->Prop} {fin:Nat->Bool} {k:Nat} {π₂:List (Nat×Bool)}
def DG(ops:Array Oper)(fin:Nat->Bool)(k:Nat)(π₂:List (Nat×Bool)):List (Nat×Bool)->Array Bool->Bool
 |[],listed=>(Region.ready .any ops listed==[k])&&nk ops fin π₂ (listed.setIfInBounds k true)
 |(i,true)::r,listed=>!(Nat.beq i k)&&r9 ops fin listed i&&r9 ops fin (listed.setIfInBounds k true) i&&DG ops fin k π₂ r (listed.setIfInBounds i true)
 |(i,false)::r,listed=>!(Nat.beq i k)&&(Region.ready .any ops listed).all (fun j=>Nat.beq j i||Nat.beq j k)&&(Region.ready .any ops listed).contains i&&(Region.ready .any ops (listed.setIfInBounds k true)==[i])&&DG ops fin k π₂ r (listed.setIfInBounds i true)
def z6(P:Program)(ops:Array Oper)(Q:Exit->Act->World->Prop)(S:World->Prop)(fin:Nat->Bool)(k:Nat)(π₂:List (Nat×Bool)):List (Nat×Bool)->Act->World->Prop
 |[],a,w=>wpOp P ops Q k (fun a' w'=>(fin k=true\/S w')/\ip P ops Q S fin π₂ a' w') a w
 |(i,true)::r,a,w=> ∃o v,ops[i]? =some o/\S w/\YieldsIf P ops S o v a/\z6 P ops Q S fin k π₂ r (a.put o.dst v) w
 |(i,false)::r,a,w=>wpOp P ops Q i (fun a' w'=>(fin i=true\/S w')/\z6 P ops Q S fin k π₂ r a' w') a w/\
   wpOp P ops Q k (fun a' w'=>(fin k=true\/S w')/\ip P ops Q S fin ((i,false)::r++π₂) a' w') a w
end
section
variable {P:Program} {C:az} {n:Nat} {fr:Fr} {own own0:List av} {G G0:Gh} {ops:Array Oper} {Q:Exit->Act->World->Prop} {fin:Nat->Bool} {k:Nat} {π π₂:List (Nat×Bool)}
def fF(d:Nat):Option Nat->Fr
 |none=>[]
 |some b=>[(d, .pointer (some ⟨b,0,none⟩))]
def fO(t:TypeId)(z:Value):Option Nat->List av
 |none=>[]
 |some b=>[⟨b,aG z,t,true⟩]
def WT(P:Program)(ops:Array Oper)(Q:Exit->Act->World->Prop)(S:World->Prop)(fin:Nat->Bool)(k:Nat)(π₂:List (Nat×Bool))(fl:Option Nat)(π:List (Nat×Bool)):Act->World->Prop:=
 match fl with
 |none=>z6 P ops Q S fin k π₂ π
 |some _=>ip P ops Q S fin (π++π₂)
end
def relo(fl:Nat->Bool)(o:av):av:={o with lo:=fl o.b}
structure jh (P:Program) (f:FuncId) (vs:List Value) (M:List av) (G:Gh) (K:Value->List av->Gh->Prop):Prop where
 able:jC P f
 run: ∀w,bh ⟨w,G,M.map (·.b),[],[],none,fun _=>none⟩ (asB M) G w->
  Calls P f ⟨vs⟩ w fun e w'=> ∃v own' G',e= .returned v/\bh ⟨w,G,M.map (·.b),[],[],none,fun _=>none⟩ own' G' w'/\K v own' G'
def gA(M:List av)(b:Nat):Bool:=M.all fun m=>!Nat.beq m.b b||m.lo
def bh.calledO{C:az}{M rest own':List av}{G G':Gh}{w w':World}(h:bh C (M++rest) G w)(k:bh ⟨w,G,M.map (·.b),[],[],none,fun _=>none⟩ own' G' w'):
  bh C (own'.map (relo (gA M))++rest) G' w':=by
 have hsz:w.heap.size<=w'.heap.size:=k.size;have hnd:=h.nd;have inM: ∀b,b∈M.map (·.b)-> ∀o∈rest,o.b≠b:=fun b hb o ho e=>by
  obtain⟨m,hm,rfl⟩:=bT.1 hb;exact(iS.1 hnd).2.2 m hm o ho e.symm
 have bnd: ∀o∈own',o.b∉M.map (·.b)->w.heap.size<=o.b:=fun o ho hb=>by
  obtain⟨_,_,h3,h4⟩:=k.hown o ho
  cases hlo:o.lo with
  |true=>exact h3 hlo
  |false=>exact absurd (h4 hlo) hb
 refine⟨k.os.trans h.os,k.tape.trans h.tape,k.output.trans h.output,fX h.size hsz,?_,k.sub,h.gle.trans k.gle,?_,?_,?_,fX h.dr k.dr,fun p hp=>⟨(h.ext p hp).1,by rw[k.keep _ (et (h.ext p hp).2) (h.extM hp)];exact(h.ext p hp).2⟩⟩
 ·intro b hb hm
  have hs:=h.size;have hnM:b∉M.map (·.b):=fun hb'=>by
   obtain⟨m,hmM,rfl⟩:=bT.1 hb';obtain⟨_,_,h3,h4⟩:=h.hown m (cJ _ hmM)
   cases hlo:m.lo with
   |true=>have:=h3 hlo;omega
   |false=>exact hm (h4 hlo)
  rw[k.keep b (by show b<w.heap.size;omega) hnM];exact h.keep b hb hm
 ·intro b hb;have:=h.size;rw[k.gold b (by show b<w.heap.size;omega)];exact h.gold b hb
 ·intro o ho
  have hs:=h.size;rcases cL.1 ho with ho|ho
  ·obtain⟨o',ho',rfl⟩:=bT.1 ho
   obtain⟨k1,k2,k3,k4⟩:=k.hown _ ho';refine⟨k1,k2,fun hl=>?_,fun hl=>?_⟩
   ·show C.w0.heap.size<=o'.b
    by_cases hb:o'.b∈M.map (·.b)
    ·obtain⟨m,hm,hmb⟩:=bT.1 hb
     have hl':gA M o'.b=true:=hl;have:=dR.1 hl' m hm;simp only[hmb,gX,gR,Nat.beq_refl] at this;obtain⟨_,_,h3,_⟩:=h.hown m (cJ _ hm);rw[<-hmb];exact h3 (by rcases this with h|h;(cases h);(exact h))
    ·have:=bnd o' ho' hb;omega
   ·show o'.b∈C.mb
    have hl':gA M o'.b=false:=hl;obtain⟨m,hm,hmb⟩:=List.all_eq_false.1 hl';simp only[gX,gR,not_or] at hmb;obtain⟨h1,h2⟩:=hmb;have e:m.b=o'.b:=by
     cases hq:Nat.beq m.b o'.b with
     |true=>exact aY hq
     |false=>exact absurd hq h1
    obtain⟨_,_,_,h4⟩:=h.hown m (cJ _ hm);rw[<-e];exact h4 (by cases hq:m.lo with
     |true=>exact absurd hq h2
     |false=>rfl)
  ·obtain⟨h1,h2,h3⟩:=h.hown o (fQ _ ho)
   have hnM:o.b∉M.map (·.b):=fun hb=>inM _ hb o ho J;exact⟨by rw[k.keep _ (et h1) hnM];exact h1,by rw[k.gold _ (et h1)];exact h2,h3⟩
 ·refine iS.2 ⟨?_,(iS.1 hnd).2.1,?_⟩
  ·rw[oL];exact k.nd
  ·intro x hx y hy
   obtain⟨o',ho',rfl⟩:=bT.1 hx;show o'.b≠y.b;by_cases hb:o'.b∈M.map (·.b)
   ·exact fun e=>inM _ hb y hy e.symm
   ·have h1:=bnd o' ho' hb
    have h2:=et (h.hown y (fQ _ hy)).1;omega
def ny(C:az)(K:Value->List av->Gh->Prop):Ending->World->Prop:=fun e w'=> ∃v own' G',e= .returned v/\bh C own' G' w'/\K v own' G'
def jh.introR{P:Program}{G:Gh}{f:FuncId}{fn:Func}{c:Code}{vs:List Value}{m:Nat}{M:List av}{K:Value->List av->Gh->Prop}(hf:P.funcs[f]? =some fn)(hb:fn.body=some c)(hn:(fn.name== "runtime.NumGoroutine")=false)(hm:fn.ntmps=m)(hlen:Nat.ble vs.length m=true)
  (h: ∀C:az,C.G0=G->C.mb=M.map (·.b)->C.rd=none->(C.fx=fun _=>none)->St C m (k8 0 vs) (asB M) G (c.wp P (d7 C P fn (ny C K)))):jh P f vs M G K:=by
 refine⟨⟨fn,hf,hn,by simp[hb]⟩,fun w hw=>?_⟩;have hlen':vs.length<=m:=by simpa using hlen
 have:=calls_of_wp (P:=P) (f:=f) (args:=⟨vs⟩) (w:=w) (R:=ny ⟨w,G,M.map (·.b),[],[],none,fun _=>none⟩ K) hf hb (wp_mono (h ⟨w,G,M.map (·.b),[],[],none,fun _=>none⟩ J J J J _ w
  ⟨hw,by simp;omega,fun k v hk=>by
   obtain⟨j,rfl,hj⟩:=pz vs 0 k v hk;have hj':=(bQ.1 hj).1;rw[gL (by simpa using hj')];simpa using hj,J⟩) fun _ _ _ k=>k J)
 exact this
section
variable {P:Program} {C:az} {n:Nat} {fr:Fr} {own own':List av} {G:Gh} {Φ:Act->World->Prop}
variable {dst:Option Nat} {t t' ty':TypeId} {pos:String} {af:Array Edge} {gd:Option (Nat×Bool)} {x y:Operand}
def DZ{fn:Func}{K:Value->List av->Gh->Prop}{vs:List Value}(hr:gn P fr own fn.results.toList vs)(own2 own3:List av)(hp:own.Perm own2)(hs:own3.Sublist own2)(hk:K (eu vs) own3 G):St C n fr own G (d7 C P fn (ny C K) .ret):=
 fun a w rl hmk=>⟨rl.df.trans hmk,_,o9 hr rl.fr rl.h,_,own3,G,J,(rl.h.perm hp).drop hs,hk⟩
def S8{f:FuncId}{fo:Operand}{args:Array Operand}{tys:Array TypeId}{vs c1 c2:List Value}{M rest:List av}{K:Value->List av->Gh->Prop}(ho:aw fr fo=some (.func (.func f) ⟨c1⟩ ⟨c2⟩))(hv:fp fr args.toList=some vs)
  (hp:own.Perm (M++rest))(hF:jh P f (c1++vs++c2) M G K)(hd:bG n dst=true)(h: ∀v own1 (G':Gh),[GE G G']->K v own1 G'->St C n (put fr dst v) (own1.map (relo (gA M))++rest) G' Φ):
  Ch P C n fr own G ⟨dst, .call ⟨.value fo,args,tys⟩,ty',pos,af,gd⟩ Φ:=by
 intro a w Q rl;have h2:=y7 (P:=P) (dst:=dst) (ty':=ty') (pos:=pos) (af:=af) (gd:=gd) (tys:=tys) (w:=w) hF.able rl.fr ho hv;simp only[Oper.wp,h2,Oper.upon];have hh0:=rl.h.perm hp;refine(hF.run w hh0.lend).mono ?_;rintro e w' ⟨v,own1,G',rfl,hh,hK⟩;exact @h v own1 G' ⟨hh.gle⟩ hK _ _ ((rl.heap (hh0.calledO hh)).put _ hd)
def tQ{f:FuncId}{fo:Operand}{args:Array Operand}{tys:Array TypeId}{vs:List Value}{M rest:List av}{K:Value->List av->Gh->Prop}(ho:aw fr fo=some (.func (.func f) #[] #[]))(hv:fp fr args.toList=some vs)
  (hp:own.Perm (M++rest))(hF:jh P f vs M G K)(hd:bG n dst=true)(h: ∀v own1 (G':Gh),[GE G G']->K v own1 G'->St C n (put fr dst v) (own1.map (relo (gA M))++rest) G' Φ):
  Ch P C n fr own G ⟨dst, .call ⟨.value fo,args,tys⟩,ty',pos,af,gd⟩ Φ:=
 S8 (c1:=[]) (c2:=[]) ho hv hp (by simpa using hF) hd h
end
structure SV where
 a:Option Addr
 n:Nat
 c:Nat
def SV.v(x:SV):Value:= .slice x.a x.n x.c
structure dG (G:Gh) (s:Nat) (x:SV) (es:List Value):Prop where
 len:x.n=es.length
 cap:x.n<=x.c
 mem:es=[]\/ ∃b off cs,x.a=some ⟨b,off,none⟩/\G b=some cs/\ ∀i (h:i<es.length),bH cs (off+i*s) s=some (aG es[i])
def dG.up'{A G:Gh}{s:Nat}{x:SV}{es:List Value}(h:dG A s x es)(k:bc A G):dG G s x es:=
 ⟨h.len,h.cap,h.mem.imp id (fun⟨b,off,cs,h1,h2,h3⟩=>⟨b,off,cs,h1,k _ _ h2,h3⟩)⟩
def dG.up{A G:Gh}{s:Nat}{x:SV}{es:List Value}(h:dG A s x es)[k:GL A G]:dG G s x es:=h.up' k.le
def dG.nil(G:Gh)(s:Nat):dG G s ⟨none,0,0⟩ []:=⟨J,aR _, .inl J⟩
def dG.take{G:Gh}{s:Nat}{x:SV}{es:List Value}(h:dG G s x es)(k:Nat)(hk:k<=es.length):dG G s ⟨x.a,k,x.c⟩ (es.take k):=by
 refine⟨by simp[hk],by show k<=x.c;have:=h.len;have:=h.cap;omega,?_⟩;rcases h.mem with h0|⟨b,off,cs,h1,h2,h3⟩
 ·left;simp[h0]
 ·right;exact⟨b,off,cs,h1,h2,fun i hi=>by
   simp only[bW] at hi;rw[h3 i (by omega)];simp⟩
def rx(a:Option Addr)(k:Nat):Option Addr:=a.map (·.add k)
section
variable {P:Program} {C:az} {n:Nat} {fr:Fr} {own own':List av} {G:Gh} {Φ:Act->World->Prop}
variable {dst:Option Nat} {t t' ty':TypeId} {pos:String} {af:Array Edge} {gd:Option (Nat×Bool)} {x y:Operand} {e s by_:Nat}
def Lu{A:Gh}[hT:cA P t e s by_]{k:IntKind}{z:SV}{es:List Value}{i:Int}(hs:dG A s z es)(hx:aw fr x=some (.slice z.a z.n z.c))(hy:aw fr y=some (.int k i))(h0:0<=i)(h1:i<z.n):
  Yd P C fr own G ⟨dst, .indexAddr t x y,ty',pos,af,gd⟩ (.pointer (rx z.a (i.toNat*s))):=by
 rcases hs.mem with h|⟨b,off,cs,ha,hg,hc⟩
 ·have:=hs.len;rw[h] at this;simp at this;omega
 ·rw[ha] at hx
  have:=s8 (P:=P) (C:=C) (own:=own) (G:=G) (t:=t) (dst:=dst) (ty':=ty') (pos:=pos) (af:=af) (gd:=gd) (by_:=by_) hx hy h0 h1;rw[ha];simpa[rx,me] using this
def N9{A:Gh}[hA:je P t]{z:SV}{es:List Value}{i:Nat}{v:Value}(hs:dG A 1 z es)[hl:GL A G](hx:aw fr x=some (.pointer (rx z.a (i*1))))(he:es[i]? =some v)(hv:flat v=true):
  Yd P C fr own G ⟨dst, .load t x,ty',pos,af,gd⟩ v:=by
 obtain⟨h1,he'⟩:=bQ.1 he;rcases hs.mem with h|⟨b,off,cs,ha,hg,hc⟩
 ·rw[h] at h1;simp at h1
 ·rw[ha] at hx
  have h2:=hc i h1;rw[he'] at h2;have hcv:aG v=[v]:=by cases v<;>first|rfl|(simp[flat] at hv)
  rw[hcv] at h2;obtain⟨_,h3⟩:=lB _ _ _ _ h2;have h4:=h3 0 (by omega);exact wF (off:=off+i*1) (by simpa[rx,me] using hx) (hl.le _ _ hg) (by simpa using h4)
end
def dI(d:Nat):Value:= .int .u32 (d:Int)
structure bw (G:Gh) (x:SV) (ds:List Nat):Prop where
 ok:aP ds
 sl:dG G 1 x (ds.map dI)
def bw.len{G:Gh}{x:SV}{ds:List Nat}(h:bw G x ds):x.n=ds.length:=by simpa using h.sl.len
def bw.up{A G:Gh}{x:SV}{ds:List Nat}(h:bw A x ds)[k:GL A G]:bw G x ds:=⟨h.ok,h.sl.up⟩
def bw.nil(G:Gh):bw G ⟨none,0,0⟩ []:=⟨.nil, .nil G 1⟩
def bw.take{G:Gh}{x:SV}{ds:List Nat}(h:bw G x ds)(k:Nat)(hk:k<=ds.length):bw G ⟨x.a,k,x.c⟩ (ds.take k):=
 ⟨h.ok.take k,by rw[kU];exact h.sl.take k (by simpa using hk)⟩
def bw.trim{G:Gh}{x:SV}{ds:List Nat}(h:bw G x ds):bw G ⟨x.a,(trimD ds).length,x.c⟩ (trimD ds):=by
 have:=h.take _ (jt ds);rwa [<-Gb] at this
def bw.of_block{G:Gh}{b c k:Nat}{cs:List Value}{ds:List Nat}(ok:aP ds)(hg:G b=some cs)(hk:k=ds.length)(hc:k<=c)(hcs:cs.take ds.length=ds.map dI):bw G ⟨some ⟨b,0,none⟩,k,c⟩ ds:=by
 refine⟨ok,by simpa using hk,hc, .inr ⟨b,0,cs,J,hg,fun i hi=>?_⟩⟩;have hi':i<ds.length:=by simpa using hi
 have hl:ds.length<=cs.length:=by
  have:=congrArg List.length hcs;simp at this;omega
 rw[jE _ _ _ (by omega)];congr 1;have h1:(cs.take ds.length)[i]? =(ds.map dI)[i]? :=by rw[hcs]
 rw[oV,if_pos hi',fR,aZ hi',aZ (by omega)] at h1;have h2:cs[i]=dI ds[i]:=by simpa using h1
 rw[dV,iM,bM (by omega),lS,List.take_zero,h2,List.getElem_map];rfl
structure d6 (k:Nat) (G:Gh) (x:SV) (v:Nat):Prop where
 d:bw G x (dg v)
 lt:v<2^k
def d6.up{k:Nat}{A G:Gh}{x:SV}{v:Nat}(h:d6 k A x v)[GL A G]:d6 k G x v:=⟨h.d.up,h.lt⟩
def d6.len{k:Nat}{G:Gh}{x:SV}{v:Nat}(h:d6 k G x v):x.n=(dg v).length:=h.d.len
def d6.mono{k k':Nat}{G:Gh}{x:SV}{v:Nat}(h:d6 k G x v)(hk:v<2^k'):d6 k' G x v:=⟨h.d,hk⟩
section
variable {P:Program} {C:az} {n:Nat} {fr:Fr} {own own':List av} {G:Gh} {Φ:Act->World->Prop}
variable {dst:Option Nat} {t t' ty':TypeId} {pos:String} {af:Array Edge} {gd:Option (Nat×Bool)} {x y:Operand} {e s by_:Nat}
def e7{A:Gh}[hT:cA P t e 1 by_]{k:IntKind}{z:SV}{ds:List Nat}{i:Int}(hs:bw A z ds)(hx:aw fr x=some (.slice z.a z.n z.c))(hy:aw fr y=some (.int k i))(h0:0<=i)(h1:i<z.n):
  Yd P C fr own G ⟨dst, .indexAddr t x y,ty',pos,af,gd⟩ (.pointer (rx z.a (i.toNat*1))):=Lu hs.sl hx hy h0 h1
def e8{A:Gh}[hA:je P t]{z:SV}{ds:List Nat}{i:Nat}(hs:bw A z ds)[hl:GL A G](hx:aw fr x=some (.pointer (rx z.a (i*1))))(h1:i<ds.length):
  Yd P C fr own G ⟨dst, .load t x,ty',pos,af,gd⟩ (.int .u32 ((ds.getD i 0:Nat):Int)):=
 N9 hs.sl hx (by rw[fR,aZ h1,aJ,aZ h1];rfl) J
def IR{A:Gh}{z:SV}{ds:List Nat}(h:bw A z ds)[hl:GL A G]:mD P C own G 1 z.n (.slice z.a z.n z.c) (ds.map dI):=by
 intro w hw;by_cases hne:ds=[]
 ·rw[h.len]
  subst hne;exact sg w hw
 rcases h.sl.mem with h0|⟨b,off,cs,ha,hg,hc⟩
 ·exact absurd (by simpa using h0) hne
 ·rw[ha]
  have hn:=h.len;refine EY (hl.le _ _ hg) ?_ w hw;rw[iM];have hel: ∀i,i<ds.length->cs[off+i]? =some (dI (ds.getD i 0)):=fun i hi=>by
   have h1:=hc i (by simpa using hi);obtain⟨_,h2⟩:=lB _ _ _ _ h1;have h3:=h2 0 (by omega);rw[iM,cN] at h3;rw[h3,List.getElem_map,aJ,aZ hi];rfl
  by_cases h00:ds.length=0
  ·exact absurd h00 (fun e=>hne (bU e))
  ·have hlast:=hel (ds.length-1) (by omega)
   have hle:off+ds.length<=cs.length:=by
    have:=(bQ.1 hlast).1;omega
   rw[hn,jE _ _ _ hle];congr 1;apply kX;intro i;rw[oV];split
   ·rename_i hi
    rw[iR,hel i hi,fR,aJ,aZ hi];rfl
   ·rename_i hi
    rw[dS (by simpa using hi)]
def pc(n:Nat):di (.int .u32 0) n=(List.replicate n 0).map dI:=by
 unfold di
 induction n with
 |zero=>rfl
 |succ n ih=>rw[fL,jX,ih];rfl
def eE[hT:cA P t e s by_]{k:IntKind}{b len cap:Nat}{i:Int}(hx:aw fr x=some (.slice (some ⟨b,0,none⟩) len cap))(hy:aw fr y=some (.int k i))(h0:0<=i)(h1:i<len):
  Yd P C fr own G ⟨dst, .indexAddr t x y,ty',pos,af,gd⟩ (.pointer (some ⟨b,i.toNat*s,none⟩)):=by
 have:=s8 (P:=P) (C:=C) (own:=own) (G:=G) (t:=t) (dst:=dst) (ty':=ty') (pos:=pos) (af:=af) (gd:=gd) (by_:=by_) hx hy h0 h1;rwa [dV] at this
def mi[hA:je P t]{b i:Nat}{ws:List Nat}{ty:TypeId}{lo:Bool}(hx:aw fr x=some (.pointer (some ⟨b,i*1,none⟩)))[ho:gI own b (ws.map dI) ty lo](h1:i<ws.length):
  Yd P C fr own G ⟨dst, .load t x,ty',pos,af,gd⟩ (.int .u32 ((ws.getD i 0:Nat):Int)):=by
 rw[iM] at hx;refine Ax hx ?_;rw[fR,aZ h1,aJ,aZ h1];rfl
def iF{b i d:Nat}{ws:List Nat}{ty:TypeId}{lo:Bool}{v:Int}[hs:je P t](hx:aw fr x=some (.pointer (some ⟨b,i*1,none⟩)))(hy:aw fr y=some (.int .u32 v))(hv:v=(d:Int))
  (hu:f0 own b (ws.map dI) ty lo ((ws.set i d).map dI) own')(hi:i<ws.length)(hd:bG n dst=true)(h:St C n (put fr dst undef) own' G Φ):
  Ch P C n fr own G ⟨dst, .store t x y,ty',pos,af,gd⟩ Φ:=by
 rw[iM] at hx;have hu':f0 own b (ws.map dI) ty lo ((ws.map dI).set i (.int .u32 v)) own':=by
  rw[hv,<-show dI d= .int .u32 (d:Int) from J,<-oM];exact hu
 exact wH hx hy hu' (by simpa using hi) J hd h
def dl{p q:Int}(hx:aw fr x=some (.int .i64 p))(hy:aw fr y=some (.int .i64 q))(h0: -9223372036854775808<=p+q:=by omega)(h1:p+q<=9223372036854775807:=by omega):Yd P C fr own G ⟨dst, .binOp .add t x y t',ty',pos,af,gd⟩ (.int .i64 (p+q)):=Bh hx hy ⟨h0,h1⟩
def gg{p q:Int}(hx:aw fr x=some (.int .i64 p))(hy:aw fr y=some (.int .i64 q))(h0: -9223372036854775808<=p-q:=by omega)(h1:p-q<=9223372036854775807:=by omega):Yd P C fr own G ⟨dst, .binOp .sub t x y t',ty',pos,af,gd⟩ (.int .i64 (p-q)):=BE hx hy ⟨h0,h1⟩
def Ht{p q:Int}(hx:aw fr x=some (.int .i64 p))(hy:aw fr y=some (.int .i64 q))(h0: -9223372036854775808<=p*q)(h1:p*q<=9223372036854775807):Yd P C fr own G ⟨dst, .binOp .mul t x y t',ty',pos,af,gd⟩ (.int .i64 (p*q)):=CA hx hy ⟨h0,h1⟩
def mv{p q:Int}(hx:aw fr x=some (.int .u64 p))(hy:aw fr y=some (.int .u64 q))(h0:0<=p+q:=by omega)(h1:p+q<=18446744073709551615:=by omega):Yd P C fr own G ⟨dst, .binOp .add t x y t',ty',pos,af,gd⟩ (.int .u64 (p+q)):=Bh hx hy ⟨h0,h1⟩
def HK{p q:Int}(hx:aw fr x=some (.int .u64 p))(hy:aw fr y=some (.int .u64 q))(h0:0<=p-q)(h1:p-q<=18446744073709551615):Yd P C fr own G ⟨dst, .binOp .sub t x y t',ty',pos,af,gd⟩ (.int .u64 (p-q)):=BE hx hy ⟨h0,h1⟩
def Ar{p q:Int}(hx:aw fr x=some (.int .u64 p))(hy:aw fr y=some (.int .u64 q))(h0:0<=p*q)(h1:p*q<=18446744073709551615):Yd P C fr own G ⟨dst, .binOp .mul t x y t',ty',pos,af,gd⟩ (.int .u64 (p*q)):=CA hx hy ⟨h0,h1⟩
def i7{k k':IntKind}{p q:Int}(hx:aw fr x=some (.int k p))(hy:aw fr y=some (.int k' q))(h0:0<=q):Yd P C fr own G ⟨dst, .binOp .shr t x y t',ty',pos,af,gd⟩ (.int k (p.fdiv (2^min q.toNat k.bits))):=by
 intro a w hf hh;simp only[execOp,aO hf hx,aO hf hy];have h1:(eqGuard .shr t x y (.int k p) (.int k' q)).run P w= .ok () w:=J;have h2:(binOp .shr t (.int k p) (.int k' q)).run P w= .ok (.int k (p.fdiv (2^min q.toNat k.bits))) w:=by
  simp[binOp,Op.shift,Int.not_lt.2 h0,run_pure]
 exact cj (by rw[aE h1];exact h2)
def pB{k k':IntKind}{p q:Int}(hx:aw fr x=some (.int k p))(hy:aw fr y=some (.int k' q))(h0:0<=q):Yd P C fr own G ⟨dst, .binOp .shl t x y t',ty',pos,af,gd⟩ (.int k (k.wrap (p*2^min q.toNat k.bits))):=by
 intro a w hf hh;simp only[execOp,aO hf hx,aO hf hy];have h1:(eqGuard .shl t x y (.int k p) (.int k' q)).run P w= .ok () w:=J;have h2:(binOp .shl t (.int k p) (.int k' q)).run P w= .ok (.int k (k.wrap (p*2^min q.toNat k.bits))) w:=by
  simp[binOp,Op.shift,Int.not_lt.2 h0,run_pure]
 exact cj (by rw[aE h1];exact h2)
def eo{k:IntKind}{p:Int}[hs:ji P t k][hd:ji P t' .u64](hx:aw fr x=some (.int k p))(h0:0<=p:=by omega)(h1:p<=18446744073709551615:=by omega):Yd P C fr own G ⟨dst, .convert t t' x,ty',pos,af,gd⟩ (.int .u64 p):=yo hx ⟨h0,h1⟩
def DF{k:IntKind}{p:Int}[hs:ji P t k][hd:ji P t' .i64](hx:aw fr x=some (.int k p))(h0: -9223372036854775808<=p:=by omega)(h1:p<=9223372036854775807:=by omega):Yd P C fr own G ⟨dst, .convert t t' x,ty',pos,af,gd⟩ (.int .i64 p):=yo hx ⟨h0,h1⟩
def lE(p:Int):IntKind.u32.wrap p=p%4294967296:=by simp[IntKind.wrap,IntKind.bits,IntKind.signed]
def ju(p:Int):IntKind.u64.wrap p=p%18446744073709551616:=by simp[IntKind.wrap,IntKind.bits,IntKind.signed]
def gw{k:IntKind}{p:Int}[hs:ji P t k][hd:ji P t' .u32](hx:aw fr x=some (.int k p)):Yd P C fr own G ⟨dst, .convert t t' x,ty',pos,af,gd⟩ (.int .u32 (p%4294967296)):=by
 have:=wL (P:=P) (C:=C) (own:=own) (G:=G) (dst:=dst) (ty':=ty') (pos:=pos) (af:=af) (gd:=gd) (t:=t) (t':=t') hx;rwa [lE] at this
def sN{k:IntKind}{p q:Int}(hx:aw fr x=some (.int k p))(hy:aw fr y=some (.int k q))(h0:0<=p)(h:q≠0):Yd P C fr own G ⟨dst, .binOp .rem t x y t',ty',pos,af,gd⟩ (.int k (p%q)):=by
 have:=GZ (P:=P) (C:=C) (own:=own) (G:=G) (dst:=dst) (ty':=ty') (pos:=pos) (af:=af) (gd:=gd) (t:=t) (t':=t') hx hy h;rwa [Int.tmod_eq_emod_of_nonneg h0] at this
def r5{p q:Int}(hx:aw fr x=some (.int .u64 p))(hy:aw fr y=some (.int .u64 q))(h0:0<=p)(h1:p<=18446744073709551615)(h:0<q):Yd P C fr own G ⟨dst, .binOp .quo t x y t',ty',pos,af,gd⟩ (.int .u64 (p/q)):=by
 have:=F' (P:=P) (C:=C) (own:=own) (G:=G) (dst:=dst) (ty':=ty') (pos:=pos) (af:=af) (gd:=gd) (t:=t) (t':=t') hx hy (by omega);rw[Int.tdiv_eq_ediv_of_nonneg h0,ju,Int.emod_eq_of_lt (Int.ediv_nonneg h0 (by omega)) (by have:=Int.ediv_le_self q h0;omega)] at this;exact this
def iO{Q:Exit->Act->World->Prop}{p:Prop}{inst:Decidable p}{c:Operand}{x y:Code}(hc:aw fr c=some (.bool (@decide p inst)))(h2: ¬p->St C n fr own G (y.wp P Q))(h1:p->St C n fr own G (x.wp P Q)):
  St C n fr own G ((Code.cond c x y).wp P Q):=fk hc h1 h2
end
section
variable {P:Program} {C:az} {n:Nat} {fr:Fr} {own own' own1:List av} {G:Gh} {Φ:Act->World->Prop}
variable {dst:Option Nat} {t t' ty':TypeId} {pos:String} {af:Array Edge} {gd:Option (Nat×Bool)} {x y:Operand} {e s by_:Nat}
end
instance jr.cons2 (l m:List av) (o:av) [h:jr l m]:jr (o::l) (o::m):=⟨h.s.cons_cons o⟩
def aF(vs:List Value):List Value:=(vs.map aG).flatten
def fh{s:Nat}: ∀(vs:List Value),(∀v∈vs,(aG v).length=s)->(aF vs).length=vs.length*s
 |[],_=>by simp[aF]
 |v::vs,h=>by
  have h1:=fh vs (fun u hu=>h u (aV _ hu));have h2:=h v aQ;unfold aF at*;simp only[cZ,jX,aT,bN,h1,h2,gS];omega
def mO(us vs:List Value):aF (us++vs)=aF us++aF vs:=by simp[aF]
def Hz(v:Value):aF [v]=aG v:=by simp[aF]
def AE{s:Nat}: ∀(vs:List Value) (i:Nat),(∀v∈vs,(aG v).length=s)->i<=vs.length->(aF vs).take (i*s)=aF (vs.take i)
 |vs,0,_,_=>by simp[aF]
 |[],i+1,_,h=>by simp at h
 |v::vs,i+1,h,hi=>by
  have h1:=AE vs i (fun u hu=>h u (aV _ hu)) (by simpa using hi);have h2:=h v aQ;unfold aF at*;simp only[cZ,jX,lS];rw[List.take_append,h2,aU (by rw[h2,gS];omega),gS,jY,h1]
def zi{s:Nat}: ∀(vs:List Value) (i:Nat),(∀v∈vs,(aG v).length=s)->i<=vs.length->(aF vs).drop (i*s)=aF (vs.drop i)
 |vs,0,_,_=>by simp
 |[],i+1,_,h=>by simp at h
 |v::vs,i+1,h,hi=>by
  have h1:=zi vs i (fun u hu=>h u (aV _ hu)) (by simpa using hi);have h2:=h v aQ;unfold aF at*;simp only[cZ,jX,qK];rw[List.drop_append,h2,oS (by rw[h2,gS];omega),gS,jY,h1,jW]
def CF{s:Nat}{vs rest:List Value}(h: ∀v∈vs,(aG v).length=s){i:Nat}(hi:i<vs.length):bH (aF vs++rest) (i*s) s=some (aG vs[i]):=by
 have hl:=fh vs h;have hle:i*s+s<=vs.length*s:=by rw[<-gS];exact bX _ hi
 rw[jE _ _ _ (by simp only[aT];omega)];congr 1;rw[iK (by omega),zi vs i h (by omega),bM hi];have h2:=h vs[i] (jU hi);rw[show(vs[i]::vs.drop (i+1))=[vs[i]]++vs.drop (i+1) from J,mO,Hz,fJ,fU (by omega),aU (by omega)]
def dG.of_flat{G:Gh}{b c s:Nat}{vs rest:List Value}(h: ∀v∈vs,(aG v).length=s)(hg:G b=some (aF vs++rest))(hc:vs.length<=c):dG G s ⟨some ⟨b,0,none⟩,vs.length,c⟩ vs:=
 ⟨J,hc, .inr ⟨b,0,_,J,hg,fun i hi=>by rw[dV];exact CF h hi⟩⟩
section
variable {P:Program} {C:az} {n:Nat} {fr:Fr} {own own':List av} {G:Gh} {Φ:Act->World->Prop}
variable {dst:Option Nat} {ty':TypeId} {pos:String} {af:Array Edge} {gd:Option (Nat×Bool)} {x y:Operand} {tys:Array TypeId}
end
section
variable {P:Program} {ops:Array Oper} {Q:Exit->Act->World->Prop} {S:World->Prop} {fin:Nat->Bool} {π₂:List (Nat×Bool)}
def iE(l:List Nat)(k:Nat):List Nat:=l.filter fun j=>!Nat.beq j k
def zo{l:List Nat}{k:Nat}(h:k∈l):(iE l k).length<l.length:=by
 unfold iE;rw[List.length_filter_lt_length_iff_exists];exact⟨k,h,by simp⟩
def tG(ops:Array Oper)(fin:Nat->Bool)(π₂:List (Nat×Bool)):Nat->List Nat->List (Nat×Bool)->Array Bool->Bool
 |0,_,_,_=>false
 |_+1,[],[],listed=>nk ops fin π₂ listed
 |n+1,k::ks,[],listed=>!(Region.ready .any ops listed).isEmpty&&(Region.ready .any ops listed).all (fun j=>(k::ks).contains j)&&(k::ks).all fun j=>tG ops fin π₂ n (iE (k::ks) j) [] (listed.setIfInBounds j true)
 |n+1,ks,(i,true)::r,listed=>r9 ops fin listed i&&tG ops fin π₂ n ks r (listed.setIfInBounds i true)
 |n+1,ks,(i,false)::r,listed=>!(Region.ready .any ops listed).isEmpty&&(Region.ready .any ops listed).all (fun j=>Nat.beq j i||ks.contains j)&&tG ops fin π₂ n ks r (listed.setIfInBounds i true)&&ks.all fun j=>tG ops fin π₂ n (iE ks j) ((i,false)::r) (listed.setIfInBounds j true)
def uw(P:Program)(ops:Array Oper)(Q:Exit->Act->World->Prop)(S:World->Prop)(fin:Nat->Bool)(π₂:List (Nat×Bool)):List Nat->List (Nat×Bool)->Act->World->Prop
 |[],[],a,w=>ip P ops Q S fin π₂ a w
 |k::ks,[],a,w=> ∀j,(h:j∈k::ks)->wpOp P ops Q j (fun a' w'=>(fin j=true\/S w')/\uw P ops Q S fin π₂ (iE (k::ks) j) [] a' w') a w
 |ks,(i,true)::r,a,w=> ∃o v,ops[i]? =some o/\S w/\YieldsIf P ops S o v a/\uw P ops Q S fin π₂ ks r (a.put o.dst v) w
 |ks,(i,false)::r,a,w=>wpOp P ops Q i (fun a' w'=>(fin i=true\/S w')/\uw P ops Q S fin π₂ ks r a' w') a w/\
   ∀j,(h:j∈ks)->wpOp P ops Q j (fun a' w'=>(fin j=true\/S w')/\uw P ops Q S fin π₂ (iE ks j) ((i,false)::r) a' w') a w
termination_by ks π=>ks.length+π.length
decreasing_by
 all_goals (first|(have:=zo h;simp only[bN,iU] at*;omega)|(simp only[bN];omega))
end
structure FD where
 k:Nat
 d:Nat
 t:TypeId
 z:Value
abbrev Fs:=Nat->Option Nat
def yr:List FD->Fs->Fr
 |[],_=>[]
 |f::r,fs=>fF f.d (fs f.k)++yr r fs
def y8:List FD->Fs->List av
 |[],_=>[]
 |f::r,fs=>fO f.t f.z (fs f.k)++y8 r fs
def Bx(fd:List FD)(fs:Fs):List Nat:=(fd.filter fun f=>(fs f.k).isNone).map (·.k)
def VY(fs:Fs)(k b:Nat):Fs:=fun j=>if j=k then some b else fs j
structure Uv (P:Program) (ops:Array Oper) (n:Nat) (fd:List FD):Prop where
 op: ∀f∈fd,∃ty' pos af,ops[f.k]? =some ⟨some f.d, .alloc f.t,ty',pos,af,none⟩/\bG n (some f.d)=true
 z: ∀f∈fd,gy P f.t f.z
 nd:(fd.map (·.k)).Nodup
 dd: ∀f∈fd,∀g∈fd,f.d=g.d->f.k=g.k
section
variable {P:Program} {C:az} {n:Nat} {fr:Fr} {own own0:List av} {G G0:Gh} {ops:Array Oper} {Q:Exit->Act->World->Prop} {fin:Nat->Bool} {π π₂:List (Nat×Bool)} {fd:List FD}
def Ws(P:Program)(ops:Array Oper)(Q:Exit->Act->World->Prop)(S:World->Prop)(fin:Nat->Bool)(π₂:List (Nat×Bool))(fd:List FD)(fs:Fs)(π:List (Nat×Bool)):Act->World->Prop:=uw P ops Q S fin π₂ (Bx fd fs) π
end
def jd(s:Nat)(ty:TypeId)(x:SV)(vs:List Value)(B:List av):Prop:=
 (vs=[]/\x=⟨none,0,0⟩/\B=[])\/
 ∃b rest lo,x=⟨some ⟨b,0,none⟩,vs.length,x.c⟩/\B=[⟨b,aF vs++rest,ty,lo⟩]/\(aF vs).length=vs.length*s/\(aF vs).length+rest.length=x.c*s/\vs.length<=x.c
def jd.relo{s:Nat}{ty:TypeId}{x:SV}{vs:List Value}{B:List av}(h:jd s ty x vs B)(fl:Nat->Bool):jd s ty x vs (B.map (Go.Sx.relo fl)):=by
 rcases h with⟨h1,h2,h3⟩|⟨b,rest,lo,h1,h2,h3,h4,h5⟩
 ·exact .inl ⟨h1,h2,by rw[h3];rfl⟩
 ·exact .inr ⟨b,rest,fl b,h1,by rw[h2];rfl,h3,h4,h5⟩
def jd.asB{s:Nat}{ty:TypeId}{x:SV}{vs:List Value}{B:List av}(h:jd s ty x vs B):jd s ty x vs (asB B):=by
 rcases h with⟨h1,h2,h3⟩|⟨b,rest,lo,h1,h2,h3,h4,h5⟩
 ·exact .inl ⟨h1,h2,by rw[h3];rfl⟩
 ·exact .inr ⟨b,rest,false,h1,by rw[h2];rfl,h3,h4,h5⟩
def jd.len{s:Nat}{ty:TypeId}{x:SV}{vs:List Value}{B:List av}(h:jd s ty x vs B):x.n=vs.length:=by
 rcases h with⟨h1,h2,h3⟩|⟨b,rest,lo,h1,h2,h3,h4,h5⟩
 ·rw[h2,h1];rfl
 ·rw[h1]
def BF{M:List av}(b:Nat)(h: ∀m∈M,m.lo=true):gA M b=true:=by
 refine dR.2 fun m hm=>?_;simp[h m hm]
section
variable {P:Program} {C:az} {n:Nat} {fr:Fr} {own own':List av} {G:Gh} {Φ:Act->World->Prop}
variable {dst:Option Nat} {t t' ty':TypeId} {pos:String} {af:Array Edge} {gd:Option (Nat×Bool)} {x y:Operand} {e s by_:Nat}
end
instance jr.nil (l:List av):jr [] l:=⟨lL l⟩
end Go.Sx
end
