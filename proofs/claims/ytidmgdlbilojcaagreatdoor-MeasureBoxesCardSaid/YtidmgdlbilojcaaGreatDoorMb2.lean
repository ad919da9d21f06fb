import Derived.Test.YtidmgdlbilojcaaGreatDoorMb1
import Derived.Test.YtidmgdlbilojcaaGreatDoorProg
import Derived.Shelf.Small.Bits
import Derived.Shelf.Strconv.Itoa0
import Derived.Shelf.Bits.Mul64
set_option linter.all false
set_option maxRecDepth 100000
section
namespace Go.Sx
open Go
def T2{P:Program}{t:TypeId}{d:TypeDesc}(h:P.underlying t=some d)(w:World):(underlying t).run P w= .ok d w:=by
 simp[underlying,program,Sem.run_bind,Sem.run,h,run_pure]
class IX (P:Program) (t:TypeId):Prop where u: ∀w,(underlying t).run P w= .ok .bool w
class J2 (P:Program) (t:TypeId):Prop where u: ∃e,∀w,(underlying t).run P w= .ok (.pointer e) w
class Kz (P:Program) (t:TypeId):Prop where u: ∃ms,∀w,(underlying t).run P w= .ok (.interface ms) w
class Hl (P:Program) (t:TypeId) (f:Nat) (off ft:outParam Nat):Prop where
 u: ∃fs fd,(∀w,(underlying t).run P w= .ok (.struct fs) w)/\fs[f]? =some fd/\fd.offset=off/\fd.type=ft
class lj (P:Program) (t:TypeId):Prop where
 un: ∃e,P.underlying t=some (.slice e)
section
variable {P:Program} {C:aB} {n:Nat} {fr:Fr} {own own':List av} {G:Gh} {Φ:Act->World->Prop}
variable {dst:Option Nat} {t t' ty':TypeId} {pos:String} {af:Array Edge} {gd:Option (Nat×Bool)} {x y:Operand}
def r7{w:World}{p q:Value}{b:Bool}(h:(Op.equalIn (9999+1) t p q).run P w= .ok b w):(Op.equal t p q).run P w= .ok b w:=h
def Vw[hT:IX P t]{p q:Bool}(hx:ax fr x=some (.bool p))(hy:ax fr y=some (.bool q)):Yd P C fr own G ⟨dst, .binOp .eql t x y t',ty',pos,af,gd⟩ (.bool (p==q)):=by
 intro a w hf hh;simp only[execOp,bc hf hx,bc hf hy];have h1:(Op.equal t (.bool p) (.bool q)).run P w= .ok (p==q) w:=r7 (by unfold Op.equalIn;rw[aG (hT.u w)];rfl);have h2:(eqGuard .eql t x y (.bool p) (.bool q)).run P w= .ok () w:=J;have h3:(binOp .eql t (.bool p) (.bool q)).run P w= .ok (.bool (p==q)) w:=by simp only[binOp];rw[aG h1];rfl
 exact cO (by rw[aG h2];exact h3)
def aD4[hT:IX P t]{p q:Bool}(hx:ax fr x=some (.bool p))(hy:ax fr y=some (.bool q)):Yd P C fr own G ⟨dst, .binOp .neq t x y t',ty',pos,af,gd⟩ (.bool (!(p==q))):=by
 intro a w hf hh;simp only[execOp,bc hf hx,bc hf hy];have h1:(Op.equal t (.bool p) (.bool q)).run P w= .ok (p==q) w:=r7 (by unfold Op.equalIn;rw[aG (hT.u w)];rfl);have h2:(eqGuard .neq t x y (.bool p) (.bool q)).run P w= .ok () w:=J;have h3:(binOp .neq t (.bool p) (.bool q)).run P w= .ok (.bool (!(p==q))) w:=by simp only[binOp];rw[aG h1];rfl
 exact cO (by rw[aG h2];exact h3)
def Dq[hT:J2 P t]{p:Option Addr}(hx:ax fr x=some (.pointer p))(hy:ax fr y=some (.pointer none)):Yd P C fr own G ⟨dst, .binOp .eql t x y t',ty',pos,af,gd⟩ (.bool p.isNone):=by
 obtain⟨e,he⟩:=hT.u;intro a w hf hh;simp only[execOp,bc hf hx,bc hf hy];have h1:(Op.equal t (.pointer p) (.pointer none)).run P w= .ok p.isNone w:=r7 (by unfold Op.equalIn;rw[aG (he w)];cases p<;>rfl);have h2:(eqGuard .eql t x y (.pointer p) (.pointer none)).run P w= .ok () w:=by cases p<;>rfl
 have h3:(binOp .eql t (.pointer p) (.pointer none)).run P w= .ok (.bool p.isNone) w:=by cases p<;>(simp only[binOp];rw[aG h1];rfl)
 exact cO (by rw[aG h2];exact h3)
def F1[hT:J2 P t]{p:Option Addr}(hx:ax fr x=some (.pointer p))(hy:ax fr y=some (.pointer none)):Yd P C fr own G ⟨dst, .binOp .neq t x y t',ty',pos,af,gd⟩ (.bool (!p.isNone)):=by
 obtain⟨e,he⟩:=hT.u;intro a w hf hh;simp only[execOp,bc hf hx,bc hf hy];have h1:(Op.equal t (.pointer p) (.pointer none)).run P w= .ok p.isNone w:=r7 (by unfold Op.equalIn;rw[aG (he w)];cases p<;>rfl);have h2:(eqGuard .neq t x y (.pointer p) (.pointer none)).run P w= .ok () w:=by cases p<;>rfl
 have h3:(binOp .neq t (.pointer p) (.pointer none)).run P w= .ok (.bool (!p.isNone)) w:=by cases p<;>(simp only[binOp];rw[aG h1];rfl)
 exact cO (by rw[aG h2];exact h3)
def Rw{v:Value}[hT:Kz P t](hv:v= .nilIface\/ ∃k u,v= .iface k u)(hx:ax fr x=some v):
  Yd P C fr own G ⟨dst, .binOp .eql t x (.const .nilIface) t',ty',pos,af,gd⟩ (.bool (match v with| .nilIface=>true|_=>false)):=by
 obtain⟨e,he⟩:=hT.u;intro a w hf hh;simp only[execOp,bc hf hx,show a.eval (.const .nilIface)= .nilIface from J];rcases hv with rfl|⟨k,u,rfl⟩
 ·have h1:(Op.equal t .nilIface .nilIface).run P w= .ok true w:=r7 (by unfold Op.equalIn;rw[aG (he w)];rfl)
  have h2:(eqGuard .eql t x (.const .nilIface) .nilIface .nilIface).run P w= .ok () w:=by cases x<;>rfl
  exact cO (by rw[aG h2];simp only[binOp];rw[aG h1];rfl)
 ·have h1:(Op.equal t (.iface k u) .nilIface).run P w= .ok false w:=r7 (by unfold Op.equalIn;rw[aG (he w)];rfl)
  exact cO (by rw[aG (a:=()) (w':=w) J];simp only[binOp];rw[aG h1];rfl)
def QN{v:Value}[hT:Kz P t](hv:v= .nilIface\/ ∃k u,v= .iface k u)(hx:ax fr x=some v):
  Yd P C fr own G ⟨dst, .binOp .neq t x (.const .nilIface) t',ty',pos,af,gd⟩ (.bool (match v with| .nilIface=>false|_=>true)):=by
 obtain⟨e,he⟩:=hT.u;intro a w hf hh;simp only[execOp,bc hf hx,show a.eval (.const .nilIface)= .nilIface from J];rcases hv with rfl|⟨k,u,rfl⟩
 ·have h1:(Op.equal t .nilIface .nilIface).run P w= .ok true w:=r7 (by unfold Op.equalIn;rw[aG (he w)];rfl)
  have h2:(eqGuard .neq t x (.const .nilIface) .nilIface .nilIface).run P w= .ok () w:=by cases x<;>rfl
  exact cO (by rw[aG h2];simp only[binOp];rw[aG h1];rfl)
 ·have h1:(Op.equal t (.iface k u) .nilIface).run P w= .ok false w:=r7 (by unfold Op.equalIn;rw[aG (he w)];rfl)
  exact cO (by rw[aG (a:=()) (w':=w) J];simp only[binOp];rw[aG h1];rfl)
def Yi{cs l:List Value}{f off ft k:Nat}[hF:Hl P t f off ft][hA:lu P ft k](hx:ax fr x=some (.agg ⟨cs⟩))(hl:cE cs off k=some l):Yd P C fr own G ⟨dst, .field t x f,ty',pos,af,gd⟩ (.agg ⟨l⟩):=by
 obtain⟨fs,fd,h1,h2,h3,h4⟩:=hF.u;intro a w hf hh;simp only[execOp,bc hf hx];have:(Instr.field t (.agg ⟨cs⟩) f).run P w= .ok (.agg ⟨l⟩) w:=by
  unfold Instr.field;rw[aG (h1 w)];simp only[h2,h3,h4,asAgg];rw[aG (run_pure _ _ _)];unfold part;rw[aG (hA.agg w)];simp only[if_true];rw[aG (hA.siz w)];obtain⟨k1,k2⟩:=pi _ _ _ _ hl;have:(⟨cs⟩:Array Value).extract off (off+k)=⟨l⟩:=by
   apply Array.ext';rw[Array.toList_extract];apply jW;intro i;rw[List.extract_eq_take_drop,pW];split
   ·rw[lM];exact k2 i (by omega)
   ·exact(cM (show l.length<=i by omega)).symm
  rw[this];rfl
 exact cO this
def awB{cs:List Value}{f off ft:Nat}{v:Value}[hF:Hl P t f off ft][hA:jl P ft](hx:ax fr x=some (.agg ⟨cs⟩))(hl:cs[off]? =some v):Yd P C fr own G ⟨dst, .field t x f,ty',pos,af,gd⟩ v:=by
 obtain⟨fs,fd,h1,h2,h3,h4⟩:=hF.u;intro a w hf hh;simp only[execOp,bc hf hx];have:(Instr.field t (.agg ⟨cs⟩) f).run P w= .ok v w:=by
  unfold Instr.field;rw[aG (h1 w)];simp only[h2,h3,h4,asAgg];rw[aG (run_pure _ _ _)];unfold part;rw[aG (hA.agg w)];have:(⟨cs⟩:Array Value)[off]? =some v:=by simpa using hl
  simp only[jT,if_false,this];rfl
 exact cO this
class KC (P:Program) (t:TypeId) (offs:outParam (List (Nat×Nat))):Prop where
 u: ∃fs:Array Field,(∀w,(underlying t).run P w= .ok (.struct fs) w)/\(∀w,(fs.mapM (m:=Sem) fun f=>do pure (f.offset,<-sizeOf f.type)).run P w= .ok ⟨offs⟩ w)
def uY(fr:Fr)(offs:List (Nat×Nat)):List Value->List (Nat×Operand)->Option (List Value)
 |cs,[]=>some cs
 |cs,(i,x)::r=>match offs[i]?,ax fr x with
  |some (off,k),some v=>if(aD v).length=k/\off+k<=cs.length then uY fr offs (cC cs off (aD v)) r else none
  |_,_=>none
def Hc: ∀(vs:List Value) (cs:Array Value) (off j:Nat),(vs.zipIdx j).foldl (fun cs (c,j)=>cs.setIfInBounds (off+j) c) cs=⟨cC cs.toList (off+j) vs⟩
 |[],cs,off,j=>rfl
 |v::vs,cs,off,j=>by
  simp only[List.zipIdx_cons,jZ];rw[Hc vs _ off (j+1)];simp[cC,kK]
def JU{a:Act}(hf:l7 fr a)(offs:List (Nat×Nat)): ∀(ps:List (Nat×Operand)) (cs out:List Value),uY fr offs cs ps=some out->
  Instr.fill ((⟨offs⟩:Array (Nat×Nat))[·]?) ⟨cs⟩ (ps.map fun(i,x)=>(i,a.eval x))=some ⟨out⟩
 |[],cs,out,h=>by simp only[uY] at h;cases h;rfl
 |(i,x)::ps,cs,out,h=>by
  simp only[uY] at h;split at h
  ·rename_i off k v ho hv
   split at h
   ·rename_i hc
    simp only[cK,Instr.fill];have:(⟨offs⟩:Array (Nat×Nat))[i]? =some (off,k):=by simpa using ho
    simp only[this,bc hf hv,qI];have h1: ¬((⟨aD v⟩:Array Value).size≠k):=by simp[hc.1]
    have h2: ¬(off+(⟨aD v⟩:Array Value).size>(⟨cs⟩:Array Value).size):=by simp only[oQ,hc.1];omega
    rw[if_neg (by simp only[iV,decide_eq_true_eq,not_or];exact⟨by simpa using h1,by simpa using h2⟩)];have e:=Hc (aD v) ⟨cs⟩ off 0;have e':(⟨aD v⟩:Array Value).zipIdx.foldl (fun cs (c,j)=>cs.setIfInBounds (off+j) c) (⟨cs⟩:Array Value)=⟨cC cs off (aD v)⟩:=by
     rw[<-Array.foldl_toList,Array.toList_zipIdx];simpa using e
    rw[e'];exact JU hf offs ps _ _ h
   ·cases h
  ·cases h
def Jn{parts:Array (Nat×Operand)}{offs:List (Nat×Nat)}{z:Value}{out:List Value}[hT:KC P t offs][hz:iu P t z](hb:uY fr offs (aD z) parts.toList=some out):Yd P C fr own G ⟨dst, .build t parts,ty',pos,af,gd⟩ (.agg ⟨out⟩):=by
 obtain⟨fs,h1,h2⟩:=hT.u;intro a w hf hh;simp only[execOp];have:(Instr.build t (parts.map fun(i,x)=>(i,a.eval x))).run P w= .ok (.agg ⟨out⟩) w:=by
  unfold Instr.build;rw[aG (hz.zero w),qI];rw[aG (h1 w)];simp only[];rw[aG (h2 w)];have:=JU hf offs parts.toList _ _ hb;simp only[pQ,this];rfl
 exact cO this
end
def dm(z:Value)(k:Nat):List Value:=(List.replicate k (aD z)).flatten
def Hx{α:Type}(l:List α): ∀(k i:Nat),i<k*l.length->(List.replicate k l).flatten[i]? =l[i%l.length]?
 |0,i,h=>by omega
 |k+1,i,h=>by
  rw[iN,lV];by_cases hi:i<l.length
  ·rw[cN hi,eX hi]
  ·rw[fM (by omega),Hx l k (i-l.length) (by rw[cS] at h;omega)]
   rw[Nat.mod_eq_sub_mod (Nat.ge_of_not_lt hi)]
def pD(z:Value)(k:Nat):(dm z k).length=k*(aD z).length:=by simp[dm]
def EB{z:Value}{k m:Nat}(h:m=k*(aD z).length):((Array.range m).map fun i=>(⟨aD z⟩:Array Value)[i%(⟨aD z⟩:Array Value).size]!)=⟨dm z k⟩:=by
 subst h;apply Array.ext';apply jW;intro i;simp only[pQ,Array.toList_range,cV,oQ];by_cases hi:i<k*(aD z).length
 ·rw[oR hi]
  simp only[jR];have h1:=Hx (aD z) k i hi;have hpos:0<(aD z).length:=by
   rcases fX (aD z).length with h|h
   ·rw[h,qZ] at hi;omega
   ·exact h
  have hm:=dX i hpos;show _=(dm z k)[i]?;unfold dm;rw[h1];simp[hm]
 ·rw[cM (by simpa using hi)]
  rw[cM (by show(dm z k).length<=i;rw[pD];omega)];rfl
section
variable {P:Program} {C:aB} {n:Nat} {fr:Fr} {own own':List av} {G:Gh} {Φ:Act->World->Prop}
variable {dst:Option Nat} {t t' ty':TypeId} {pos:String} {af:Array Edge} {gd:Option (Nat×Bool)} {x y:Operand} {e s by_:Nat}
def Pn[hT:cv P t e s by_](w:World): ∃i:TypeInfo,(typeInfo e).run P w= .ok i w/\i.bytes=by_:=by
 obtain⟨i,h1,_,h2⟩:=hT.info;exact⟨i,by simp[typeInfo,program,Sem.run_bind,Sem.run,h1,run_pure],h2⟩
def t6[hT:cv P t e s by_]{z:Value}[hz:iu P e z]{k k':IntKind}{l:Int}(hx:ax fr x=some (.int k l))(hy:ax fr y=some (.int k' l))(h0:0<=l)(hb:by_*l<=2^47)(hl:l<=2^60)(hs:(aD z).length=s)(hd:b8 n dst=true)
  (h: ∀b,St C n (put fr dst (.slice (some ⟨b,0,none⟩) l.toNat l.toNat)) (⟨b,dm z l.toNat,e,true⟩::own) G Φ):
  Ch P C n fr own G ⟨dst, .makeSlice t x y,ty',pos,af,gd⟩ Φ:=by
 intro a w Q rl;have h1:(Instr.makeSlice t (a.eval x) (a.eval y)).run P w= .ok (.slice (some ⟨w.heap.size,0,none⟩) l.toNat l.toNat) (w.alloc (.cells ⟨dm z l.toNat⟩ e)):=by
  obtain⟨i,hi,hib⟩:=Pn (P:=P) (t:=t) (e:=e) (s:=s) (by_:=by_) w;rw[bc rl.fr hx,bc rl.fr hy];unfold Instr.makeSlice;rw[aG (hT.u w)];simp only[asInt,asIntOf];rw[aG (a:=l) (w':=w) J,aG (a:=l) (w':=w) J,aG hi,hib];have hw:IntKind.i64.wrap l=l:=ud (by simp[IntKind.min,IntKind.max,IntKind.signed,IntKind.bits];omega);simp only[hw];have c1: ¬((by_:Int)*l>2^48):=by
   have:(2:Int)^47<=2^48:=by decide
   omega
  have c2:(decide (l<0)||decide ((by_:Int)*l>2^48))=false:=by simp[c1];omega
  simp only[c2,Int.lt_irrefl,decide_false,Bool.or_false,Bool.false_or];have c3:decide (l<0)=false:=by simp;omega
  simp only[c3,jT,if_false,gt_iff_lt,Int.lt_irrefl,decide_false,Bool.or_false];have hr: ¬(l.toNat*by_>roomBytes):=by
   unfold roomBytes;have:((l.toNat*by_:Nat):Int)=by_*l:=by rw[jX,qY h0,Int.mul_comm]
   have h47:((2^47:Nat):Int)=2^47:=by decide
   omega
  unfold askRoom;simp only[hr,if_false];rw[aG (run_pure _ _ _),aG (hT.siz w)];have hn:l.toNat*s=l.toNat*(aD z).length:=by rw[hs]
  by_cases h00:l.toNat*s=0
  ·rw[if_pos h00,aG (run_pure _ _ _)]
   have e0:dm z l.toNat=[]:=bU (by rw[pD,hs];exact h00);rw[h00,e0,show(Array.range 0)= #[] from J,Array.map_empty];rfl
  ·rw[if_neg h00,aG (hz.zero w),qI]
   rw[aG (run_pure _ _ _),EB hn];rfl
 refine(fun hk=>?_:Φ (a.put dst (.slice (some ⟨w.heap.size,0,none⟩) l.toNat l.toNat)) (w.alloc (.cells ⟨dm z l.toNat⟩ e))->_) (h w.heap.size _ _ ((rl.heap (rl.h.alloc _ _)).put _ hd));exact kA (v:= .slice (some ⟨w.heap.size,0,none⟩) l.toNat l.toNat) (cO h1) hk
end
section
variable {P:Program} {C:aB} {n:Nat} {fr:Fr} {own own':List av} {G:Gh} {Φ:Act->World->Prop}
variable {dst:Option Nat} {t t' ty':TypeId} {pos:String} {af:Array Edge} {gd:Option (Nat×Bool)} {x y:Operand} {e s by_:Nat}
def vE(fr:Fr)(s:Nat):List Value->List (Nat×Operand)->Option (List Value)
 |cs,[]=>some cs
 |cs,(i,x)::r=>match ax fr x with
  |some v=>if(aD v).length=s/\i*s+s<=cs.length then vE fr s (cC cs (i*s) (aD v)) r else none
  |none=>none
def K6{a:Act}(hf:l7 fr a)(s:Nat): ∀(ps:List (Nat×Operand)) (cs out:List Value),vE fr s cs ps=some out->
  Instr.fill (fun i=>some (i*s,s)) ⟨cs⟩ (ps.map fun(i,x)=>(i,a.eval x))=some ⟨out⟩
 |[],cs,out,h=>by simp only[vE] at h;cases h;rfl
 |(i,x)::ps,cs,out,h=>by
  simp only[vE] at h;split at h
  ·rename_i v hv
   split at h
   ·rename_i hc
    simp only[cK,Instr.fill,bc hf hv,qI];have h1: ¬((⟨aD v⟩:Array Value).size≠s):=by simp[hc.1]
    have h2: ¬(i*s+(⟨aD v⟩:Array Value).size>(⟨cs⟩:Array Value).size):=by simp only[oQ,hc.1];omega
    rw[if_neg (by simp only[iV,decide_eq_true_eq,not_or];exact⟨by simpa using h1,by simpa using h2⟩)];have e:=Hc (aD v) ⟨cs⟩ (i*s) 0;have e':(⟨aD v⟩:Array Value).zipIdx.foldl (fun cs (c,j)=>cs.setIfInBounds (i*s+j) c) (⟨cs⟩:Array Value)=⟨cC cs (i*s) (aD v)⟩:=by
     rw[<-Array.foldl_toList,Array.toList_zipIdx];simpa using e
    rw[e'];exact K6 hf s ps _ _ h
   ·cases h
  ·cases h
def Ik[hT:cv P t e s by_]{z:Value}[hz:iu P e z]{len:Nat}{parts:Array (Nat×Operand)}{out:List Value}(hs:(aD z).length=s)(hb:vE fr s (dm z len) parts.toList=some out)(hsm:Nat.ble (len*s) 1000=true)(hs0:Nat.blt 0 (len*s)=true)(hd:b8 n dst=true)
  (h: ∀b,St C n (put fr dst (.slice (some ⟨b,0,none⟩) len len)) (⟨b,out,e,true⟩::own) G Φ):
  Ch P C n fr own G ⟨dst, .buildSlice t len parts,ty',pos,af,gd⟩ Φ:=by
 intro a w Q rl;have hsm':len*s<=1000:=by simpa using hsm
 have hs0':0<len*s:=by simpa[mU] using hs0
 have h1:(Instr.buildSlice t len (parts.map fun(i,x)=>(i,a.eval x))).run P w= .ok (.slice (some ⟨w.heap.size,0,none⟩) len len) (w.alloc (.cells ⟨out⟩ e)):=by
  unfold Instr.buildSlice;rw[aG (hT.u w)];simp only[];rw[aG (hT.siz w)];have c1: ¬(len*s>2^24):=by omega
  have c2: ¬(len*s=0):=by omega
  simp only[c1,if_false];rw[if_neg c2,aG (hz.zero w),qI,aG (run_pure _ _ _)];rw[EB (k:=len) (by rw[hs])];have hf:=K6 rl.fr s parts.toList _ _ hb;simp only[pQ,hf];rfl
 refine kA (v:= .slice (some ⟨w.heap.size,0,none⟩) len len) (w':=w.alloc (.cells ⟨out⟩ e)) ?_ (h w.heap.size _ _ ((rl.heap (rl.h.alloc _ _)).put _ hd));simp only[execOp];exact cO h1
def RD[hT:cv P t e s by_](hd:b8 n dst=true)(h: ∀b,St C n (put fr dst (.slice (some ⟨b,0,none⟩) 0 0)) (⟨b,[],e,true⟩::own) G Φ):
  Ch P C n fr own G ⟨dst, .buildSlice t 0 #[],ty',pos,af,gd⟩ Φ:=by
 intro a w Q rl;have h1:(Instr.buildSlice t 0 #[]).run P w= .ok (.slice (some ⟨w.heap.size,0,none⟩) 0 0) (w.alloc (.cells ⟨[]⟩ e)):=by
  unfold Instr.buildSlice;rw[aG (hT.u w)];simp only[];rw[aG (hT.siz w)];simp only[mQ,gt_iff_lt,Nat.not_lt_zero,if_false,if_true];rw[aG (run_pure _ _ _),show(Array.range 0)= #[] from J,Array.map_empty];rfl
 refine kA (v:= .slice (some ⟨w.heap.size,0,none⟩) 0 0) (w':=w.alloc (.cells ⟨[]⟩ e)) ?_ (h w.heap.size _ _ ((rl.heap (rl.h.alloc _ _)).put _ hd));simp only[execOp,gM,kQ];exact cO h1
def Oo[hT:cv P t e s by_]{ad:Option Addr}{len cap l2 c2:Nat}(hx:ax fr x=some (.slice ad len cap))(hy:ax fr y=some (.slice none l2 c2)):Yd P C fr own G ⟨dst, .binOp .eql t x y t',ty',pos,af,gd⟩ (.bool ad.isNone):=by
 intro a w hf hh;simp only[execOp,bc hf hx,bc hf hy];have h1:(Op.equal t (.slice ad len cap) (.slice none l2 c2)).run P w= .ok ad.isNone w:=r7 (by unfold Op.equalIn;rw[aG (hT.u w)];cases ad<;>rfl);have h2:(eqGuard .eql t x y (.slice ad len cap) (.slice none l2 c2)).run P w= .ok () w:=J;have h3:(binOp .eql t (.slice ad len cap) (.slice none l2 c2)).run P w= .ok (.bool ad.isNone) w:=by simp only[binOp];rw[aG h1];rfl
 exact cO (by rw[aG h2];exact h3)
def U'[hT:cv P t e s by_]{ad:Option Addr}{len cap l2 c2:Nat}(hx:ax fr x=some (.slice ad len cap))(hy:ax fr y=some (.slice none l2 c2)):Yd P C fr own G ⟨dst, .binOp .neq t x y t',ty',pos,af,gd⟩ (.bool (!ad.isNone)):=by
 intro a w hf hh;simp only[execOp,bc hf hx,bc hf hy];have h1:(Op.equal t (.slice ad len cap) (.slice none l2 c2)).run P w= .ok ad.isNone w:=r7 (by unfold Op.equalIn;rw[aG (hT.u w)];cases ad<;>rfl);have h2:(eqGuard .neq t x y (.slice ad len cap) (.slice none l2 c2)).run P w= .ok () w:=J;have h3:(binOp .neq t (.slice ad len cap) (.slice none l2 c2)).run P w= .ok (.bool (!ad.isNone)) w:=by simp only[binOp];rw[aG h1];rfl
 exact cO (by rw[aG h2];exact h3)
end
def mj: ∀(cs:List Value) (off k:Nat),off+k<=cs.length->cE cs off k=some ((cs.drop off).take k)
 |cs,0,0,_=>by cases cs<;>rfl
 |[],0,k+1,h=>by simp at h
 |v::t,0,k+1,h=>by
  simp only[cE,mj t 0 k (by simp at h;omega)];simp
 |[],_+1,k,h=>by simp at h
 |_::t,off+1,k,h=>by
  simp only[cE,mj t off k (by simp at h;omega)];simp
section
variable {P:Program} {C:aB} {n:Nat} {fr:Fr} {own own' own1:List av} {G:Gh} {Φ:Act->World->Prop}
variable {dst:Option Nat} {t t' ty':TypeId} {pos:String} {af:Array Edge} {gd:Option (Nat×Bool)} {x y:Operand} {e s by_:Nat}
def om(P:Program)(C:aB)(own:List av)(G:Gh)(s m:Nat)(v:Value)(ys:List Value):Prop:=
 ∀w,bt C own G w->(Builtin.firstCells s m v).run P w= .ok ⟨ys⟩ w
def Dv{w:World}{b off k:Nat}{cs l:List Value}{ty:TypeId}{fz:Nat×Nat}(h:w.heap[b]? =some (.cells ⟨cs⟩ ty fz))(hl:cE cs off k=some l):(loadCells ⟨b,off,none⟩ k).run P w= .ok ⟨l⟩ w:=by
 obtain⟨h1,h2⟩:=pi _ _ _ _ hl;unfold loadCells;rw[KR (l:=l) k 0 #[] (fun j hj=>by rw[Br h];simpa using h2 j hj) (by omega)];simp[<-h1]
def AW{b off m len cap:Nat}{cs ys:List Value}{ty:TypeId}{lo:Bool}(ho:io own b cs ty lo)(hl:cE cs off (m*s)=some ys):om P C own G s m (.slice (some ⟨b,off,none⟩) len cap) ys:=
 fun w h=>Dv (h.hown _ ho.mem).1 hl
def Ts{b off m len cap:Nat}{cs ys:List Value}(hg:G b=some cs)(hl:cE cs off (m*s)=some ys):om P C own G s m (.slice (some ⟨b,off,none⟩) len cap) ys:=
 fun w h=>by obtain⟨ty,fz,hb⟩:=h.sub _ _ hg;exact Dv hb hl
def xe{ad:Option Addr}{len cap:Nat}:om P C own G s 0 (.slice ad len cap) []:=fun w _=>by
 cases ad with
 |none=>rfl
 |some a=>unfold Builtin.firstCells loadCells;simp[loadCellsFrom,run_pure]
def SZ(z:Value)(k:Nat):Builtin.zeroCells ⟨aD z⟩ k=⟨dm z k⟩:=by
 unfold Builtin.zeroCells;exact EB J
def Jp{w w':World}[hT:cv P t e s by_][hN:lj P t']{z:Value}[hz:iu P e z]{ad:Option Addr}{len cap m cap2:Nat}{ad2:Option Addr}{xs ys:List Value}
  (hsx:(Builtin.firstCells s len (.slice ad len cap)).run P w.drew= .ok ⟨xs⟩ w.drew)(hsy:(Builtin.firstCells s m (.slice ad2 m cap2)).run P w.drew= .ok ⟨ys⟩ w.drew)
  (hneed:cap<len+m)(hby:0<by_)(hb:(len+m)*by_<=140737488355328):
  (Builtin.append_ #[t,t'] ty' #[.slice ad len cap, .slice ad2 m cap2]).run P w=
   .ok (.slice (some ⟨w.heap.size,0,none⟩) (len+m) (grownCap w (len+m) cap e)) (w.drew.alloc (.cells ⟨xs++ys++dm z (grownCap w (len+m) cap e-(len+m))⟩ e)):=by
 obtain⟨d,hd1⟩:=hN.un;obtain⟨i,hi,his,hib⟩:=hT.info;obtain⟨i',hi',hiz⟩:=hz.info;rw[hi] at hi';cases hi';have hfit:=growslice_fits (old:=cap) (need:=len+m) (bytes:=by_) hneed hb;have hlen:len+m<=140737488355328:=cR (rJ _ hby) hb;have hn: ¬(len+m<=cap):=by omega
 have h63': ¬(9223372036854775807<((len:Int)+(m:Int))):=by omega
 have h48': ¬(281474976710656<Builtin.nextslicecap (len+m) cap*i.bytes):=by rw[hib];omega
 subst his;simp[Builtin.append_,run_underlying hT.un,run_underlying hd1,sizeOf,typeInfo,zeroValue,hi,hiz,Builtin.lenOf,hn,h63',h48',Question.forced,hsx,hsy,newRow,grownCap];congr 2;apply Array.ext';rw[qI,SZ];simp[gW]
def CU[hT:cv P t e s by_][hN:lj P t']{z:Value}[hz:iu P e z]{ad:Option Addr}{len cap m cap2:Nat}{ad2:Option Addr}{xs ys:List Value}
  (hx:ax fr x=some (.slice ad len cap))(hy:ax fr y=some (.slice ad2 m cap2))(hsx:om P C own G s len (.slice ad len cap) xs)(hsy:om P C own G s m (.slice ad2 m cap2) ys)
  (hneed:cap<len+m)(hby:0<by_)(hb:(len+m)*by_<=140737488355328)(hd:b8 n dst=true)
  (h: ∀b cap',len+m<=cap'->St C n (put fr dst (.slice (some ⟨b,0,none⟩) (len+m) cap')) (⟨b,xs++ys++dm z (cap'-(len+m)),e,true⟩::own) G Φ):
  Ch P C n fr own G ⟨dst, .call ⟨.builtin .append, #[x,y], #[t,t']⟩,ty',pos,af,gd⟩ Φ:=by
 intro a w Q rl;have hcap:len+m<=grownCap w (len+m) cap e:=by unfold grownCap;simp only[Question.cut];omega
 have hrun:=Jp (P:=P) (t:=t) (t':=t') (ty':=ty') (w:=w) (w':=w) (hsx _ rl.h.drew) (hsy _ rl.h.drew) hneed hby hb;refine kA (v:= .slice (some ⟨w.heap.size,0,none⟩) (len+m) (grownCap w (len+m) cap e)) (w':=w.drew.alloc (.cells ⟨xs++ys++dm z (grownCap w (len+m) cap e-(len+m))⟩ e)) ?_ ?_
 ·simp only[execOp,resolve,gM,cK,kQ,bc rl.fr hx,bc rl.fr hy]
  exact cO hrun
 ·exact h w.heap.size _ hcap _ _ ((rl.heap ((rl.h.drew).alloc _ _)).put _ hd)
def j9.perm{o:av}(h:j9 own o own1):own.Perm (o::own1):=by
 induction h with
 |hd o t=>exact List.Perm.refl _
 |tl x t t' o h ih=>exact(List.Perm.cons x ih).trans (List.Perm.swap _ _ _)
def Jg{w:World}[hT:cv P t e s by_][hN:lj P t']{b len cap m cap2:Nat}{ad2:Option Addr}{cs ys:List Value}
  (hb:w.heap[b]? =some (.cells ⟨cs⟩ e (0,0)))(hcs:cs.length=cap*s)(hsy:(Builtin.firstCells s m (.slice ad2 m cap2)).run P w= .ok ⟨ys⟩ w)(hys:ys.length=m*s)(hf: ∀v∈ys,flat v=true)
  (hneed:len+m<=cap):
  (Builtin.append_ #[t,t'] ty' #[.slice (some ⟨b,0,none⟩) len cap, .slice ad2 m cap2]).run P w=
   .ok (.slice (some ⟨b,0,none⟩) (len+m) cap) (gp w b (.cells ⟨cC cs (len*s) ys⟩ e (0,0))):=by
 obtain⟨d,hd1⟩:=hN.un;obtain⟨i,hi,his,hib⟩:=hT.info;subst his;have hl:len*i.size+ys.length<=cs.length:=by rw[hys,hcs,<-cS];exact bW _ hneed
 have hst:=zr (P:=P) ys w (len*i.size) 0 cs hf hb (by omega);rw[fQ] at hst;simp[Builtin.append_,run_underlying hT.un,run_underlying hd1,sizeOf,typeInfo,hi,Builtin.lenOf,hneed,hsy,pz,hst]
def BH: ∀(vs cs:List Value) (off:Nat),(cC cs off vs).length=cs.length
 |[],cs,off=>rfl
 |v::vs,cs,off=>by simp[cC,BH vs]
def py: ∀(vs cs:List Value) (off:Nat),off+vs.length<=cs.length->cC cs off vs=cs.take off++vs++cs.drop (off+vs.length)
 |[],cs,off,h=>by simp[cC]
 |v::vs,cs,off,h=>by
  simp only[bX] at h;rw[cC,py vs _ _ (by simp;omega)];rw[List.take_set,qU (by omega)];have h1:(cs.take (off+1)).set off v=cs.take off++[v]:=by
   rw[fN (by omega),List.set_append_right _ _ (by simp;omega)];simp[gJ (by omega:off<=cs.length)]
  rw[h1];simp only[bX,gW,jJ,kS];congr 4;omega
def P8[hT:cv P t e s by_][hN:lj P t']{z:Value}[hz:iu P e z]{b len cap m cap2:Nat}{ad2:Option Addr}{xs ys rest:List Value}
  (hx:ax fr x=some (.slice (some ⟨b,0,none⟩) len cap))(hy:ax fr y=some (.slice ad2 m cap2))(hr:j9 own ⟨b,xs++rest,e,true⟩ own1)(hxs:xs.length=len*s)(hcap:xs.length+rest.length=cap*s)(hlc:len<=cap)
  (hsy:om P C own G s m (.slice ad2 m cap2) ys)(hys:ys.length=m*s)(hf: ∀v∈ys,flat v=true)
  (hby:0<by_)(hb:(len+m)*by_<=140737488355328)(hzs:(aD z).length=s)(hd:b8 n dst=true)
  (h: ∀b cap' rest',len+m<=cap'->rest'.length+(len+m)*s=cap'*s->St C n (put fr dst (.slice (some ⟨b,0,none⟩) (len+m) cap')) (⟨b,xs++ys++rest',e,true⟩::own1) G Φ):
  Ch P C n fr own G ⟨dst, .call ⟨.builtin .append, #[x,y], #[t,t']⟩,ty',pos,af,gd⟩ Φ:=by
 intro a w Q rl;have hp:=rl.h.perm hr.perm;have hblk:=(hp.hown _ aQ).1;simp only[] at hblk;by_cases hneed:len+m<=cap
 ·have hcs:(xs++rest).length=cap*s:=by simp;omega
  have hrun:=Jg (P:=P) (t:=t) (t':=t') (ty':=ty') (w:=w) (len:=len) hblk hcs (hsy w rl.h) hys hf hneed;have hle:len*s+m*s<=cap*s:=by rw[<-cS];exact bW _ hneed
  have hov:cC (xs++rest) (len*s) ys=xs++ys++rest.drop (m*s):=by
   rw[py _ _ _ (by rw[hys];omega),<-hxs];simp[hys,nK]
  refine kA (v:= .slice (some ⟨b,0,none⟩) (len+m) cap) (w':=gp w b (.cells ⟨cC (xs++rest) (len*s) ys⟩ e (0,0))) ?_ ?_
  ·simp only[execOp,resolve,gM,cK,kQ,bc rl.fr hx,bc rl.fr hy]
   exact cO hrun
  ·rw[hov]
   refine h b cap (rest.drop (m*s)) hneed ?_ _ _ ((rl.heap (hp.store (.hd ..))).put _ hd);rw[gN,cS];omega
 ·have hx':om P C own G s len (.slice (some ⟨b,0,none⟩) len cap) xs:=fun w' hw'=>by
   have hb':=(((hw'.perm hr.perm).hown _ aQ).1);refine Dv hb' ?_;rw[mj _ _ _ (by simp;omega),<-hxs];simp
  have hcap':len+m<=grownCap w (len+m) cap e:=by unfold grownCap;simp only[Question.cut];omega
  have hrun:=Jp (P:=P) (t:=t) (t':=t') (ty':=ty') (w:=w) (w':=w) (hx' _ rl.h.drew) (hsy _ rl.h.drew) (by omega) hby hb;refine kA (v:= .slice (some ⟨w.heap.size,0,none⟩) (len+m) (grownCap w (len+m) cap e)) (w':=w.drew.alloc (.cells ⟨xs++ys++dm z (grownCap w (len+m) cap e-(len+m))⟩ e)) ?_ ?_
  ·simp only[execOp,resolve,gM,cK,kQ,bc rl.fr hx,bc rl.fr hy]
   exact cO hrun
  ·refine h w.heap.size _ _ hcap' ?_ _ _ ((rl.heap (((hp.drew).drop (List.sublist_cons_self _ _)).alloc _ _)).put _ hd)
   rw[pD,hzs,<-cS];congr 1;omega
end
section
variable {P:Program} {ops:Array Oper} {Q:Exit->Act->World->Prop} {S:World->Prop} {fin:Nat->Bool}
def rg(ops:Array Oper)(fin:Nat->Bool):List (Nat×Bool)->Array Bool->Bool
 |[],listed=>(Region.ready .any ops listed).isEmpty
 |(i,true)::r,listed=>yk ops fin listed i&&rg ops fin r (listed.setIfInBounds i true)
 |(i,false)::r,listed=>(Region.ready .any ops listed==[i])&&rg ops fin r (listed.setIfInBounds i true)
def gh(P:Program)(ops:Array Oper)(Q:Exit->Act->World->Prop)(S:World->Prop)(fin:Nat->Bool):List (Nat×Bool)->Act->World->Prop
 |[],a,w=>Q .normal a w
 |(i,true)::r,a,w=> ∃o v,ops[i]? =some o/\S w/\YieldsIf P ops S o v a/\gh P ops Q S fin r (a.put o.dst v) w
 |(i,false)::r,a,w=>wpOp P ops Q i (fun a' w'=>(fin i=true\/S w')/\gh P ops Q S fin r a' w') a w
def B5(hQ: ∀c a d v w,Q (.panic c) (Act.put a d v) w->Q (.panic c) a w): ∀(π:List (Nat×Bool)) (listed:Array Bool) (a:Act) (w:World),rg ops fin π listed=true->gh P ops Q S fin π a w-> ∀fuel,π.length<=fuel->ur P ops Q S fin fuel listed a w
 |[],listed,a,w,ho,h,fuel,hf=>by
  have hr:Region.ready .any ops listed=[]:=by simpa[rg] using ho
  cases fuel with
  |zero=>exact⟨hr,h⟩
  |succ k=>exact⟨fun _=>h,by rw[hr];simp⟩
 |(i,true)::r,listed,a,w,ho,h,0,hf=>by simp at hf
 |(i,false)::r,listed,a,w,ho,h,0,hf=>by simp at hf
 |(i,true)::r,listed,a,w,ho,h,fuel+1,hf=>by
  obtain⟨o,v,hoi,hS,hy,hk⟩:=h;simp only[rg,yk,bL] at ho;obtain⟨⟨⟨⟨h1,h2⟩,h3⟩,h4⟩,h5⟩:=ho;obtain⟨h6,h7⟩:=Y8 h4;exact aob hoi (Region.noSelect_spec h1) (fun c a w=>hQ c a _ _ w) h6 h7 fuel listed a w (Region.free_spec hoi h2) (by simpa using h3) hy hS
   (B5 hQ r _ _ _ h5 hk fuel (by simpa using hf))
 |(i,false)::r,listed,a,w,ho,h,fuel+1,hf=>by
  simp only[rg,bL,beq_iff_eq] at ho;exact U2 ho.1 (wpOp_mono (fun a' w' h'=>⟨h'.1,B5 hQ r _ _ _ ho.2 h'.2 fuel (by simpa using hf)⟩) h)
end
section
variable {P:Program} {C:aB} {n:Nat} {fr:Fr} {own own0:List av} {G G0:Gh} {ops:Array Oper} {Q:Exit->Act->World->Prop} {fin:Nat->Bool} {π:List (Nat×Bool)}
def dr(fin:Nat->Bool)(π:List (Nat×Bool)){id:Nat}(hm:P.follows .mixedOrders=true)(ho:(rg ops fin π (Array.replicate ops.size false)&&Nat.ble π.length ops.size)=true)
  (h:St C n fr own G (gh P ops (fP Q) (HS C own G) fin π)):St C n fr own G ((Code.region id ops true).wp P Q):=by
 simp only[bL] at ho;refine U6 fin hm fun a w rl=>B5 (fun _ _ _ _ _ h=>h) π _ a w ho.1 (h a w rl) _ (by simpa using ho.2)
def dy{i:Nat}{o:Oper}{v:Value}(ho:ops[i]? =some o)(hy: ∀G':Gh,[GE G0 G']->Yd P C fr own0 G' o v)(hg:o.guard=none)(hd:b8 n o.dst=true)[hs:kg own0 own][hl:GL G0 G]
  (h:St C n (put fr o.dst v) own G (gh P ops (fP Q) (HS C own0 G0) fin π)):St C n fr own G (gh P ops (fP Q) (HS C own0 G0) fin ((i,true)::π)):=
 fun a w rl=>⟨o,v,ho,⟨G,hl.le,rl.h.drop hs.s⟩, .inl ⟨by simp[Region.wanted,hg],fun w' ⟨G',hle,hr⟩=> @hy G' ⟨hle⟩ a w' rl.fr hr⟩,h _ _ (rl.put v hd)⟩
def dM{i:Nat}{dst:Option Nat}{ty':TypeId}{pos:String}{af:Array Edge}{x:Operand}{v:Value}(ho:ops[i]? =some ⟨dst, .move x,ty',pos,af,none⟩)(hx:ax fr x=some v)(hd:b8 n dst=true)[hs:kg own0 own][hl:GL G0 G]
  (h:St C n (put fr dst v) own G (gh P ops (fP Q) (HS C own0 G0) fin π)):St C n fr own G (gh P ops (fP Q) (HS C own0 G0) fin ((i,true)::π)):=dy ho (fun _ _=>fG hx) J hd h
def dA{i:Nat}{dst:Option Nat}{ty':TypeId}{pos:String}{af:Array Edge}{x:Operand}{v:Value}(ho:ops[i]? =some ⟨dst, .assign x,ty',pos,af,none⟩)(hx:ax fr x=some v)(hd:b8 n dst=true)[hs:kg own0 own][hl:GL G0 G]
  (h:St C n (put fr dst v) own G (gh P ops (fP Q) (HS C own0 G0) fin π)):St C n fr own G (gh P ops (fP Q) (HS C own0 G0) fin ((i,true)::π)):=dy ho (fun _ _=>Hg hx) J hd h
def dF{i b o f off:Nat}{dst:Option Nat}{ty':TypeId}{pos:String}{af:Array Edge}{x:Operand}{t:TypeId}[hF:o9 P t f off](ho:ops[i]? =some ⟨dst, .fieldAddr t x f,ty',pos,af,none⟩)(hx:ax fr x=some (.pointer (some ⟨b,o,none⟩)))(hd:b8 n dst=true)[hs:kg own0 own][hl:GL G0 G]
  (h:St C n (put fr dst (.pointer (some ⟨b,o+off,none⟩))) own G (gh P ops (fP Q) (HS C own0 G0) fin π)):St C n fr own G (gh P ops (fP Q) (HS C own0 G0) fin ((i,true)::π)):=dy ho (fun _ _=>o5 hx) J hd h
def dL{i b off k:Nat}{dst:Option Nat}{ty':TypeId}{pos:String}{af:Array Edge}{x:Operand}{t ty:TypeId}{cs l:List Value}{lo:Bool}(ho:ops[i]? =some ⟨dst, .load t x,ty',pos,af,none⟩)(hx:ax fr x=some (.pointer (some ⟨b,off,none⟩)))[hw:io own0 b cs ty lo][lu P t k](hv:cE cs off k=some l)(hd:b8 n dst=true)[hs:kg own0 own][hl:GL G0 G]
  (h:St C n (put fr dst (.agg ⟨l⟩)) own G (gh P ops (fP Q) (HS C own0 G0) fin π)):St C n fr own G (gh P ops (fP Q) (HS C own0 G0) fin ((i,true)::π)):=dy ho (fun _ _=>Bh hx hv) J hd h
def CH{i b off:Nat}{dst:Option Nat}{ty':TypeId}{pos:String}{af:Array Edge}{x:Operand}{t ty:TypeId}{cs:List Value}{v:Value}{lo:Bool}(ho:ops[i]? =some ⟨dst, .load t x,ty',pos,af,none⟩)(hx:ax fr x=some (.pointer (some ⟨b,off,none⟩)))[hw:io own0 b cs ty lo][jl P t](hv:cs[off]? =some v)(hd:b8 n dst=true)[hs:kg own0 own][hl:GL G0 G]
  (h:St C n (put fr dst v) own G (gh P ops (fP Q) (HS C own0 G0) fin π)):St C n fr own G (gh P ops (fP Q) (HS C own0 G0) fin ((i,true)::π)):=dy ho (fun _ _=>mr hx hv) J hd h
def vp{i:Nat}{o:Oper}{v:Value}(ho:ops[i]? =some o){j d:Nat}{b:Bool}(hg:o.guard=some (j,b))(hj:(ops[j]?).bind (·.dst)=some d)(hlk:iq fr d=some (.bool b))(hy: ∀G':Gh,[GE G0 G']->Yd P C fr own0 G' o v)(hd:b8 n o.dst=true)[hs:kg own0 own][hl:GL G0 G]
  (h:St C n (put fr o.dst v) own G (gh P ops (fP Q) (HS C own0 G0) fin π)):St C n fr own G (gh P ops (fP Q) (HS C own0 G0) fin ((i,true)::π)):=
 fun a w rl=>⟨o,v,ho,⟨G,hl.le,rl.h.drop hs.s⟩, .inl ⟨by simp[Region.wanted,hg,FR rl.fr hj hlk],fun w' ⟨G',hle,hr⟩=> @hy G' ⟨hle⟩ a w' rl.fr hr⟩,h _ _ (rl.put v hd)⟩
def ut{i:Nat}{o:Oper}(ho:ops[i]? =some o){j d:Nat}{b c:Bool}(hg:o.guard=some (j,b))(hj:(ops[j]?).bind (·.dst)=some d)(hlk:iq fr d=some (.bool c))(hbc:(c==b)=false)(hd:b8 n o.dst=true)[hs:kg own0 own][hl:GL G0 G]
  (h:St C n (put fr o.dst undef) own G (gh P ops (fP Q) (HS C own0 G0) fin π)):St C n fr own G (gh P ops (fP Q) (HS C own0 G0) fin ((i,true)::π)):=
 fun a w rl=>⟨o,undef,ho,⟨G,hl.le,rl.h.drop hs.s⟩, .inr ⟨by simp[Region.wanted,hg,FR rl.fr hj hlk,hbc],J⟩,h _ _ (rl.put undef hd)⟩
def dc{i:Nat}{o:Oper}(ho:ops[i]? =some o)(hg:o.guard=none)(hc:Ch P C n fr own G o (fun a w=>(fin i=true\/HS C own0 G0 w)/\gh P ops (fP Q) (HS C own0 G0) fin π a w)):St C n fr own G (gh P ops (fP Q) (HS C own0 G0) fin ((i,false)::π)):=by
 intro a w rl;show wpOp P ops (fP Q) i _ a w;unfold wpOp;simp only[ho,Region.wanted,hg,if_true];exact .inl (hc a w _ rl)
def dn(h:St C n fr own G (Q .normal)):St C n fr own G (gh P ops (fP Q) (HS C own0 G0) fin []):=h
def ghi{A G:Gh}{b:Nat}{cs:List Value}[h:BE A b cs][k:GL A G]:G b=some cs:=k.le _ _ h.h
variable {dst:Option Nat} {t t' ty':TypeId} {pos:String} {af:Array Edge} {x y:Operand} {r:List Oper}
def sm{v:Value}(hx:ax fr x=some v)(hd:b8 n dst=true)(h:St C n (put fr dst v) own G (dx P ops Q r)):St C n fr own G (dx P ops Q (⟨dst, .move x,ty',pos,af,none⟩::r)):=tc (fG hx) J hd h
def sa{v:Value}(hx:ax fr x=some v)(hd:b8 n dst=true)(h:St C n (put fr dst v) own G (dx P ops Q r)):St C n fr own G (dx P ops Q (⟨dst, .assign x,ty',pos,af,none⟩::r)):=tc (Hg hx) J hd h
def sn{ad:Addr}(hx:ax fr x=some (.pointer (some ad)))(hd:b8 n dst=true)(h:St C n (put fr dst (.pointer (some ad))) own G (dx P ops Q r)):St C n fr own G (dx P ops Q (⟨dst, .nilCheck x,ty',pos,af,none⟩::r)):=tc (n5 hx) J hd h
def sf{b o f off:Nat}[hF:o9 P t f off](hx:ax fr x=some (.pointer (some ⟨b,o,none⟩)))(hd:b8 n dst=true)(h:St C n (put fr dst (.pointer (some ⟨b,o+off,none⟩))) own G (dx P ops Q r)):St C n fr own G (dx P ops Q (⟨dst, .fieldAddr t x f,ty',pos,af,none⟩::r)):=tc (o5 hx) J hd h
def Qc{b off k:Nat}{cs l:List Value}{lo:Bool}{ty:TypeId}(hx:ax fr x=some (.pointer (some ⟨b,off,none⟩)))[ho:io own b cs ty lo][lu P t k](hl:cE cs off k=some l)(hd:b8 n dst=true)
  (h:St C n (put fr dst (.agg ⟨l⟩)) own G (dx P ops Q r)):St C n fr own G (dx P ops Q (⟨dst, .load t x,ty',pos,af,none⟩::r)):=tc (Bh hx hl) J hd h
def tw{b off:Nat}{cs:List Value}{v:Value}{lo:Bool}{ty:TypeId}(hx:ax fr x=some (.pointer (some ⟨b,off,none⟩)))[ho:io own b cs ty lo][jl P t](hl:cs[off]? =some v)(hd:b8 n dst=true)
  (h:St C n (put fr dst v) own G (dx P ops Q r)):St C n fr own G (dx P ops Q (⟨dst, .load t x,ty',pos,af,none⟩::r)):=tc (mr hx hl) J hd h
def c7{e s by_:Nat}{ad:Option Addr}{len cap:Nat}[hT:cv P t e s by_](hx:ax fr x=some (.slice ad len cap))(hd:b8 n dst=true)
  (h:St C n (put fr dst (.int .i64 len)) own G (dx P ops Q r)):St C n fr own G (dx P ops Q (⟨dst, .call ⟨.builtin .len, #[x], #[t]⟩,ty',pos,af,none⟩::r)):=tc (oE hx) J hd h
def sx{vs:Array Value}{i:Nat}{v:Value}(hx:ax fr x=some (.tuple vs))(hv:vs[i]? =some v)(hd:b8 n dst=true)(h:St C n (put fr dst v) own G (dx P ops Q r)):St C n fr own G (dx P ops Q (⟨dst, .extract x i,ty',pos,af,none⟩::r)):=tc (Il hx hv) J hd h
def eD{C:aB}{n:Nat}{fr:Fr}{own:List av}{G:Gh}{K:Act->World->Prop}{Q:Exit->Act->World->Prop}{id:Nat}(h:St C n fr own G (Q (.exit id))):St C n fr own G (Exit.then K Q (.exit id)):=h
def bB{op:Op}{v:Value}{j d:Nat}{b:Bool}(hj:(ops[j]?).bind (·.dst)=some d)(hl:iq fr d=some (.bool b))(hy:Yd P C fr own G ⟨dst,op,ty',pos,af,some (j,b)⟩ v)(hd:b8 n dst=true)(h:St C n (put fr dst v) own G (dx P ops Q r)):St C n fr own G (dx P ops Q (⟨dst,op,ty',pos,af,some (j,b)⟩::r)):=YS J hj hl hy hd h
def ss{op:Op}{j d:Nat}{b c:Bool}(hj:(ops[j]?).bind (·.dst)=some d)(hl:iq fr d=some (.bool c))(hbc:(c==b)=false)(hd:b8 n dst=true)(h:St C n (put fr dst undef) own G (dx P ops Q r)):St C n fr own G (dx P ops Q (⟨dst,op,ty',pos,af,some (j,b)⟩::r)):=Vh J hj hl hbc hd h
def sy{op:Op}{v:Value}(hy:Yd P C fr own G ⟨dst,op,ty',pos,af,none⟩ v)(hd:b8 n dst=true)(h:St C n (put fr dst v) own G (dx P ops Q r)):St C n fr own G (dx P ops Q (⟨dst,op,ty',pos,af,none⟩::r)):=tc hy J hd h
def sc{op:Op}(hc:Ch P C n fr own G ⟨dst,op,ty',pos,af,none⟩ (dx P ops Q r)):St C n fr own G (dx P ops Q (⟨dst,op,ty',pos,af,none⟩::r)):=aHy J hc
end
def Fn.of_calls{P:Program}{f:FuncId}{vs:List Value}{G:Gh}{v:Value}(ha:rh P f)(h: ∀w,Calls P f ⟨vs⟩ w fun e w'=>e= .returned v/\w'=w):Fn P f vs G (fun u _=>u=v):=
 ⟨ha,fun w hw=>(h w).mono fun e w' ⟨he,hww⟩=>⟨v,G,he,by
  subst hww;exact⟨J,J,J,aN _,fun _ _ _=>J,hw,bp.refl _,fun _ _=>J,fun o ho=>(by cases ho), .nil,aN _,fun p hp=>by cases hp⟩,J⟩⟩
end Go.Sx
end
section
namespace Go.Sx
open Go Go.Proofs Tryz
instance:jl prog 3:=⟨fun _=>by kernel_rfl,fun _=>by kernel_rfl⟩
instance:nk prog 3 .i64:=⟨fun _=>by kernel_rfl⟩
instance:jl prog 4:=⟨fun _=>by kernel_rfl,fun _=>by kernel_rfl⟩
instance:iu prog 4 (.bool false):=⟨by kernel_rfl⟩
instance:jl prog 23:=⟨fun _=>by kernel_rfl,fun _=>by kernel_rfl⟩
instance:cv prog 23 182 8 112:=⟨by kernel_rfl,by kernel_rfl⟩
instance:o9 prog 25 0 0:=⟨fun _ _ _=>by kernel_rfl⟩
instance:o9 prog 25 1 1:=⟨fun _ _ _=>by kernel_rfl⟩
instance:cv prog 32 215 1 4:=⟨by kernel_rfl,by kernel_rfl⟩
instance:lj prog 32:=⟨215,by kernel_rfl⟩
instance:cv prog 102 201 17 128:=⟨by kernel_rfl,by kernel_rfl⟩
instance:lj prog 102:=⟨201,by kernel_rfl⟩
instance:cv prog 103 201 17 128:=⟨by kernel_rfl,by kernel_rfl⟩
instance:lu prog 108 9:=⟨fun _=>by kernel_rfl,fun _=>by kernel_rfl⟩
instance:iu prog 108 (.agg ⟨[.int .i64 0, .int .i64 0, .pointer none, .int .i64 0, .int .i64 0, .pointer none, .int .i64 0, .int .i64 0, .pointer none]⟩):=⟨by kernel_rfl⟩
instance:lu prog 179 6:=⟨fun _=>by kernel_rfl,fun _=>by kernel_rfl⟩
instance:lu prog 182 8:=⟨fun _=>by kernel_rfl,fun _=>by kernel_rfl⟩
instance:iu prog 182 (.agg ⟨[.bool false, .slice none 0 0, .bool false, .slice none 0 0, .bool false, .slice none 0 0, .int .i64 0, .int .i64 0]⟩):=⟨by kernel_rfl⟩
instance:o9 prog 182 0 0:=⟨fun _ _ _=>by kernel_rfl⟩
instance:o9 prog 182 1 6:=⟨fun _ _ _=>by kernel_rfl⟩
instance:o9 prog 182 2 7:=⟨fun _ _ _=>by kernel_rfl⟩
instance:nk prog 214 .u64:=⟨fun _=>by kernel_rfl⟩
instance:jl prog 215:=⟨fun _=>by kernel_rfl,fun _=>by kernel_rfl⟩
instance:iu prog 215 (.int .u32 0):=⟨by kernel_rfl⟩
instance:nk prog 215 .u32:=⟨fun _=>by kernel_rfl⟩
instance:nk prog 216 .u64:=⟨fun _=>by kernel_rfl⟩
instance:jl prog 233:=⟨fun _=>by kernel_rfl,fun _=>by kernel_rfl⟩
instance:cv prog 233 4 1 1:=⟨by kernel_rfl,by kernel_rfl⟩
instance:iu prog 235 (.agg ⟨[.slice none 0 0, .slice none 0 0, .int .i64 0, .bool false]⟩):=⟨by kernel_rfl⟩
instance:o9 prog 235 0 0:=⟨fun _ _ _=>by kernel_rfl⟩
instance:o9 prog 235 1 1:=⟨fun _ _ _=>by kernel_rfl⟩
instance:o9 prog 235 2 2:=⟨fun _ _ _=>by kernel_rfl⟩
instance:o9 prog 235 3 3:=⟨fun _ _ _=>by kernel_rfl⟩
instance:KC prog 235 [(0,1),(1,1),(2,1),(3,1)]:=⟨_,fun _=>T2 underlying235 _,fun _=>by kernel_rfl⟩
def follows:prog.follows .mixedOrders=true:=by kernel_rfl
end Go.Sx
end
section
namespace Go.Sx
def dv:List Nat->Nat
 |[]=>0
 |d::t=>d+4294967296*dv t
def bi(ds:List Nat):Prop:= ∀d∈ds,d<4294967296
def eh(ds:List Nat):Prop:=ds.getLast? ≠some 0
instance (ds:List Nat):Decidable (eh ds):=inferInstanceAs (Decidable (ds.getLast? ≠some 0))
def bi.nil:bi []:=fun _ h=>by cases h
def bi.cons{d:Nat}{ds:List Nat}(h:d<4294967296)(k:bi ds):bi (d::ds):=fun x hx=>by
 rcases aW.1 hx with rfl|h'
 ·exact h
 ·exact k _ h'
def bi.head{d:Nat}{ds:List Nat}(h:bi (d::ds)):d<4294967296:=h d aQ
def bi.tail{d:Nat}{ds:List Nat}(h:bi (d::ds)):bi ds:=fun x hx=>h x (aJ _ hx)
def bi.append{a b:List Nat}(h:bi a)(k:bi b):bi (a++b):=fun x hx=>by
 rcases bK.1 hx with h'|h'
 ·exact h _ h'
 ·exact k _ h'
def bi.take{a:List Nat}(h:bi a)(n:Nat):bi (a.take n):=fun x hx=>h x (dZ hx)
def bi.drop{a:List Nat}(h:bi a)(n:Nat):bi (a.drop n):=fun x hx=>h x (gS hx)
def bi.get{a:List Nat}(h:bi a)(i:Nat):a.getD i 0<4294967296:=by
 rw[aX]
 cases hi:a[i]? with
 |none=>simp
 |some d=>exact h d (aT hi)
def bi.set{a:List Nat}(h:bi a)(i:Nat){d:Nat}(hd:d<4294967296):bi (a.set i d):=fun x hx=>by
 rcases List.mem_or_eq_of_mem_set hx with h'|rfl
 ·exact h _ h'
 ·exact hd
def bi.replicate(n:Nat):bi (List.replicate n 0):=fun x hx=>by
 rw[mZ hx];omega
def zt(a b:List Nat):dv (a++b)=dv a+4294967296^a.length*dv b:=by
 induction a with
 |nil=>simp[dv]
 |cons d t ih=>
  simp only[jJ,dv,ih,bX,fR];rw[dY,<-kK,<-cX,bN 4294967296 (4294967296^t.length)]
def jB{ds:List Nat}(h:bi ds):dv ds<4294967296^ds.length:=by
 induction ds with
 |nil=>simp[dv]
 |cons d t ih=>
  have h1:=h.head;have h2:=ih h.tail;simp only[dv,bX,fR];omega
def Ad(n:Nat):dv (List.replicate n 0)=0:=by
 induction n with
 |zero=>rfl
 |succ n ih=>simp[iN,dv,ih]
def jf(ds:List Nat)(i:Nat):dv (ds.take (i+1))=dv (ds.take i)+4294967296^i*ds.getD i 0:=by
 by_cases h:i<ds.length
 ·rw[fN h,zt]
  simp[dv,gJ (mX h),aX,h]
 ·have:ds.getD i 0=0:=by rw[aX,cM (by omega)];rfl
  rw[this,aL (by omega),aL (by omega)];simp
def Fl(ds:List Nat)(i:Nat)(h:i<=ds.length):dv ds=dv (ds.take i)+4294967296^i*dv (ds.drop i):=by
 have:=zt (ds.take i) (ds.drop i);rw[jN] at this;rw[this];simp[gJ h]
def trimD:List Nat->List Nat
 |[]=>[]
 |d::t=>match trimD t with
  |[]=>if d=0 then [] else [d]
  |t'=>d::t'
def xl(d:Nat)(t:List Nat):trimD (d::t)=if trimD t=[]/\d=0 then [] else d::trimD t:=by
 simp only[trimD]
 cases h:trimD t with
 |nil=>by_cases hd:d=0<;>simp[hd]
 |cons a b=>simp
def ke(ds:List Nat):dv (trimD ds)=dv ds:=by
 induction ds with
 |nil=>rfl
 |cons d t ih=>
  rw[xl];split
  ·rename_i h
   rw[h.1] at ih;simp[dv,<-ih,h.2]
  ·simp[dv,ih]
def Lx(ds:List Nat):trimD (ds++[0])=trimD ds:=by
 induction ds with
 |nil=>rfl
 |cons d t ih=>rw[jJ,xl,xl,ih]
def Jt{ds:List Nat}{d:Nat}(h:d≠0):trimD (ds++[d])=ds++[d]:=by
 induction ds with
 |nil=>simp[trimD,h]
 |cons e t ih=>rw[jJ,xl,ih];simp
def eh.trimD(ds:List Nat):eh (trimD ds):=by
 induction ds with
 |nil=>simp[eh,Sx.trimD]
 |cons d t ih=>
  rw[xl];split
  ·simp[eh]
  ·rename_i h
   unfold eh at*;rw[List.getLast?_cons]
   cases ht:(Sx.trimD t).getLast? with
   |none=>
    have:Sx.trimD t=[]:=by simpa using ht
    simp only[Option.getD_none,ne_eq,Option.some.injEq];exact fun hd=>h ⟨this,hd⟩
   |some x=>rw[ht] at ih;simpa using ih
def nG(ds:List Nat):(trimD ds).length<=ds.length:=by
 induction ds with
 |nil=>simp[trimD]
 |cons d t ih=>
  rw[xl];split
  ·simp
  ·simp;omega
def LQ(ds:List Nat):trimD ds=ds.take (trimD ds).length:=by
 induction ds with
 |nil=>rfl
 |cons d t ih=>
  rw[xl];split
  ·rfl
  ·simp only[bX,mL];rw[<-ih]
def bi.trimD{ds:List Nat}(h:bi ds):bi (trimD ds):=by rw[LQ];exact h.take _
def M7{ds:List Nat}(h:eh ds):trimD ds=ds:=by
 rcases rL ds with rfl|⟨l,d,rfl⟩
 ·rfl
 ·rw[rM] at*
  exact Jt (fun e=>by subst e;simp[eh] at h)
def rx{ds:List Nat}(h:eh ds)(hne:ds≠[]):4294967296^(ds.length-1)<=dv ds:=by
 rcases rL ds with rfl|⟨l,d,rfl⟩
 ·exact absurd J hne
 ·rw[rM] at*
  have hd:d≠0:=fun e=>by subst e;simp[eh] at h
  rw[zt];simp only[aV,bX,fU,dv];have:4294967296^(l.length+(0+1)-1)=4294967296^l.length:=by congr 1
  rw[this];have h1:4294967296^l.length*1<=4294967296^l.length*(d+4294967296*0):=fZ _ (by omega);omega
def awY{ds:List Nat}(h:eh ds):dv ds=0↔ds=[]:=by
 constructor
 ·intro h0
  by_cases hne:ds=[]
  ·exact hne
  ·have:=rx h hne
   have hp:0<4294967296^(ds.length-1):=fY (by omega);omega
 ·rintro rfl;rfl
def tM{a b:List Nat}(ha:bi a)(hb:eh b)(h:a.length<b.length):dv a<dv b:=by
 have h1:=jB ha;have h2:=rx hb (fun e=>by subst e;simp at h);have h3:4294967296^a.length<=4294967296^(b.length-1):=bY (by omega) (by omega);omega
def RJ: ∀{a b:List Nat},bi a->bi b->a.length=b.length->dv a=dv b->a=b
 |[],[],_,_,_,_=>rfl
 |d::t,e::u,ha,hb,hl,h=>by
  have h1:=ha.head;have h2:=hb.head;simp only[dv] at h;have:d=e:=by omega
  subst this;rw[RJ ha.tail hb.tail (by simpa using hl) (by omega)]
def Xw{a b:List Nat}(ha:bi a)(hb:bi b)(na:eh a)(nb:eh b)(h:dv a=dv b):a=b:=by
 refine RJ ha hb ?_ h;rcases pS a.length b.length with h'|h'|h'
 ·have:=tM ha nb h';omega
 ·exact h'
 ·have:=tM hb na h';omega
def D2{a b:List Nat}(ha:bi a)(hb:bi b)(i:Nat)(hia:i<a.length)(hib:i<b.length)(hl:a.length=b.length)(hs:a.drop (i+1)=b.drop (i+1))(h:a.getD i 0<b.getD i 0):dv a<dv b:=by
 rw[Fl a (i+1) (by omega),Fl b (i+1) (by omega),hs,jf,jf];have h1:=jB (ha.take i);rw[cW,gJ (by omega)] at h1;have h2:4294967296^i*(a.getD i 0+1)<=4294967296^i*b.getD i 0:=fZ _ h;rw[dY] at h2;omega
def TC{ds:List Nat}{k:Nat}(h:eh ds)(hk:dv ds<2^k):32*ds.length<=k+31:=by
 by_cases hne:ds=[]
 ·subst hne;simp
 ·have h1:=rx h hne
  have h2:(4294967296:Nat)^(ds.length-1)=2^(32*(ds.length-1)):=by
   rw[pN]
  rw[h2] at h1;have h3:2^(32*(ds.length-1))<2^k:=fT h1 hk;have h4:=(oY (by omega:1<2)).1 h3;have:0<ds.length:=by cases ds with|nil=>exact absurd J hne|cons _ _=>simp
  omega
def dg(x:Nat):List Nat:=if h:x=0 then [] else(x%4294967296)::dg (x/4294967296)
termination_by x
decreasing_by omega
def eE(x:Nat):dv (dg x)=x/\bi (dg x)/\eh (dg x):=by
 induction x using Nat.strongRecOn with
 |_ x ih=>
  unfold dg;split
  ·rename_i h;subst h;exact⟨rfl, .nil,by simp[eh]⟩
  ·rename_i h
   obtain⟨h1,h2,h3⟩:=ih (x/4294967296) (by omega);refine⟨by rw[dv,h1];omega, .cons (by omega) h2,?_⟩;unfold eh at*;rw[List.getLast?_cons]
   cases hl:(dg (x/4294967296)).getLast? with
   |none=>
    have:dg (x/4294967296)=[]:=by simpa using hl
    rw[this] at h1;simp only[Option.getD_none,ne_eq,Option.some.injEq];simp only[dv] at h1;omega
   |some y=>rw[hl] at h3;simpa using h3
def z8{ds:List Nat}(h:bi ds)(n:eh ds):dg (dv ds)=ds:=Xw (eE _).2.1 h (eE _).2.2 n (eE _).1
def qe{ds:List Nat}(h:bi ds):dg (dv ds)=trimD ds:=by rw[<-ke];exact z8 h.trimD (eh.trimD _)
def qx: ∀(ws:List Nat) (j d:Nat),j<ws.length->dv (ws.set j d)+4294967296^j*ws.getD j 0=dv ws+4294967296^j*d
 |[],j,d,h=>by simp at h
 |w::t,0,d,h=>by simp[dv];omega
 |w::t,j+1,d,h=>by
  have ih:=qx t j d (by simpa using h);simp only[List.set_cons_succ,dv,lT,fR];have h1:4294967296^j*4294967296*t.getD j 0=4294967296*(4294967296^j*t.getD j 0):=by rw[bN (4294967296^j),cX]
  have h2:4294967296^j*4294967296*d=4294967296*(4294967296^j*d):=by rw[bN (4294967296^j),cX]
  rw[h1,h2];omega
def qq{ws:List Nat}{k d:Nat}(h:k<ws.length):dv ((ws.set k d).take (k+1))=dv (ws.take k)+4294967296^k*d:=by
 rw[fN (by simpa using h),List.take_set_of_le (aN _),zt];simp[dv,gJ (mX h)]
def I8(p x:Nat):p*x=p*(x%4294967296)+p*4294967296*(x/4294967296):=by
 have h:p*x=p*(4294967296*(x/4294967296)+x%4294967296):=by rw[qM]
 rw[dY,<-cX] at h;omega
def S5{p A E W c a b:Nat}(h:W+p*c=A+E):(W+p*((c+a+b)%4294967296))+(p*4294967296)*((c+a+b)/4294967296)=(A+p*a)+(E+p*b):=by
 have h1:=I8 p (c+a+b);rw[dY,dY] at h1;omega
def OP{p A E W bo b a:Nat}(h:W+E=A+p*bo)(hle:bo+b<=a):(W+p*(a-(bo+b)))+(E+p*b)=(A+p*a)+p*4294967296*0:=by
 have h1:p*a=p*(a-(bo+b))+p*bo+p*b:=by
  rw[<-dY,<-dY];congr 1;omega
 omega
def Mi{p A E W bo b a:Nat}(h:W+E=A+p*bo)(hle:a<bo+b)(hb:bo+b<=a+4294967296):(W+p*(a+4294967296-(bo+b)))+(E+p*b)=(A+p*a)+p*4294967296*1:=by
 have h1:p*a+p*4294967296=p*(a+4294967296-(bo+b))+p*bo+p*b:=by
  rw[<-dY,<-dY,<-dY];congr 1;omega
 omega
def Lf{p W W' T c m w:Nat}(hs:W'+p*w=W+p*((c+m+w)%4294967296))(h:W+p*c=T):W'+(p*4294967296)*((c+m+w)/4294967296)=T+p*m:=by
 have h1:=I8 p (c+m+w);rw[dY,dY] at h1;omega
end Go.Sx
end
section
namespace Go.Sx
open Go
structure SV where
 a:Option Addr
 n:Nat
 c:Nat
def SV.v(x:SV):Value:= .slice x.a x.n x.c
structure eH (G:Gh) (s:Nat) (x:SV) (es:List Value):Prop where
 len:x.n=es.length
 cap:x.n<=x.c
 mem:es=[]\/ ∃b off cs,x.a=some ⟨b,off,none⟩/\G b=some cs/\ ∀i (h:i<es.length),cE cs (off+i*s) s=some (aD es[i])
def eH.up'{A G:Gh}{s:Nat}{x:SV}{es:List Value}(h:eH A s x es)(k:bp A G):eH G s x es:=
 ⟨h.len,h.cap,h.mem.imp id (fun⟨b,off,cs,h1,h2,h3⟩=>⟨b,off,cs,h1,k _ _ h2,h3⟩)⟩
def eH.up{A G:Gh}{s:Nat}{x:SV}{es:List Value}(h:eH A s x es)[k:GL A G]:eH G s x es:=h.up' k.le
def eH.nil(G:Gh)(s:Nat):eH G s ⟨none,0,0⟩ []:=⟨J,aN _, .inl J⟩
def eH.take{G:Gh}{s:Nat}{x:SV}{es:List Value}(h:eH G s x es)(k:Nat)(hk:k<=es.length):eH G s ⟨x.a,k,x.c⟩ (es.take k):=by
 refine⟨by simp[hk],by show k<=x.c;have:=h.len;have:=h.cap;omega,?_⟩;rcases h.mem with h0|⟨b,off,cs,h1,h2,h3⟩
 ·left;simp[h0]
 ·right;exact⟨b,off,cs,h1,h2,fun i hi=>by
   simp only[cW] at hi;rw[h3 i (by omega)];simp⟩
def ve(a:Option Addr)(k:Nat):Option Addr:=a.map (·.add k)
section
variable {P:Program} {C:aB} {n:Nat} {fr:Fr} {own own':List av} {G:Gh} {Φ:Act->World->Prop}
variable {dst:Option Nat} {t t' ty':TypeId} {pos:String} {af:Array Edge} {gd:Option (Nat×Bool)} {x y:Operand} {e s by_:Nat}
def Hy{A:Gh}[hT:cv P t e s by_]{k:IntKind}{z:SV}{es:List Value}{i:Int}(hs:eH A s z es)(hx:ax fr x=some (.slice z.a z.n z.c))(hy:ax fr y=some (.int k i))(h0:0<=i)(h1:i<z.n):
  Yd P C fr own G ⟨dst, .indexAddr t x y,ty',pos,af,gd⟩ (.pointer (ve z.a (i.toNat*s))):=by
 rcases hs.mem with h|⟨b,off,cs,ha,hg,hc⟩
 ·have:=hs.len;rw[h] at this;simp at this;omega
 ·rw[ha] at hx
  have:=BB (P:=P) (C:=C) (own:=own) (G:=G) (t:=t) (dst:=dst) (ty':=ty') (pos:=pos) (af:=af) (gd:=gd) (by_:=by_) hx hy h0 h1;rw[ha];simpa[ve,pz] using this
def Qh{A:Gh}[hA:lu P t s]{z:SV}{es:List Value}{i:Nat}{l:List Value}(hs:eH A s z es)[hl:GL A G](hx:ax fr x=some (.pointer (ve z.a (i*s))))(h1:i<es.length)(he:es[i]? =some (.agg ⟨l⟩)):
  Yd P C fr own G ⟨dst, .load t x,ty',pos,af,gd⟩ (.agg ⟨l⟩):=by
 rcases hs.mem with h|⟨b,off,cs,ha,hg,hc⟩
 ·rw[h] at h1;simp at h1
 ·rw[ha] at hx
  have h2:=hc i h1;rw[aZ h1] at he;have he':es[i]= .agg ⟨l⟩:=by simpa using he
  rw[he'] at h2;exact NA (by simpa[ve,pz] using hx) (hl.le _ _ hg) h2
def aEY{A:Gh}[hA:jl P t]{z:SV}{es:List Value}{i:Nat}{v:Value}(hs:eH A 1 z es)[hl:GL A G](hx:ax fr x=some (.pointer (ve z.a (i*1))))(he:es[i]? =some v)(hv:flat v=true):
  Yd P C fr own G ⟨dst, .load t x,ty',pos,af,gd⟩ v:=by
 obtain⟨h1,he'⟩:=aS.1 he;rcases hs.mem with h|⟨b,off,cs,ha,hg,hc⟩
 ·rw[h] at h1;simp at h1
 ·rw[ha] at hx
  have h2:=hc i h1;rw[he'] at h2;have hcv:aD v=[v]:=by cases v<;>first|rfl|(simp[flat] at hv)
  rw[hcv] at h2;obtain⟨_,h3⟩:=pi _ _ _ _ h2;have h4:=h3 0 (by omega);exact I9 (off:=off+i*1) (by simpa[ve,pz] using hx) (hl.le _ _ hg) (by simpa using h4)
end
def dI(d:Nat):Value:= .int .u32 (d:Int)
structure cp (G:Gh) (x:SV) (ds:List Nat):Prop where
 ok:bi ds
 sl:eH G 1 x (ds.map dI)
def cp.len{G:Gh}{x:SV}{ds:List Nat}(h:cp G x ds):x.n=ds.length:=by simpa using h.sl.len
def cp.up{A G:Gh}{x:SV}{ds:List Nat}(h:cp A x ds)[k:GL A G]:cp G x ds:=⟨h.ok,h.sl.up⟩
def cp.nil(G:Gh):cp G ⟨none,0,0⟩ []:=⟨.nil, .nil G 1⟩
def cp.take{G:Gh}{x:SV}{ds:List Nat}(h:cp G x ds)(k:Nat)(hk:k<=ds.length):cp G ⟨x.a,k,x.c⟩ (ds.take k):=
 ⟨h.ok.take k,by rw[gR];exact h.sl.take k (by simpa using hk)⟩
def cp.trim{G:Gh}{x:SV}{ds:List Nat}(h:cp G x ds):cp G ⟨x.a,(trimD ds).length,x.c⟩ (trimD ds):=by
 have:=h.take _ (nG ds);rwa [<-LQ] at this
def cp.of_block{G:Gh}{b c k:Nat}{cs:List Value}{ds:List Nat}(ok:bi ds)(hg:G b=some cs)(hk:k=ds.length)(hc:k<=c)(hcs:cs.take ds.length=ds.map dI):cp G ⟨some ⟨b,0,none⟩,k,c⟩ ds:=by
 refine⟨ok,by simpa using hk,hc, .inr ⟨b,0,cs,J,hg,fun i hi=>?_⟩⟩;have hi':i<ds.length:=by simpa using hi
 have hl:ds.length<=cs.length:=by
  have:=congrArg List.length hcs;simp at this;omega
 rw[mj _ _ _ (by omega)];congr 1;have h1:(cs.take ds.length)[i]? =(ds.map dI)[i]? :=by rw[hcs]
 rw[pW,if_pos hi',cV,aZ hi',aZ (by omega)] at h1;have h2:cs[i]=dI ds[i]:=by simpa using h1
 rw[eK,iY,bZ (by omega),mL,rY,h2,qX];rfl
structure fI (k:Nat) (G:Gh) (x:SV) (v:Nat):Prop where
 d:cp G x (dg v)
 lt:v<2^k
def fI.up{k:Nat}{A G:Gh}{x:SV}{v:Nat}(h:fI k A x v)[GL A G]:fI k G x v:=⟨h.d.up,h.lt⟩
def fI.len{k:Nat}{G:Gh}{x:SV}{v:Nat}(h:fI k G x v):x.n=(dg v).length:=h.d.len
def fI.mono{k k':Nat}{G:Gh}{x:SV}{v:Nat}(h:fI k G x v)(hk:v<2^k'):fI k' G x v:=⟨h.d,hk⟩
section
variable {P:Program} {C:aB} {n:Nat} {fr:Fr} {own own':List av} {G:Gh} {Φ:Act->World->Prop}
variable {dst:Option Nat} {t t' ty':TypeId} {pos:String} {af:Array Edge} {gd:Option (Nat×Bool)} {x y:Operand} {e s by_:Nat}
def ir{A:Gh}[hT:cv P t e 1 by_]{k:IntKind}{z:SV}{ds:List Nat}{i:Int}(hs:cp A z ds)(hx:ax fr x=some (.slice z.a z.n z.c))(hy:ax fr y=some (.int k i))(h0:0<=i)(h1:i<z.n):
  Yd P C fr own G ⟨dst, .indexAddr t x y,ty',pos,af,gd⟩ (.pointer (ve z.a (i.toNat*1))):=Hy hs.sl hx hy h0 h1
def iA{A:Gh}[hA:jl P t]{z:SV}{ds:List Nat}{i:Nat}(hs:cp A z ds)[hl:GL A G](hx:ax fr x=some (.pointer (ve z.a (i*1))))(h1:i<ds.length):
  Yd P C fr own G ⟨dst, .load t x,ty',pos,af,gd⟩ (.int .u32 ((ds.getD i 0:Nat):Int)):=
 aEY hs.sl hx (by rw[cV,aZ h1,aX,aZ h1];rfl) J
def R6{A:Gh}{z:SV}{ds:List Nat}(h:cp A z ds)[hl:GL A G]:om P C own G 1 z.n (.slice z.a z.n z.c) (ds.map dI):=by
 intro w hw;by_cases hne:ds=[]
 ·rw[h.len]
  subst hne;exact xe w hw
 rcases h.sl.mem with h0|⟨b,off,cs,ha,hg,hc⟩
 ·exact absurd (by simpa using h0) hne
 ·rw[ha]
  have hn:=h.len;refine Ts (hl.le _ _ hg) ?_ w hw;rw[iY];have hel: ∀i,i<ds.length->cs[off+i]? =some (dI (ds.getD i 0)):=fun i hi=>by
   have h1:=hc i (by simpa using hi);obtain⟨_,h2⟩:=pi _ _ _ _ h1;have h3:=h2 0 (by omega);rw[iY,fQ] at h3;rw[h3,qX,aX,aZ hi];rfl
  by_cases h00:ds.length=0
  ·exact absurd h00 (fun e=>hne (bU e))
  ·have hlast:=hel (ds.length-1) (by omega)
   have hle:off+ds.length<=cs.length:=by
    have:=(aS.1 hlast).1;omega
   rw[hn,mj _ _ _ hle];congr 1;apply jW;intro i;rw[pW];split
   ·rename_i hi
    rw[lM,hel i hi,cV,aX,aZ hi];rfl
   ·rename_i hi
    rw[cM (by simpa using hi)]
def uX(n:Nat):dm (.int .u32 0) n=(List.replicate n 0).map dI:=by
 unfold dm
 induction n with
 |zero=>rfl
 |succ n ih=>rw[iN,lV,ih];rfl
def f5[hT:cv P t e s by_]{k:IntKind}{b len cap:Nat}{i:Int}(hx:ax fr x=some (.slice (some ⟨b,0,none⟩) len cap))(hy:ax fr y=some (.int k i))(h0:0<=i)(h1:i<len):
  Yd P C fr own G ⟨dst, .indexAddr t x y,ty',pos,af,gd⟩ (.pointer (some ⟨b,i.toNat*s,none⟩)):=by
 have:=BB (P:=P) (C:=C) (own:=own) (G:=G) (t:=t) (dst:=dst) (ty':=ty') (pos:=pos) (af:=af) (gd:=gd) (by_:=by_) hx hy h0 h1;rwa [eK] at this
def ri[hA:jl P t]{b i:Nat}{ws:List Nat}{ty:TypeId}{lo:Bool}(hx:ax fr x=some (.pointer (some ⟨b,i*1,none⟩)))[ho:io own b (ws.map dI) ty lo](h1:i<ws.length):
  Yd P C fr own G ⟨dst, .load t x,ty',pos,af,gd⟩ (.int .u32 ((ws.getD i 0:Nat):Int)):=by
 rw[iY] at hx;refine mr hx ?_;rw[cV,aZ h1,aX,aZ h1];rfl
def mv{b i d:Nat}{ws:List Nat}{ty:TypeId}{lo:Bool}{v:Int}[hs:jl P t](hx:ax fr x=some (.pointer (some ⟨b,i*1,none⟩)))(hy:ax fr y=some (.int .u32 v))(hv:v=(d:Int))
  (hu:fE own b (ws.map dI) ty lo ((ws.set i d).map dI) own')(hi:i<ws.length)(hd:b8 n dst=true)(h:St C n (put fr dst undef) own' G Φ):
  Ch P C n fr own G ⟨dst, .store t x y,ty',pos,af,gd⟩ Φ:=by
 rw[iY] at hx;have hu':fE own b (ws.map dI) ty lo ((ws.map dI).set i (.int .u32 v)) own':=by
  rw[hv,<-show dI d= .int .u32 (d:Int) from J,<-kL];exact hu
 exact wQ hx hy hu' (by simpa using hi) J hd h
def d4{p q:Int}(hx:ax fr x=some (.int .i64 p))(hy:ax fr y=some (.int .i64 q))(h0: -9223372036854775808<=p+q:=by omega)(h1:p+q<=9223372036854775807:=by omega):Yd P C fr own G ⟨dst, .binOp .add t x y t',ty',pos,af,gd⟩ (.int .i64 (p+q)):=Ht hx hy ⟨h0,h1⟩
def km{p q:Int}(hx:ax fr x=some (.int .i64 p))(hy:ax fr y=some (.int .i64 q))(h0: -9223372036854775808<=p-q:=by omega)(h1:p-q<=9223372036854775807:=by omega):Yd P C fr own G ⟨dst, .binOp .sub t x y t',ty',pos,af,gd⟩ (.int .i64 (p-q)):=HR hx hy ⟨h0,h1⟩
def Pm{p q:Int}(hx:ax fr x=some (.int .i64 p))(hy:ax fr y=some (.int .i64 q))(h0: -9223372036854775808<=p*q)(h1:p*q<=9223372036854775807):Yd P C fr own G ⟨dst, .binOp .mul t x y t',ty',pos,af,gd⟩ (.int .i64 (p*q)):=Jh hx hy ⟨h0,h1⟩
def sB{p q:Int}(hx:ax fr x=some (.int .u64 p))(hy:ax fr y=some (.int .u64 q))(h0:0<=p+q:=by omega)(h1:p+q<=18446744073709551615:=by omega):Yd P C fr own G ⟨dst, .binOp .add t x y t',ty',pos,af,gd⟩ (.int .u64 (p+q)):=Ht hx hy ⟨h0,h1⟩
def O'{p q:Int}(hx:ax fr x=some (.int .u64 p))(hy:ax fr y=some (.int .u64 q))(h0:0<=p-q)(h1:p-q<=18446744073709551615):Yd P C fr own G ⟨dst, .binOp .sub t x y t',ty',pos,af,gd⟩ (.int .u64 (p-q)):=HR hx hy ⟨h0,h1⟩
def J8{p q:Int}(hx:ax fr x=some (.int .u64 p))(hy:ax fr y=some (.int .u64 q))(h0:0<=p*q)(h1:p*q<=18446744073709551615):Yd P C fr own G ⟨dst, .binOp .mul t x y t',ty',pos,af,gd⟩ (.int .u64 (p*q)):=Jh hx hy ⟨h0,h1⟩
def mI{k k':IntKind}{p q:Int}(hx:ax fr x=some (.int k p))(hy:ax fr y=some (.int k' q))(h0:0<=q):Yd P C fr own G ⟨dst, .binOp .shr t x y t',ty',pos,af,gd⟩ (.int k (p.fdiv (2^min q.toNat k.bits))):=by
 intro a w hf hh;simp only[execOp,bc hf hx,bc hf hy];have h1:(eqGuard .shr t x y (.int k p) (.int k' q)).run P w= .ok () w:=J;have h2:(binOp .shr t (.int k p) (.int k' q)).run P w= .ok (.int k (p.fdiv (2^min q.toNat k.bits))) w:=by
  simp[binOp,Op.shift,Int.not_lt.2 h0,run_pure]
 exact cO (by rw[aG h1];exact h2)
def x8{k k':IntKind}{p q:Int}(hx:ax fr x=some (.int k p))(hy:ax fr y=some (.int k' q))(h0:0<=q):Yd P C fr own G ⟨dst, .binOp .shl t x y t',ty',pos,af,gd⟩ (.int k (k.wrap (p*2^min q.toNat k.bits))):=by
 intro a w hf hh;simp only[execOp,bc hf hx,bc hf hy];have h1:(eqGuard .shl t x y (.int k p) (.int k' q)).run P w= .ok () w:=J;have h2:(binOp .shl t (.int k p) (.int k' q)).run P w= .ok (.int k (k.wrap (p*2^min q.toNat k.bits))) w:=by
  simp[binOp,Op.shift,Int.not_lt.2 h0,run_pure]
 exact cO (by rw[aG h1];exact h2)
def gw{k:IntKind}{p:Int}[hs:nk P t k][hd:nk P t' .u64](hx:ax fr x=some (.int k p))(h0:0<=p:=by omega)(h1:p<=18446744073709551615:=by omega):Yd P C fr own G ⟨dst, .convert t t' x,ty',pos,af,gd⟩ (.int .u64 p):=GJ hx ⟨h0,h1⟩
def QX{k:IntKind}{p:Int}[hs:nk P t k][hd:nk P t' .i64](hx:ax fr x=some (.int k p))(h0: -9223372036854775808<=p:=by omega)(h1:p<=9223372036854775807:=by omega):Yd P C fr own G ⟨dst, .convert t t' x,ty',pos,af,gd⟩ (.int .i64 p):=GJ hx ⟨h0,h1⟩
def qo(p:Int):IntKind.u32.wrap p=p%4294967296:=by simp[IntKind.wrap,IntKind.bits,IntKind.signed]
def n8(p:Int):IntKind.u64.wrap p=p%18446744073709551616:=by simp[IntKind.wrap,IntKind.bits,IntKind.signed]
def kP{k:IntKind}{p:Int}[hs:nk P t k][hd:nk P t' .u32](hx:ax fr x=some (.int k p)):Yd P C fr own G ⟨dst, .convert t t' x,ty',pos,af,gd⟩ (.int .u32 (p%4294967296)):=by
 have:=Ez (P:=P) (C:=C) (own:=own) (G:=G) (dst:=dst) (ty':=ty') (pos:=pos) (af:=af) (gd:=gd) (t:=t) (t':=t') hx;rwa [qo] at this
def yg{k:IntKind}{p q:Int}(hx:ax fr x=some (.int k p))(hy:ax fr y=some (.int k q))(h0:0<=p)(h:q≠0):Yd P C fr own G ⟨dst, .binOp .rem t x y t',ty',pos,af,gd⟩ (.int k (p%q)):=by
 have:=QI (P:=P) (C:=C) (own:=own) (G:=G) (dst:=dst) (ty':=ty') (pos:=pos) (af:=af) (gd:=gd) (t:=t) (t':=t') hx hy h;rwa [Int.tmod_eq_emod_of_nonneg h0] at this
def Al{p q:Int}(hx:ax fr x=some (.int .u64 p))(hy:ax fr y=some (.int .u64 q))(h0:0<=p)(h1:p<=18446744073709551615)(h:0<q):Yd P C fr own G ⟨dst, .binOp .quo t x y t',ty',pos,af,gd⟩ (.int .u64 (p/q)):=by
 have:=LR (P:=P) (C:=C) (own:=own) (G:=G) (dst:=dst) (ty':=ty') (pos:=pos) (af:=af) (gd:=gd) (t:=t) (t':=t') hx hy (by omega);rw[Int.tdiv_eq_ediv_of_nonneg h0,n8,Int.emod_eq_of_lt (Int.ediv_nonneg h0 (by omega)) (by have:=Int.ediv_le_self q h0;omega)] at this;exact this
def mi{Q:Exit->Act->World->Prop}{p:Prop}{inst:Decidable p}{c:Operand}{x y:Code}(hc:ax fr c=some (.bool (@decide p inst)))(h2: ¬p->St C n fr own G (y.wp P Q))(h1:p->St C n fr own G (x.wp P Q)):
  St C n fr own G ((Code.cond c x y).wp P Q):=f8 hc h1 h2
end
end Go.Sx
end
section
namespace Go.Sx
open Go Go.Proofs Tryz
def W3{ds:List Nat}{k:Nat}(hk:k<ds.length)(h:trimD ds=trimD (ds.take (k+1)))(h0:ds.getD k 0=0):trimD ds=trimD (ds.take k):=by
 rw[h,fN hk];have:ds[k]=0:=by rw[aX,aZ hk] at h0;simpa using h0
 rw[this,Lx]
def asN{ds:List Nat}{k:Nat}(hk:k<ds.length)(h:trimD ds=trimD (ds.take (k+1)))(h0:ds.getD k 0≠0):trimD ds=ds.take (k+1):=by
 rw[h,fN hk];have:ds[k]≠0:=by rw[aX,aZ hk] at h0;simpa using h0
 exact Jt this
def je{A G:Gh}{x:SV}{ds:List Nat}(hx:cp A x ds)[GL A G](hb:ds.length<=1125899906842624):Fn prog 218 [x.v] G (fun v _=>v= .slice x.a (trimD ds).length x.c):=by
 have hlen:=hx.len;have hcap:=hx.sl.cap;refine Fn.intro func218 J J ntmps218 J ?_;intro C _ _;refine sR<|sa J J<|zE<|bu<|d7<|?_;refine mm (X:=Nat) (fun k=>[(0, .slice x.a k x.c)]) (fun _=>[]) (fun k _=>k<=ds.length/\trimD ds=trimD (ds.take k)) (fun k=>k) ds.length ⟨aN _,by simp⟩ (hlen▸ .cons J .nil) J ?_;rintro k Gx _ ⟨hk,ht⟩;refine bu<|sR<|sm J J<|c7 J J<|sy (te J J) J<|sm J J<|?_;refine oP 6 J (fun hg=>?_) (fun hg=>?_)
 ·have hk1:k-1<ds.length:=by omega
  have hkt:((k:Int)-1).toNat=k-1:=by omega
  have hk2:k=k-1+1:=by omega
  refine bB J J (fG J) J<|bB J J (fG J) J<|bB J J (oE J) J<|bB J J (km J J) J<|?_;refine bB J J (ir (z:=⟨x.a,k,x.c⟩) (hx.take k hk) J J (by omega) (by show _<(k:Int);omega)) J<|bB J J (iA hx J (by omega)) J<|bB J J (iD J J) J<|sy (rP J J) J<|zE<|?_;rw[hkt];refine mi J (fun hc=>?_) (fun hc=>?_) -- slot 14
  ·refine jE<|eD<|eD<|jC<|sR<|sm J J<|sa J J<|zE<|dq<|?_
   have hs:=asN hk1 (hk2▸ht) (fun e=>hc (by rw[e];rfl));refine zD (.tmp J .nil) ?_;rw[hs,<-hk2];simp[ip,hk]
  refine zK<|d7<|dO<|sm J J<|sm J J<|c7 J J<|sy (km J J) J<|sy (z6 J J (by omega) (by omega)) J<|?_;refine sa J J<|zE<|?_;exact jr (k-1) ⟨by omega,W3 hk1 (hk2▸ht) (by omega)⟩ (by omega) (.cons (by rw[<-hkt];rfl) .nil) J
 refine ss J J J J<|ss J J J J<|ss J J J J<|ss J J J J<|ss J J J J<|ss J J J J<|?_;refine ss J J J J<|sy (mc J J) J<|zE<|AT J<|jE<|eD<|eD<|jC<|sR<|sm J J<|sa J J<|zE<|dq<|?_;have hk0:k=0:=by omega
 subst hk0;refine zD (.tmp J .nil) ?_;rw[ht];rfl
def Vl{A G:Gh}{x:SV}{ds:List Nat}(hx:cp A x ds)[GL A G](hb:ds.length<=1125899906842624):Fn prog 265 [x.v] G (fun v _=>v= .bool (decide (eh ds))):=by
 have hlen:=hx.len;refine Fn.intro func265 J J ntmps265 J ?_;intro C _ _;refine sR<|sa J J<|zE<|sR<|sm J J<|c7 J J<|sy (iD J J) J<|sm J J<|?_;refine oP 6 J (fun hg=>?_) (fun hg=>?_)
 ·refine ss J J J J<|ss J J J J<|ss J J J J<|ss J J J J<|ss J J J J<|ss J J J J<|ss J J J J<|sy (rP J J) J<|sa J J<|?_
  refine zE<|dq<|?_;refine zD (.tmp J .nil) ?_;have:ds=[]:=bU (by omega);subst this;simp[ip,eh]
 have hne:0<ds.length:=by omega
 have hkt:((x.n:Int)-1).toNat=ds.length-1:=by omega
 refine bB J J (fG J) J<|bB J J (fG J) J<|bB J J (oE J) J<|bB J J (km J J) J<|bB J J (ir hx J J (by omega) (by omega)) J<|?_;refine bB J J (iA hx J (by omega)) J<|bB J J (vq J J) J<|sy (mc J J) J<|sa J J<|zE<|dq<|?_;refine zD (.tmp J .nil) ?_;rw[hkt];simp only[ip,Value.bool.injEq,decide_eq_decide,eh,lS,aX,aZ (show ds.length-1<ds.length by omega),lX,ne_eq,Option.some.injEq];exact not_congr (by omega)
def aCC(ds:List Nat): ∀v∈ds.map dI,flat v=true:=fun v hv=>by
 obtain⟨d,_,rfl⟩:=bQ.1 hv;rfl
def N2{A G:Gh}{x:SV}{ds:List Nat}(hx:cp A x ds)[GL A G](hb:ds.length<=1125899906842):Fn prog 219 [x.v] G (fun v G'=> ∃z:SV,v=z.v/\cp G' z ds):=by
 have hlen:=hx.len;refine Fn.intro func219 J J ntmps219 J ?_;intro C _ _;refine sR<|sa J J<|zE<|bu<|sR<|sm J J<|sy (Oo J J) J<|zE<|?_;refine ay7 J (fun hc=>?_) (fun hc=>?_)
 ·refine sR<|sa J J<|zE<|dq<|?_
  refine zD (.tmp J .nil) ⟨⟨none,0,0⟩,J,?_⟩;rcases hx.sl.mem with h|⟨b,off,cs,ha,_⟩
  ·have:ds=[]:=by simpa using h
   subst this;exact .nil _
  ·rw[ha] at hc;cases hc
 refine zK<|sR<|?_;refine sc (RD J ?_);intro b1;refine sm J J<|?_;refine sc (P8 (xs:=[]) (rest:=[]) (ys:=ds.map dI) J J (.hd ..) J J (aN _) (R6 hx) (by simp[hlen]) (aCC ds) (by decide) (by omega) J J ?_);intro b cap rest h1 h2;refine sa J J<|zE<|rG b (.hd ..) (fun G' _ hgb=>?_);refine dq<|?_;refine zD (.tmp J .nil) ⟨⟨some ⟨b,0,none⟩,x.n,cap⟩,by simp[ip,SV.v],?_⟩;exact .of_block hx.ok hgb.h hlen (by omega) (by simp)
def Io{A G:Gh}{x:SV}{ds:List Nat}{k:Nat}(hx:cp A x ds)[GL A G](hk:dv ds<2^k)(hb:ds.length<=1125899906842):Fn prog 164 [x.v] G (fun v G'=> ∃z:SV,v=z.v/\fI k G' z (dv ds)):=by
 have htl:=nG ds;refine Fn.intro func164 J J ntmps164 J ?_;intro C _ _;refine sR<|sa J J<|zE<|sR<|sm J J<|?_;refine sc (zC J J (je hx (by omega)) J ?_);rintro _ G1 _ rfl;refine sc (zC J J (N2 hx.trim (by omega)) J ?_);rintro _ G2 _ ⟨z,rfl,hz⟩;refine sa J J<|zE<|dq<|?_;refine zD (.tmp J .nil) ⟨z,J,?_⟩;exact⟨by rw[qe hx.ok];exact hz,hk⟩
end Go.Sx
end
section
namespace Go.Proofs
open Go.Shelf
def Tryz.lays128_ren:Go.Shelf.Ren:=⟨fun|128=>274|n=>n,fun|51=>215|3=>3|4=>4|46=>216|5=>5|9=>9|n=>n,fun|n=>n⟩
def Tryz.lays125_ren:Go.Shelf.Ren:=⟨fun|125=>246|128=>274|129=>292|n=>n,fun|46=>216|3=>3|51=>215|53=>214|4=>4|5=>5|9=>9|n=>n,fun|n=>n⟩
def Tryz.lays133_ren:Go.Shelf.Ren:=⟨fun|133=>231|128=>274|n=>n,fun|51=>215|3=>3|4=>4|46=>216|5=>5|9=>9|n=>n,fun|n=>n⟩
def Tryz.lays133:Go.Proofs.Lays.n133 Tryz.prog Tryz.lays133_ren:={
 mixed:=by kernel_rfl
 f128:=Tryz.func274.trans (congrArg some (by kernel_rfl))
 f133:=Tryz.func231.trans (congrArg some (by kernel_rfl))
 t3:=Tryz.underlying3
 a3:=Tryz.isAgg3
 z3:=Tryz.sizeOf3
 v3:=Tryz.zeroValue3
 t4:=Tryz.underlying4
 a4:=Tryz.isAgg4
 z4:=Tryz.sizeOf4
 v4:=Tryz.zeroValue4
 t5:=Tryz.underlying5
 a5:=Tryz.isAgg5
 z5:=Tryz.sizeOf5
 v5:=Tryz.zeroValue5
 t9:=Tryz.underlying9
 a9:=Tryz.isAgg9
 z9:=Tryz.sizeOf9
 v9:=Tryz.zeroValue9
 t46:=Tryz.underlying216
 a46:=Tryz.isAgg216
 z46:=Tryz.sizeOf216
 v46:=Tryz.zeroValue216
 t51:=Tryz.underlying215
 a51:=Tryz.isAgg215
 z51:=Tryz.sizeOf215
 v51:=Tryz.zeroValue215}
def Tryz.bits_LeadingZeros32(x:Int)(w:World)(h0:0<=x)(h1:x<=4294967295):
  Calls Tryz.prog 231 #[.int .u32 x] w fun e w'=>e= .returned (.int .i64 (32-(Lib.bitLen x.toNat:Int)))/\w'=w:=Any.bits_LeadingZeros32 Tryz.lays133 x w h0 h1
def Tryz.lays129_ren:Go.Shelf.Ren:=⟨fun|129=>292|n=>n,fun|53=>214|3=>3|4=>4|46=>216|5=>5|9=>9|n=>n,fun|n=>n⟩
def Tryz.lays264_ren:Go.Shelf.Ren:=⟨fun|264=>212|n=>n,fun|53=>214|46=>216|n=>n,fun|n=>n⟩
def Tryz.lays264:Go.Proofs.Lays.n264 Tryz.prog Tryz.lays264_ren:={
 mixed:=by kernel_rfl
 f264:=Tryz.func212.trans (congrArg some (by kernel_rfl))
 t46:=Tryz.underlying216
 a46:=Tryz.isAgg216
 z46:=Tryz.sizeOf216
 v46:=Tryz.zeroValue216
 t53:=Tryz.underlying214
 a53:=Tryz.isAgg214
 z53:=Tryz.sizeOf214
 v53:=Tryz.zeroValue214}
open Go.RowKit Go.Lib in
def Tryz.bits_Mul64(x y:Nat)(hx:x<18446744073709551616)(hy:y<18446744073709551616)(w:World):
  Calls Tryz.prog 212 #[.int .u64 x, .int .u64 y] w fun e w'=>e= .returned (.tuple #[.int .u64 ((x*y/18446744073709551616:Nat):Int), .int .u64 ((x*y%18446744073709551616:Nat):Int)])/\w'=w:=Any.bits_Mul64 Tryz.lays264 x y hx hy w
end Go.Proofs
end
