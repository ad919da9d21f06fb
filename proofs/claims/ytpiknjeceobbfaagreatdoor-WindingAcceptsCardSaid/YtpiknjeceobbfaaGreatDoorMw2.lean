import Derived.Test.YtpiknjeceobbfaaGreatDoorMw1
import Derived.Scope
import Derived.Laws.Externs
import Derived.Lib.Overlaps
set_option linter.all false
set_option maxRecDepth 100000
section
namespace Go.Sx
open Go
class vo (P:Program) (t:TypeId):Prop where u: ∀w,(underlying t).run P w= .ok .bool w
class vR (P:Program) (t:TypeId):Prop where u: ∃e,∀w,(underlying t).run P w= .ok (.pointer e) w
class tX (P:Program) (t:TypeId):Prop where u: ∃ms,∀w,(underlying t).run P w= .ok (.interface ms) w
class vM (P:Program) (t:TypeId) (f:Nat) (off ft:outParam Nat):Prop where
 u: ∃fs fd,(∀w,(underlying t).run P w= .ok (.struct fs) w)/\fs[f]? =some fd/\fd.offset=off/\fd.type=ft
class jH (P:Program) (t:TypeId):Prop where
 un: ∃e,P.underlying t=some (.slice e)
section
variable {P:Program} {C:au} {n:Nat} {fr:Fr} {own own':List ao} {G:Gh} {Φ:Act->World->Prop}
variable {dst:Option Nat} {t t' ty':TypeId} {pos:String} {af:Array Edge} {gd:Option (Nat×Bool)} {x y:Operand}
def kz{w:World}{p q:Value}{b:Bool}(h:(Op.equalIn (9999+1) t p q).run P w= .ok b w):(Op.equal t p q).run P w= .ok b w:=h
def F9[hT:vo P t]{p q:Bool}(hx:aq fr x=some (.bool p))(hy:aq fr y=some (.bool q)):Yd P C fr own G ⟨dst, .binOp .eql t x y t',ty',pos,af,gd⟩ (.bool (p==q)):=by
 intro a w hf hh;simp only[execOp,aG hf hx,aG hf hy];have h1:(Op.equal t (.bool p) (.bool q)).run P w= .ok (p==q) w:=kz (by unfold Op.equalIn;rw[aB (hT.u w)];rfl);have h2:(eqGuard .eql t x y (.bool p) (.bool q)).run P w= .ok () w:=J;have h3:(binOp .eql t (.bool p) (.bool q)).run P w= .ok (.bool (p==q)) w:=by simp only[binOp];rw[aB h1];rfl
 exact cd (by rw[aB h2];exact h3)
def Gp[hT:vo P t]{p q:Bool}(hx:aq fr x=some (.bool p))(hy:aq fr y=some (.bool q)):Yd P C fr own G ⟨dst, .binOp .neq t x y t',ty',pos,af,gd⟩ (.bool (!(p==q))):=by
 intro a w hf hh;simp only[execOp,aG hf hx,aG hf hy];have h1:(Op.equal t (.bool p) (.bool q)).run P w= .ok (p==q) w:=kz (by unfold Op.equalIn;rw[aB (hT.u w)];rfl);have h2:(eqGuard .neq t x y (.bool p) (.bool q)).run P w= .ok () w:=J;have h3:(binOp .neq t (.bool p) (.bool q)).run P w= .ok (.bool (!(p==q))) w:=by simp only[binOp];rw[aB h1];rfl
 exact cd (by rw[aB h2];exact h3)
def qS[hT:vR P t]{p:Option Addr}(hx:aq fr x=some (.pointer p))(hy:aq fr y=some (.pointer none)):Yd P C fr own G ⟨dst, .binOp .eql t x y t',ty',pos,af,gd⟩ (.bool p.isNone):=by
 obtain⟨e,he⟩:=hT.u;intro a w hf hh;simp only[execOp,aG hf hx,aG hf hy];have h1:(Op.equal t (.pointer p) (.pointer none)).run P w= .ok p.isNone w:=kz (by unfold Op.equalIn;rw[aB (he w)];cases p<;>rfl);have h2:(eqGuard .eql t x y (.pointer p) (.pointer none)).run P w= .ok () w:=by cases p<;>rfl
 have h3:(binOp .eql t (.pointer p) (.pointer none)).run P w= .ok (.bool p.isNone) w:=by cases p<;>(simp only[binOp];rw[aB h1];rfl)
 exact cd (by rw[aB h2];exact h3)
def qL[hT:vR P t]{p:Option Addr}(hx:aq fr x=some (.pointer p))(hy:aq fr y=some (.pointer none)):Yd P C fr own G ⟨dst, .binOp .neq t x y t',ty',pos,af,gd⟩ (.bool (!p.isNone)):=by
 obtain⟨e,he⟩:=hT.u;intro a w hf hh;simp only[execOp,aG hf hx,aG hf hy];have h1:(Op.equal t (.pointer p) (.pointer none)).run P w= .ok p.isNone w:=kz (by unfold Op.equalIn;rw[aB (he w)];cases p<;>rfl);have h2:(eqGuard .neq t x y (.pointer p) (.pointer none)).run P w= .ok () w:=by cases p<;>rfl
 have h3:(binOp .neq t (.pointer p) (.pointer none)).run P w= .ok (.bool (!p.isNone)) w:=by cases p<;>(simp only[binOp];rw[aB h1];rfl)
 exact cd (by rw[aB h2];exact h3)
def z'{v:Value}[hT:tX P t](hv:v= .nilIface\/ ∃k u,v= .iface k u)(hx:aq fr x=some v):
  Yd P C fr own G ⟨dst, .binOp .eql t x (.const .nilIface) t',ty',pos,af,gd⟩ (.bool (match v with| .nilIface=>true|_=>false)):=by
 obtain⟨e,he⟩:=hT.u;intro a w hf hh;simp only[execOp,aG hf hx,show a.eval (.const .nilIface)= .nilIface from J];rcases hv with rfl|⟨k,u,rfl⟩
 ·have h1:(Op.equal t .nilIface .nilIface).run P w= .ok true w:=kz (by unfold Op.equalIn;rw[aB (he w)];rfl)
  have h2:(eqGuard .eql t x (.const .nilIface) .nilIface .nilIface).run P w= .ok () w:=by cases x<;>rfl
  exact cd (by rw[aB h2];simp only[binOp];rw[aB h1];rfl)
 ·have h1:(Op.equal t (.iface k u) .nilIface).run P w= .ok false w:=kz (by unfold Op.equalIn;rw[aB (he w)];rfl)
  exact cd (by rw[aB (a:=()) (w':=w) J];simp only[binOp];rw[aB h1];rfl)
def zq{v:Value}[hT:tX P t](hv:v= .nilIface\/ ∃k u,v= .iface k u)(hx:aq fr x=some v):
  Yd P C fr own G ⟨dst, .binOp .neq t x (.const .nilIface) t',ty',pos,af,gd⟩ (.bool (match v with| .nilIface=>false|_=>true)):=by
 obtain⟨e,he⟩:=hT.u;intro a w hf hh;simp only[execOp,aG hf hx,show a.eval (.const .nilIface)= .nilIface from J];rcases hv with rfl|⟨k,u,rfl⟩
 ·have h1:(Op.equal t .nilIface .nilIface).run P w= .ok true w:=kz (by unfold Op.equalIn;rw[aB (he w)];rfl)
  have h2:(eqGuard .neq t x (.const .nilIface) .nilIface .nilIface).run P w= .ok () w:=by cases x<;>rfl
  exact cd (by rw[aB h2];simp only[binOp];rw[aB h1];rfl)
 ·have h1:(Op.equal t (.iface k u) .nilIface).run P w= .ok false w:=kz (by unfold Op.equalIn;rw[aB (he w)];rfl)
  exact cd (by rw[aB (a:=()) (w':=w) J];simp only[binOp];rw[aB h1];rfl)
def JK{cs l:List Value}{f off ft k:Nat}[hF:vM P t f off ft][hA:kg P ft k](hx:aq fr x=some (.agg ⟨cs⟩))(hl:bF cs off k=some l):Yd P C fr own G ⟨dst, .field t x f,ty',pos,af,gd⟩ (.agg ⟨l⟩):=by
 obtain⟨fs,fd,h1,h2,h3,h4⟩:=hF.u;intro a w hf hh;simp only[execOp,aG hf hx];have:(Instr.field t (.agg ⟨cs⟩) f).run P w= .ok (.agg ⟨l⟩) w:=by
  unfold Instr.field;rw[aB (h1 w)];simp only[h2,h3,h4,asAgg];rw[aB (run_pure _ _ _)];unfold part;rw[aB (hA.agg w)];simp only[if_true];rw[aB (hA.siz w)];obtain⟨k1,k2⟩:=kd _ _ _ _ hl;have:(⟨cs⟩:Array Value).extract off (off+k)=⟨l⟩:=by
   apply Array.ext';rw[Array.toList_extract];apply jZ;intro i;rw[List.extract_eq_take_drop,List.getElem?_take];split
   ·rw[jN];exact k2 i (by omega)
   ·exact(cL (show l.length<=i by omega)).symm
  rw[this];rfl
 exact cd this
def Kn{cs:List Value}{f off ft:Nat}{v:Value}[hF:vM P t f off ft][hA:gH P ft](hx:aq fr x=some (.agg ⟨cs⟩))(hl:cs[off]? =some v):Yd P C fr own G ⟨dst, .field t x f,ty',pos,af,gd⟩ v:=by
 obtain⟨fs,fd,h1,h2,h3,h4⟩:=hF.u;intro a w hf hh;simp only[execOp,aG hf hx];have:(Instr.field t (.agg ⟨cs⟩) f).run P w= .ok v w:=by
  unfold Instr.field;rw[aB (h1 w)];simp only[h2,h3,h4,asAgg];rw[aB (run_pure _ _ _)];unfold part;rw[aB (hA.agg w)];have:(⟨cs⟩:Array Value)[off]? =some v:=by simpa using hl
  simp only[jM,if_false,this];rfl
 exact cd this
class C8 (P:Program) (t:TypeId) (offs:outParam (List (Nat×Nat))):Prop where
 u: ∃fs:Array Field,(∀w,(underlying t).run P w= .ok (.struct fs) w)/\(∀w,(fs.mapM (m:=Sem) fun f=>do pure (f.offset,<-sizeOf f.type)).run P w= .ok ⟨offs⟩ w)
def lE(fr:Fr)(offs:List (Nat×Nat)):List Value->List (Nat×Operand)->Option (List Value)
 |cs,[]=>some cs
 |cs,(i,x)::r=>match offs[i]?,aq fr x with
  |some (off,k),some v=>if(aC v).length=k/\off+k<=cs.length then lE fr offs (cp cs off (aC v)) r else none
  |_,_=>none
def tN: ∀(vs:List Value) (cs:Array Value) (off j:Nat),(vs.zipIdx j).foldl (fun cs (c,j)=>cs.setIfInBounds (off+j) c) cs=⟨cp cs.toList (off+j) vs⟩
 |[],cs,off,j=>rfl
 |v::vs,cs,off,j=>by
  simp only[List.zipIdx_cons,iN];rw[tN vs _ off (j+1)];simp[cp,kZ]
def w4{a:Act}(hf:fH fr a)(offs:List (Nat×Nat)): ∀(ps:List (Nat×Operand)) (cs out:List Value),lE fr offs cs ps=some out->
  Instr.fill ((⟨offs⟩:Array (Nat×Nat))[·]?) ⟨cs⟩ (ps.map fun(i,x)=>(i,a.eval x))=some ⟨out⟩
 |[],cs,out,h=>by simp only[lE] at h;cases h;rfl
 |(i,x)::ps,cs,out,h=>by
  simp only[lE] at h;split at h
  ·rename_i off k v ho hv
   split at h
   ·rename_i hc
    simp only[bN,Instr.fill];have:(⟨offs⟩:Array (Nat×Nat))[i]? =some (off,k):=by simpa using ho
    simp only[this,aG hf hv,kn];have h1: ¬((⟨aC v⟩:Array Value).size≠k):=by simp[hc.1]
    have h2: ¬(off+(⟨aC v⟩:Array Value).size>(⟨cs⟩:Array Value).size):=by simp only[jQ,hc.1];omega
    rw[if_neg (by simp only[fK,decide_eq_true_eq,not_or];exact⟨by simpa using h1,by simpa using h2⟩)];have e:=tN (aC v) ⟨cs⟩ off 0;have e':(⟨aC v⟩:Array Value).zipIdx.foldl (fun cs (c,j)=>cs.setIfInBounds (off+j) c) (⟨cs⟩:Array Value)=⟨cp cs off (aC v)⟩:=by
     rw[<-Array.foldl_toList,Array.toList_zipIdx];simpa using e
    rw[e'];exact w4 hf offs ps _ _ h
   ·cases h
  ·cases h
def KE{parts:Array (Nat×Operand)}{offs:List (Nat×Nat)}{z:Value}{out:List Value}[hT:C8 P t offs][hz:fp P t z](hb:lE fr offs (aC z) parts.toList=some out):Yd P C fr own G ⟨dst, .build t parts,ty',pos,af,gd⟩ (.agg ⟨out⟩):=by
 obtain⟨fs,h1,h2⟩:=hT.u;intro a w hf hh;simp only[execOp];have:(Instr.build t (parts.map fun(i,x)=>(i,a.eval x))).run P w= .ok (.agg ⟨out⟩) w:=by
  unfold Instr.build;rw[aB (hz.zero w),kn];rw[aB (h1 w)];simp only[];rw[aB (h2 w)];have:=w4 hf offs parts.toList _ _ hb;simp only[jY,this];rfl
 exact cd this
end
def cI(z:Value)(k:Nat):List Value:=(List.replicate k (aC z)).flatten
def CX{α:Type}(l:List α): ∀(k i:Nat),i<k*l.length->(List.replicate k l).flatten[i]? =l[i%l.length]?
 |0,i,h=>by omega
 |k+1,i,h=>by
  rw[eJ,gR];by_cases hi:i<l.length
  ·rw[cV hi,eY hi]
  ·rw[fQ (by omega),CX l k (i-l.length) (by rw[cJ] at h;omega)]
   rw[Nat.mod_eq_sub_mod (Nat.ge_of_not_lt hi)]
def mG(z:Value)(k:Nat):(cI z k).length=k*(aC z).length:=by simp[cI]
def tF{z:Value}{k m:Nat}(h:m=k*(aC z).length):((Array.range m).map fun i=>(⟨aC z⟩:Array Value)[i%(⟨aC z⟩:Array Value).size]!)=⟨cI z k⟩:=by
 subst h;apply Array.ext';apply jZ;intro i;simp only[jY,Array.toList_range,fZ,jQ];by_cases hi:i<k*(aC z).length
 ·rw[mN hi]
  simp only[fL];have h1:=CX (aC z) k i hi;have hpos:0<(aC z).length:=by
   rcases dJ (aC z).length with h|h
   ·rw[h,Nat.mul_zero] at hi;omega
   ·exact h
  have hm:=cM i hpos;show _=(cI z k)[i]?;unfold cI;rw[h1];simp[hm]
 ·rw[cL (by simpa using hi)]
  rw[cL (by show(cI z k).length<=i;rw[mG];omega)];rfl
section
variable {P:Program} {C:au} {n:Nat} {fr:Fr} {own own':List ao} {G:Gh} {Φ:Act->World->Prop}
variable {dst:Option Nat} {t t' ty':TypeId} {pos:String} {af:Array Edge} {gd:Option (Nat×Bool)} {x y:Operand} {e s by_:Nat}
def Gg[hT:ce P t e s by_](w:World): ∃i:TypeInfo,(typeInfo e).run P w= .ok i w/\i.bytes=by_:=by
 obtain⟨i,h1,_,h2⟩:=hT.info;exact⟨i,by simp[typeInfo,program,Sem.run_bind,Sem.run,h1,run_pure],h2⟩
def ma[hT:ce P t e s by_]{z:Value}[hz:fp P e z]{k k':IntKind}{l:Int}(hx:aq fr x=some (.int k l))(hy:aq fr y=some (.int k' l))(h0:0<=l)(hb:by_*l<=2^47)(hl:l<=2^60)(hs:(aC z).length=s)(hd:bD n dst=true)
  (h: ∀b,St C n (put fr dst (.slice (some ⟨b,0,none⟩) l.toNat l.toNat)) (⟨b,cI z l.toNat,e,true⟩::own) G Φ):
  Ch P C n fr own G ⟨dst, .makeSlice t x y,ty',pos,af,gd⟩ Φ:=by
 intro a w Q rl;have h1:(Instr.makeSlice t (a.eval x) (a.eval y)).run P w= .ok (.slice (some ⟨w.heap.size,0,none⟩) l.toNat l.toNat) (w.alloc (.cells ⟨cI z l.toNat⟩ e)):=by
  obtain⟨i,hi,hib⟩:=Gg (P:=P) (t:=t) (e:=e) (s:=s) (by_:=by_) w;rw[aG rl.fr hx,aG rl.fr hy];unfold Instr.makeSlice;rw[aB (hT.u w)];simp only[asInt,asIntOf];rw[aB (a:=l) (w':=w) J,aB (a:=l) (w':=w) J,aB hi,hib];have hw:IntKind.i64.wrap l=l:=l8 (by simp[IntKind.min,IntKind.max,IntKind.signed,IntKind.bits];omega);simp only[hw];have c1: ¬((by_:Int)*l>2^48):=by
   have:(2:Int)^47<=2^48:=by decide
   omega
  have c2:(decide (l<0)||decide ((by_:Int)*l>2^48))=false:=by simp[c1];omega
  simp only[c2,Int.lt_irrefl,decide_false,Bool.or_false,Bool.false_or];have c3:decide (l<0)=false:=by simp;omega
  simp only[c3,jM,if_false,gt_iff_lt,Int.lt_irrefl,decide_false,Bool.or_false];have hr: ¬(l.toNat*by_>roomBytes):=by
   unfold roomBytes;have:((l.toNat*by_:Nat):Int)=by_*l:=by rw[kQ,Int.toNat_of_nonneg h0,Int.mul_comm]
   have h47:((2^47:Nat):Int)=2^47:=by decide
   omega
  unfold askRoom;simp only[hr,if_false];rw[aB (run_pure _ _ _),aB (hT.siz w)];have hn:l.toNat*s=l.toNat*(aC z).length:=by rw[hs]
  by_cases h00:l.toNat*s=0
  ·rw[if_pos h00,aB (run_pure _ _ _)]
   have e0:cI z l.toNat=[]:=bK (by rw[mG,hs];exact h00);rw[h00,e0,show(Array.range 0)= #[] from J,Array.map_empty];rfl
  ·rw[if_neg h00,aB (hz.zero w),kn]
   rw[aB (run_pure _ _ _),tF hn];rfl
 refine(fun hk=>?_:Φ (a.put dst (.slice (some ⟨w.heap.size,0,none⟩) l.toNat l.toNat)) (w.alloc (.cells ⟨cI z l.toNat⟩ e))->_) (h w.heap.size _ _ ((rl.heap (rl.h.alloc _ _)).put _ hd));exact iO (v:= .slice (some ⟨w.heap.size,0,none⟩) l.toNat l.toNat) (cd h1) hk
end
section
variable {P:Program} {C:au} {n:Nat} {fr:Fr} {own own':List ao} {G:Gh} {Φ:Act->World->Prop}
variable {dst:Option Nat} {t t' ty':TypeId} {pos:String} {af:Array Edge} {gd:Option (Nat×Bool)} {x y:Operand} {e s by_:Nat}
def lI(fr:Fr)(s:Nat):List Value->List (Nat×Operand)->Option (List Value)
 |cs,[]=>some cs
 |cs,(i,x)::r=>match aq fr x with
  |some v=>if(aC v).length=s/\i*s+s<=cs.length then lI fr s (cp cs (i*s) (aC v)) r else none
  |none=>none
def Dy{a:Act}(hf:fH fr a)(s:Nat): ∀(ps:List (Nat×Operand)) (cs out:List Value),lI fr s cs ps=some out->
  Instr.fill (fun i=>some (i*s,s)) ⟨cs⟩ (ps.map fun(i,x)=>(i,a.eval x))=some ⟨out⟩
 |[],cs,out,h=>by simp only[lI] at h;cases h;rfl
 |(i,x)::ps,cs,out,h=>by
  simp only[lI] at h;split at h
  ·rename_i v hv
   split at h
   ·rename_i hc
    simp only[bN,Instr.fill,aG hf hv,kn];have h1: ¬((⟨aC v⟩:Array Value).size≠s):=by simp[hc.1]
    have h2: ¬(i*s+(⟨aC v⟩:Array Value).size>(⟨cs⟩:Array Value).size):=by simp only[jQ,hc.1];omega
    rw[if_neg (by simp only[fK,decide_eq_true_eq,not_or];exact⟨by simpa using h1,by simpa using h2⟩)];have e:=tN (aC v) ⟨cs⟩ (i*s) 0;have e':(⟨aC v⟩:Array Value).zipIdx.foldl (fun cs (c,j)=>cs.setIfInBounds (i*s+j) c) (⟨cs⟩:Array Value)=⟨cp cs (i*s) (aC v)⟩:=by
     rw[<-Array.foldl_toList,Array.toList_zipIdx];simpa using e
    rw[e'];exact Dy hf s ps _ _ h
   ·cases h
  ·cases h
def tu[hT:ce P t e s by_]{z:Value}[hz:fp P e z]{len:Nat}{parts:Array (Nat×Operand)}{out:List Value}(hs:(aC z).length=s)(hb:lI fr s (cI z len) parts.toList=some out)(hsm:Nat.ble (len*s) 1000=true)(hs0:Nat.blt 0 (len*s)=true)(hd:bD n dst=true)
  (h: ∀b,St C n (put fr dst (.slice (some ⟨b,0,none⟩) len len)) (⟨b,out,e,true⟩::own) G Φ):
  Ch P C n fr own G ⟨dst, .buildSlice t len parts,ty',pos,af,gd⟩ Φ:=by
 intro a w Q rl;have hsm':len*s<=1000:=by simpa using hsm
 have hs0':0<len*s:=by simpa[jV] using hs0
 have h1:(Instr.buildSlice t len (parts.map fun(i,x)=>(i,a.eval x))).run P w= .ok (.slice (some ⟨w.heap.size,0,none⟩) len len) (w.alloc (.cells ⟨out⟩ e)):=by
  unfold Instr.buildSlice;rw[aB (hT.u w)];simp only[];rw[aB (hT.siz w)];have c1: ¬(len*s>2^24):=by omega
  have c2: ¬(len*s=0):=by omega
  simp only[c1,if_false];rw[if_neg c2,aB (hz.zero w),kn,aB (run_pure _ _ _)];rw[tF (k:=len) (by rw[hs])];have hf:=Dy rl.fr s parts.toList _ _ hb;simp only[jY,hf];rfl
 refine iO (v:= .slice (some ⟨w.heap.size,0,none⟩) len len) (w':=w.alloc (.cells ⟨out⟩ e)) ?_ (h w.heap.size _ _ ((rl.heap (rl.h.alloc _ _)).put _ hd));simp only[execOp];exact cd h1
def xq[hT:ce P t e s by_](hd:bD n dst=true)(h: ∀b,St C n (put fr dst (.slice (some ⟨b,0,none⟩) 0 0)) (⟨b,[],e,true⟩::own) G Φ):
  Ch P C n fr own G ⟨dst, .buildSlice t 0 #[],ty',pos,af,gd⟩ Φ:=by
 intro a w Q rl;have h1:(Instr.buildSlice t 0 #[]).run P w= .ok (.slice (some ⟨w.heap.size,0,none⟩) 0 0) (w.alloc (.cells ⟨[]⟩ e)):=by
  unfold Instr.buildSlice;rw[aB (hT.u w)];simp only[];rw[aB (hT.siz w)];simp only[jX,gt_iff_lt,Nat.not_lt_zero,if_false,if_true];rw[aB (run_pure _ _ _),show(Array.range 0)= #[] from J,Array.map_empty];rfl
 refine iO (v:= .slice (some ⟨w.heap.size,0,none⟩) 0 0) (w':=w.alloc (.cells ⟨[]⟩ e)) ?_ (h w.heap.size _ _ ((rl.heap (rl.h.alloc _ _)).put _ hd));simp only[execOp,fM,gK];exact cd h1
def BT[hT:ce P t e s by_]{ad:Option Addr}{len cap l2 c2:Nat}(hx:aq fr x=some (.slice ad len cap))(hy:aq fr y=some (.slice none l2 c2)):Yd P C fr own G ⟨dst, .binOp .eql t x y t',ty',pos,af,gd⟩ (.bool ad.isNone):=by
 intro a w hf hh;simp only[execOp,aG hf hx,aG hf hy];have h1:(Op.equal t (.slice ad len cap) (.slice none l2 c2)).run P w= .ok ad.isNone w:=kz (by unfold Op.equalIn;rw[aB (hT.u w)];cases ad<;>rfl);have h2:(eqGuard .eql t x y (.slice ad len cap) (.slice none l2 c2)).run P w= .ok () w:=J;have h3:(binOp .eql t (.slice ad len cap) (.slice none l2 c2)).run P w= .ok (.bool ad.isNone) w:=by simp only[binOp];rw[aB h1];rfl
 exact cd (by rw[aB h2];exact h3)
def FC[hT:ce P t e s by_]{ad:Option Addr}{len cap l2 c2:Nat}(hx:aq fr x=some (.slice ad len cap))(hy:aq fr y=some (.slice none l2 c2)):Yd P C fr own G ⟨dst, .binOp .neq t x y t',ty',pos,af,gd⟩ (.bool (!ad.isNone)):=by
 intro a w hf hh;simp only[execOp,aG hf hx,aG hf hy];have h1:(Op.equal t (.slice ad len cap) (.slice none l2 c2)).run P w= .ok ad.isNone w:=kz (by unfold Op.equalIn;rw[aB (hT.u w)];cases ad<;>rfl);have h2:(eqGuard .neq t x y (.slice ad len cap) (.slice none l2 c2)).run P w= .ok () w:=J;have h3:(binOp .neq t (.slice ad len cap) (.slice none l2 c2)).run P w= .ok (.bool (!ad.isNone)) w:=by simp only[binOp];rw[aB h1];rfl
 exact cd (by rw[aB h2];exact h3)
end
def i5: ∀(cs:List Value) (off k:Nat),off+k<=cs.length->bF cs off k=some ((cs.drop off).take k)
 |cs,0,0,_=>by cases cs<;>rfl
 |[],0,k+1,h=>by simp at h
 |v::t,0,k+1,h=>by
  simp only[bF,i5 t 0 k (by simp at h;omega)];simp
 |[],_+1,k,h=>by simp at h
 |_::t,off+1,k,h=>by
  simp only[bF,i5 t off k (by simp at h;omega)];simp
section
variable {P:Program} {C:au} {n:Nat} {fr:Fr} {own own' own1:List ao} {G:Gh} {Φ:Act->World->Prop}
variable {dst:Option Nat} {t t' ty':TypeId} {pos:String} {af:Array Edge} {gd:Option (Nat×Bool)} {x y:Operand} {e s by_:Nat}
def kj(P:Program)(C:au)(own:List ao)(G:Gh)(s m:Nat)(v:Value)(ys:List Value):Prop:=
 ∀w,bc C own G w->(Builtin.firstCells s m v).run P w= .ok ⟨ys⟩ w
def vE{w:World}{b off k:Nat}{cs l:List Value}{ty:TypeId}{fz:Nat×Nat}(h:w.heap[b]? =some (.cells ⟨cs⟩ ty fz))(hl:bF cs off k=some l):(loadCells ⟨b,off,none⟩ k).run P w= .ok ⟨l⟩ w:=by
 obtain⟨h1,h2⟩:=kd _ _ _ _ hl;unfold loadCells;rw[tM (l:=l) k 0 #[] (fun j hj=>by rw[pK h];simpa using h2 j hj) (by omega)];simp[<-h1]
def Ag{b off m len cap:Nat}{cs ys:List Value}{ty:TypeId}{lo:Bool}(ho:fD own b cs ty lo)(hl:bF cs off (m*s)=some ys):kj P C own G s m (.slice (some ⟨b,off,none⟩) len cap) ys:=
 fun w h=>vE (h.hown _ ho.mem).1 hl
def xp{b off m len cap:Nat}{cs ys:List Value}(hg:G b=some cs)(hl:bF cs off (m*s)=some ys):kj P C own G s m (.slice (some ⟨b,off,none⟩) len cap) ys:=
 fun w h=>by obtain⟨ty,fz,hb⟩:=h.sub _ _ hg;exact vE hb hl
def oe{ad:Option Addr}{len cap:Nat}:kj P C own G s 0 (.slice ad len cap) []:=fun w _=>by
 cases ad with
 |none=>rfl
 |some a=>unfold Builtin.firstCells loadCells;simp[loadCellsFrom,run_pure]
def y5(z:Value)(k:Nat):Builtin.zeroCells ⟨aC z⟩ k=⟨cI z k⟩:=by
 unfold Builtin.zeroCells;exact tF J
def CF{w w':World}[hT:ce P t e s by_][hN:jH P t']{z:Value}[hz:fp P e z]{ad:Option Addr}{len cap m cap2:Nat}{ad2:Option Addr}{xs ys:List Value}
  (hsx:(Builtin.firstCells s len (.slice ad len cap)).run P w.drew= .ok ⟨xs⟩ w.drew)(hsy:(Builtin.firstCells s m (.slice ad2 m cap2)).run P w.drew= .ok ⟨ys⟩ w.drew)
  (hneed:cap<len+m)(hby:0<by_)(hb:(len+m)*by_<=140737488355328):
  (Builtin.append_ #[t,t'] ty' #[.slice ad len cap, .slice ad2 m cap2]).run P w=
   .ok (.slice (some ⟨w.heap.size,0,none⟩) (len+m) (grownCap w (len+m) cap e)) (w.drew.alloc (.cells ⟨xs++ys++cI z (grownCap w (len+m) cap e-(len+m))⟩ e)):=by
 obtain⟨d,hd1⟩:=hN.un;obtain⟨i,hi,his,hib⟩:=hT.info;obtain⟨i',hi',hiz⟩:=hz.info;rw[hi] at hi';cases hi';have hfit:=growslice_fits (old:=cap) (need:=len+m) (bytes:=by_) hneed hb;have hlen:len+m<=140737488355328:=dS (Nat.le_mul_of_pos_right _ hby) hb;have hn: ¬(len+m<=cap):=by omega
 have h63': ¬(9223372036854775807<((len:Int)+(m:Int))):=by omega
 have h48': ¬(281474976710656<Builtin.nextslicecap (len+m) cap*i.bytes):=by rw[hib];omega
 subst his;simp[Builtin.append_,run_underlying hT.un,run_underlying hd1,sizeOf,typeInfo,zeroValue,hi,hiz,Builtin.lenOf,hn,h63',h48',Question.forced,hsx,hsy,newRow,grownCap];congr 2;apply Array.ext';rw[kn,y5];simp[dL]
def tv[hT:ce P t e s by_][hN:jH P t']{z:Value}[hz:fp P e z]{ad:Option Addr}{len cap m cap2:Nat}{ad2:Option Addr}{xs ys:List Value}
  (hx:aq fr x=some (.slice ad len cap))(hy:aq fr y=some (.slice ad2 m cap2))(hsx:kj P C own G s len (.slice ad len cap) xs)(hsy:kj P C own G s m (.slice ad2 m cap2) ys)
  (hneed:cap<len+m)(hby:0<by_)(hb:(len+m)*by_<=140737488355328)(hd:bD n dst=true)
  (h: ∀b cap',len+m<=cap'->St C n (put fr dst (.slice (some ⟨b,0,none⟩) (len+m) cap')) (⟨b,xs++ys++cI z (cap'-(len+m)),e,true⟩::own) G Φ):
  Ch P C n fr own G ⟨dst, .call ⟨.builtin .append, #[x,y], #[t,t']⟩,ty',pos,af,gd⟩ Φ:=by
 intro a w Q rl;have hcap:len+m<=grownCap w (len+m) cap e:=by unfold grownCap;simp only[Question.cut];omega
 have hrun:=CF (P:=P) (t:=t) (t':=t') (ty':=ty') (w:=w) (w':=w) (hsx _ rl.h.drew) (hsy _ rl.h.drew) hneed hby hb;refine iO (v:= .slice (some ⟨w.heap.size,0,none⟩) (len+m) (grownCap w (len+m) cap e)) (w':=w.drew.alloc (.cells ⟨xs++ys++cI z (grownCap w (len+m) cap e-(len+m))⟩ e)) ?_ ?_
 ·simp only[execOp,resolve,fM,bN,gK,aG rl.fr hx,aG rl.fr hy]
  exact cd hrun
 ·exact h w.heap.size _ hcap _ _ ((rl.heap ((rl.h.drew).alloc _ _)).put _ hd)
def gm.perm{o:ao}(h:gm own o own1):own.Perm (o::own1):=by
 induction h with
 |hd o t=>exact List.Perm.refl _
 |tl x t t' o h ih=>exact(List.Perm.cons x ih).trans (List.Perm.swap _ _ _)
def EO{w:World}[hT:ce P t e s by_][hN:jH P t']{b len cap m cap2:Nat}{ad2:Option Addr}{cs ys:List Value}
  (hb:w.heap[b]? =some (.cells ⟨cs⟩ e (0,0)))(hcs:cs.length=cap*s)(hsy:(Builtin.firstCells s m (.slice ad2 m cap2)).run P w= .ok ⟨ys⟩ w)(hys:ys.length=m*s)(hf: ∀v∈ys,flat v=true)
  (hneed:len+m<=cap):
  (Builtin.append_ #[t,t'] ty' #[.slice (some ⟨b,0,none⟩) len cap, .slice ad2 m cap2]).run P w=
   .ok (.slice (some ⟨b,0,none⟩) (len+m) cap) (dO w b (.cells ⟨cp cs (len*s) ys⟩ e (0,0))):=by
 obtain⟨d,hd1⟩:=hN.un;obtain⟨i,hi,his,hib⟩:=hT.info;subst his;have hl:len*i.size+ys.length<=cs.length:=by rw[hys,hcs,<-cJ];exact aM _ hneed
 have hst:=qA (P:=P) ys w (len*i.size) 0 cs hf hb (by omega);rw[dQ] at hst;simp[Builtin.append_,run_underlying hT.un,run_underlying hd1,sizeOf,typeInfo,hi,Builtin.lenOf,hneed,hsy,kA,hst]
def s9: ∀(vs cs:List Value) (off:Nat),(cp cs off vs).length=cs.length
 |[],cs,off=>rfl
 |v::vs,cs,off=>by simp[cp,s9 vs]
def nf: ∀(vs cs:List Value) (off:Nat),off+vs.length<=cs.length->cp cs off vs=cs.take off++vs++cs.drop (off+vs.length)
 |[],cs,off,h=>by simp[cp]
 |v::vs,cs,off,h=>by
  simp only[bT] at h;rw[cp,nf vs _ _ (by simp;omega)];rw[List.take_set,nQ (by omega)];have h1:(cs.take (off+1)).set off v=cs.take off++[v]:=by
   rw[dZ (by omega),List.set_append_right _ _ (by simp;omega)];simp[dT (by omega:off<=cs.length)]
  rw[h1];simp only[bT,dL,gW,gN];congr 4;omega
def Bc[hT:ce P t e s by_][hN:jH P t']{z:Value}[hz:fp P e z]{b len cap m cap2:Nat}{ad2:Option Addr}{xs ys rest:List Value}
  (hx:aq fr x=some (.slice (some ⟨b,0,none⟩) len cap))(hy:aq fr y=some (.slice ad2 m cap2))(hr:gm own ⟨b,xs++rest,e,true⟩ own1)(hxs:xs.length=len*s)(hcap:xs.length+rest.length=cap*s)(hlc:len<=cap)
  (hsy:kj P C own G s m (.slice ad2 m cap2) ys)(hys:ys.length=m*s)(hf: ∀v∈ys,flat v=true)
  (hby:0<by_)(hb:(len+m)*by_<=140737488355328)(hzs:(aC z).length=s)(hd:bD n dst=true)
  (h: ∀b cap' rest',len+m<=cap'->rest'.length+(len+m)*s=cap'*s->St C n (put fr dst (.slice (some ⟨b,0,none⟩) (len+m) cap')) (⟨b,xs++ys++rest',e,true⟩::own1) G Φ):
  Ch P C n fr own G ⟨dst, .call ⟨.builtin .append, #[x,y], #[t,t']⟩,ty',pos,af,gd⟩ Φ:=by
 intro a w Q rl;have hp:=rl.h.perm hr.perm;have hblk:=(hp.hown _ aQ).1;simp only[] at hblk;by_cases hneed:len+m<=cap
 ·have hcs:(xs++rest).length=cap*s:=by simp;omega
  have hrun:=EO (P:=P) (t:=t) (t':=t') (ty':=ty') (w:=w) (len:=len) hblk hcs (hsy w rl.h) hys hf hneed;have hle:len*s+m*s<=cap*s:=by rw[<-cJ];exact aM _ hneed
  have hov:cp (xs++rest) (len*s) ys=xs++ys++rest.drop (m*s):=by
   rw[nf _ _ _ (by rw[hys];omega),<-hxs];simp[hys,List.drop_append]
  refine iO (v:= .slice (some ⟨b,0,none⟩) (len+m) cap) (w':=dO w b (.cells ⟨cp (xs++rest) (len*s) ys⟩ e (0,0))) ?_ ?_
  ·simp only[execOp,resolve,fM,bN,gK,aG rl.fr hx,aG rl.fr hy]
   exact cd hrun
  ·rw[hov]
   refine h b cap (rest.drop (m*s)) hneed ?_ _ _ ((rl.heap (hp.store (.hd ..))).put _ hd);rw[kS,cJ];omega
 ·have hx':kj P C own G s len (.slice (some ⟨b,0,none⟩) len cap) xs:=fun w' hw'=>by
   have hb':=(((hw'.perm hr.perm).hown _ aQ).1);refine vE hb' ?_;rw[i5 _ _ _ (by simp;omega),<-hxs];simp
  have hcap':len+m<=grownCap w (len+m) cap e:=by unfold grownCap;simp only[Question.cut];omega
  have hrun:=CF (P:=P) (t:=t) (t':=t') (ty':=ty') (w:=w) (w':=w) (hx' _ rl.h.drew) (hsy _ rl.h.drew) (by omega) hby hb;refine iO (v:= .slice (some ⟨w.heap.size,0,none⟩) (len+m) (grownCap w (len+m) cap e)) (w':=w.drew.alloc (.cells ⟨xs++ys++cI z (grownCap w (len+m) cap e-(len+m))⟩ e)) ?_ ?_
  ·simp only[execOp,resolve,fM,bN,gK,aG rl.fr hx,aG rl.fr hy]
   exact cd hrun
  ·refine h w.heap.size _ _ hcap' ?_ _ _ ((rl.heap (((hp.drew).drop (List.sublist_cons_self _ _)).alloc _ _)).put _ hd)
   rw[mG,hzs,<-cJ];congr 1;omega
end
section
variable {P:Program} {ops:Array Oper} {Q:Exit->Act->World->Prop} {S:World->Prop} {fin:Nat->Bool}
def lh(ops:Array Oper)(fin:Nat->Bool):List (Nat×Bool)->Array Bool->Bool
 |[],listed=>(Region.ready .any ops listed).isEmpty
 |(i,true)::r,listed=>oP ops fin listed i&&lh ops fin r (listed.setIfInBounds i true)
 |(i,false)::r,listed=>(Region.ready .any ops listed==[i])&&lh ops fin r (listed.setIfInBounds i true)
def fI(P:Program)(ops:Array Oper)(Q:Exit->Act->World->Prop)(S:World->Prop)(fin:Nat->Bool):List (Nat×Bool)->Act->World->Prop
 |[],a,w=>Q .normal a w
 |(i,true)::r,a,w=> ∃o v,ops[i]? =some o/\S w/\YieldsIf P ops S o v a/\fI P ops Q S fin r (a.put o.dst v) w
 |(i,false)::r,a,w=>wpOp P ops Q i (fun a' w'=>(fin i=true\/S w')/\fI P ops Q S fin r a' w') a w
def tI(hQ: ∀c a d v w,Q (.panic c) (Act.put a d v) w->Q (.panic c) a w): ∀(π:List (Nat×Bool)) (listed:Array Bool) (a:Act) (w:World),lh ops fin π listed=true->fI P ops Q S fin π a w-> ∀fuel,π.length<=fuel->lq P ops Q S fin fuel listed a w
 |[],listed,a,w,ho,h,fuel,hf=>by
  have hr:Region.ready .any ops listed=[]:=by simpa[lh] using ho
  cases fuel with
  |zero=>exact⟨hr,h⟩
  |succ k=>exact⟨fun _=>h,by rw[hr];simp⟩
 |(i,true)::r,listed,a,w,ho,h,0,hf=>by simp at hf
 |(i,false)::r,listed,a,w,ho,h,0,hf=>by simp at hf
 |(i,true)::r,listed,a,w,ho,h,fuel+1,hf=>by
  obtain⟨o,v,hoi,hS,hy,hk⟩:=h;simp only[lh,oP,aR] at ho;obtain⟨⟨⟨⟨h1,h2⟩,h3⟩,h4⟩,h5⟩:=ho;obtain⟨h6,h7⟩:=Mb h4;exact Fy hoi (Region.noSelect_spec h1) (fun c a w=>hQ c a _ _ w) h6 h7 fuel listed a w (Region.free_spec hoi h2) (by simpa using h3) hy hS
   (tI hQ r _ _ _ h5 hk fuel (by simpa using hf))
 |(i,false)::r,listed,a,w,ho,h,fuel+1,hf=>by
  simp only[lh,aR,beq_iff_eq] at ho;exact IE ho.1 (wpOp_mono (fun a' w' h'=>⟨h'.1,tI hQ r _ _ _ ho.2 h'.2 fuel (by simpa using hf)⟩) h)
end
section
variable {P:Program} {C:au} {n:Nat} {fr:Fr} {own own0:List ao} {G G0:Gh} {ops:Array Oper} {Q:Exit->Act->World->Prop} {fin:Nat->Bool} {π:List (Nat×Bool)}
def dr(fin:Nat->Bool)(π:List (Nat×Bool)){id:Nat}(hm:P.follows .mixedOrders=true)(ho:(lh ops fin π (Array.replicate ops.size false)&&Nat.ble π.length ops.size)=true)
  (h:St C n fr own G (fI P ops (fP Q) (HS C own G) fin π)):St C n fr own G ((Code.region id ops true).wp P Q):=by
 simp only[aR] at ho;refine Mj fin hm fun a w rl=>tI (fun _ _ _ _ _ h=>h) π _ a w ho.1 (h a w rl) _ (by simpa using ho.2)
def dy{i:Nat}{o:Oper}{v:Value}(ho:ops[i]? =some o)(hy: ∀G':Gh,[GE G0 G']->Yd P C fr own0 G' o v)(hg:o.guard=none)(hd:bD n o.dst=true)[hs:im own0 own][hl:GL G0 G]
  (h:St C n (put fr o.dst v) own G (fI P ops (fP Q) (HS C own0 G0) fin π)):St C n fr own G (fI P ops (fP Q) (HS C own0 G0) fin ((i,true)::π)):=
 fun a w rl=>⟨o,v,ho,⟨G,hl.le,rl.h.drop hs.s⟩, .inl ⟨by simp[Region.wanted,hg],fun w' ⟨G',hle,hr⟩=> @hy G' ⟨hle⟩ a w' rl.fr hr⟩,h _ _ (rl.put v hd)⟩
def dM{i:Nat}{dst:Option Nat}{ty':TypeId}{pos:String}{af:Array Edge}{x:Operand}{v:Value}(ho:ops[i]? =some ⟨dst, .move x,ty',pos,af,none⟩)(hx:aq fr x=some v)(hd:bD n dst=true)[hs:im own0 own][hl:GL G0 G]
  (h:St C n (put fr dst v) own G (fI P ops (fP Q) (HS C own0 G0) fin π)):St C n fr own G (fI P ops (fP Q) (HS C own0 G0) fin ((i,true)::π)):=dy ho (fun _ _=>ie hx) J hd h
def dA{i:Nat}{dst:Option Nat}{ty':TypeId}{pos:String}{af:Array Edge}{x:Operand}{v:Value}(ho:ops[i]? =some ⟨dst, .assign x,ty',pos,af,none⟩)(hx:aq fr x=some v)(hd:bD n dst=true)[hs:im own0 own][hl:GL G0 G]
  (h:St C n (put fr dst v) own G (fI P ops (fP Q) (HS C own0 G0) fin π)):St C n fr own G (fI P ops (fP Q) (HS C own0 G0) fin ((i,true)::π)):=dy ho (fun _ _=>th hx) J hd h
def dc{i:Nat}{o:Oper}(ho:ops[i]? =some o)(hg:o.guard=none)(hc:Ch P C n fr own G o (fun a w=>(fin i=true\/HS C own0 G0 w)/\fI P ops (fP Q) (HS C own0 G0) fin π a w)):St C n fr own G (fI P ops (fP Q) (HS C own0 G0) fin ((i,false)::π)):=by
 intro a w rl;show wpOp P ops (fP Q) i _ a w;unfold wpOp;simp only[ho,Region.wanted,hg,if_true];exact .inl (hc a w _ rl)
def dn(h:St C n fr own G (Q .normal)):St C n fr own G (fI P ops (fP Q) (HS C own0 G0) fin []):=h
variable {dst:Option Nat} {t t' ty':TypeId} {pos:String} {af:Array Edge} {x y:Operand} {r:List Oper}
def sm{v:Value}(hx:aq fr x=some v)(hd:bD n dst=true)(h:St C n (put fr dst v) own G (cH P ops Q r)):St C n fr own G (cH P ops Q (⟨dst, .move x,ty',pos,af,none⟩::r)):=pb (ie hx) J hd h
def sa{v:Value}(hx:aq fr x=some v)(hd:bD n dst=true)(h:St C n (put fr dst v) own G (cH P ops Q r)):St C n fr own G (cH P ops Q (⟨dst, .assign x,ty',pos,af,none⟩::r)):=pb (th hx) J hd h
def kC{b off k:Nat}{cs l:List Value}{lo:Bool}{ty:TypeId}(hx:aq fr x=some (.pointer (some ⟨b,off,none⟩)))[ho:fD own b cs ty lo][kg P t k](hl:bF cs off k=some l)(hd:bD n dst=true)
  (h:St C n (put fr dst (.agg ⟨l⟩)) own G (cH P ops Q r)):St C n fr own G (cH P ops Q (⟨dst, .load t x,ty',pos,af,none⟩::r)):=pb (td hx hl) J hd h
def bO{e s by_:Nat}{ad:Option Addr}{len cap:Nat}[hT:ce P t e s by_](hx:aq fr x=some (.slice ad len cap))(hd:bD n dst=true)
  (h:St C n (put fr dst (.int .i64 len)) own G (cH P ops Q r)):St C n fr own G (cH P ops Q (⟨dst, .call ⟨.builtin .len, #[x], #[t]⟩,ty',pos,af,none⟩::r)):=pb (my hx) J hd h
def sx{vs:Array Value}{i:Nat}{v:Value}(hx:aq fr x=some (.tuple vs))(hv:vs[i]? =some v)(hd:bD n dst=true)(h:St C n (put fr dst v) own G (cH P ops Q r)):St C n fr own G (cH P ops Q (⟨dst, .extract x i,ty',pos,af,none⟩::r)):=pb (v7 hx hv) J hd h
def cO{C:au}{n:Nat}{fr:Fr}{own:List ao}{G:Gh}{K:Act->World->Prop}{Q:Exit->Act->World->Prop}{id:Nat}(h:St C n fr own G (Q (.exit id))):St C n fr own G (Exit.then K Q (.exit id)):=h
def dm{op:Op}{v:Value}{j d:Nat}{b:Bool}(hj:(ops[j]?).bind (·.dst)=some d)(hl:d6 fr d=some (.bool b))(hy:Yd P C fr own G ⟨dst,op,ty',pos,af,some (j,b)⟩ v)(hd:bD n dst=true)(h:St C n (put fr dst v) own G (cH P ops Q r)):St C n fr own G (cH P ops Q (⟨dst,op,ty',pos,af,some (j,b)⟩::r)):=GV J hj hl hy hd h
def ss{op:Op}{j d:Nat}{b c:Bool}(hj:(ops[j]?).bind (·.dst)=some d)(hl:d6 fr d=some (.bool c))(hbc:(c==b)=false)(hd:bD n dst=true)(h:St C n (put fr dst undef) own G (cH P ops Q r)):St C n fr own G (cH P ops Q (⟨dst,op,ty',pos,af,some (j,b)⟩::r)):=Ij J hj hl hbc hd h
def sy{op:Op}{v:Value}(hy:Yd P C fr own G ⟨dst,op,ty',pos,af,none⟩ v)(hd:bD n dst=true)(h:St C n (put fr dst v) own G (cH P ops Q r)):St C n fr own G (cH P ops Q (⟨dst,op,ty',pos,af,none⟩::r)):=pb hy J hd h
def sc{op:Op}(hc:Ch P C n fr own G ⟨dst,op,ty',pos,af,none⟩ (cH P ops Q r)):St C n fr own G (cH P ops Q (⟨dst,op,ty',pos,af,none⟩::r)):=Lr J hc
end
def Fn.of_calls{P:Program}{f:FuncId}{vs:List Value}{G:Gh}{v:Value}(ha:jp P f)(h: ∀w,Calls P f ⟨vs⟩ w fun e w'=>e= .returned v/\w'=w):Fn P f vs G (fun u _=>u=v):=
 ⟨ha,fun w hw=>(h w).mono fun e w' ⟨he,hww⟩=>⟨v,G,he,by
  subst hww;exact⟨J,J,J,bZ _,fun _ _ _=>J,hw,aO.refl _,fun _ _=>J,fun o ho=>(by cases ho), .nil,bZ _,fun p hp=>by cases hp⟩,J⟩⟩
end Go.Sx
end
section
namespace Go.Sx
def dv:List Nat->Nat
 |[]=>0
 |d::t=>d+4294967296*dv t
def bj(ds:List Nat):Prop:= ∀d∈ds,d<4294967296
def cG(ds:List Nat):Prop:=ds.getLast? ≠some 0
instance (ds:List Nat):Decidable (cG ds):=inferInstanceAs (Decidable (ds.getLast? ≠some 0))
def bj.nil:bj []:=fun _ h=>by cases h
def bj.cons{d:Nat}{ds:List Nat}(h:d<4294967296)(k:bj ds):bj (d::ds):=fun x hx=>by
 rcases bQ.1 hx with rfl|h'
 ·exact h
 ·exact k _ h'
def bj.head{d:Nat}{ds:List Nat}(h:bj (d::ds)):d<4294967296:=h d aQ
def bj.tail{d:Nat}{ds:List Nat}(h:bj (d::ds)):bj ds:=fun x hx=>h x (aK _ hx)
def bj.append{a b:List Nat}(h:bj a)(k:bj b):bj (a++b):=fun x hx=>by
 rcases dR.1 hx with h'|h'
 ·exact h _ h'
 ·exact k _ h'
def bj.take{a:List Nat}(h:bj a)(n:Nat):bj (a.take n):=fun x hx=>h x (gU hx)
def bj.get{a:List Nat}(h:bj a)(i:Nat):a.getD i 0<4294967296:=by
 rw[aV]
 cases hi:a[i]? with
 |none=>simp
 |some d=>exact h d (aN hi)
def bj.set{a:List Nat}(h:bj a)(i:Nat){d:Nat}(hd:d<4294967296):bj (a.set i d):=fun x hx=>by
 rcases List.mem_or_eq_of_mem_set hx with h'|rfl
 ·exact h _ h'
 ·exact hd
def bj.replicate(n:Nat):bj (List.replicate n 0):=fun x hx=>by
 rw[iJ hx];omega
def oR(a b:List Nat):dv (a++b)=dv a+4294967296^a.length*dv b:=by
 induction a with
 |nil=>simp[dv]
 |cons d t ih=>
  simp only[gW,dv,ih,bT,fX];rw[cZ,<-kZ,<-bV,bY 4294967296 (4294967296^t.length)]
def iv{ds:List Nat}(h:bj ds):dv ds<4294967296^ds.length:=by
 induction ds with
 |nil=>simp[dv]
 |cons d t ih=>
  have h1:=h.head;have h2:=ih h.tail;simp only[dv,bT,fX];omega
def ry(n:Nat):dv (List.replicate n 0)=0:=by
 induction n with
 |zero=>rfl
 |succ n ih=>simp[eJ,dv,ih]
def ig(ds:List Nat)(i:Nat):dv (ds.take (i+1))=dv (ds.take i)+4294967296^i*ds.getD i 0:=by
 by_cases h:i<ds.length
 ·rw[dZ h,oR]
  simp[dv,dT (kL h),aV,h]
 ·have:ds.getD i 0=0:=by rw[aV,cL (by omega)];rfl
  rw[this,aT (by omega),aT (by omega)];simp
def wm(ds:List Nat)(i:Nat)(h:i<=ds.length):dv ds=dv (ds.take i)+4294967296^i*dv (ds.drop i):=by
 have:=oR (ds.take i) (ds.drop i);rw[kX] at this;rw[this];simp[dT h]
def trimD:List Nat->List Nat
 |[]=>[]
 |d::t=>match trimD t with
  |[]=>if d=0 then [] else [d]
  |t'=>d::t'
def nR(d:Nat)(t:List Nat):trimD (d::t)=if trimD t=[]/\d=0 then [] else d::trimD t:=by
 simp only[trimD]
 cases h:trimD t with
 |nil=>by_cases hd:d=0<;>simp[hd]
 |cons a b=>simp
def fh(ds:List Nat):dv (trimD ds)=dv ds:=by
 induction ds with
 |nil=>rfl
 |cons d t ih=>
  rw[nR];split
  ·rename_i h
   rw[h.1] at ih;simp[dv,<-ih,h.2]
  ·simp[dv,ih]
def EC(ds:List Nat):trimD (ds++[0])=trimD ds:=by
 induction ds with
 |nil=>rfl
 |cons d t ih=>rw[gW,nR,nR,ih]
def tV{ds:List Nat}{d:Nat}(h:d≠0):trimD (ds++[d])=ds++[d]:=by
 induction ds with
 |nil=>simp[trimD,h]
 |cons e t ih=>rw[gW,nR,ih];simp
def cG.trimD(ds:List Nat):cG (trimD ds):=by
 induction ds with
 |nil=>simp[cG,Sx.trimD]
 |cons d t ih=>
  rw[nR];split
  ·simp[cG]
  ·rename_i h
   unfold cG at*;rw[List.getLast?_cons]
   cases ht:(Sx.trimD t).getLast? with
   |none=>
    have:Sx.trimD t=[]:=by simpa using ht
    simp only[Option.getD_none,ne_eq,Option.some.injEq];exact fun hd=>h ⟨this,hd⟩
   |some x=>rw[ht] at ih;simpa using ih
def ib(ds:List Nat):(trimD ds).length<=ds.length:=by
 induction ds with
 |nil=>simp[trimD]
 |cons d t ih=>
  rw[nR];split
  ·simp
  ·simp;omega
def Ak(ds:List Nat):trimD ds=ds.take (trimD ds).length:=by
 induction ds with
 |nil=>rfl
 |cons d t ih=>
  rw[nR];split
  ·rfl
  ·simp only[bT,lW];rw[<-ih]
def bj.trimD{ds:List Nat}(h:bj ds):bj (trimD ds):=by rw[Ak];exact h.take _
def CG{ds:List Nat}(h:cG ds):trimD ds=ds:=by
 rcases mV ds with rfl|⟨l,d,rfl⟩
 ·rfl
 ·rw[mW] at*
  exact tV (fun e=>by subst e;simp[cG] at h)
def nD{ds:List Nat}(h:cG ds)(hne:ds≠[]):4294967296^(ds.length-1)<=dv ds:=by
 rcases mV ds with rfl|⟨l,d,rfl⟩
 ·exact absurd J hne
 ·rw[mW] at*
  have hd:d≠0:=fun e=>by subst e;simp[cG] at h
  rw[oR];simp only[bX,bT,gM,dv];have:4294967296^(l.length+(0+1)-1)=4294967296^l.length:=by congr 1
  rw[this];have h1:4294967296^l.length*1<=4294967296^l.length*(d+4294967296*0):=eK _ (by omega);omega
def HB{ds:List Nat}(h:cG ds):dv ds=0↔ds=[]:=by
 constructor
 ·intro h0
  by_cases hne:ds=[]
  ·exact hne
  ·have:=nD h hne
   have hp:0<4294967296^(ds.length-1):=fN (by omega);omega
 ·rintro rfl;rfl
def oH{a b:List Nat}(ha:bj a)(hb:cG b)(h:a.length<b.length):dv a<dv b:=by
 have h1:=iv ha;have h2:=nD hb (fun e=>by subst e;simp at h);have h3:4294967296^a.length<=4294967296^(b.length-1):=bW (by omega) (by omega);omega
def Ey: ∀{a b:List Nat},bj a->bj b->a.length=b.length->dv a=dv b->a=b
 |[],[],_,_,_,_=>rfl
 |d::t,e::u,ha,hb,hl,h=>by
  have h1:=ha.head;have h2:=hb.head;simp only[dv] at h;have:d=e:=by omega
  subst this;rw[Ey ha.tail hb.tail (by simpa using hl) (by omega)]
def MA{a b:List Nat}(ha:bj a)(hb:bj b)(na:cG a)(nb:cG b)(h:dv a=dv b):a=b:=by
 refine Ey ha hb ?_ h;rcases Nat.lt_trichotomy a.length b.length with h'|h'|h'
 ·have:=oH ha nb h';omega
 ·exact h'
 ·have:=oH hb na h';omega
def Bs{a b:List Nat}(ha:bj a)(hb:bj b)(i:Nat)(hia:i<a.length)(hib:i<b.length)(hl:a.length=b.length)(hs:a.drop (i+1)=b.drop (i+1))(h:a.getD i 0<b.getD i 0):dv a<dv b:=by
 rw[wm a (i+1) (by omega),wm b (i+1) (by omega),hs,ig,ig];have h1:=iv (ha.take i);rw[bR,dT (by omega)] at h1;have h2:4294967296^i*(a.getD i 0+1)<=4294967296^i*b.getD i 0:=eK _ h;rw[cZ] at h2;omega
def AL{ds:List Nat}{k:Nat}(h:cG ds)(hk:dv ds<2^k):32*ds.length<=k+31:=by
 by_cases hne:ds=[]
 ·subst hne;simp
 ·have h1:=nD h hne
  have h2:(4294967296:Nat)^(ds.length-1)=2^(32*(ds.length-1)):=by
   rw[mU]
  rw[h2] at h1;have h3:2^(32*(ds.length-1))<2^k:=eX h1 hk;have h4:=(jW (by omega:1<2)).1 h3;have:0<ds.length:=by cases ds with|nil=>exact absurd J hne|cons _ _=>simp
  omega
def dg(x:Nat):List Nat:=if h:x=0 then [] else(x%4294967296)::dg (x/4294967296)
termination_by x
decreasing_by omega
def dB(x:Nat):dv (dg x)=x/\bj (dg x)/\cG (dg x):=by
 induction x using Nat.strongRecOn with
 |_ x ih=>
  unfold dg;split
  ·rename_i h;subst h;exact⟨rfl, .nil,by simp[cG]⟩
  ·rename_i h
   obtain⟨h1,h2,h3⟩:=ih (x/4294967296) (by omega);refine⟨by rw[dv,h1];omega, .cons (by omega) h2,?_⟩;unfold cG at*;rw[List.getLast?_cons]
   cases hl:(dg (x/4294967296)).getLast? with
   |none=>
    have:dg (x/4294967296)=[]:=by simpa using hl
    rw[this] at h1;simp only[Option.getD_none,ne_eq,Option.some.injEq];simp only[dv] at h1;omega
   |some y=>rw[hl] at h3;simpa using h3
def AF{ds:List Nat}(h:bj ds)(n:cG ds):dg (dv ds)=ds:=MA (dB _).2.1 h (dB _).2.2 n (dB _).1
def jv{ds:List Nat}(h:bj ds):dg (dv ds)=trimD ds:=by rw[<-fh];exact AF h.trimD (cG.trimD _)
def kw: ∀(ws:List Nat) (j d:Nat),j<ws.length->dv (ws.set j d)+4294967296^j*ws.getD j 0=dv ws+4294967296^j*d
 |[],j,d,h=>by simp at h
 |w::t,0,d,h=>by simp[dv];omega
 |w::t,j+1,d,h=>by
  have ih:=kw t j d (by simpa using h);simp only[List.set_cons_succ,dv,List.getD_cons_succ,fX];have h1:4294967296^j*4294967296*t.getD j 0=4294967296*(4294967296^j*t.getD j 0):=by rw[bY (4294967296^j),bV]
  have h2:4294967296^j*4294967296*d=4294967296*(4294967296^j*d):=by rw[bY (4294967296^j),bV]
  rw[h1,h2];omega
def qz{ws:List Nat}{k d:Nat}(h:k<ws.length):dv ((ws.set k d).take (k+1))=dv (ws.take k)+4294967296^k*d:=by
 rw[dZ (by simpa using h),List.take_set_of_le (bZ _),oR];simp[dv,dT (kL h)]
def uK(p x:Nat):p*x=p*(x%4294967296)+p*4294967296*(x/4294967296):=by
 have h:p*x=p*(4294967296*(x/4294967296)+x%4294967296):=by rw[Nat.div_add_mod]
 rw[cZ,<-bV] at h;omega
def Iv{p A E W c a b:Nat}(h:W+p*c=A+E):(W+p*((c+a+b)%4294967296))+(p*4294967296)*((c+a+b)/4294967296)=(A+p*a)+(E+p*b):=by
 have h1:=uK p (c+a+b);rw[cZ,cZ] at h1;omega
def JZ{p A E W bo b a:Nat}(h:W+E=A+p*bo)(hle:bo+b<=a):(W+p*(a-(bo+b)))+(E+p*b)=(A+p*a)+p*4294967296*0:=by
 have h1:p*a=p*(a-(bo+b))+p*bo+p*b:=by
  rw[<-cZ,<-cZ];congr 1;omega
 omega
def L'{p A E W bo b a:Nat}(h:W+E=A+p*bo)(hle:a<bo+b)(hb:bo+b<=a+4294967296):(W+p*(a+4294967296-(bo+b)))+(E+p*b)=(A+p*a)+p*4294967296*1:=by
 have h1:p*a+p*4294967296=p*(a+4294967296-(bo+b))+p*bo+p*b:=by
  rw[<-cZ,<-cZ,<-cZ];congr 1;omega
 omega
def If{p W W' T c m w:Nat}(hs:W'+p*w=W+p*((c+m+w)%4294967296))(h:W+p*c=T):W'+(p*4294967296)*((c+m+w)/4294967296)=T+p*m:=by
 have h1:=uK p (c+m+w);rw[cZ,cZ] at h1;omega
end Go.Sx
end
section
namespace Go.Sx
open Go
section
variable {P:Program} {C:au} {n:Nat} {fr:Fr} {own:List ao} {G:Gh}
def IG{c:Code}{Q:Exit->Act->World->Prop}(h:St C n fr own G (c.wp P (Exit.noGoto Q))):St C n fr own G ((Code.scope c).wp P Q):=
 fun a w rl=>wp_scope_straight (h a w rl)
def GS{l:Nat}{Q:Exit->Act->World->Prop}(h:St C n fr own G (Q .normal)):St C n fr own G ((Code.label l).wp P Q):=
 fun a w rl=>wp_label (h a w rl)
def BV:Exit->Bool
 | .goto _=>false
 |_=>true
end
section
variable {P:Program} {ops:Array Oper} {Q:Exit->Act->World->Prop} {S:World->Prop} {fin:Nat->Bool} {k:Nat} {π₂:List (Nat×Bool)}
def CO(ops:Array Oper)(fin:Nat->Bool)(k:Nat)(π₂:List (Nat×Bool)):List (Nat×Bool)->Array Bool->Bool
 |[],listed=>(Region.ready .any ops listed==[k])&&lh ops fin π₂ (listed.setIfInBounds k true)
 |(i,true)::r,listed=>!(Nat.beq i k)&&oP ops fin listed i&&oP ops fin (listed.setIfInBounds k true) i&&CO ops fin k π₂ r (listed.setIfInBounds i true)
 |(i,false)::r,listed=>!(Nat.beq i k)&&(Region.ready .any ops listed).all (fun j=>Nat.beq j i||Nat.beq j k)&&(Region.ready .any ops listed).contains i&&(Region.ready .any ops (listed.setIfInBounds k true)==[i])&&CO ops fin k π₂ r (listed.setIfInBounds i true)
def uH(P:Program)(ops:Array Oper)(Q:Exit->Act->World->Prop)(S:World->Prop)(fin:Nat->Bool)(k:Nat)(π₂:List (Nat×Bool)):List (Nat×Bool)->Act->World->Prop
 |[],a,w=>wpOp P ops Q k (fun a' w'=>(fin k=true\/S w')/\fI P ops Q S fin π₂ a' w') a w
 |(i,true)::r,a,w=> ∃o v,ops[i]? =some o/\S w/\YieldsIf P ops S o v a/\uH P ops Q S fin k π₂ r (a.put o.dst v) w
 |(i,false)::r,a,w=>wpOp P ops Q i (fun a' w'=>(fin i=true\/S w')/\uH P ops Q S fin k π₂ r a' w') a w/\
   wpOp P ops Q k (fun a' w'=>(fin k=true\/S w')/\fI P ops Q S fin ((i,false)::r++π₂) a' w') a w
end
section
variable {P:Program} {C:au} {n:Nat} {fr:Fr} {own own0:List ao} {G G0:Gh} {ops:Array Oper} {Q:Exit->Act->World->Prop} {fin:Nat->Bool} {k:Nat} {π π₂:List (Nat×Bool)}
def fF(d:Nat):Option Nat->Fr
 |none=>[]
 |some b=>[(d, .pointer (some ⟨b,0,none⟩))]
def fO(t:TypeId)(z:Value):Option Nat->List ao
 |none=>[]
 |some b=>[⟨b,aC z,t,true⟩]
def Pd(P:Program)(ops:Array Oper)(Q:Exit->Act->World->Prop)(S:World->Prop)(fin:Nat->Bool)(k:Nat)(π₂:List (Nat×Bool))(fl:Option Nat)(π:List (Nat×Bool)):Act->World->Prop:=
 match fl with
 |none=>uH P ops Q S fin k π₂ π
 |some _=>fI P ops Q S fin (π++π₂)
end
def relo(fl:Nat->Bool)(o:ao):ao:={o with lo:=fl o.b}
structure ja (P:Program) (f:FuncId) (vs:List Value) (M:List ao) (G:Gh) (K:Value->List ao->Gh->Prop):Prop where
 able:jp P f
 run: ∀w,bc ⟨w,G,M.map (·.b),[],[],none,fun _=>none⟩ (asB M) G w->
  Calls P f ⟨vs⟩ w fun e w'=> ∃v own' G',e= .returned v/\bc ⟨w,G,M.map (·.b),[],[],none,fun _=>none⟩ own' G' w'/\K v own' G'
def gz(M:List ao)(b:Nat):Bool:=M.all fun m=>!Nat.beq m.b b||m.lo
def bc.calledO{C:au}{M rest own':List ao}{G G':Gh}{w w':World}(h:bc C (M++rest) G w)(k:bc ⟨w,G,M.map (·.b),[],[],none,fun _=>none⟩ own' G' w'):
  bc C (own'.map (relo (gz M))++rest) G' w':=by
 have hsz:w.heap.size<=w'.heap.size:=k.size;have hnd:=h.nd;have inM: ∀b,b∈M.map (·.b)-> ∀o∈rest,o.b≠b:=fun b hb o ho e=>by
  obtain⟨m,hm,rfl⟩:=cX.1 hb;exact(iK.1 hnd).2.2 m hm o ho e.symm
 have bnd: ∀o∈own',o.b∉M.map (·.b)->w.heap.size<=o.b:=fun o ho hb=>by
  obtain⟨_,_,h3,h4⟩:=k.hown o ho
  cases hlo:o.lo with
  |true=>exact h3 hlo
  |false=>exact absurd (h4 hlo) hb
 refine⟨k.os.trans h.os,k.tape.trans h.tape,k.output.trans h.output,dS h.size hsz,?_,k.sub,h.gle.trans k.gle,?_,?_,?_,dS h.dr k.dr,fun p hp=>⟨(h.ext p hp).1,by rw[k.keep _ (eo (h.ext p hp).2) (h.extM hp)];exact(h.ext p hp).2⟩⟩
 ·intro b hb hm
  have hs:=h.size;have hnM:b∉M.map (·.b):=fun hb'=>by
   obtain⟨m,hmM,rfl⟩:=cX.1 hb';obtain⟨_,_,h3,h4⟩:=h.hown m (dV _ hmM)
   cases hlo:m.lo with
   |true=>have:=h3 hlo;omega
   |false=>exact hm (h4 hlo)
  rw[k.keep b (by show b<w.heap.size;omega) hnM];exact h.keep b hb hm
 ·intro b hb;have:=h.size;rw[k.gold b (by show b<w.heap.size;omega)];exact h.gold b hb
 ·intro o ho
  have hs:=h.size;rcases dR.1 ho with ho|ho
  ·obtain⟨o',ho',rfl⟩:=cX.1 ho
   obtain⟨k1,k2,k3,k4⟩:=k.hown _ ho';refine⟨k1,k2,fun hl=>?_,fun hl=>?_⟩
   ·show C.w0.heap.size<=o'.b
    by_cases hb:o'.b∈M.map (·.b)
    ·obtain⟨m,hm,hmb⟩:=cX.1 hb
     have hl':gz M o'.b=true:=hl;have:=cW.1 hl' m hm;simp only[hmb,fK,fU,Nat.beq_refl] at this;obtain⟨_,_,h3,_⟩:=h.hown m (dV _ hm);rw[<-hmb];exact h3 (by rcases this with h|h;(cases h);(exact h))
    ·have:=bnd o' ho' hb;omega
   ·show o'.b∈C.mb
    have hl':gz M o'.b=false:=hl;obtain⟨m,hm,hmb⟩:=List.all_eq_false.1 hl';simp only[fK,fU,not_or] at hmb;obtain⟨h1,h2⟩:=hmb;have e:m.b=o'.b:=by
     cases hq:Nat.beq m.b o'.b with
     |true=>exact aW hq
     |false=>exact absurd hq h1
    obtain⟨_,_,_,h4⟩:=h.hown m (dV _ hm);rw[<-e];exact h4 (by cases hq:m.lo with
     |true=>exact absurd hq h2
     |false=>rfl)
  ·obtain⟨h1,h2,h3⟩:=h.hown o (gJ _ ho)
   have hnM:o.b∉M.map (·.b):=fun hb=>inM _ hb o ho J;exact⟨by rw[k.keep _ (eo h1) hnM];exact h1,by rw[k.gold _ (eo h1)];exact h2,h3⟩
 ·refine iK.2 ⟨?_,(iK.1 hnd).2.1,?_⟩
  ·rw[mZ];exact k.nd
  ·intro x hx y hy
   obtain⟨o',ho',rfl⟩:=cX.1 hx;show o'.b≠y.b;by_cases hb:o'.b∈M.map (·.b)
   ·exact fun e=>inM _ hb y hy e.symm
   ·have h1:=bnd o' ho' hb
    have h2:=eo (h.hown y (gJ _ hy)).1;omega
def mq(C:au)(K:Value->List ao->Gh->Prop):Ending->World->Prop:=fun e w'=> ∃v own' G',e= .returned v/\bc C own' G' w'/\K v own' G'
def ja.introR{P:Program}{G:Gh}{f:FuncId}{fn:Func}{c:Code}{vs:List Value}{m:Nat}{M:List ao}{K:Value->List ao->Gh->Prop}(hf:P.funcs[f]? =some fn)(hb:fn.body=some c)(hn:(fn.name== "runtime.NumGoroutine")=false)(hm:fn.ntmps=m)(hlen:Nat.ble vs.length m=true)
  (h: ∀C:au,C.G0=G->C.mb=M.map (·.b)->C.rd=none->(C.fx=fun _=>none)->St C m (jF 0 vs) (asB M) G (c.wp P (fg C P fn (mq C K)))):ja P f vs M G K:=by
 refine⟨⟨fn,hf,hn,by simp[hb]⟩,fun w hw=>?_⟩;have hlen':vs.length<=m:=by simpa using hlen
 have:=calls_of_wp (P:=P) (f:=f) (args:=⟨vs⟩) (w:=w) (R:=mq ⟨w,G,M.map (·.b),[],[],none,fun _=>none⟩ K) hf hb (wp_mono (h ⟨w,G,M.map (·.b),[],[],none,fun _=>none⟩ J J J J _ w
  ⟨hw,by simp;omega,fun k v hk=>by
   obtain⟨j,rfl,hj⟩:=oU vs 0 k v hk;have hj':=(aS.1 hj).1;rw[gT (by simpa using hj')];simpa using hj,J⟩) fun _ _ _ k=>k J)
 exact this
section
variable {P:Program} {C:au} {n:Nat} {fr:Fr} {own own':List ao} {G:Gh} {Φ:Act->World->Prop}
variable {dst:Option Nat} {t t' ty':TypeId} {pos:String} {af:Array Edge} {gd:Option (Nat×Bool)} {x y:Operand}
def KT{fn:Func}{K:Value->List ao->Gh->Prop}{vs:List Value}(hr:gg P fr own fn.results.toList vs)(own2 own3:List ao)(hp:own.Perm own2)(hs:own3.Sublist own2)(hk:K (d5 vs) own3 G):St C n fr own G (fg C P fn (mq C K) .ret):=
 fun a w rl hmk=>⟨rl.df.trans hmk,_,oK hr rl.fr rl.h,_,own3,G,J,(rl.h.perm hp).drop hs,hk⟩
def JD{f:FuncId}{fo:Operand}{args:Array Operand}{tys:Array TypeId}{vs c1 c2:List Value}{M rest:List ao}{K:Value->List ao->Gh->Prop}(ho:aq fr fo=some (.func (.func f) ⟨c1⟩ ⟨c2⟩))(hv:gc fr args.toList=some vs)
  (hp:own.Perm (M++rest))(hF:ja P f (c1++vs++c2) M G K)(hd:bD n dst=true)(h: ∀v own1 (G':Gh),[GE G G']->K v own1 G'->St C n (put fr dst v) (own1.map (relo (gz M))++rest) G' Φ):
  Ch P C n fr own G ⟨dst, .call ⟨.value fo,args,tys⟩,ty',pos,af,gd⟩ Φ:=by
 intro a w Q rl;have h2:=Dg (P:=P) (dst:=dst) (ty':=ty') (pos:=pos) (af:=af) (gd:=gd) (tys:=tys) (w:=w) hF.able rl.fr ho hv;simp only[Oper.wp,h2,Oper.upon];have hh0:=rl.h.perm hp;refine(hF.run w hh0.lend).mono ?_;rintro e w' ⟨v,own1,G',rfl,hh,hK⟩;exact @h v own1 G' ⟨hh.gle⟩ hK _ _ ((rl.heap (hh0.calledO hh)).put _ hd)
def sn{f:FuncId}{fo:Operand}{args:Array Operand}{tys:Array TypeId}{vs:List Value}{M rest:List ao}{K:Value->List ao->Gh->Prop}(ho:aq fr fo=some (.func (.func f) #[] #[]))(hv:gc fr args.toList=some vs)
  (hp:own.Perm (M++rest))(hF:ja P f vs M G K)(hd:bD n dst=true)(h: ∀v own1 (G':Gh),[GE G G']->K v own1 G'->St C n (put fr dst v) (own1.map (relo (gz M))++rest) G' Φ):
  Ch P C n fr own G ⟨dst, .call ⟨.value fo,args,tys⟩,ty',pos,af,gd⟩ Φ:=
 JD (c1:=[]) (c2:=[]) ho hv hp (by simpa using hF) hd h
end
structure SV where
 a:Option Addr
 n:Nat
 c:Nat
def SV.v(x:SV):Value:= .slice x.a x.n x.c
structure di (G:Gh) (s:Nat) (x:SV) (es:List Value):Prop where
 len:x.n=es.length
 cap:x.n<=x.c
 mem:es=[]\/ ∃b off cs,x.a=some ⟨b,off,none⟩/\G b=some cs/\ ∀i (h:i<es.length),bF cs (off+i*s) s=some (aC es[i])
def di.up'{A G:Gh}{s:Nat}{x:SV}{es:List Value}(h:di A s x es)(k:aO A G):di G s x es:=
 ⟨h.len,h.cap,h.mem.imp id (fun⟨b,off,cs,h1,h2,h3⟩=>⟨b,off,cs,h1,k _ _ h2,h3⟩)⟩
def di.up{A G:Gh}{s:Nat}{x:SV}{es:List Value}(h:di A s x es)[k:GL A G]:di G s x es:=h.up' k.le
def di.nil(G:Gh)(s:Nat):di G s ⟨none,0,0⟩ []:=⟨J,bZ _, .inl J⟩
def di.take{G:Gh}{s:Nat}{x:SV}{es:List Value}(h:di G s x es)(k:Nat)(hk:k<=es.length):di G s ⟨x.a,k,x.c⟩ (es.take k):=by
 refine⟨by simp[hk],by show k<=x.c;have:=h.len;have:=h.cap;omega,?_⟩;rcases h.mem with h0|⟨b,off,cs,h1,h2,h3⟩
 ·left;simp[h0]
 ·right;exact⟨b,off,cs,h1,h2,fun i hi=>by
   simp only[bR] at hi;rw[h3 i (by omega)];simp⟩
def oz(a:Option Addr)(k:Nat):Option Addr:=a.map (·.add k)
section
variable {P:Program} {C:au} {n:Nat} {fr:Fr} {own own':List ao} {G:Gh} {Φ:Act->World->Prop}
variable {dst:Option Nat} {t t' ty':TypeId} {pos:String} {af:Array Edge} {gd:Option (Nat×Bool)} {x y:Operand} {e s by_:Nat}
def FH{A:Gh}[hT:ce P t e s by_]{k:IntKind}{z:SV}{es:List Value}{i:Int}(hs:di A s z es)(hx:aq fr x=some (.slice z.a z.n z.c))(hy:aq fr y=some (.int k i))(h0:0<=i)(h1:i<z.n):
  Yd P C fr own G ⟨dst, .indexAddr t x y,ty',pos,af,gd⟩ (.pointer (oz z.a (i.toNat*s))):=by
 rcases hs.mem with h|⟨b,off,cs,ha,hg,hc⟩
 ·have:=hs.len;rw[h] at this;simp at this;omega
 ·rw[ha] at hx
  have:=pn (P:=P) (C:=C) (own:=own) (G:=G) (t:=t) (dst:=dst) (ty':=ty') (pos:=pos) (af:=af) (gd:=gd) (by_:=by_) hx hy h0 h1;rw[ha];simpa[oz,kA] using this
def Gq{A:Gh}[hA:gH P t]{z:SV}{es:List Value}{i:Nat}{v:Value}(hs:di A 1 z es)[hl:GL A G](hx:aq fr x=some (.pointer (oz z.a (i*1))))(he:es[i]? =some v)(hv:flat v=true):
  Yd P C fr own G ⟨dst, .load t x,ty',pos,af,gd⟩ v:=by
 obtain⟨h1,he'⟩:=aS.1 he;rcases hs.mem with h|⟨b,off,cs,ha,hg,hc⟩
 ·rw[h] at h1;simp at h1
 ·rw[ha] at hx
  have h2:=hc i h1;rw[he'] at h2;have hcv:aC v=[v]:=by cases v<;>first|rfl|(simp[flat] at hv)
  rw[hcv] at h2;obtain⟨_,h3⟩:=kd _ _ _ _ h2;have h4:=h3 0 (by omega);exact uC (off:=off+i*1) (by simpa[oz,kA] using hx) (hl.le _ _ hg) (by simpa using h4)
end
def dI(d:Nat):Value:= .int .u32 (d:Int)
structure bu (G:Gh) (x:SV) (ds:List Nat):Prop where
 ok:bj ds
 sl:di G 1 x (ds.map dI)
def bu.len{G:Gh}{x:SV}{ds:List Nat}(h:bu G x ds):x.n=ds.length:=by simpa using h.sl.len
def bu.up{A G:Gh}{x:SV}{ds:List Nat}(h:bu A x ds)[k:GL A G]:bu G x ds:=⟨h.ok,h.sl.up⟩
def bu.nil(G:Gh):bu G ⟨none,0,0⟩ []:=⟨.nil, .nil G 1⟩
def bu.take{G:Gh}{x:SV}{ds:List Nat}(h:bu G x ds)(k:Nat)(hk:k<=ds.length):bu G ⟨x.a,k,x.c⟩ (ds.take k):=
 ⟨h.ok.take k,by rw[List.map_take];exact h.sl.take k (by simpa using hk)⟩
def bu.trim{G:Gh}{x:SV}{ds:List Nat}(h:bu G x ds):bu G ⟨x.a,(trimD ds).length,x.c⟩ (trimD ds):=by
 have:=h.take _ (ib ds);rwa [<-Ak] at this
def bu.of_block{G:Gh}{b c k:Nat}{cs:List Value}{ds:List Nat}(ok:bj ds)(hg:G b=some cs)(hk:k=ds.length)(hc:k<=c)(hcs:cs.take ds.length=ds.map dI):bu G ⟨some ⟨b,0,none⟩,k,c⟩ ds:=by
 refine⟨ok,by simpa using hk,hc, .inr ⟨b,0,cs,J,hg,fun i hi=>?_⟩⟩;have hi':i<ds.length:=by simpa using hi
 have hl:ds.length<=cs.length:=by
  have:=congrArg List.length hcs;simp at this;omega
 rw[i5 _ _ _ (by omega)];congr 1;have h1:(cs.take ds.length)[i]? =(ds.map dI)[i]? :=by rw[hcs]
 rw[List.getElem?_take,if_pos hi',fZ,aX hi',aX (by omega)] at h1;have h2:cs[i]=dI ds[i]:=by simpa using h1
 rw[cY,iT,bL (by omega),lW,List.take_zero,h2,List.getElem_map];rfl
structure dt (k:Nat) (G:Gh) (x:SV) (v:Nat):Prop where
 d:bu G x (dg v)
 lt:v<2^k
def dt.up{k:Nat}{A G:Gh}{x:SV}{v:Nat}(h:dt k A x v)[GL A G]:dt k G x v:=⟨h.d.up,h.lt⟩
def dt.len{k:Nat}{G:Gh}{x:SV}{v:Nat}(h:dt k G x v):x.n=(dg v).length:=h.d.len
def dt.mono{k k':Nat}{G:Gh}{x:SV}{v:Nat}(h:dt k G x v)(hk:v<2^k'):dt k' G x v:=⟨h.d,hk⟩
section
variable {P:Program} {C:au} {n:Nat} {fr:Fr} {own own':List ao} {G:Gh} {Φ:Act->World->Prop}
variable {dst:Option Nat} {t t' ty':TypeId} {pos:String} {af:Array Edge} {gd:Option (Nat×Bool)} {x y:Operand} {e s by_:Nat}
def dP{A:Gh}[hT:ce P t e 1 by_]{k:IntKind}{z:SV}{ds:List Nat}{i:Int}(hs:bu A z ds)(hx:aq fr x=some (.slice z.a z.n z.c))(hy:aq fr y=some (.int k i))(h0:0<=i)(h1:i<z.n):
  Yd P C fr own G ⟨dst, .indexAddr t x y,ty',pos,af,gd⟩ (.pointer (oz z.a (i.toNat*1))):=FH hs.sl hx hy h0 h1
def dH{A:Gh}[hA:gH P t]{z:SV}{ds:List Nat}{i:Nat}(hs:bu A z ds)[hl:GL A G](hx:aq fr x=some (.pointer (oz z.a (i*1))))(h1:i<ds.length):
  Yd P C fr own G ⟨dst, .load t x,ty',pos,af,gd⟩ (.int .u32 ((ds.getD i 0:Nat):Int)):=
 Gq hs.sl hx (by rw[fZ,aX h1,aV,aX h1];rfl) J
def DB{A:Gh}{z:SV}{ds:List Nat}(h:bu A z ds)[hl:GL A G]:kj P C own G 1 z.n (.slice z.a z.n z.c) (ds.map dI):=by
 intro w hw;by_cases hne:ds=[]
 ·rw[h.len]
  subst hne;exact oe w hw
 rcases h.sl.mem with h0|⟨b,off,cs,ha,hg,hc⟩
 ·exact absurd (by simpa using h0) hne
 ·rw[ha]
  have hn:=h.len;refine xp (hl.le _ _ hg) ?_ w hw;rw[iT];have hel: ∀i,i<ds.length->cs[off+i]? =some (dI (ds.getD i 0)):=fun i hi=>by
   have h1:=hc i (by simpa using hi);obtain⟨_,h2⟩:=kd _ _ _ _ h1;have h3:=h2 0 (by omega);rw[iT,dQ] at h3;rw[h3,List.getElem_map,aV,aX hi];rfl
  by_cases h00:ds.length=0
  ·exact absurd h00 (fun e=>hne (bK e))
  ·have hlast:=hel (ds.length-1) (by omega)
   have hle:off+ds.length<=cs.length:=by
    have:=(aS.1 hlast).1;omega
   rw[hn,i5 _ _ _ hle];congr 1;apply jZ;intro i;rw[List.getElem?_take];split
   ·rename_i hi
    rw[jN,hel i hi,fZ,aV,aX hi];rfl
   ·rename_i hi
    rw[cL (by simpa using hi)]
def lz(n:Nat):cI (.int .u32 0) n=(List.replicate n 0).map dI:=by
 unfold cI
 induction n with
 |zero=>rfl
 |succ n ih=>rw[eJ,gR,ih];rfl
def dF[hT:ce P t e s by_]{k:IntKind}{b len cap:Nat}{i:Int}(hx:aq fr x=some (.slice (some ⟨b,0,none⟩) len cap))(hy:aq fr y=some (.int k i))(h0:0<=i)(h1:i<len):
  Yd P C fr own G ⟨dst, .indexAddr t x y,ty',pos,af,gd⟩ (.pointer (some ⟨b,i.toNat*s,none⟩)):=by
 have:=pn (P:=P) (C:=C) (own:=own) (G:=G) (t:=t) (dst:=dst) (ty':=ty') (pos:=pos) (af:=af) (gd:=gd) (by_:=by_) hx hy h0 h1;rwa [cY] at this
def jG[hA:gH P t]{b i:Nat}{ws:List Nat}{ty:TypeId}{lo:Bool}(hx:aq fr x=some (.pointer (some ⟨b,i*1,none⟩)))[ho:fD own b (ws.map dI) ty lo](h1:i<ws.length):
  Yd P C fr own G ⟨dst, .load t x,ty',pos,af,gd⟩ (.int .u32 ((ws.getD i 0:Nat):Int)):=by
 rw[iT] at hx;refine tB hx ?_;rw[fZ,aX h1,aV,aX h1];rfl
def gl{b i d:Nat}{ws:List Nat}{ty:TypeId}{lo:Bool}{v:Int}[hs:gH P t](hx:aq fr x=some (.pointer (some ⟨b,i*1,none⟩)))(hy:aq fr y=some (.int .u32 v))(hv:v=(d:Int))
  (hu:e7 own b (ws.map dI) ty lo ((ws.set i d).map dI) own')(hi:i<ws.length)(hd:bD n dst=true)(h:St C n (put fr dst undef) own' G Φ):
  Ch P C n fr own G ⟨dst, .store t x y,ty',pos,af,gd⟩ Φ:=by
 rw[iT] at hx;have hu':e7 own b (ws.map dI) ty lo ((ws.map dI).set i (.int .u32 v)) own':=by
  rw[hv,<-show dI d= .int .u32 (d:Int) from J,<-List.map_set];exact hu
 exact rI hx hy hu' (by simpa using hi) J hd h
def cP{p q:Int}(hx:aq fr x=some (.int .i64 p))(hy:aq fr y=some (.int .i64 q))(h0: -9223372036854775808<=p+q:=by omega)(h1:p+q<=9223372036854775807:=by omega):Yd P C fr own G ⟨dst, .binOp .add t x y t',ty',pos,af,gd⟩ (.int .i64 (p+q)):=vu hx hy ⟨h0,h1⟩
def fe{p q:Int}(hx:aq fr x=some (.int .i64 p))(hy:aq fr y=some (.int .i64 q))(h0: -9223372036854775808<=p-q:=by omega)(h1:p-q<=9223372036854775807:=by omega):Yd P C fr own G ⟨dst, .binOp .sub t x y t',ty',pos,af,gd⟩ (.int .i64 (p-q)):=u7 hx hy ⟨h0,h1⟩
def z7{p q:Int}(hx:aq fr x=some (.int .i64 p))(hy:aq fr y=some (.int .i64 q))(h0: -9223372036854775808<=p*q)(h1:p*q<=9223372036854775807):Yd P C fr own G ⟨dst, .binOp .mul t x y t',ty',pos,af,gd⟩ (.int .i64 (p*q)):=vn hx hy ⟨h0,h1⟩
def km{p q:Int}(hx:aq fr x=some (.int .u64 p))(hy:aq fr y=some (.int .u64 q))(h0:0<=p+q:=by omega)(h1:p+q<=18446744073709551615:=by omega):Yd P C fr own G ⟨dst, .binOp .add t x y t',ty',pos,af,gd⟩ (.int .u64 (p+q)):=vu hx hy ⟨h0,h1⟩
def C4{p q:Int}(hx:aq fr x=some (.int .u64 p))(hy:aq fr y=some (.int .u64 q))(h0:0<=p-q)(h1:p-q<=18446744073709551615):Yd P C fr own G ⟨dst, .binOp .sub t x y t',ty',pos,af,gd⟩ (.int .u64 (p-q)):=u7 hx hy ⟨h0,h1⟩
def vg{p q:Int}(hx:aq fr x=some (.int .u64 p))(hy:aq fr y=some (.int .u64 q))(h0:0<=p*q)(h1:p*q<=18446744073709551615):Yd P C fr own G ⟨dst, .binOp .mul t x y t',ty',pos,af,gd⟩ (.int .u64 (p*q)):=vn hx hy ⟨h0,h1⟩
def gq{k k':IntKind}{p q:Int}(hx:aq fr x=some (.int k p))(hy:aq fr y=some (.int k' q))(h0:0<=q):Yd P C fr own G ⟨dst, .binOp .shr t x y t',ty',pos,af,gd⟩ (.int k (p.fdiv (2^min q.toNat k.bits))):=by
 intro a w hf hh;simp only[execOp,aG hf hx,aG hf hy];have h1:(eqGuard .shr t x y (.int k p) (.int k' q)).run P w= .ok () w:=J;have h2:(binOp .shr t (.int k p) (.int k' q)).run P w= .ok (.int k (p.fdiv (2^min q.toNat k.bits))) w:=by
  simp[binOp,Op.shift,Int.not_lt.2 h0,run_pure]
 exact cd (by rw[aB h1];exact h2)
def nn{k k':IntKind}{p q:Int}(hx:aq fr x=some (.int k p))(hy:aq fr y=some (.int k' q))(h0:0<=q):Yd P C fr own G ⟨dst, .binOp .shl t x y t',ty',pos,af,gd⟩ (.int k (k.wrap (p*2^min q.toNat k.bits))):=by
 intro a w hf hh;simp only[execOp,aG hf hx,aG hf hy];have h1:(eqGuard .shl t x y (.int k p) (.int k' q)).run P w= .ok () w:=J;have h2:(binOp .shl t (.int k p) (.int k' q)).run P w= .ok (.int k (k.wrap (p*2^min q.toNat k.bits))) w:=by
  simp[binOp,Op.shift,Int.not_lt.2 h0,run_pure]
 exact cd (by rw[aB h1];exact h2)
def dC{k:IntKind}{p:Int}[hs:gD P t k][hd:gD P t' .u64](hx:aq fr x=some (.int k p))(h0:0<=p:=by omega)(h1:p<=18446744073709551615:=by omega):Yd P C fr own G ⟨dst, .convert t t' x,ty',pos,af,gd⟩ (.int .u64 p):=uD hx ⟨h0,h1⟩
def CT{k:IntKind}{p:Int}[hs:gD P t k][hd:gD P t' .i64](hx:aq fr x=some (.int k p))(h0: -9223372036854775808<=p:=by omega)(h1:p<=9223372036854775807:=by omega):Yd P C fr own G ⟨dst, .convert t t' x,ty',pos,af,gd⟩ (.int .i64 p):=uD hx ⟨h0,h1⟩
def s8(p:Int):IntKind.u32.wrap p=p%4294967296:=by simp[IntKind.wrap,IntKind.bits,IntKind.signed]
def ip(p:Int):IntKind.u64.wrap p=p%18446744073709551616:=by simp[IntKind.wrap,IntKind.bits,IntKind.signed]
def fq{k:IntKind}{p:Int}[hs:gD P t k][hd:gD P t' .u32](hx:aq fr x=some (.int k p)):Yd P C fr own G ⟨dst, .convert t t' x,ty',pos,af,gd⟩ (.int .u32 (p%4294967296)):=by
 have:=qP (P:=P) (C:=C) (own:=own) (G:=G) (dst:=dst) (ty':=ty') (pos:=pos) (af:=af) (gd:=gd) (t:=t) (t':=t') hx;rwa [s8] at this
def oC{k:IntKind}{p q:Int}(hx:aq fr x=some (.int k p))(hy:aq fr y=some (.int k q))(h0:0<=p)(h:q≠0):Yd P C fr own G ⟨dst, .binOp .rem t x y t',ty',pos,af,gd⟩ (.int k (p%q)):=by
 have:=AW (P:=P) (C:=C) (own:=own) (G:=G) (dst:=dst) (ty':=ty') (pos:=pos) (af:=af) (gd:=gd) (t:=t) (t':=t') hx hy h;rwa [Int.tmod_eq_emod_of_nonneg h0] at this
def oo{p q:Int}(hx:aq fr x=some (.int .u64 p))(hy:aq fr y=some (.int .u64 q))(h0:0<=p)(h1:p<=18446744073709551615)(h:0<q):Yd P C fr own G ⟨dst, .binOp .quo t x y t',ty',pos,af,gd⟩ (.int .u64 (p/q)):=by
 have:=AX (P:=P) (C:=C) (own:=own) (G:=G) (dst:=dst) (ty':=ty') (pos:=pos) (af:=af) (gd:=gd) (t:=t) (t':=t') hx hy (by omega);rw[Int.tdiv_eq_ediv_of_nonneg h0,ip,Int.emod_eq_of_lt (Int.ediv_nonneg h0 (by omega)) (by have:=Int.ediv_le_self q h0;omega)] at this;exact this
def f9{Q:Exit->Act->World->Prop}{p:Prop}{inst:Decidable p}{c:Operand}{x y:Code}(hc:aq fr c=some (.bool (@decide p inst)))(h2: ¬p->St C n fr own G (y.wp P Q))(h1:p->St C n fr own G (x.wp P Q)):
  St C n fr own G ((Code.cond c x y).wp P Q):=er hc h1 h2
end
section
variable {P:Program} {C:au} {n:Nat} {fr:Fr} {own own' own1:List ao} {G:Gh} {Φ:Act->World->Prop}
variable {dst:Option Nat} {t t' ty':TypeId} {pos:String} {af:Array Edge} {gd:Option (Nat×Bool)} {x y:Operand} {e s by_:Nat}
end
instance im.cons2 (l m:List ao) (o:ao) [h:im l m]:im (o::l) (o::m):=⟨h.s.cons_cons o⟩
def aE(vs:List Value):List Value:=(vs.map aC).flatten
def eu{s:Nat}: ∀(vs:List Value),(∀v∈vs,(aC v).length=s)->(aE vs).length=vs.length*s
 |[],_=>by simp[aE]
 |v::vs,h=>by
  have h1:=eu vs (fun u hu=>h u (aK _ hu));have h2:=h v aQ;unfold aE at*;simp only[bN,gR,bX,bT,h1,h2,fT];omega
def l9(us vs:List Value):aE (us++vs)=aE us++aE vs:=by simp[aE]
def A0(v:Value):aE [v]=aC v:=by simp[aE]
def vD{s:Nat}: ∀(vs:List Value) (i:Nat),(∀v∈vs,(aC v).length=s)->i<=vs.length->(aE vs).take (i*s)=aE (vs.take i)
 |vs,0,_,_=>by simp[aE]
 |[],i+1,_,h=>by simp at h
 |v::vs,i+1,h,hi=>by
  have h1:=vD vs i (fun u hu=>h u (aK _ hu)) (by simpa using hi);have h2:=h v aQ;unfold aE at*;simp only[bN,gR,lW];rw[List.take_append,h2,aT (by rw[h2,fT];omega),fT,iL,h1]
def vS{s:Nat}: ∀(vs:List Value) (i:Nat),(∀v∈vs,(aC v).length=s)->i<=vs.length->(aE vs).drop (i*s)=aE (vs.drop i)
 |vs,0,_,_=>by simp
 |[],i+1,_,h=>by simp at h
 |v::vs,i+1,h,hi=>by
  have h1:=vS vs i (fun u hu=>h u (aK _ hu)) (by simpa using hi);have h2:=h v aQ;unfold aE at*;simp only[bN,gR,List.drop_succ_cons];rw[List.drop_append,h2,List.drop_eq_nil_of_le (by rw[h2,fT];omega),fT,iL,h1,gN]
def uM{s:Nat}{vs rest:List Value}(h: ∀v∈vs,(aC v).length=s){i:Nat}(hi:i<vs.length):bF (aE vs++rest) (i*s) s=some (aC vs[i]):=by
 have hl:=eu vs h;have hle:i*s+s<=vs.length*s:=by rw[<-fT];exact aM _ hi
 rw[i5 _ _ _ (by simp only[bX];omega)];congr 1;rw[gQ (by omega),vS vs i h (by omega),bL hi];have h2:=h vs[i] (mY hi);rw[show(vs[i]::vs.drop (i+1))=[vs[i]]++vs.drop (i+1) from J,l9,A0,dL,dW (by omega),aT (by omega)]
def di.of_flat{G:Gh}{b c s:Nat}{vs rest:List Value}(h: ∀v∈vs,(aC v).length=s)(hg:G b=some (aE vs++rest))(hc:vs.length<=c):di G s ⟨some ⟨b,0,none⟩,vs.length,c⟩ vs:=
 ⟨J,hc, .inr ⟨b,0,_,J,hg,fun i hi=>by rw[cY];exact uM h hi⟩⟩
section
variable {P:Program} {C:au} {n:Nat} {fr:Fr} {own own':List ao} {G:Gh} {Φ:Act->World->Prop}
variable {dst:Option Nat} {ty':TypeId} {pos:String} {af:Array Edge} {gd:Option (Nat×Bool)} {x y:Operand} {tys:Array TypeId}
end
section
variable {P:Program} {ops:Array Oper} {Q:Exit->Act->World->Prop} {S:World->Prop} {fin:Nat->Bool} {π₂:List (Nat×Bool)}
def gk(l:List Nat)(k:Nat):List Nat:=l.filter fun j=>!Nat.beq j k
def wo{l:List Nat}{k:Nat}(h:k∈l):(gk l k).length<l.length:=by
 unfold gk;rw[List.length_filter_lt_length_iff_exists];exact⟨k,h,by simp⟩
def qE(ops:Array Oper)(fin:Nat->Bool)(π₂:List (Nat×Bool)):Nat->List Nat->List (Nat×Bool)->Array Bool->Bool
 |0,_,_,_=>false
 |_+1,[],[],listed=>lh ops fin π₂ listed
 |n+1,k::ks,[],listed=>!(Region.ready .any ops listed).isEmpty&&(Region.ready .any ops listed).all (fun j=>(k::ks).contains j)&&(k::ks).all fun j=>qE ops fin π₂ n (gk (k::ks) j) [] (listed.setIfInBounds j true)
 |n+1,ks,(i,true)::r,listed=>oP ops fin listed i&&qE ops fin π₂ n ks r (listed.setIfInBounds i true)
 |n+1,ks,(i,false)::r,listed=>!(Region.ready .any ops listed).isEmpty&&(Region.ready .any ops listed).all (fun j=>Nat.beq j i||ks.contains j)&&qE ops fin π₂ n ks r (listed.setIfInBounds i true)&&ks.all fun j=>qE ops fin π₂ n (gk ks j) ((i,false)::r) (listed.setIfInBounds j true)
def pX(P:Program)(ops:Array Oper)(Q:Exit->Act->World->Prop)(S:World->Prop)(fin:Nat->Bool)(π₂:List (Nat×Bool)):List Nat->List (Nat×Bool)->Act->World->Prop
 |[],[],a,w=>fI P ops Q S fin π₂ a w
 |k::ks,[],a,w=> ∀j,(h:j∈k::ks)->wpOp P ops Q j (fun a' w'=>(fin j=true\/S w')/\pX P ops Q S fin π₂ (gk (k::ks) j) [] a' w') a w
 |ks,(i,true)::r,a,w=> ∃o v,ops[i]? =some o/\S w/\YieldsIf P ops S o v a/\pX P ops Q S fin π₂ ks r (a.put o.dst v) w
 |ks,(i,false)::r,a,w=>wpOp P ops Q i (fun a' w'=>(fin i=true\/S w')/\pX P ops Q S fin π₂ ks r a' w') a w/\
   ∀j,(h:j∈ks)->wpOp P ops Q j (fun a' w'=>(fin j=true\/S w')/\pX P ops Q S fin π₂ (gk ks j) ((i,false)::r) a' w') a w
termination_by ks π=>ks.length+π.length
decreasing_by
 all_goals (first|(have:=wo h;simp only[bT,gM] at*;omega)|(simp only[bT];omega))
end
structure FD where
 k:Nat
 d:Nat
 t:TypeId
 z:Value
abbrev Fs:=Nat->Option Nat
def vN:List FD->Fs->Fr
 |[],_=>[]
 |f::r,fs=>fF f.d (fs f.k)++vN r fs
def uU:List FD->Fs->List ao
 |[],_=>[]
 |f::r,fs=>fO f.t f.z (fs f.k)++uU r fs
def uI(fd:List FD)(fs:Fs):List Nat:=(fd.filter fun f=>(fs f.k).isNone).map (·.k)
def OG(fs:Fs)(k b:Nat):Fs:=fun j=>if j=k then some b else fs j
structure OA (P:Program) (ops:Array Oper) (n:Nat) (fd:List FD):Prop where
 op: ∀f∈fd,∃ty' pos af,ops[f.k]? =some ⟨some f.d, .alloc f.t,ty',pos,af,none⟩/\bD n (some f.d)=true
 z: ∀f∈fd,fp P f.t f.z
 nd:(fd.map (·.k)).Nodup
 dd: ∀f∈fd,∀g∈fd,f.d=g.d->f.k=g.k
section
variable {P:Program} {C:au} {n:Nat} {fr:Fr} {own own0:List ao} {G G0:Gh} {ops:Array Oper} {Q:Exit->Act->World->Prop} {fin:Nat->Bool} {π π₂:List (Nat×Bool)} {fd:List FD}
def Pz(P:Program)(ops:Array Oper)(Q:Exit->Act->World->Prop)(S:World->Prop)(fin:Nat->Bool)(π₂:List (Nat×Bool))(fd:List FD)(fs:Fs)(π:List (Nat×Bool)):Act->World->Prop:=pX P ops Q S fin π₂ (uI fd fs) π
end
def gy(s:Nat)(ty:TypeId)(x:SV)(vs:List Value)(B:List ao):Prop:=
 (vs=[]/\x=⟨none,0,0⟩/\B=[])\/
 ∃b rest lo,x=⟨some ⟨b,0,none⟩,vs.length,x.c⟩/\B=[⟨b,aE vs++rest,ty,lo⟩]/\(aE vs).length=vs.length*s/\(aE vs).length+rest.length=x.c*s/\vs.length<=x.c
def gy.relo{s:Nat}{ty:TypeId}{x:SV}{vs:List Value}{B:List ao}(h:gy s ty x vs B)(fl:Nat->Bool):gy s ty x vs (B.map (Go.Sx.relo fl)):=by
 rcases h with⟨h1,h2,h3⟩|⟨b,rest,lo,h1,h2,h3,h4,h5⟩
 ·exact .inl ⟨h1,h2,by rw[h3];rfl⟩
 ·exact .inr ⟨b,rest,fl b,h1,by rw[h2];rfl,h3,h4,h5⟩
def gy.asB{s:Nat}{ty:TypeId}{x:SV}{vs:List Value}{B:List ao}(h:gy s ty x vs B):gy s ty x vs (asB B):=by
 rcases h with⟨h1,h2,h3⟩|⟨b,rest,lo,h1,h2,h3,h4,h5⟩
 ·exact .inl ⟨h1,h2,by rw[h3];rfl⟩
 ·exact .inr ⟨b,rest,false,h1,by rw[h2];rfl,h3,h4,h5⟩
def gy.len{s:Nat}{ty:TypeId}{x:SV}{vs:List Value}{B:List ao}(h:gy s ty x vs B):x.n=vs.length:=by
 rcases h with⟨h1,h2,h3⟩|⟨b,rest,lo,h1,h2,h3,h4,h5⟩
 ·rw[h2,h1];rfl
 ·rw[h1]
def DL{M:List ao}(b:Nat)(h: ∀m∈M,m.lo=true):gz M b=true:=by
 refine cW.2 fun m hm=>?_;simp[h m hm]
section
variable {P:Program} {C:au} {n:Nat} {fr:Fr} {own own':List ao} {G:Gh} {Φ:Act->World->Prop}
variable {dst:Option Nat} {t t' ty':TypeId} {pos:String} {af:Array Edge} {gd:Option (Nat×Bool)} {x y:Operand} {e s by_:Nat}
end
instance im.nil (l:List ao):im [] l:=⟨kR l⟩
end Go.Sx
end
