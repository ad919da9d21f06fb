import Derived.Test.YtmhfhhiaecjhiaaGreatDoorWr1
import Derived.Scope
import Derived.Laws.Externs
import Derived.Lib.Overlaps
set_option linter.all false
set_option maxRecDepth 100000
section
namespace Go.Sx
open Go
class AW (P:Program) (t:TypeId):Prop where u: ∀w,(underlying t).run P w= .ok .bool w
class B9 (P:Program) (t:TypeId):Prop where u: ∃e,∀w,(underlying t).run P w= .ok (.pointer e) w
class AU (P:Program) (t:TypeId):Prop where u: ∃ms,∀w,(underlying t).run P w= .ok (.interface ms) w
class zJ (P:Program) (t:TypeId) (f:Nat) (off ft:outParam Nat):Prop where
 u: ∃fs fd,(∀w,(underlying t).run P w= .ok (.struct fs) w)/\fs[f]? =some fd/\fd.offset=off/\fd.type=ft
class lI (P:Program) (t:TypeId):Prop where
 un: ∃e,P.underlying t=some (.slice e)
section
variable {P:Program} {C:az} {n:Nat} {fr:Fr} {own own':List av} {G:Gh} {Φ:Act->World->Prop}
variable {dst:Option Nat} {t t' ty':TypeId} {pos:String} {af:Array Edge} {gd:Option (Nat×Bool)} {x y:Operand}
def mz{w:World}{p q:Value}{b:Bool}(h:(Op.equalIn (9999+1) t p q).run P w= .ok b w):(Op.equal t p q).run P w= .ok b w:=h
def NX[hT:AW P t]{p q:Bool}(hx:aC fr x=some (.bool p))(hy:aC fr y=some (.bool q)):Yd P C fr own G ⟨dst, .binOp .eql t x y t',ty',pos,af,gd⟩ (.bool (p==q)):=by
 intro a w hf hh;simp only[execOp,bh hf hx,bh hf hy];have h1:(Op.equal t (.bool p) (.bool q)).run P w= .ok (p==q) w:=mz (by unfold Op.equalIn;rw[aG (hT.u w)];rfl);have h2:(eqGuard .eql t x y (.bool p) (.bool q)).run P w= .ok () w:=J;have h3:(binOp .eql t (.bool p) (.bool q)).run P w= .ok (.bool (p==q)) w:=by simp only[binOp];rw[aG h1];rfl
 exact cp (by rw[aG h2];exact h3)
def Vk[hT:AW P t]{p q:Bool}(hx:aC fr x=some (.bool p))(hy:aC fr y=some (.bool q)):Yd P C fr own G ⟨dst, .binOp .neq t x y t',ty',pos,af,gd⟩ (.bool (!(p==q))):=by
 intro a w hf hh;simp only[execOp,bh hf hx,bh hf hy];have h1:(Op.equal t (.bool p) (.bool q)).run P w= .ok (p==q) w:=mz (by unfold Op.equalIn;rw[aG (hT.u w)];rfl);have h2:(eqGuard .neq t x y (.bool p) (.bool q)).run P w= .ok () w:=J;have h3:(binOp .neq t (.bool p) (.bool q)).run P w= .ok (.bool (!(p==q))) w:=by simp only[binOp];rw[aG h1];rfl
 exact cp (by rw[aG h2];exact h3)
def w6[hT:B9 P t]{p:Option Addr}(hx:aC fr x=some (.pointer p))(hy:aC fr y=some (.pointer none)):Yd P C fr own G ⟨dst, .binOp .eql t x y t',ty',pos,af,gd⟩ (.bool p.isNone):=by
 obtain⟨e,he⟩:=hT.u;intro a w hf hh;simp only[execOp,bh hf hx,bh hf hy];have h1:(Op.equal t (.pointer p) (.pointer none)).run P w= .ok p.isNone w:=mz (by unfold Op.equalIn;rw[aG (he w)];cases p<;>rfl);have h2:(eqGuard .eql t x y (.pointer p) (.pointer none)).run P w= .ok () w:=by cases p<;>rfl
 have h3:(binOp .eql t (.pointer p) (.pointer none)).run P w= .ok (.bool p.isNone) w:=by cases p<;>(simp only[binOp];rw[aG h1];rfl)
 exact cp (by rw[aG h2];exact h3)
def wj[hT:B9 P t]{p:Option Addr}(hx:aC fr x=some (.pointer p))(hy:aC fr y=some (.pointer none)):Yd P C fr own G ⟨dst, .binOp .neq t x y t',ty',pos,af,gd⟩ (.bool (!p.isNone)):=by
 obtain⟨e,he⟩:=hT.u;intro a w hf hh;simp only[execOp,bh hf hx,bh hf hy];have h1:(Op.equal t (.pointer p) (.pointer none)).run P w= .ok p.isNone w:=mz (by unfold Op.equalIn;rw[aG (he w)];cases p<;>rfl);have h2:(eqGuard .neq t x y (.pointer p) (.pointer none)).run P w= .ok () w:=by cases p<;>rfl
 have h3:(binOp .neq t (.pointer p) (.pointer none)).run P w= .ok (.bool (!p.isNone)) w:=by cases p<;>(simp only[binOp];rw[aG h1];rfl)
 exact cp (by rw[aG h2];exact h3)
def H4{v:Value}[hT:AU P t](hv:v= .nilIface\/ ∃k u,v= .iface k u)(hx:aC fr x=some v):
  Yd P C fr own G ⟨dst, .binOp .eql t x (.const .nilIface) t',ty',pos,af,gd⟩ (.bool (match v with| .nilIface=>true|_=>false)):=by
 obtain⟨e,he⟩:=hT.u;intro a w hf hh;simp only[execOp,bh hf hx,show a.eval (.const .nilIface)= .nilIface from J];rcases hv with rfl|⟨k,u,rfl⟩
 .have h1:(Op.equal t .nilIface .nilIface).run P w= .ok true w:=mz (by unfold Op.equalIn;rw[aG (he w)];rfl)
  have h2:(eqGuard .eql t x (.const .nilIface) .nilIface .nilIface).run P w= .ok () w:=by cases x<;>rfl
  exact cp (by rw[aG h2];simp only[binOp];rw[aG h1];rfl)
 .have h1:(Op.equal t (.iface k u) .nilIface).run P w= .ok false w:=mz (by unfold Op.equalIn;rw[aG (he w)];rfl)
  exact cp (by rw[aG (a:=()) (w':=w) J];simp only[binOp];rw[aG h1];rfl)
def DI{v:Value}[hT:AU P t](hv:v= .nilIface\/ ∃k u,v= .iface k u)(hx:aC fr x=some v):
  Yd P C fr own G ⟨dst, .binOp .neq t x (.const .nilIface) t',ty',pos,af,gd⟩ (.bool (match v with| .nilIface=>false|_=>true)):=by
 obtain⟨e,he⟩:=hT.u;intro a w hf hh;simp only[execOp,bh hf hx,show a.eval (.const .nilIface)= .nilIface from J];rcases hv with rfl|⟨k,u,rfl⟩
 .have h1:(Op.equal t .nilIface .nilIface).run P w= .ok true w:=mz (by unfold Op.equalIn;rw[aG (he w)];rfl)
  have h2:(eqGuard .neq t x (.const .nilIface) .nilIface .nilIface).run P w= .ok () w:=by cases x<;>rfl
  exact cp (by rw[aG h2];simp only[binOp];rw[aG h1];rfl)
 .have h1:(Op.equal t (.iface k u) .nilIface).run P w= .ok false w:=mz (by unfold Op.equalIn;rw[aG (he w)];rfl)
  exact cp (by rw[aG (a:=()) (w':=w) J];simp only[binOp];rw[aG h1];rfl)
def UR{cs l:List Value}{f off ft k:Nat}[hF:zJ P t f off ft][hA:mf P ft k](hx:aC fr x=some (.agg ⟨cs⟩))(hl:cc cs off k=some l):Yd P C fr own G ⟨dst, .field t x f,ty',pos,af,gd⟩ (.agg ⟨l⟩):=by
 obtain⟨fs,fd,h1,h2,h3,h4⟩:=hF.u;intro a w hf hh;simp only[execOp,bh hf hx];have:(Instr.field t (.agg ⟨cs⟩) f).run P w= .ok (.agg ⟨l⟩) w:=by
  unfold Instr.field;rw[aG (h1 w)];simp only[h2,h3,h4,asAgg];rw[aG (run_pure _ _ _)];unfold part;rw[aG (hA.agg w)];simp only[if_true];rw[aG (hA.siz w)];obtain⟨k1,k2⟩:=ma _ _ _ _ hl;have:(⟨cs⟩:Array Value).extract off (off+k)=⟨l⟩:=by
   apply Array.ext';rw[Array.toList_extract];apply jN;intro i;rw[List.extract_eq_take_drop,oY];split
   .rw[gS];exact k2 i (by omega)
   .exact(dY (show l.length<=i by omega)).symm
  rw[this];rfl
 exact cp this
def Mv{cs:List Value}{f off ft:Nat}{v:Value}[hF:zJ P t f off ft][hA:mi P ft](hx:aC fr x=some (.agg ⟨cs⟩))(hl:cs[off]? =some v):Yd P C fr own G ⟨dst, .field t x f,ty',pos,af,gd⟩ v:=by
 obtain⟨fs,fd,h1,h2,h3,h4⟩:=hF.u;intro a w hf hh;simp only[execOp,bh hf hx];have:(Instr.field t (.agg ⟨cs⟩) f).run P w= .ok v w:=by
  unfold Instr.field;rw[aG (h1 w)];simp only[h2,h3,h4,asAgg];rw[aG (run_pure _ _ _)];unfold part;rw[aG (hA.agg w)];have:(⟨cs⟩:Array Value)[off]? =some v:=by simpa using hl
  simp only[kN,if_false,this];rfl
 exact cp this
class Lf (P:Program) (t:TypeId) (offs:outParam (List (Nat×Nat))):Prop where
 u: ∃fs:Array Field,(∀w,(underlying t).run P w= .ok (.struct fs) w)/\(∀w,(fs.mapM (m:=Sem) fun f=>do pure (f.offset,<-sizeOf f.type)).run P w= .ok ⟨offs⟩ w)
def qa(fr:Fr)(offs:List (Nat×Nat)):List Value->List (Nat×Operand)->Option (List Value)
 |cs,[]=>some cs
 |cs,(i,x)::r=>match offs[i]?,aC fr x with
  |some (off,k),some v=>if(aF v).length=k/\off+k<=cs.length then qa fr offs (c9 cs off (aF v)) r else none
  |_,_=>none
def Aa: ∀(vs:List Value) (cs:Array Value) (off j:Nat),(vs.zipIdx j).foldl (fun cs (c,j)=>cs.setIfInBounds (off+j) c) cs=⟨c9 cs.toList (off+j) vs⟩
 |[],cs,off,j=>rfl
 |v::vs,cs,off,j=>by
  simp only[List.zipIdx_cons,gM];rw[Aa vs _ off (j+1)];simp[c9,jT]
def CQ{a:Act}(hf:gI fr a)(offs:List (Nat×Nat)): ∀(ps:List (Nat×Operand)) (cs out:List Value),qa fr offs cs ps=some out->
  Instr.fill ((⟨offs⟩:Array (Nat×Nat))[·]?) ⟨cs⟩ (ps.map fun(i,x)=>(i,a.eval x))=some ⟨out⟩
 |[],cs,out,h=>by simp only[qa] at h;cases h;rfl
 |(i,x)::ps,cs,out,h=>by
  simp only[qa] at h;split at h
  .rename_i off k v ho hv
   split at h
   .rename_i hc
    simp only[bL,Instr.fill];have:(⟨offs⟩:Array (Nat×Nat))[i]? =some (off,k):=by simpa using ho
    simp only[this,bh hf hv,mG];have h1: ¬((⟨aF v⟩:Array Value).size≠k):=by simp[hc.1]
    have h2: ¬(off+(⟨aF v⟩:Array Value).size>(⟨cs⟩:Array Value).size):=by simp only[lY,hc.1];omega
    rw[if_neg (by simp only[gK,decide_eq_true_eq,not_or];exact⟨by simpa using h1,by simpa using h2⟩)];have e:=Aa (aF v) ⟨cs⟩ off 0;have e':(⟨aF v⟩:Array Value).zipIdx.foldl (fun cs (c,j)=>cs.setIfInBounds (off+j) c) (⟨cs⟩:Array Value)=⟨c9 cs off (aF v)⟩:=by
     rw[<-Array.foldl_toList,Array.toList_zipIdx];simpa using e
    rw[e'];exact CQ hf offs ps _ _ h
   .cases h
  .cases h
def Ss{parts:Array (Nat×Operand)}{offs:List (Nat×Nat)}{z:Value}{out:List Value}[hT:Lf P t offs][hz:gg P t z](hb:qa fr offs (aF z) parts.toList=some out):Yd P C fr own G ⟨dst, .build t parts,ty',pos,af,gd⟩ (.agg ⟨out⟩):=by
 obtain⟨fs,h1,h2⟩:=hT.u;intro a w hf hh;simp only[execOp];have:(Instr.build t (parts.map fun(i,x)=>(i,a.eval x))).run P w= .ok (.agg ⟨out⟩) w:=by
  unfold Instr.build;rw[aG (hz.zero w),mG];rw[aG (h1 w)];simp only[];rw[aG (h2 w)];have:=CQ hf offs parts.toList _ _ hb;simp only[mZ,this];rfl
 exact cp this
end
def dA(z:Value)(k:Nat):List Value:=(List.replicate k (aF z)).flatten
def Kl{α:Type}(l:List α): ∀(k i:Nat),i<k*l.length->(List.replicate k l).flatten[i]? =l[i%l.length]?
 |0,i,h=>by omega
 |k+1,i,h=>by
  rw[jK,kQ];by_cases hi:i<l.length
  .rw[cZ hi,gQ hi]
  .rw[dS (by omega),Kl l k (i-l.length) (by rw[cS] at h;omega)]
   rw[Nat.mod_eq_sub_mod (Nat.ge_of_not_lt hi)]
def qm(z:Value)(k:Nat):(dA z k).length=k*(aF z).length:=by simp[dA]
def Ac{z:Value}{k m:Nat}(h:m=k*(aF z).length):((Array.range m).map fun i=>(⟨aF z⟩:Array Value)[i%(⟨aF z⟩:Array Value).size]!)=⟨dA z k⟩:=by
 subst h;apply Array.ext';apply jN;intro i;simp only[mZ,Array.toList_range,fK,lY];by_cases hi:i<k*(aF z).length
 .rw[qU hi]
  simp only[gL];have h1:=Kl (aF z) k i hi;have hpos:0<(aF z).length:=by
   rcases cN (aF z).length with h|h
   .rw[h,qN] at hi;omega
   .exact h
  have hm:=cJ i hpos;show _=(dA z k)[i]?;unfold dA;rw[h1];simp[hm]
 .rw[dY (by simpa using hi)]
  rw[dY (by show(dA z k).length<=i;rw[qm];omega)];rfl
section
variable {P:Program} {C:az} {n:Nat} {fr:Fr} {own own':List av} {G:Gh} {Φ:Act->World->Prop}
variable {dst:Option Nat} {t t' ty':TypeId} {pos:String} {af:Array Edge} {gd:Option (Nat×Bool)} {x y:Operand} {e s by_:Nat}
def V2[hT:c8 P t e s by_](w:World): ∃i:TypeInfo,(typeInfo e).run P w= .ok i w/\i.bytes=by_:=by
 obtain⟨i,h1,_,h2⟩:=hT.info;exact⟨i,by simp[typeInfo,program,Sem.run_bind,Sem.run,h1,run_pure],h2⟩
def WJ[hT:c8 P t e s by_]{z:Value}[hz:gg P e z]{k k':IntKind}{l:Int}(hx:aC fr x=some (.int k l))(hy:aC fr y=some (.int k' l))(h0:0<=l)(hb:by_*l<=2^47)(hl:l<=2^60)(hs:(aF z).length=s)(hd:cC n dst=true)
  (h: ∀b,St C n (put fr dst (.slice (some ⟨b,0,none⟩) l.toNat l.toNat)) (⟨b,dA z l.toNat,e,true⟩::own) G Φ):
  Ch P C n fr own G ⟨dst, .makeSlice t x y,ty',pos,af,gd⟩ Φ:=by
 intro a w Q rl;have h1:(Instr.makeSlice t (a.eval x) (a.eval y)).run P w= .ok (.slice (some ⟨w.heap.size,0,none⟩) l.toNat l.toNat) (w.alloc (.cells ⟨dA z l.toNat⟩ e)):=by
  obtain⟨i,hi,hib⟩:=V2 (P:=P) (t:=t) (e:=e) (s:=s) (by_:=by_) w;rw[bh rl.fr hx,bh rl.fr hy];unfold Instr.makeSlice;rw[aG (hT.u w)];simp only[asInt,asIntOf];rw[aG (a:=l) (w':=w) J,aG (a:=l) (w':=w) J,aG hi,hib];have hw:IntKind.i64.wrap l=l:=oI (by simp[IntKind.min,IntKind.max,IntKind.signed,IntKind.bits];omega);simp only[hw];have c1: ¬((by_:Int)*l>2^48):=by
   have:(2:Int)^47<=2^48:=by decide
   omega
  have c2:(decide (l<0)||decide ((by_:Int)*l>2^48))=false:=by simp[c1];omega
  simp only[c2,Int.lt_irrefl,decide_false,Bool.or_false,Bool.false_or];have c3:decide (l<0)=false:=by simp;omega
  simp only[c3,kN,if_false,gt_iff_lt,Int.lt_irrefl,decide_false,Bool.or_false];have hr: ¬(l.toNat*by_>roomBytes):=by
   unfold roomBytes;have:((l.toNat*by_:Nat):Int)=by_*l:=by rw[fL,qT h0,rQ]
   have h47:((2^47:Nat):Int)=2^47:=by decide
   omega
  unfold askRoom;simp only[hr,if_false];rw[aG (run_pure _ _ _),aG (hT.siz w)];have hn:l.toNat*s=l.toNat*(aF z).length:=by rw[hs]
  by_cases h00:l.toNat*s=0
  .rw[if_pos h00,aG (run_pure _ _ _)]
   have e0:dA z l.toNat=[]:=cV (by rw[qm,hs];exact h00);rw[h00,e0,show(Array.range 0)= #[] from J,Array.map_empty];rfl
  .rw[if_neg h00,aG (hz.zero w),mG]
   rw[aG (run_pure _ _ _),Ac hn];rfl
 refine(fun hk=>?_:Φ (a.put dst (.slice (some ⟨w.heap.size,0,none⟩) l.toNat l.toNat)) (w.alloc (.cells ⟨dA z l.toNat⟩ e))->_) (h w.heap.size _ _ ((rl.heap (rl.h.alloc _ _)).put _ hd));exact ky (v:= .slice (some ⟨w.heap.size,0,none⟩) l.toNat l.toNat) (cp h1) hk
end
section
variable {P:Program} {C:az} {n:Nat} {fr:Fr} {own own':List av} {G:Gh} {Φ:Act->World->Prop}
variable {dst:Option Nat} {t t' ty':TypeId} {pos:String} {af:Array Edge} {gd:Option (Nat×Bool)} {x y:Operand} {e s by_:Nat}
def o5(fr:Fr)(s:Nat):List Value->List (Nat×Operand)->Option (List Value)
 |cs,[]=>some cs
 |cs,(i,x)::r=>match aC fr x with
  |some v=>if(aF v).length=s/\i*s+s<=cs.length then o5 fr s (c9 cs (i*s) (aF v)) r else none
  |none=>none
def Hx{a:Act}(hf:gI fr a)(s:Nat): ∀(ps:List (Nat×Operand)) (cs out:List Value),o5 fr s cs ps=some out->
  Instr.fill (fun i=>some (i*s,s)) ⟨cs⟩ (ps.map fun(i,x)=>(i,a.eval x))=some ⟨out⟩
 |[],cs,out,h=>by simp only[o5] at h;cases h;rfl
 |(i,x)::ps,cs,out,h=>by
  simp only[o5] at h;split at h
  .rename_i v hv
   split at h
   .rename_i hc
    simp only[bL,Instr.fill,bh hf hv,mG];have h1: ¬((⟨aF v⟩:Array Value).size≠s):=by simp[hc.1]
    have h2: ¬(i*s+(⟨aF v⟩:Array Value).size>(⟨cs⟩:Array Value).size):=by simp only[lY,hc.1];omega
    rw[if_neg (by simp only[gK,decide_eq_true_eq,not_or];exact⟨by simpa using h1,by simpa using h2⟩)];have e:=Aa (aF v) ⟨cs⟩ (i*s) 0;have e':(⟨aF v⟩:Array Value).zipIdx.foldl (fun cs (c,j)=>cs.setIfInBounds (i*s+j) c) (⟨cs⟩:Array Value)=⟨c9 cs (i*s) (aF v)⟩:=by
     rw[<-Array.foldl_toList,Array.toList_zipIdx];simpa using e
    rw[e'];exact Hx hf s ps _ _ h
   .cases h
  .cases h
def WA[hT:c8 P t e s by_]{z:Value}[hz:gg P e z]{len:Nat}{parts:Array (Nat×Operand)}{out:List Value}(hs:(aF z).length=s)(hb:o5 fr s (dA z len) parts.toList=some out)(hsm:Nat.ble (len*s) 1000=true)(hs0:Nat.blt 0 (len*s)=true)(hd:cC n dst=true)
  (h: ∀b,St C n (put fr dst (.slice (some ⟨b,0,none⟩) len len)) (⟨b,out,e,true⟩::own) G Φ):
  Ch P C n fr own G ⟨dst, .buildSlice t len parts,ty',pos,af,gd⟩ Φ:=by
 intro a w Q rl;have hsm':len*s<=1000:=by simpa using hsm
 have hs0':0<len*s:=by simpa[lS] using hs0
 have h1:(Instr.buildSlice t len (parts.map fun(i,x)=>(i,a.eval x))).run P w= .ok (.slice (some ⟨w.heap.size,0,none⟩) len len) (w.alloc (.cells ⟨out⟩ e)):=by
  unfold Instr.buildSlice;rw[aG (hT.u w)];simp only[];rw[aG (hT.siz w)];have c1: ¬(len*s>2^24):=by omega
  have c2: ¬(len*s=0):=by omega
  simp only[c1,if_false];rw[if_neg c2,aG (hz.zero w),mG,aG (run_pure _ _ _)];rw[Ac (k:=len) (by rw[hs])];have hf:=Hx rl.fr s parts.toList _ _ hb;simp only[mZ,hf];rfl
 refine ky (v:= .slice (some ⟨w.heap.size,0,none⟩) len len) (w':=w.alloc (.cells ⟨out⟩ e)) ?_ (h w.heap.size _ _ ((rl.heap (rl.h.alloc _ _)).put _ hd));simp only[execOp];exact cp h1
def Iw[hT:c8 P t e s by_](hd:cC n dst=true)(h: ∀b,St C n (put fr dst (.slice (some ⟨b,0,none⟩) 0 0)) (⟨b,[],e,true⟩::own) G Φ):
  Ch P C n fr own G ⟨dst, .buildSlice t 0 #[],ty',pos,af,gd⟩ Φ:=by
 intro a w Q rl;have h1:(Instr.buildSlice t 0 #[]).run P w= .ok (.slice (some ⟨w.heap.size,0,none⟩) 0 0) (w.alloc (.cells ⟨[]⟩ e)):=by
  unfold Instr.buildSlice;rw[aG (hT.u w)];simp only[];rw[aG (hT.siz w)];simp only[iV,gt_iff_lt,qK,if_false,if_true];rw[aG (run_pure _ _ _),show(Array.range 0)= #[] from J,Array.map_empty];rfl
 refine ky (v:= .slice (some ⟨w.heap.size,0,none⟩) 0 0) (w':=w.alloc (.cells ⟨[]⟩ e)) ?_ (h w.heap.size _ _ ((rl.heap (rl.h.alloc _ _)).put _ hd));simp only[execOp,iT,iQ];exact cp h1
def Ju[hT:c8 P t e s by_]{ad:Option Addr}{len cap l2 c2:Nat}(hx:aC fr x=some (.slice ad len cap))(hy:aC fr y=some (.slice none l2 c2)):Yd P C fr own G ⟨dst, .binOp .eql t x y t',ty',pos,af,gd⟩ (.bool ad.isNone):=by
 intro a w hf hh;simp only[execOp,bh hf hx,bh hf hy];have h1:(Op.equal t (.slice ad len cap) (.slice none l2 c2)).run P w= .ok ad.isNone w:=mz (by unfold Op.equalIn;rw[aG (hT.u w)];cases ad<;>rfl);have h2:(eqGuard .eql t x y (.slice ad len cap) (.slice none l2 c2)).run P w= .ok () w:=J;have h3:(binOp .eql t (.slice ad len cap) (.slice none l2 c2)).run P w= .ok (.bool ad.isNone) w:=by simp only[binOp];rw[aG h1];rfl
 exact cp (by rw[aG h2];exact h3)
def UV[hT:c8 P t e s by_]{ad:Option Addr}{len cap l2 c2:Nat}(hx:aC fr x=some (.slice ad len cap))(hy:aC fr y=some (.slice none l2 c2)):Yd P C fr own G ⟨dst, .binOp .neq t x y t',ty',pos,af,gd⟩ (.bool (!ad.isNone)):=by
 intro a w hf hh;simp only[execOp,bh hf hx,bh hf hy];have h1:(Op.equal t (.slice ad len cap) (.slice none l2 c2)).run P w= .ok ad.isNone w:=mz (by unfold Op.equalIn;rw[aG (hT.u w)];cases ad<;>rfl);have h2:(eqGuard .neq t x y (.slice ad len cap) (.slice none l2 c2)).run P w= .ok () w:=J;have h3:(binOp .neq t (.slice ad len cap) (.slice none l2 c2)).run P w= .ok (.bool (!ad.isNone)) w:=by simp only[binOp];rw[aG h1];rfl
 exact cp (by rw[aG h2];exact h3)
end
def ja: ∀(cs:List Value) (off k:Nat),off+k<=cs.length->cc cs off k=some ((cs.drop off).take k)
 |cs,0,0,_=>by cases cs<;>rfl
 |[],0,k+1,h=>by simp at h
 |v::t,0,k+1,h=>by
  simp only[cc,ja t 0 k (by simp at h;omega)];simp
 |[],_+1,k,h=>by simp at h
 |_::t,off+1,k,h=>by
  simp only[cc,ja t off k (by simp at h;omega)];simp
section
variable {P:Program} {C:az} {n:Nat} {fr:Fr} {own own' own1:List av} {G:Gh} {Φ:Act->World->Prop}
variable {dst:Option Nat} {t t' ty':TypeId} {pos:String} {af:Array Edge} {gd:Option (Nat×Bool)} {x y:Operand} {e s by_:Nat}
def l6(P:Program)(C:az)(own:List av)(G:Gh)(s m:Nat)(v:Value)(ys:List Value):Prop:=
 ∀w,bj C own G w->(Builtin.firstCells s m v).run P w= .ok ⟨ys⟩ w
def Ct{w:World}{b off k:Nat}{cs l:List Value}{ty:TypeId}{fz:Nat×Nat}(h:w.heap[b]? =some (.cells ⟨cs⟩ ty fz))(hl:cc cs off k=some l):(loadCells ⟨b,off,none⟩ k).run P w= .ok ⟨l⟩ w:=by
 obtain⟨h1,h2⟩:=ma _ _ _ _ hl;unfold loadCells;rw[BE (l:=l) k 0 #[] (fun j hj=>by rw[uw h];simpa using h2 j hj) (by omega)];simp[<-h1]
def W6{b off m len cap:Nat}{cs ys:List Value}{ty:TypeId}{lo:Bool}(ho:ie own b cs ty lo)(hl:cc cs off (m*s)=some ys):l6 P C own G s m (.slice (some ⟨b,off,none⟩) len cap) ys:=
 fun w h=>Ct (h.hown _ ho.mem).1 hl
def DU{b off m len cap:Nat}{cs ys:List Value}(hg:G b=some cs)(hl:cc cs off (m*s)=some ys):l6 P C own G s m (.slice (some ⟨b,off,none⟩) len cap) ys:=
 fun w h=>by obtain⟨ty,fz,hb⟩:=h.sub _ _ hg;exact Ct hb hl
def tg{ad:Option Addr}{len cap:Nat}:l6 P C own G s 0 (.slice ad len cap) []:=fun w _=>by
 cases ad with
 |none=>rfl
 |some a=>unfold Builtin.firstCells loadCells;simp[loadCellsFrom,run_pure]
def Lh(z:Value)(k:Nat):Builtin.zeroCells ⟨aF z⟩ k=⟨dA z k⟩:=by
 unfold Builtin.zeroCells;exact Ac J
def D7{w w':World}[hT:c8 P t e s by_][hN:lI P t']{z:Value}[hz:gg P e z]{ad:Option Addr}{len cap m cap2:Nat}{ad2:Option Addr}{xs ys:List Value}
  (hsx:(Builtin.firstCells s len (.slice ad len cap)).run P w.drew= .ok ⟨xs⟩ w.drew)(hsy:(Builtin.firstCells s m (.slice ad2 m cap2)).run P w.drew= .ok ⟨ys⟩ w.drew)
  (hneed:cap<len+m)(hby:0<by_)(hb:(len+m)*by_<=140737488355328):
  (Builtin.append_ #[t,t'] ty' #[.slice ad len cap, .slice ad2 m cap2]).run P w=
   .ok (.slice (some ⟨w.heap.size,0,none⟩) (len+m) (grownCap w (len+m) cap e)) (w.drew.alloc (.cells ⟨xs++ys++dA z (grownCap w (len+m) cap e-(len+m))⟩ e)):=by
 obtain⟨d,hd1⟩:=hN.un;obtain⟨i,hi,his,hib⟩:=hT.info;obtain⟨i',hi',hiz⟩:=hz.info;rw[hi] at hi';cases hi';have hfit:=growslice_fits (old:=cap) (need:=len+m) (bytes:=by_) hneed hb;have hlen:len+m<=140737488355328:=fJ (oR _ hby) hb;have hn: ¬(len+m<=cap):=by omega
 have h63': ¬(9223372036854775807<((len:Int)+(m:Int))):=by omega
 have h48': ¬(281474976710656<Builtin.nextslicecap (len+m) cap*i.bytes):=by rw[hib];omega
 subst his;simp[Builtin.append_,run_underlying hT.un,run_underlying hd1,sizeOf,typeInfo,zeroValue,hi,hiz,Builtin.lenOf,hn,h63',h48',Question.forced,hsx,hsy,newRow,grownCap];congr 2;apply Array.ext';rw[mG,Lh];simp[dL]
def Hf[hT:c8 P t e s by_][hN:lI P t']{z:Value}[hz:gg P e z]{ad:Option Addr}{len cap m cap2:Nat}{ad2:Option Addr}{xs ys:List Value}
  (hx:aC fr x=some (.slice ad len cap))(hy:aC fr y=some (.slice ad2 m cap2))(hsx:l6 P C own G s len (.slice ad len cap) xs)(hsy:l6 P C own G s m (.slice ad2 m cap2) ys)
  (hneed:cap<len+m)(hby:0<by_)(hb:(len+m)*by_<=140737488355328)(hd:cC n dst=true)
  (h: ∀b cap',len+m<=cap'->St C n (put fr dst (.slice (some ⟨b,0,none⟩) (len+m) cap')) (⟨b,xs++ys++dA z (cap'-(len+m)),e,true⟩::own) G Φ):
  Ch P C n fr own G ⟨dst, .call ⟨.builtin .append, #[x,y], #[t,t']⟩,ty',pos,af,gd⟩ Φ:=by
 intro a w Q rl;have hcap:len+m<=grownCap w (len+m) cap e:=by unfold grownCap;simp only[Question.cut];omega
 have hrun:=D7 (P:=P) (t:=t) (t':=t') (ty':=ty') (w:=w) (w':=w) (hsx _ rl.h.drew) (hsy _ rl.h.drew) hneed hby hb;refine ky (v:= .slice (some ⟨w.heap.size,0,none⟩) (len+m) (grownCap w (len+m) cap e)) (w':=w.drew.alloc (.cells ⟨xs++ys++dA z (grownCap w (len+m) cap e-(len+m))⟩ e)) ?_ ?_
 .simp only[execOp,resolve,iT,bL,iQ,bh rl.fr hx,bh rl.fr hy]
  exact cp hrun
 .exact h w.heap.size _ hcap _ _ ((rl.heap ((rl.h.drew).alloc _ _)).put _ hd)
def ik.perm{o:av}(h:ik own o own1):own.Perm (o::own1):=by
 induction h with
 |hd o t=>exact List.Perm.refl _
 |tl x t t' o h ih=>exact(List.Perm.cons x ih).trans (List.Perm.swap _ _ _)
def Qe{w:World}[hT:c8 P t e s by_][hN:lI P t']{b len cap m cap2:Nat}{ad2:Option Addr}{cs ys:List Value}
  (hb:w.heap[b]? =some (.cells ⟨cs⟩ e (0,0)))(hcs:cs.length=cap*s)(hsy:(Builtin.firstCells s m (.slice ad2 m cap2)).run P w= .ok ⟨ys⟩ w)(hys:ys.length=m*s)(hf: ∀v∈ys,flat v=true)
  (hneed:len+m<=cap):
  (Builtin.append_ #[t,t'] ty' #[.slice (some ⟨b,0,none⟩) len cap, .slice ad2 m cap2]).run P w=
   .ok (.slice (some ⟨b,0,none⟩) (len+m) cap) (eo w b (.cells ⟨c9 cs (len*s) ys⟩ e (0,0))):=by
 obtain⟨d,hd1⟩:=hN.un;obtain⟨i,hi,his,hib⟩:=hT.info;subst his;have hl:len*i.size+ys.length<=cs.length:=by rw[hys,hcs,<-cS];exact bK _ hneed
 have hst:=uP (P:=P) ys w (len*i.size) 0 cs hf hb (by omega);rw[eK] at hst;simp[Builtin.append_,run_underlying hT.un,run_underlying hd1,sizeOf,typeInfo,hi,Builtin.lenOf,hneed,hsy,oE,hst]
def xI: ∀(vs cs:List Value) (off:Nat),(c9 cs off vs).length=cs.length
 |[],cs,off=>rfl
 |v::vs,cs,off=>by simp[c9,xI vs]
def qj: ∀(vs cs:List Value) (off:Nat),off+vs.length<=cs.length->c9 cs off vs=cs.take off++vs++cs.drop (off+vs.length)
 |[],cs,off,h=>by simp[c9]
 |v::vs,cs,off,h=>by
  simp only[bR] at h;rw[c9,qj vs _ _ (by simp;omega)];rw[List.take_set,lN (by omega)];have h1:(cs.take (off+1)).set off v=cs.take off++[v]:=by
   rw[gT (by omega),List.set_append_right _ _ (by simp;omega)];simp[fM (by omega:off<=cs.length)]
  rw[h1];simp only[bR,dL,iS,jV];congr 4;omega
def JM[hT:c8 P t e s by_][hN:lI P t']{z:Value}[hz:gg P e z]{b len cap m cap2:Nat}{ad2:Option Addr}{xs ys rest:List Value}
  (hx:aC fr x=some (.slice (some ⟨b,0,none⟩) len cap))(hy:aC fr y=some (.slice ad2 m cap2))(hr:ik own ⟨b,xs++rest,e,true⟩ own1)(hxs:xs.length=len*s)(hcap:xs.length+rest.length=cap*s)(hlc:len<=cap)
  (hsy:l6 P C own G s m (.slice ad2 m cap2) ys)(hys:ys.length=m*s)(hf: ∀v∈ys,flat v=true)
  (hby:0<by_)(hb:(len+m)*by_<=140737488355328)(hzs:(aF z).length=s)(hd:cC n dst=true)
  (h: ∀b cap' rest',len+m<=cap'->rest'.length+(len+m)*s=cap'*s->St C n (put fr dst (.slice (some ⟨b,0,none⟩) (len+m) cap')) (⟨b,xs++ys++rest',e,true⟩::own1) G Φ):
  Ch P C n fr own G ⟨dst, .call ⟨.builtin .append, #[x,y], #[t,t']⟩,ty',pos,af,gd⟩ Φ:=by
 intro a w Q rl;have hp:=rl.h.perm hr.perm;have hblk:=(hp.hown _ aX).1;simp only[] at hblk;by_cases hneed:len+m<=cap
 .have hcs:(xs++rest).length=cap*s:=by simp;omega
  have hrun:=Qe (P:=P) (t:=t) (t':=t') (ty':=ty') (w:=w) (len:=len) hblk hcs (hsy w rl.h) hys hf hneed;have hle:len*s+m*s<=cap*s:=by rw[<-cS];exact bK _ hneed
  have hov:c9 (xs++rest) (len*s) ys=xs++ys++rest.drop (m*s):=by
   rw[qj _ _ _ (by rw[hys];omega),<-hxs];simp[hys,List.drop_append]
  refine ky (v:= .slice (some ⟨b,0,none⟩) (len+m) cap) (w':=eo w b (.cells ⟨c9 (xs++rest) (len*s) ys⟩ e (0,0))) ?_ ?_
  .simp only[execOp,resolve,iT,bL,iQ,bh rl.fr hx,bh rl.fr hy]
   exact cp hrun
  .rw[hov]
   refine h b cap (rest.drop (m*s)) hneed ?_ _ _ ((rl.heap (hp.store (.hd ..))).put _ hd);rw[jY,cS];omega
 .have hx':l6 P C own G s len (.slice (some ⟨b,0,none⟩) len cap) xs:=fun w' hw'=>by
   have hb':=(((hw'.perm hr.perm).hown _ aX).1);refine Ct hb' ?_;rw[ja _ _ _ (by simp;omega),<-hxs];simp
  have hcap':len+m<=grownCap w (len+m) cap e:=by unfold grownCap;simp only[Question.cut];omega
  have hrun:=D7 (P:=P) (t:=t) (t':=t') (ty':=ty') (w:=w) (w':=w) (hx' _ rl.h.drew) (hsy _ rl.h.drew) (by omega) hby hb;refine ky (v:= .slice (some ⟨w.heap.size,0,none⟩) (len+m) (grownCap w (len+m) cap e)) (w':=w.drew.alloc (.cells ⟨xs++ys++dA z (grownCap w (len+m) cap e-(len+m))⟩ e)) ?_ ?_
  .simp only[execOp,resolve,iT,bL,iQ,bh rl.fr hx,bh rl.fr hy]
   exact cp hrun
  .refine h w.heap.size _ _ hcap' ?_ _ _ ((rl.heap (((hp.drew).drop (List.sublist_cons_self _ _)).alloc _ _)).put _ hd)
   rw[qm,hzs,<-cS];congr 1;omega
end
section
variable {P:Program} {ops:Array Oper} {Q:Exit->Act->World->Prop} {S:World->Prop} {fin:Nat->Bool}
def nD(ops:Array Oper)(fin:Nat->Bool):List (Nat×Bool)->Array Bool->Bool
 |[],listed=>(Region.ready .any ops listed).isEmpty
 |(i,true)::r,listed=>sE ops fin listed i&&nD ops fin r (listed.setIfInBounds i true)
 |(i,false)::r,listed=>(Region.ready .any ops listed==[i])&&nD ops fin r (listed.setIfInBounds i true)
def mE(P:Program)(ops:Array Oper)(Q:Exit->Act->World->Prop)(S:World->Prop)(fin:Nat->Bool):List (Nat×Bool)->Act->World->Prop
 |[],a,w=>Q .normal a w
 |(i,true)::r,a,w=> ∃o v,ops[i]? =some o/\S w/\YieldsIf P ops S o v a/\mE P ops Q S fin r (a.put o.dst v) w
 |(i,false)::r,a,w=>wpOp P ops Q i (fun a' w'=>(fin i=true\/S w')/\mE P ops Q S fin r a' w') a w
def BG(hQ: ∀c a d v w,Q (.panic c) (Act.put a d v) w->Q (.panic c) a w): ∀(π:List (Nat×Bool)) (listed:Array Bool) (a:Act) (w:World),nD ops fin π listed=true->mE P ops Q S fin π a w-> ∀fuel,π.length<=fuel->pC P ops Q S fin fuel listed a w
 |[],listed,a,w,ho,h,fuel,hf=>by
  have hr:Region.ready .any ops listed=[]:=by simpa[nD] using ho
  cases fuel with
  |zero=>exact⟨hr,h⟩
  |succ k=>exact⟨fun _=>h,by rw[hr];simp⟩
 |(i,true)::r,listed,a,w,ho,h,0,hf=>by simp at hf
 |(i,false)::r,listed,a,w,ho,h,0,hf=>by simp at hf
 |(i,true)::r,listed,a,w,ho,h,fuel+1,hf=>by
  obtain⟨o,v,hoi,hS,hy,hk⟩:=h;simp only[nD,sE,bQ] at ho;obtain⟨⟨⟨⟨h1,h2⟩,h3⟩,h4⟩,h5⟩:=ho;obtain⟨h6,h7⟩:=Ul h4;exact O1 hoi (Region.noSelect_spec h1) (fun c a w=>hQ c a _ _ w) h6 h7 fuel listed a w (Region.free_spec hoi h2) (by simpa using h3) hy hS
   (BG hQ r _ _ _ h5 hk fuel (by simpa using hf))
 |(i,false)::r,listed,a,w,ho,h,fuel+1,hf=>by
  simp only[nD,bQ,beq_iff_eq] at ho;exact Pd ho.1 (wpOp_mono (fun a' w' h'=>⟨h'.1,BG hQ r _ _ _ ho.2 h'.2 fuel (by simpa using hf)⟩) h)
end
section
variable {P:Program} {C:az} {n:Nat} {fr:Fr} {own own0:List av} {G G0:Gh} {ops:Array Oper} {Q:Exit->Act->World->Prop} {fin:Nat->Bool} {π:List (Nat×Bool)}
def dr(fin:Nat->Bool)(π:List (Nat×Bool)){id:Nat}(hm:P.follows .mixedOrders=true)(ho:(nD ops fin π (Array.replicate ops.size false)&&Nat.ble π.length ops.size)=true)
  (h:St C n fr own G (mE P ops (mv Q) (HS C own G) fin π)):St C n fr own G ((Code.region id ops true).wp P Q):=by
 simp only[bQ] at ho;refine U8 fin hm fun a w rl=>BG (fun _ _ _ _ _ h=>h) π _ a w ho.1 (h a w rl) _ (by simpa using ho.2)
def dc{i:Nat}{o:Oper}(ho:ops[i]? =some o)(hg:o.guard=none)(hc:Ch P C n fr own G o (fun a w=>(fin i=true\/HS C own0 G0 w)/\mE P ops (mv Q) (HS C own0 G0) fin π a w)):St C n fr own G (mE P ops (mv Q) (HS C own0 G0) fin ((i,false)::π)):=by
 intro a w rl;show wpOp P ops (mv Q) i _ a w;unfold wpOp;simp only[ho,Region.wanted,hg,if_true];exact .inl (hc a w _ rl)
def Nz{A G:Gh}{b:Nat}{cs:List Value}[h:BD A b cs][k:GL A G]:G b=some cs:=k.le _ _ h.h
variable {dst:Option Nat} {t t' ty':TypeId} {pos:String} {af:Array Edge} {x y:Operand} {r:List Oper}
def sm{v:Value}(hx:aC fr x=some v)(hd:cC n dst=true)(h:St C n (put fr dst v) own G (d9 P ops Q r)):St C n fr own G (d9 P ops Q (⟨dst, .move x,ty',pos,af,none⟩::r)):=uN (K5 hx) J hd h
def sa{v:Value}(hx:aC fr x=some v)(hd:cC n dst=true)(h:St C n (put fr dst v) own G (d9 P ops Q r)):St C n fr own G (d9 P ops Q (⟨dst, .assign x,ty',pos,af,none⟩::r)):=uN (Lg hx) J hd h
def oc{b off k:Nat}{cs l:List Value}{lo:Bool}{ty:TypeId}(hx:aC fr x=some (.pointer (some ⟨b,off,none⟩)))[ho:ie own b cs ty lo][mf P t k](hl:cc cs off k=some l)(hd:cC n dst=true)
  (h:St C n (put fr dst (.agg ⟨l⟩)) own G (d9 P ops Q r)):St C n fr own G (d9 P ops Q (⟨dst, .load t x,ty',pos,af,none⟩::r)):=uN (A6 hx hl) J hd h
def sx{vs:Array Value}{i:Nat}{v:Value}(hx:aC fr x=some (.tuple vs))(hv:vs[i]? =some v)(hd:cC n dst=true)(h:St C n (put fr dst v) own G (d9 P ops Q r)):St C n fr own G (d9 P ops Q (⟨dst, .extract x i,ty',pos,af,none⟩::r)):=uN (zw hx hv) J hd h
def sy{op:Op}{v:Value}(hy:Yd P C fr own G ⟨dst,op,ty',pos,af,none⟩ v)(hd:cC n dst=true)(h:St C n (put fr dst v) own G (d9 P ops Q r)):St C n fr own G (d9 P ops Q (⟨dst,op,ty',pos,af,none⟩::r)):=uN hy J hd h
def sc{op:Op}(hc:Ch P C n fr own G ⟨dst,op,ty',pos,af,none⟩ (d9 P ops Q r)):St C n fr own G (d9 P ops Q (⟨dst,op,ty',pos,af,none⟩::r)):=SK J hc
end
def Fn.of_calls{P:Program}{f:FuncId}{vs:List Value}{G:Gh}{v:Value}(ha:kt P f)(h: ∀w,Calls P f ⟨vs⟩ w fun e w'=>e= .returned v/\w'=w):Fn P f vs G (fun u _=>u=v):=
 ⟨ha,fun w hw=>(h w).mono fun e w' ⟨he,hww⟩=>⟨v,G,he,by
  subst hww;exact⟨J,J,J,aM _,fun _ _ _=>J,hw,ba.refl _,fun _ _=>J,fun o ho=>(by cases ho), .nil,aM _,fun p hp=>by cases hp⟩,J⟩⟩
end Go.Sx
end
section
namespace Go.Sx
def dv:List Nat->Nat
 |[]=>0
 |d::t=>d+4294967296*dv t
def aO(ds:List Nat):Prop:= ∀d∈ds,d<4294967296
def c6(ds:List Nat):Prop:=ds.getLast? ≠some 0
instance (ds:List Nat):Decidable (c6 ds):=inferInstanceAs (Decidable (ds.getLast? ≠some 0))
def aO.nil:aO []:=fun _ h=>by cases h
def aO.cons{d:Nat}{ds:List Nat}(h:d<4294967296)(k:aO ds):aO (d::ds):=fun x hx=>by
 rcases aR.1 hx with rfl|h'
 .exact h
 .exact k _ h'
def aO.head{d:Nat}{ds:List Nat}(h:aO (d::ds)):d<4294967296:=h d aX
def aO.tail{d:Nat}{ds:List Nat}(h:aO (d::ds)):aO ds:=fun x hx=>h x (aK _ hx)
def aO.append{a b:List Nat}(h:aO a)(k:aO b):aO (a++b):=fun x hx=>by
 rcases cM.1 hx with h'|h'
 .exact h _ h'
 .exact k _ h'
def aO.take{a:List Nat}(h:aO a)(n:Nat):aO (a.take n):=fun x hx=>h x (dX hx)
def aO.drop{a:List Nat}(h:aO a)(n:Nat):aO (a.drop n):=fun x hx=>h x (pN hx)
def aO.get{a:List Nat}(h:aO a)(i:Nat):a.getD i 0<4294967296:=by
 rw[aJ]
 cases hi:a[i]? with
 |none=>simp
 |some d=>exact h d (aW hi)
def aO.set{a:List Nat}(h:aO a)(i:Nat){d:Nat}(hd:d<4294967296):aO (a.set i d):=fun x hx=>by
 rcases List.mem_or_eq_of_mem_set hx with h'|rfl
 .exact h _ h'
 .exact hd
def aO.replicate(n:Nat):aO (List.replicate n 0):=fun x hx=>by
 rw[jR hx];omega
def rT(a b:List Nat):dv (a++b)=dv a+4294967296^a.length*dv b:=by
 induction a with
 |nil=>simp[dv]
 |cons d t ih=>
  simp only[iS,dv,ih,bR,gJ];rw[cY,<-jT,<-bU,bW 4294967296 (4294967296^t.length)]
def i8{ds:List Nat}(h:aO ds):dv ds<4294967296^ds.length:=by
 induction ds with
 |nil=>simp[dv]
 |cons d t ih=>
  have h1:=h.head;have h2:=ih h.tail;simp only[dv,bR,gJ];omega
def r8(n:Nat):dv (List.replicate n 0)=0:=by
 induction n with
 |zero=>rfl
 |succ n ih=>simp[jK,dv,ih]
def jv(ds:List Nat)(i:Nat):dv (ds.take (i+1))=dv (ds.take i)+4294967296^i*ds.getD i 0:=by
 by_cases h:i<ds.length
 .rw[gT h,rT]
  simp[dv,fM (mW h),aJ,h]
 .have:ds.getD i 0=0:=by rw[aJ,dY (by omega)];rfl
  rw[this,cW (by omega),cW (by omega)];simp
def t8(ds:List Nat)(i:Nat)(h:i<=ds.length:=by omega):dv ds=dv (ds.take i)+4294967296^i*dv (ds.drop i):=by
 have:=rT (ds.take i) (ds.drop i);rw[lJ] at this;rw[this];simp[fM h]
def trimD:List Nat->List Nat
 |[]=>[]
 |d::t=>match trimD t with
  |[]=>if d=0 then [] else [d]
  |t'=>d::t'
def rA(d:Nat)(t:List Nat):trimD (d::t)=if trimD t=[]/\d=0 then [] else d::trimD t:=by
 simp only[trimD]
 cases h:trimD t with
 |nil=>by_cases hd:d=0<;>simp[hd]
 |cons a b=>simp
def NC(ds:List Nat):dv (trimD ds)=dv ds:=by
 induction ds with
 |nil=>rfl
 |cons d t ih=>
  rw[rA];split
  .rename_i h
   rw[h.1] at ih;simp[dv,<-ih,h.2]
  .simp[dv,ih]
def Xn(ds:List Nat):trimD (ds++[0])=trimD ds:=by
 induction ds with
 |nil=>rfl
 |cons d t ih=>rw[iS,rA,rA,ih]
def GV{ds:List Nat}{d:Nat}(h:d≠0):trimD (ds++[d])=ds++[d]:=by
 induction ds with
 |nil=>simp[trimD,h]
 |cons e t ih=>rw[iS,rA,ih];simp
def c6.trimD(ds:List Nat):c6 (trimD ds):=by
 induction ds with
 |nil=>simp[c6,Sx.trimD]
 |cons d t ih=>
  rw[rA];split
  .simp[c6]
  .rename_i h
   unfold c6 at*;rw[List.getLast?_cons]
   cases ht:(Sx.trimD t).getLast? with
   |none=>
    have:Sx.trimD t=[]:=by simpa using ht
    simp only[Option.getD_none,ne_eq,Option.some.injEq];exact fun hd=>h ⟨this,hd⟩
   |some x=>rw[ht] at ih;simpa using ih
def Qq(ds:List Nat):(trimD ds).length<=ds.length:=by
 induction ds with
 |nil=>simp[trimD]
 |cons d t ih=>
  rw[rA];split
  .simp
  .simp;omega
def MJ(ds:List Nat):trimD ds=ds.take (trimD ds).length:=by
 induction ds with
 |nil=>rfl
 |cons d t ih=>
  rw[rA];split
  .rfl
  .simp only[bR,lM];rw[<-ih]
def aO.trimD{ds:List Nat}(h:aO ds):aO (trimD ds):=by rw[MJ];exact h.take _
def Pb{ds:List Nat}(h:c6 ds):trimD ds=ds:=by
 rcases pK ds with rfl|⟨l,d,rfl⟩
 .rfl
 .rw[pV] at*
  exact GV (fun e=>by subst e;simp[c6] at h)
def qt{ds:List Nat}(h:c6 ds)(hne:ds≠[]):4294967296^(ds.length-1)<=dv ds:=by
 rcases pK ds with rfl|⟨l,d,rfl⟩
 .exact absurd J hne
 .rw[pV] at*
  have hd:d≠0:=fun e=>by subst e;simp[c6] at h
  rw[rT];simp only[aN,bR,kJ,dv];have:4294967296^(l.length+(0+1)-1)=4294967296^l.length:=by congr 1
  rw[this];have h1:4294967296^l.length*1<=4294967296^l.length*(d+4294967296*0):=eX _ (by omega);omega
def tk{a b:List Nat}(ha:aO a)(hb:c6 b)(h:a.length<b.length):dv a<dv b:=by
 have h1:=i8 ha;have h2:=qt hb (fun e=>by subst e;simp at h);have h3:4294967296^a.length<=4294967296^(b.length-1):=bY (by omega) (by omega);omega
def Jd: ∀{a b:List Nat},aO a->aO b->a.length=b.length->dv a=dv b->a=b
 |[],[],_,_,_,_=>rfl
 |d::t,e::u,ha,hb,hl,h=>by
  have h1:=ha.head;have h2:=hb.head;simp only[dv] at h;have:d=e:=by omega
  subst this;rw[Jd ha.tail hb.tail (by simpa using hl) (by omega)]
def RX{a b:List Nat}(ha:aO a)(hb:aO b)(na:c6 a)(nb:c6 b)(h:dv a=dv b):a=b:=by
 refine Jd ha hb ?_ h;rcases Nat.lt_trichotomy a.length b.length with h'|h'|h'
 .have:=tk ha nb h';omega
 .exact h'
 .have:=tk hb na h';omega
def JW{a b:List Nat}(ha:aO a)(hb:aO b)(i:Nat)(hia:i<a.length)(hib:i<b.length)(hl:a.length=b.length)(hs:a.drop (i+1)=b.drop (i+1))(h:a.getD i 0<b.getD i 0):dv a<dv b:=by
 rw[t8 a (i+1),t8 b (i+1),hs,jv,jv];have h1:=i8 (ha.take i);rw[aS,fM (by omega)] at h1;have h2:4294967296^i*(a.getD i 0+1)<=4294967296^i*b.getD i 0:=eX _ h;rw[cY] at h2;omega
def Uw{ds:List Nat}{k:Nat}(h:c6 ds)(hk:dv ds<2^k):32*ds.length<=k+31:=by
 by_cases hne:ds=[]
 .subst hne;simp
 .have h1:=qt h hne
  have h2:(4294967296:Nat)^(ds.length-1)=2^(32*(ds.length-1)):=by
   rw[qQ]
  rw[h2] at h1;have h3:2^(32*(ds.length-1))<2^k:=fV h1 hk;have h4:=(lL (by omega:1<2)).1 h3;have:0<ds.length:=by cases ds with|nil=>exact absurd J hne|cons _ _=>simp
  omega
def dg(x:Nat):List Nat:=if h:x=0 then [] else(x%4294967296)::dg (x/4294967296)
termination_by x
decreasing_by omega
def dE(x:Nat):dv (dg x)=x/\aO (dg x)/\c6 (dg x):=by
 induction x using Nat.strongRecOn with
 |_ x ih=>
  unfold dg;split
  .rename_i h;subst h;exact⟨rfl, .nil,by simp[c6]⟩
  .rename_i h
   obtain⟨h1,h2,h3⟩:=ih (x/4294967296) (by omega);refine⟨by rw[dv,h1];omega, .cons (by omega) h2,?_⟩;unfold c6 at*;rw[List.getLast?_cons]
   cases hl:(dg (x/4294967296)).getLast? with
   |none=>
    have:dg (x/4294967296)=[]:=by simpa using hl
    rw[this] at h1;simp only[Option.getD_none,ne_eq,Option.some.injEq];simp only[dv] at h1;omega
   |some y=>rw[hl] at h3;simpa using h3
def pD{ds:List Nat}(h:aO ds)(n:c6 ds):dg (dv ds)=ds:=RX (dE _).2.1 h (dE _).2.2 n (dE _).1
def yY{ds:List Nat}(h:aO ds):dg (dv ds)=trimD ds:=by rw[<-NC];exact pD h.trimD (c6.trimD _)
def rP: ∀(ws:List Nat) (j d:Nat),j<ws.length->dv (ws.set j d)+4294967296^j*ws.getD j 0=dv ws+4294967296^j*d
 |[],j,d,h=>by simp at h
 |w::t,0,d,h=>by simp[dv];omega
 |w::t,j+1,d,h=>by
  have ih:=rP t j d (by simpa using h);simp only[List.set_cons_succ,dv,List.getD_cons_succ,gJ];have h1:4294967296^j*4294967296*t.getD j 0=4294967296*(4294967296^j*t.getD j 0):=by rw[bW (4294967296^j),bU]
  have h2:4294967296^j*4294967296*d=4294967296*(4294967296^j*d):=by rw[bW (4294967296^j),bU]
  rw[h1,h2];omega
def qb{ws:List Nat}{k d:Nat}(h:k<ws.length:=by omega):dv ((ws.set k d).take (k+1))=dv (ws.take k)+4294967296^k*d:=by
 rw[gT (by simpa using h),qR (aM _),rT];simp[dv,fM (mW h)]
def IZ(p x:Nat):p*x=p*(x%4294967296)+p*4294967296*(x/4294967296):=by
 have h:p*x=p*(4294967296*(x/4294967296)+x%4294967296):=by rw[oV]
 rw[cY,<-bU] at h;omega
def Mt{p A E W c a b:Nat}(h:W+p*c=A+E):(W+p*((c+a+b)%4294967296))+(p*4294967296)*((c+a+b)/4294967296)=(A+p*a)+(E+p*b):=by
 have h1:=IZ p (c+a+b);rw[cY,cY] at h1;omega
def UU{p A E W bo b a:Nat}(h:W+E=A+p*bo)(hle:bo+b<=a):(W+p*(a-(bo+b)))+(E+p*b)=(A+p*a)+p*4294967296*0:=by
 have h1:p*a=p*(a-(bo+b))+p*bo+p*b:=by
  rw[<-cY,<-cY];congr 1;omega
 omega
def Vz{p A E W bo b a:Nat}(h:W+E=A+p*bo)(hle:a<bo+b)(hb:bo+b<=a+4294967296):(W+p*(a+4294967296-(bo+b)))+(E+p*b)=(A+p*a)+p*4294967296*1:=by
 have h1:p*a+p*4294967296=p*(a+4294967296-(bo+b))+p*bo+p*b:=by
  rw[<-cY,<-cY,<-cY];congr 1;omega
 omega
def Po{p W W' T c m w:Nat}(hs:W'+p*w=W+p*((c+m+w)%4294967296))(h:W+p*c=T):W'+(p*4294967296)*((c+m+w)/4294967296)=T+p*m:=by
 have h1:=IZ p (c+m+w);rw[cY,cY] at h1;omega
end Go.Sx
end
section
namespace Go.Sx
open Go
section
variable {P:Program} {C:az} {n:Nat} {fr:Fr} {own:List av} {G:Gh}
def Gk:Exit->Bool
 | .goto _=>false
 |_=>true
end
section
variable {P:Program} {ops:Array Oper} {Q:Exit->Act->World->Prop} {S:World->Prop} {fin:Nat->Bool} {k:Nat} {π₂:List (Nat×Bool)}
def J5(ops:Array Oper)(fin:Nat->Bool)(k:Nat)(π₂:List (Nat×Bool)):List (Nat×Bool)->Array Bool->Bool
 |[],listed=>(Region.ready .any ops listed==[k])&&nD ops fin π₂ (listed.setIfInBounds k true)
 |(i,true)::r,listed=>!(Nat.beq i k)&&sE ops fin listed i&&sE ops fin (listed.setIfInBounds k true) i&&J5 ops fin k π₂ r (listed.setIfInBounds i true)
 |(i,false)::r,listed=>!(Nat.beq i k)&&(Region.ready .any ops listed).all (fun j=>Nat.beq j i||Nat.beq j k)&&(Region.ready .any ops listed).contains i&&(Region.ready .any ops (listed.setIfInBounds k true)==[i])&&J5 ops fin k π₂ r (listed.setIfInBounds i true)
def BZ(P:Program)(ops:Array Oper)(Q:Exit->Act->World->Prop)(S:World->Prop)(fin:Nat->Bool)(k:Nat)(π₂:List (Nat×Bool)):List (Nat×Bool)->Act->World->Prop
 |[],a,w=>wpOp P ops Q k (fun a' w'=>(fin k=true\/S w')/\mE P ops Q S fin π₂ a' w') a w
 |(i,true)::r,a,w=> ∃o v,ops[i]? =some o/\S w/\YieldsIf P ops S o v a/\BZ P ops Q S fin k π₂ r (a.put o.dst v) w
 |(i,false)::r,a,w=>wpOp P ops Q i (fun a' w'=>(fin i=true\/S w')/\BZ P ops Q S fin k π₂ r a' w') a w/\
   wpOp P ops Q k (fun a' w'=>(fin k=true\/S w')/\mE P ops Q S fin ((i,false)::r++π₂) a' w') a w
end
section
variable {P:Program} {C:az} {n:Nat} {fr:Fr} {own own0:List av} {G G0:Gh} {ops:Array Oper} {Q:Exit->Act->World->Prop} {fin:Nat->Bool} {k:Nat} {π π₂:List (Nat×Bool)}
def fF(d:Nat):Option Nat->Fr
 |none=>[]
 |some b=>[(d, .pointer (some ⟨b,0,none⟩))]
def fO(t:TypeId)(z:Value):Option Nat->List av
 |none=>[]
 |some b=>[⟨b,aF z,t,true⟩]
def ZM(P:Program)(ops:Array Oper)(Q:Exit->Act->World->Prop)(S:World->Prop)(fin:Nat->Bool)(k:Nat)(π₂:List (Nat×Bool))(fl:Option Nat)(π:List (Nat×Bool)):Act->World->Prop:=
 match fl with
 |none=>BZ P ops Q S fin k π₂ π
 |some _=>mE P ops Q S fin (π++π₂)
end
def relo(fl:Nat->Bool)(o:av):av:={o with lo:=fl o.b}
structure iD (P:Program) (f:FuncId) (vs:List Value) (M:List av) (G:Gh) (K:Value->List av->Gh->Prop):Prop where
 able:kt P f
 run: ∀w,bj ⟨w,G,M.map (·.b),[],[],none,fun _=>none⟩ (asB M) G w->
  Calls P f ⟨vs⟩ w fun e w'=> ∃v own' G',e= .returned v/\bj ⟨w,G,M.map (·.b),[],[],none,fun _=>none⟩ own' G' w'/\K v own' G'
def iC(M:List av)(b:Nat):Bool:=M.all fun m=>!Nat.beq m.b b||m.lo
def bj.calledO{C:az}{M rest own':List av}{G G':Gh}{w w':World}(h:bj C (M++rest) G w)(k:bj ⟨w,G,M.map (·.b),[],[],none,fun _=>none⟩ own' G' w'):
  bj C (own'.map (relo (iC M))++rest) G' w':=by
 have hsz:w.heap.size<=w'.heap.size:=k.size;have hnd:=h.nd;have inM: ∀b,b∈M.map (·.b)-> ∀o∈rest,o.b≠b:=fun b hb o ho e=>by
  obtain⟨m,hm,rfl⟩:=bV.1 hb;exact(iR.1 hnd).2.2 m hm o ho e.symm
 have bnd: ∀o∈own',o.b∉M.map (·.b)->w.heap.size<=o.b:=fun o ho hb=>by
  obtain⟨_,_,h3,h4⟩:=k.hown o ho
  cases hlo:o.lo with
  |true=>exact h3 hlo
  |false=>exact absurd (h4 hlo) hb
 refine⟨k.os.trans h.os,k.tape.trans h.tape,k.output.trans h.output,fJ h.size hsz,?_,k.sub,h.gle.trans k.gle,?_,?_,?_,fJ h.dr k.dr,fun p hp=>⟨(h.ext p hp).1,by rw[k.keep _ (ef (h.ext p hp).2) (h.extM hp)];exact(h.ext p hp).2⟩⟩
 .intro b hb hm
  have hs:=h.size;have hnM:b∉M.map (·.b):=fun hb'=>by
   obtain⟨m,hmM,rfl⟩:=bV.1 hb';obtain⟨_,_,h3,h4⟩:=h.hown m (dZ _ hmM)
   cases hlo:m.lo with
   |true=>have:=h3 hlo;omega
   |false=>exact hm (h4 hlo)
  rw[k.keep b (by show b<w.heap.size;omega) hnM];exact h.keep b hb hm
 .intro b hb;have:=h.size;rw[k.gold b (by show b<w.heap.size;omega)];exact h.gold b hb
 .intro o ho
  have hs:=h.size;rcases cM.1 ho with ho|ho
  .obtain⟨o',ho',rfl⟩:=bV.1 ho
   obtain⟨k1,k2,k3,k4⟩:=k.hown _ ho';refine⟨k1,k2,fun hl=>?_,fun hl=>?_⟩
   .show C.w0.heap.size<=o'.b
    by_cases hb:o'.b∈M.map (·.b)
    .obtain⟨m,hm,hmb⟩:=bV.1 hb
     have hl':iC M o'.b=true:=hl;have:=dJ.1 hl' m hm;simp only[hmb,gK,gU,Nat.beq_refl] at this;obtain⟨_,_,h3,_⟩:=h.hown m (dZ _ hm);rw[<-hmb];exact h3 (by rcases this with h|h;(cases h);(exact h))
    .have:=bnd o' ho' hb;omega
   .show o'.b∈C.mb
    have hl':iC M o'.b=false:=hl;obtain⟨m,hm,hmb⟩:=List.all_eq_false.1 hl';simp only[gK,gU,not_or] at hmb;obtain⟨h1,h2⟩:=hmb;have e:m.b=o'.b:=by
     cases hq:Nat.beq m.b o'.b with
     |true=>exact aU hq
     |false=>exact absurd hq h1
    obtain⟨_,_,_,h4⟩:=h.hown m (dZ _ hm);rw[<-e];exact h4 (by cases hq:m.lo with
     |true=>exact absurd hq h2
     |false=>rfl)
  .obtain⟨h1,h2,h3⟩:=h.hown o (fR _ ho)
   have hnM:o.b∉M.map (·.b):=fun hb=>inM _ hb o ho J;exact⟨by rw[k.keep _ (ef h1) hnM];exact h1,by rw[k.gold _ (ef h1)];exact h2,h3⟩
 .refine iR.2 ⟨?_,(iR.1 hnd).2.1,?_⟩
  .rw[oN];exact k.nd
  .intro x hx y hy
   obtain⟨o',ho',rfl⟩:=bV.1 hx;show o'.b≠y.b;by_cases hb:o'.b∈M.map (·.b)
   .exact fun e=>inM _ hb y hy e.symm
   .have h1:=bnd o' ho' hb
    have h2:=ef (h.hown y (fR _ hy)).1;omega
def nn(C:az)(K:Value->List av->Gh->Prop):Ending->World->Prop:=fun e w'=> ∃v own' G',e= .returned v/\bj C own' G' w'/\K v own' G'
def iD.introR{P:Program}{G:Gh}{f:FuncId}{fn:Func}{c:Code}{vs:List Value}{m:Nat}{M:List av}{K:Value->List av->Gh->Prop}(hf:P.funcs[f]? =some fn)(hb:fn.body=some c)(hn:(fn.name== "runtime.NumGoroutine")=false)(hm:fn.ntmps=m)(hlen:Nat.ble vs.length m=true)
  (h: ∀C:az,C.G0=G->C.mb=M.map (·.b)->C.rd=none->(C.fx=fun _=>none)->St C m (kE 0 vs) (asB M) G (c.wp P (dx C P fn (nn C K)))):iD P f vs M G K:=by
 refine⟨⟨fn,hf,hn,by simp[hb]⟩,fun w hw=>?_⟩;have hlen':vs.length<=m:=by simpa using hlen
 have:=calls_of_wp (P:=P) (f:=f) (args:=⟨vs⟩) (w:=w) (R:=nn ⟨w,G,M.map (·.b),[],[],none,fun _=>none⟩ K) hf hb (wp_mono (h ⟨w,G,M.map (·.b),[],[],none,fun _=>none⟩ J J J J _ w
  ⟨hw,by simp;omega,fun k v hk=>by
   obtain⟨j,rfl,hj⟩:=pG vs 0 k v hk;have hj':=(aT.1 hj).1;rw[fN (by simpa using hj')];simpa using hj,J⟩) fun _ _ _ k=>k J)
 exact this
section
variable {P:Program} {C:az} {n:Nat} {fr:Fr} {own own':List av} {G:Gh} {Φ:Act->World->Prop}
variable {dst:Option Nat} {t t' ty':TypeId} {pos:String} {af:Array Edge} {gd:Option (Nat×Bool)} {x y:Operand}
def LC{fn:Func}{K:Value->List av->Gh->Prop}{vs:List Value}(hr:gc P fr own fn.results.toList vs)(own2 own3:List av)(hp:own.Perm own2)(hs:own3.Sublist own2)(hk:K (i4 vs) own3 G):St C n fr own G (dx C P fn (nn C K) .ret):=
 fun a w rl hmk=>⟨rl.df.trans hmk,_,nv hr rl.fr rl.h,_,own3,G,J,(rl.h.perm hp).drop hs,hk⟩
def Q2{f:FuncId}{fo:Operand}{args:Array Operand}{tys:Array TypeId}{vs c1 c2:List Value}{M rest:List av}{K:Value->List av->Gh->Prop}(ho:aC fr fo=some (.func (.func f) ⟨c1⟩ ⟨c2⟩))(hv:fg fr args.toList=some vs)
  (hp:own.Perm (M++rest))(hF:iD P f (c1++vs++c2) M G K)(hd:cC n dst=true)(h: ∀v own1 (G':Gh),[GE G G']->K v own1 G'->St C n (put fr dst v) (own1.map (relo (iC M))++rest) G' Φ):
  Ch P C n fr own G ⟨dst, .call ⟨.value fo,args,tys⟩,ty',pos,af,gd⟩ Φ:=by
 intro a w Q rl;have h2:=AK (P:=P) (dst:=dst) (ty':=ty') (pos:=pos) (af:=af) (gd:=gd) (tys:=tys) (w:=w) hF.able rl.fr ho hv;simp only[Oper.wp,h2,Oper.upon];have hh0:=rl.h.perm hp;refine(hF.run w hh0.lend).mono ?_;rintro e w' ⟨v,own1,G',rfl,hh,hK⟩;exact @h v own1 G' ⟨hh.gle⟩ hK _ _ ((rl.heap (hh0.calledO hh)).put _ hd)
def xv{f:FuncId}{fo:Operand}{args:Array Operand}{tys:Array TypeId}{vs:List Value}{M rest:List av}{K:Value->List av->Gh->Prop}(ho:aC fr fo=some (.func (.func f) #[] #[]))(hv:fg fr args.toList=some vs)
  (hp:own.Perm (M++rest))(hF:iD P f vs M G K)(hd:cC n dst=true)(h: ∀v own1 (G':Gh),[GE G G']->K v own1 G'->St C n (put fr dst v) (own1.map (relo (iC M))++rest) G' Φ):
  Ch P C n fr own G ⟨dst, .call ⟨.value fo,args,tys⟩,ty',pos,af,gd⟩ Φ:=
 Q2 (c1:=[]) (c2:=[]) ho hv hp (by simpa using hF) hd h
end
structure SV where
 a:Option Addr
 n:Nat
 c:Nat
def SV.v(x:SV):Value:= .slice x.a x.n x.c
structure ee (G:Gh) (s:Nat) (x:SV) (es:List Value):Prop where
 len:x.n=es.length
 cap:x.n<=x.c
 mem:es=[]\/ ∃b off cs,x.a=some ⟨b,off,none⟩/\G b=some cs/\ ∀i (h:i<es.length),cc cs (off+i*s) s=some (aF es[i])
def ee.up'{A G:Gh}{s:Nat}{x:SV}{es:List Value}(h:ee A s x es)(k:ba A G):ee G s x es:=
 ⟨h.len,h.cap,h.mem.imp id (fun⟨b,off,cs,h1,h2,h3⟩=>⟨b,off,cs,h1,k _ _ h2,h3⟩)⟩
def ee.nil(G:Gh)(s:Nat):ee G s ⟨none,0,0⟩ []:=⟨J,aM _, .inl J⟩
def aGl(a:Option Addr)(k:Nat):Option Addr:=a.map (·.add k)
section
variable {P:Program} {C:az} {n:Nat} {fr:Fr} {own own':List av} {G:Gh} {Φ:Act->World->Prop}
variable {dst:Option Nat} {t t' ty':TypeId} {pos:String} {af:Array Edge} {gd:Option (Nat×Bool)} {x y:Operand} {e s by_:Nat}
end
def dI(d:Nat):Value:= .int .u32 (d:Int)
structure lh (G:Gh) (x:SV) (ds:List Nat):Prop where
 ok:aO ds
 sl:ee G 1 x (ds.map dI)
def lh.len{G:Gh}{x:SV}{ds:List Nat}(h:lh G x ds):x.n=ds.length:=by simpa using h.sl.len
def lh.nil(G:Gh):lh G ⟨none,0,0⟩ []:=⟨.nil, .nil G 1⟩
def lh.of_block{G:Gh}{b c k:Nat}{cs:List Value}{ds:List Nat}(ok:aO ds)(hg:G b=some cs)(hk:k=ds.length)(hc:k<=c)(hcs:cs.take ds.length=ds.map dI):lh G ⟨some ⟨b,0,none⟩,k,c⟩ ds:=by
 refine⟨ok,by simpa using hk,hc, .inr ⟨b,0,cs,J,hg,fun i hi=>?_⟩⟩;have hi':i<ds.length:=by simpa using hi
 have hl:ds.length<=cs.length:=by
  have:=congrArg List.length hcs;simp at this;omega
 rw[ja _ _ _ (by omega)];congr 1;have h1:(cs.take ds.length)[i]? =(ds.map dI)[i]? :=by rw[hcs]
 rw[oY,if_pos hi',fK,aQ hi',aQ (by omega)] at h1;have h2:cs[i]=dI ds[i]:=by simpa using h1
 rw[dW,kR,bM (by omega),lM,List.take_zero,h2,List.getElem_map];rfl
structure IQ (k:Nat) (G:Gh) (x:SV) (v:Nat):Prop where
 d:lh G x (dg v)
 lt:v<2^k
section
variable {P:Program} {C:az} {n:Nat} {fr:Fr} {own own':List av} {G:Gh} {Φ:Act->World->Prop}
variable {dst:Option Nat} {t t' ty':TypeId} {pos:String} {af:Array Edge} {gd:Option (Nat×Bool)} {x y:Operand} {e s by_:Nat}
def TC{A:Gh}{z:SV}{ds:List Nat}(h:lh A z ds)[hl:GL A G]:l6 P C own G 1 z.n (.slice z.a z.n z.c) (ds.map dI):=by
 intro w hw;by_cases hne:ds=[]
 .rw[h.len]
  subst hne;exact tg w hw
 rcases h.sl.mem with h0|⟨b,off,cs,ha,hg,hc⟩
 .exact absurd (by simpa using h0) hne
 .rw[ha]
  have hn:=h.len;refine DU (hl.le _ _ hg) ?_ w hw;rw[kR];have hel: ∀i,i<ds.length->cs[off+i]? =some (dI (ds.getD i 0)):=fun i hi=>by
   have h1:=hc i (by simpa using hi);obtain⟨_,h2⟩:=ma _ _ _ _ h1;have h3:=h2 0 (by omega);rw[kR,eK] at h3;rw[h3,List.getElem_map,aJ,aQ hi];rfl
  by_cases h00:ds.length=0
  .exact absurd h00 (fun e=>hne (cV e))
  .have hlast:=hel (ds.length-1) (by omega)
   have hle:off+ds.length<=cs.length:=by
    have:=(aT.1 hlast).1;omega
   rw[hn,ja _ _ _ hle];congr 1;apply jN;intro i;rw[oY];split
   .rename_i hi
    rw[gS,hel i hi,fK,aJ,aQ hi];rfl
   .rename_i hi
    rw[dY (by simpa using hi)]
def Ol{k k':IntKind}{p q:Int}(hx:aC fr x=some (.int k p))(hy:aC fr y=some (.int k' q))(h0:0<=q):Yd P C fr own G ⟨dst, .binOp .shr t x y t',ty',pos,af,gd⟩ (.int k (p.fdiv (2^min q.toNat k.bits))):=by
 intro a w hf hh;simp only[execOp,bh hf hx,bh hf hy];have h1:(eqGuard .shr t x y (.int k p) (.int k' q)).run P w= .ok () w:=J;have h2:(binOp .shr t (.int k p) (.int k' q)).run P w= .ok (.int k (p.fdiv (2^min q.toNat k.bits))) w:=by
  simp[binOp,Op.shift,Int.not_lt.2 h0,run_pure]
 exact cp (by rw[aG h1];exact h2)
def Rm{k k':IntKind}{p q:Int}(hx:aC fr x=some (.int k p))(hy:aC fr y=some (.int k' q))(h0:0<=q):Yd P C fr own G ⟨dst, .binOp .shl t x y t',ty',pos,af,gd⟩ (.int k (k.wrap (p*2^min q.toNat k.bits))):=by
 intro a w hf hh;simp only[execOp,bh hf hx,bh hf hy];have h1:(eqGuard .shl t x y (.int k p) (.int k' q)).run P w= .ok () w:=J;have h2:(binOp .shl t (.int k p) (.int k' q)).run P w= .ok (.int k (k.wrap (p*2^min q.toNat k.bits))) w:=by
  simp[binOp,Op.shift,Int.not_lt.2 h0,run_pure]
 exact cp (by rw[aG h1];exact h2)
def n4(p:Int):IntKind.u32.wrap p=p%4294967296:=by simp[IntKind.wrap,IntKind.bits,IntKind.signed]
def mr(p:Int):IntKind.u64.wrap p=p%18446744073709551616:=by simp[IntKind.wrap,IntKind.bits,IntKind.signed]
def Uj{k:IntKind}{p:Int}[hs:lG P t k][hd:lG P t' .u32](hx:aC fr x=some (.int k p)):Yd P C fr own G ⟨dst, .convert t t' x,ty',pos,af,gd⟩ (.int .u32 (p%4294967296)):=by
 have:=xJ (P:=P) (C:=C) (own:=own) (G:=G) (dst:=dst) (ty':=ty') (pos:=pos) (af:=af) (gd:=gd) (t:=t) (t':=t') hx;rwa [n4] at this
def Wp{k:IntKind}{p q:Int}(hx:aC fr x=some (.int k p))(hy:aC fr y=some (.int k q))(h0:0<=p)(h:q≠0):Yd P C fr own G ⟨dst, .binOp .rem t x y t',ty',pos,af,gd⟩ (.int k (p%q)):=by
 have:=B3 (P:=P) (C:=C) (own:=own) (G:=G) (dst:=dst) (ty':=ty') (pos:=pos) (af:=af) (gd:=gd) (t:=t) (t':=t') hx hy h;rwa [nX h0] at this
def Ri{p q:Int}(hx:aC fr x=some (.int .u64 p))(hy:aC fr y=some (.int .u64 q))(h0:0<=p)(h1:p<=18446744073709551615)(h:0<q):Yd P C fr own G ⟨dst, .binOp .quo t x y t',ty',pos,af,gd⟩ (.int .u64 (p/q)):=by
 have:=KK (P:=P) (C:=C) (own:=own) (G:=G) (dst:=dst) (ty':=ty') (pos:=pos) (af:=af) (gd:=gd) (t:=t) (t':=t') hx hy (by omega);rw[Int.tdiv_eq_ediv_of_nonneg h0,mr,Int.emod_eq_of_lt (Int.ediv_nonneg h0 (by omega)) (by have:=Int.ediv_le_self q h0;omega)] at this;exact this
end
section
variable {P:Program} {C:az} {n:Nat} {fr:Fr} {own own' own1:List av} {G:Gh} {Φ:Act->World->Prop}
variable {dst:Option Nat} {t t' ty':TypeId} {pos:String} {af:Array Edge} {gd:Option (Nat×Bool)} {x y:Operand} {e s by_:Nat}
end
instance my.cons2 (l m:List av) (o:av) [h:my l m]:my (o::l) (o::m):=⟨h.s.cons_cons o⟩
def bc(vs:List Value):List Value:=(vs.map aF).flatten
def fj{s:Nat}: ∀(vs:List Value),(∀v∈vs,(aF v).length=s)->(bc vs).length=vs.length*s
 |[],_=>by simp[bc]
 |v::vs,h=>by
  have h1:=fj vs (fun u hu=>h u (aK _ hu));have h2:=h v aX;unfold bc at*;simp only[bL,kQ,aN,bR,h1,h2,gR];omega
def ot(us vs:List Value):bc (us++vs)=bc us++bc vs:=by simp[bc]
def Gs(v:Value):bc [v]=aF v:=by simp[bc]
def BF{s:Nat}: ∀(vs:List Value) (i:Nat),(∀v∈vs,(aF v).length=s)->i<=vs.length->(bc vs).take (i*s)=bc (vs.take i)
 |vs,0,_,_=>by simp[bc]
 |[],i+1,_,h=>by simp at h
 |v::vs,i+1,h,hi=>by
  have h1:=BF vs i (fun u hu=>h u (aK _ hu)) (by simpa using hi);have h2:=h v aX;unfold bc at*;simp only[bL,kQ,lM];rw[List.take_append,h2,cW (by rw[h2,gR];omega),gR,iY,h1]
def z6{s:Nat}: ∀(vs:List Value) (i:Nat),(∀v∈vs,(aF v).length=s)->i<=vs.length->(bc vs).drop (i*s)=bc (vs.drop i)
 |vs,0,_,_=>by simp
 |[],i+1,_,h=>by simp at h
 |v::vs,i+1,h,hi=>by
  have h1:=z6 vs i (fun u hu=>h u (aK _ hu)) (by simpa using hi);have h2:=h v aX;unfold bc at*;simp only[bL,kQ,qS];rw[List.drop_append,h2,oM (by rw[h2,gR];omega),gR,iY,h1,jV]
def BU{s:Nat}{vs rest:List Value}(h: ∀v∈vs,(aF v).length=s){i:Nat}(hi:i<vs.length):cc (bc vs++rest) (i*s) s=some (aF vs[i]):=by
 have hl:=fj vs h;have hle:i*s+s<=vs.length*s:=by rw[<-gR];exact bK _ hi
 rw[ja _ _ _ (by simp only[aN];omega)];congr 1;rw[iK (by omega),z6 vs i h (by omega),bM hi];have h2:=h vs[i] (iL hi);rw[show(vs[i]::vs.drop (i+1))=[vs[i]]++vs.drop (i+1) from J,ot,Gs,dL,fQ (by omega),cW (by omega)]
def ee.of_flat{G:Gh}{b c s:Nat}{vs rest:List Value}(h: ∀v∈vs,(aF v).length=s)(hg:G b=some (bc vs++rest))(hc:vs.length<=c):ee G s ⟨some ⟨b,0,none⟩,vs.length,c⟩ vs:=
 ⟨J,hc, .inr ⟨b,0,_,J,hg,fun i hi=>by rw[dW];exact BU h hi⟩⟩
section
variable {P:Program} {C:az} {n:Nat} {fr:Fr} {own own':List av} {G:Gh} {Φ:Act->World->Prop}
variable {dst:Option Nat} {ty':TypeId} {pos:String} {af:Array Edge} {gd:Option (Nat×Bool)} {x y:Operand} {tys:Array TypeId}
end
section
variable {P:Program} {ops:Array Oper} {Q:Exit->Act->World->Prop} {S:World->Prop} {fin:Nat->Bool} {π₂:List (Nat×Bool)}
def bt(l:List Nat)(k:Nat):List Nat:=l.filter fun j=>!Nat.beq j k
def CO{l:List Nat}{k:Nat}(h:k∈l):(bt l k).length<l.length:=by
 unfold bt;rw[List.length_filter_lt_length_iff_exists];exact⟨k,h,by simp⟩
def u6(ops:Array Oper)(fin:Nat->Bool)(π₂:List (Nat×Bool)):Nat->List Nat->List (Nat×Bool)->Array Bool->Bool
 |0,_,_,_=>false
 |_+1,[],[],listed=>nD ops fin π₂ listed
 |n+1,k::ks,[],listed=>!(Region.ready .any ops listed).isEmpty&&(Region.ready .any ops listed).all (fun j=>(k::ks).contains j)&&(k::ks).all fun j=>u6 ops fin π₂ n (bt (k::ks) j) [] (listed.setIfInBounds j true)
 |n+1,ks,(i,true)::r,listed=>sE ops fin listed i&&u6 ops fin π₂ n ks r (listed.setIfInBounds i true)
 |n+1,ks,(i,false)::r,listed=>!(Region.ready .any ops listed).isEmpty&&(Region.ready .any ops listed).all (fun j=>Nat.beq j i||ks.contains j)&&u6 ops fin π₂ n ks r (listed.setIfInBounds i true)&&ks.all fun j=>u6 ops fin π₂ n (bt ks j) ((i,false)::r) (listed.setIfInBounds j true)
def tU(P:Program)(ops:Array Oper)(Q:Exit->Act->World->Prop)(S:World->Prop)(fin:Nat->Bool)(π₂:List (Nat×Bool)):List Nat->List (Nat×Bool)->Act->World->Prop
 |[],[],a,w=>mE P ops Q S fin π₂ a w
 |k::ks,[],a,w=> ∀j,(h:j∈k::ks)->wpOp P ops Q j (fun a' w'=>(fin j=true\/S w')/\tU P ops Q S fin π₂ (bt (k::ks) j) [] a' w') a w
 |ks,(i,true)::r,a,w=> ∃o v,ops[i]? =some o/\S w/\YieldsIf P ops S o v a/\tU P ops Q S fin π₂ ks r (a.put o.dst v) w
 |ks,(i,false)::r,a,w=>wpOp P ops Q i (fun a' w'=>(fin i=true\/S w')/\tU P ops Q S fin π₂ ks r a' w') a w/\
   ∀j,(h:j∈ks)->wpOp P ops Q j (fun a' w'=>(fin j=true\/S w')/\tU P ops Q S fin π₂ (bt ks j) ((i,false)::r) a' w') a w
termination_by ks π=>ks.length+π.length
decreasing_by
 all_goals (first|(have:=CO h;simp only[bR,kJ] at*;omega)|(simp only[bR];omega))
end
structure FD where
 k:Nat
 d:Nat
 t:TypeId
 z:Value
abbrev Fs:=Nat->Option Nat
def Bc:List FD->Fs->Fr
 |[],_=>[]
 |f::r,fs=>fF f.d (fs f.k)++Bc r fs
def Ab:List FD->Fs->List av
 |[],_=>[]
 |f::r,fs=>fO f.t f.z (fs f.k)++Ab r fs
def CC(fd:List FD)(fs:Fs):List Nat:=(fd.filter fun f=>(fs f.k).isNone).map (·.k)
def aGB(fs:Fs)(k b:Nat):Fs:=fun j=>if j=k then some b else fs j
structure aFS (P:Program) (ops:Array Oper) (n:Nat) (fd:List FD):Prop where
 op: ∀f∈fd,∃ty' pos af,ops[f.k]? =some ⟨some f.d, .alloc f.t,ty',pos,af,none⟩/\cC n (some f.d)=true
 z: ∀f∈fd,gg P f.t f.z
 nd:(fd.map (·.k)).Nodup
 dd: ∀f∈fd,∀g∈fd,f.d=g.d->f.k=g.k
section
variable {P:Program} {C:az} {n:Nat} {fr:Fr} {own own0:List av} {G G0:Gh} {ops:Array Oper} {Q:Exit->Act->World->Prop} {fin:Nat->Bool} {π π₂:List (Nat×Bool)} {fd:List FD}
def Z3(P:Program)(ops:Array Oper)(Q:Exit->Act->World->Prop)(S:World->Prop)(fin:Nat->Bool)(π₂:List (Nat×Bool))(fd:List FD)(fs:Fs)(π:List (Nat×Bool)):Act->World->Prop:=tU P ops Q S fin π₂ (CC fd fs) π
end
def ir(s:Nat)(ty:TypeId)(x:SV)(vs:List Value)(B:List av):Prop:=
 (vs=[]/\x=⟨none,0,0⟩/\B=[])\/
 ∃b rest lo,x=⟨some ⟨b,0,none⟩,vs.length,x.c⟩/\B=[⟨b,bc vs++rest,ty,lo⟩]/\(bc vs).length=vs.length*s/\(bc vs).length+rest.length=x.c*s/\vs.length<=x.c
def ir.relo{s:Nat}{ty:TypeId}{x:SV}{vs:List Value}{B:List av}(h:ir s ty x vs B)(fl:Nat->Bool):ir s ty x vs (B.map (Go.Sx.relo fl)):=by
 rcases h with⟨h1,h2,h3⟩|⟨b,rest,lo,h1,h2,h3,h4,h5⟩
 .exact .inl ⟨h1,h2,by rw[h3];rfl⟩
 .exact .inr ⟨b,rest,fl b,h1,by rw[h2];rfl,h3,h4,h5⟩
def ir.asB{s:Nat}{ty:TypeId}{x:SV}{vs:List Value}{B:List av}(h:ir s ty x vs B):ir s ty x vs (asB B):=by
 rcases h with⟨h1,h2,h3⟩|⟨b,rest,lo,h1,h2,h3,h4,h5⟩
 .exact .inl ⟨h1,h2,by rw[h3];rfl⟩
 .exact .inr ⟨b,rest,false,h1,by rw[h2];rfl,h3,h4,h5⟩
def ir.len{s:Nat}{ty:TypeId}{x:SV}{vs:List Value}{B:List av}(h:ir s ty x vs B):x.n=vs.length:=by
 rcases h with⟨h1,h2,h3⟩|⟨b,rest,lo,h1,h2,h3,h4,h5⟩
 .rw[h2,h1];rfl
 .rw[h1]
def Ir{M:List av}(b:Nat)(h: ∀m∈M,m.lo=true):iC M b=true:=by
 refine dJ.2 fun m hm=>?_;simp[h m hm]
section
variable {P:Program} {C:az} {n:Nat} {fr:Fr} {own own':List av} {G:Gh} {Φ:Act->World->Prop}
variable {dst:Option Nat} {t t' ty':TypeId} {pos:String} {af:Array Edge} {gd:Option (Nat×Bool)} {x y:Operand} {e s by_:Nat}
end
instance my.nil (l:List av):my [] l:=⟨kL l⟩
inductive DV where
 |v (x:Value)
 |ag (l:List DV)
 |tp (l:List DV)
 |pt (l:List DV)
 |op (b:Bool) (l:List DV)
 |sl (l:List DV)
mutual
def Is(G:Gh):DV->Value->Prop
 | .v x,y=>y=x
 | .ag l,y=> ∃m,y= .agg ⟨m⟩/\IsLs G l m
 | .tp l,y=> ∃m,y= .tuple ⟨m⟩/\IsLs G l m
 | .pt l,y=> ∃b m,y= .pointer (some ⟨b,0,none⟩)/\G b=some m/\IsLs G l m
 | .op b l,y=>(b=false/\y= .pointer none)\/(b=true/\ ∃b m,y= .pointer (some ⟨b,0,none⟩)/\G b=some m/\IsLs G l m)
 | .sl l,y=> ∃(s:Nat) (x:SV) (es:List Value),y= .slice x.a x.n x.c/\ee G s x es/\IsLs G l es
def IsLs(G:Gh):List DV->List Value->Prop
 |[],m=>m=[]
 |d::t,m=> ∃y n,m=y::n/\Is G d y/\IsLs G t n
end
mutual
def Is.up'{A G:Gh}(h:ba A G): ∀(d:DV) (y:Value),Is A d y->Is G d y
 | .v x,y,k=>by simp only[Is] at k⊢;exact k
 | .ag l,y,k=>by simp only[Is] at k⊢;obtain⟨m,e,k⟩:=k;exact⟨m,e,IsLs.up' h l m k⟩
 | .tp l,y,k=>by simp only[Is] at k⊢;obtain⟨m,e,k⟩:=k;exact⟨m,e,IsLs.up' h l m k⟩
 | .pt l,y,k=>by simp only[Is] at k⊢;obtain⟨b,m,e,hb,k⟩:=k;exact⟨b,m,e,h _ _ hb,IsLs.up' h l m k⟩
 | .op _ l,y,k=>by simp only[Is] at k⊢;exact k.imp id fun⟨e1,b,m,e,hb,k⟩=>⟨e1,b,m,e,h _ _ hb,IsLs.up' h l m k⟩
 | .sl l,y,k=>by simp only[Is] at k⊢;obtain⟨s,x,es,e,hs,k⟩:=k;exact⟨s,x,es,e,hs.up' h,IsLs.up' h l es k⟩
def IsLs.up'{A G:Gh}(h:ba A G): ∀(d:List DV) (y:List Value),IsLs A d y->IsLs G d y
 |[],y,k=>by simp only[IsLs] at k⊢;exact k
 |d::t,y,k=>by simp only[IsLs] at k⊢;obtain⟨u,n,e,h1,h2⟩:=k;exact⟨u,n,e,Is.up' h d u h1,IsLs.up' h t n h2⟩
end
section
variable {G:Gh}
def Is.up{A:Gh}{d:DV}{y:Value}(k:Is A d y)(h:ba A G):Is G d y:=Is.up' h d y k
def IsLs.up{A:Gh}{d:List DV}{y:List Value}(k:IsLs A d y)(h:ba A G):IsLs G d y:=IsLs.up' h d y k
def aH{x y:Value}:Is G (.v x) y↔y=x:=by simp only[Is]
def dt{l:List DV}{y:Value}:Is G (.ag l) y↔ ∃m,y= .agg ⟨m⟩/\IsLs G l m:=by simp only[Is]
def ph{l:List DV}{y:Value}:Is G (.tp l) y↔ ∃m,y= .tuple ⟨m⟩/\IsLs G l m:=by simp only[Is]
def mD{l:List DV}{y:Value}:Is G (.pt l) y↔ ∃b m,y= .pointer (some ⟨b,0,none⟩)/\G b=some m/\IsLs G l m:=by simp only[Is]
def pi{b:Bool}{l:List DV}{y:Value}:Is G (.op b l) y↔(b=false/\y= .pointer none)\/(b=true/\Is G (.pt l) y):=by simp only[Is]
def fe{l:List DV}{y:Value}:Is G (.sl l) y↔ ∃(s:Nat) (x:SV) (es:List Value),y= .slice x.a x.n x.c/\ee G s x es/\IsLs G l es:=by simp only[Is]
def b4{m:List Value}:IsLs G [] m↔m=[]:=by simp only[IsLs]
def bi{d:DV}{t:List DV}{m:List Value}:IsLs G (d::t) m↔ ∃y n,m=y::n/\Is G d y/\IsLs G t n:=by simp only[IsLs]
def IsLs.nil:IsLs G [] []:=b4.2 J
def IsLs.cons{d:DV}{t:List DV}{y:Value}{n:List Value}(h:Is G d y)(k:IsLs G t n):IsLs G (d::t) (y::n):=bi.2 ⟨y,n,J,h,k⟩
def IsLs.uncons{d:DV}{t:List DV}{y:Value}{n:List Value}(h:IsLs G (d::t) (y::n)):Is G d y/\IsLs G t n:=by
 obtain⟨u,m,e,h1,h2⟩:=bi.1 h
 cases e
 exact⟨h1,h2⟩
def IsLs.len: ∀{d:List DV} {m:List Value},IsLs G d m->m.length=d.length
 |[],m,h=>by rw[b4.1 h];rfl
 |d::t,m,h=>by
  obtain⟨y,n,rfl,_,h2⟩:=bi.1 h;simp[h2.len]
def IsLs.get: ∀{l:List DV} {m:List Value} {i:Nat} {d:DV},IsLs G l m->l[i]? =some d-> ∃y,m[i]? =some y/\Is G d y
 |[],m,i,d,h,e=>by simp at e
 |x::t,m,0,d,h,e=>by
  obtain⟨y,n,rfl,h1,h2⟩:=bi.1 h;simp at e;subst e;exact⟨y,J,h1⟩
 |x::t,m,i+1,d,h,e=>by
  obtain⟨y,n,rfl,h1,h2⟩:=bi.1 h;simp at e;simpa using h2.get e
def IsLs.app: ∀{a b:List DV} {m n:List Value},IsLs G a m->IsLs G b n->IsLs G (a++b) (m++n)
 |[],b,m,n,h,k=>by rw[b4.1 h];exact k
 |d::t,b,m,n,h,k=>by
  obtain⟨y,m',rfl,h1,h2⟩:=bi.1 h;exact .cons h1 (h2.app k)
def IsLs.drop: ∀{a:List DV} {m:List Value} (k:Nat),IsLs G a m->IsLs G (a.drop k) (m.drop k)
 |_,_,0,h=>h
 |[],m,k+1,h=>by rw[b4.1 h];exact .nil
 |d::t,m,k+1,h=>by
  obtain⟨y,m',rfl,h1,h2⟩:=bi.1 h;exact h2.drop k
def IsLs.take: ∀{a:List DV} {m:List Value} (k:Nat),IsLs G a m->IsLs G (a.take k) (m.take k)
 |_,_,0,h=> .nil
 |[],m,k+1,h=>by rw[b4.1 h];exact .nil
 |d::t,m,k+1,h=>by
  obtain⟨y,m',rfl,h1,h2⟩:=bi.1 h;exact .cons h1 (h2.take k)
def IsLs.set: ∀{a:List DV} {m:List Value} (k:Nat) {d:DV} {y:Value},IsLs G a m->Is G d y->IsLs G (a.set k d) (m.set k y)
 |[],m,k,d,y,h,_=>by rw[b4.1 h];exact .nil
 |x::t,m,0,d,y,h,k=>by
  obtain⟨u,m',rfl,h1,h2⟩:=bi.1 h;exact .cons k h2
 |x::t,m,j+1,d,y,h,k=>by
  obtain⟨u,m',rfl,h1,h2⟩:=bi.1 h;exact .cons h1 (h2.set j k)
end
def DV.flat:DV->Bool
 | .v x=>Go.Sx.flat x
 | .ag _=>false
 | .tp _=>false
 | .pt _=>true
 | .op .. =>true
 | .sl .. =>true
def DV.okc:DV->Bool
 | .ag l=>l.all DV.flat
 |d=>d.flat
def DV.cells:DV->List DV
 | .ag l=>l
 |d=>[d]
section
variable {G:Gh}
def Is.flat{d:DV}{y:Value}(h:Is G d y)(k:d.flat=true):Go.Sx.flat y=true:=by
 cases d with
 |v x=>rw[aH.1 h];exact k
 |ag l=>cases k
 |tp l=>cases k
 |pt l=>obtain⟨b,m,rfl,_⟩:=mD.1 h;rfl
 |op b l=>
  rcases pi.1 h with⟨_,rfl⟩|⟨_,h⟩
  .rfl
  .obtain⟨b,m,rfl,_⟩:=mD.1 h;rfl
 |sl l=>obtain⟨s,x,es,rfl,_⟩:=fe.1 h;rfl
def uI{y:Value}(h:Go.Sx.flat y=true):aF y=[y]:=by cases y<;>first|rfl|(simp[Go.Sx.flat] at h)
def IsLs.flat: ∀{l:List DV} {m:List Value},IsLs G l m->l.all DV.flat=true-> ∀v∈m,Go.Sx.flat v=true
 |[],m,h,_,v,hv=>by rw[b4.1 h] at hv;cases hv
 |d::t,m,h,k,v,hv=>by
  obtain⟨y,n,rfl,h1,h2⟩:=bi.1 h;simp only[List.all_cons,bQ] at k;rcases aR.1 hv with rfl|hv
  .exact h1.flat k.1
  .exact h2.flat k.2 v hv
def Is.cells{d:DV}{y:Value}(h:Is G d y)(k:d.okc=true):IsLs G d.cells (aF y)/\ ∀v∈aF y,Go.Sx.flat v=true:=by
 cases d with
 |ag l=>obtain⟨m,rfl,hm⟩:=dt.1 h;exact⟨hm,hm.flat k⟩
 |_=>
  have:=h.flat k;rw[uI this];exact⟨.cons h .nil,fun v hv=>by rw[aL.1 hv];exact this⟩
end
def takeD:List DV->Nat->Nat->Option (List DV)
 |_,0,0=>some []
 |[],0,_+1=>none
 |v::t,0,k+1=>match takeD t 0 k with|some l=>some (v::l)|none=>none
 |[],_+1,_=>none
 |_::t,off+1,k=>takeD t off k
def tP:List DV->Nat->List DV->List DV
 |cs,_,[]=>cs
 |cs,off,v::vs=>tP (cs.set off v) (off+1) vs
section
variable {G:Gh}
def IsLs.takeD: ∀{ds:List DV} {m:List Value} {off k:Nat} {l:List DV},IsLs G ds m->takeD ds off k=some l-> ∃n,cc m off k=some n/\IsLs G l n
 |[],m,0,0,l,h,e=>by rw[b4.1 h];simp only[Sx.takeD] at e;cases e;exact⟨[],J, .nil⟩
 |d::t,m,0,0,l,h,e=>by
  obtain⟨y,m',rfl,h1,h2⟩:=bi.1 h;simp only[Sx.takeD] at e;cases e;exact⟨[],J, .nil⟩
 |[],m,0,k+1,l,h,e=>by simp[Sx.takeD] at e
 |d::t,m,0,k+1,l,h,e=>by
  obtain⟨y,m',rfl,h1,h2⟩:=bi.1 h;simp only[Sx.takeD] at e;split at e
  .rename_i l' hl'
   cases e
   obtain⟨n,hn,hl⟩:=h2.takeD hl';exact⟨y::n,by simp only[cc,hn], .cons h1 hl⟩
  .cases e
 |[],m,off+1,k,l,h,e=>by simp[Sx.takeD] at e
 |d::t,m,off+1,k,l,h,e=>by
  obtain⟨y,m',rfl,h1,h2⟩:=bi.1 h;exact h2.takeD (off:=off) (k:=k) e
def IsLs.ov: ∀{vs ds:List DV} {n m:List Value} {off:Nat},IsLs G ds m->IsLs G vs n->IsLs G (tP ds off vs) (c9 m off n)
 |[],ds,n,m,off,h,k=>by rw[b4.1 k];exact h
 |v::vs,ds,n,m,off,h,k=>by
  obtain⟨y,n',rfl,h1,h2⟩:=bi.1 k;exact(h.set off h1).ov h2
end
inductive FV where
 |d (x:DV)
 /-- a pointer to cells that are written no more -/
 |ep (l:List DV)
 /-- a pointer to a cell of element i of a row of the call's own -/
 |be (x:SV) (s i j:Nat)
 /-- a slice bt room behind it -/
 |ct (l:List DV)
abbrev di:=List (Nat×FV)
def Gd(G:Gh):FV->Value->Prop
 | .d x,y=>Is G x y
 | .ep l,y=> ∃b off cs m,y= .pointer (some ⟨b,off,none⟩)/\G b=some cs/\cc cs off l.length=some m/\IsLs G l m
 | .be x s i j,y=> ∃b,x.a=some ⟨b,0,none⟩/\y= .pointer (some ⟨b,i*s+j,none⟩)
 | .ct l,y=>(∃a n,y= .slice a n n)/\Is G (.sl l) y
def rI:di->Nat->Option FV
 |[],_=>none
 |(k,v)::t,j=>bif Nat.beq k j then some v else rI t j
def Ze(fr:di)(dst:Option Nat)(v:FV):di:=match dst with|some d=>(d,v)::fr|none=>fr
def xE(G:Gh):di->Fr->Prop
 |[],m=>m=[]
 |(k,f)::t,m=> ∃y n,m=(k,y)::n/\Gd G f y/\xE G t n
def Bj(fr:di):Operand->Option FV
 | .tmp k=>rI fr k
 | .const v=>some (.d (.v v))
 | .global g=>some (.d (.v (.pointer (some ⟨g,0,none⟩))))
 | .func f=>some (.d (.v (.func (.func f) #[] #[])))
def Gr:FV->Option DV
 | .d (.v (.slice none 0 0))=>some (.sl [])
 | .d d=>some d
 | .ct l=>some (.sl l)
 |_=>none
def yh(fr:di)(x:Operand):Option DV:=(Bj fr x).bind Gr
def LZ(fr:di):List Operand->Option (List DV)
 |[]=>some []
 |x::t=>match yh fr x,LZ fr t with
  |some d,some l=>some (d::l)
  |_,_=>none
structure cj where
 b:Nat
 cs:List DV
 ty:TypeId
 lo:Bool
structure cI where
 x:SV
 s:Nat
 ty:TypeId
 ds:List DV
 lo:Bool
class qB (own:List cj) (b:Nat) (cs:outParam (List DV)) (ty:outParam TypeId) (lo:outParam Bool):Prop where
 mem:⟨b,cs,ty,lo⟩∈own
instance qB.i1 (b:Nat) (cs:List DV) (ty:TypeId) (lo:Bool) (t:List cj):qB (⟨b,cs,ty,lo⟩::t) b cs ty lo:=⟨aX⟩
instance qB.i2 (o:cj) (t:List cj) (b:Nat) (cs:List DV) (ty:TypeId) (lo:Bool) [h:qB t b cs ty lo]:qB (o::t) b cs ty lo:=⟨aK _ h.mem⟩
class tX (bs:List cI) (x:SV) (s:outParam Nat) (ty:outParam TypeId) (ds:outParam (List DV)) (lo:outParam Bool):Prop where
 mem:⟨x,s,ty,ds,lo⟩∈bs
instance tX.i1 (x:SV) (s:Nat) (ty:TypeId) (ds:List DV) (lo:Bool) (t:List cI):tX (⟨x,s,ty,ds,lo⟩::t) x s ty ds lo:=⟨aX⟩
instance tX.i2 (o:cI) (t:List cI) (x:SV) (s:Nat) (ty:TypeId) (ds:List DV) (lo:Bool) [h:tX t x s ty ds lo]:tX (o::t) x s ty ds lo:=⟨aK _ h.mem⟩
def Ii(G:Gh):List cj->List av->Prop
 |[],m=>m=[]
 |o::t,m=> ∃cs n,m=⟨o.b,cs,o.ty,o.lo⟩::n/\IsLs G o.cs cs/\Ii G t n
def cG(G:Gh)(β:cI)(B:List av):Prop:=
 ∃vs,ir β.s β.ty β.x vs B/\IsLs G β.ds vs/\(∀v∈vs,(aF v).length=β.s)/\(β.lo=true-> ∀o∈B,o.lo=true)
def Jw(G:Gh):List cI->List av->Prop
 |[],m=>m=[]
 |β::t,m=> ∃B n,m=B++n/\cG G β B/\Jw G t n
def OB(G:Gh)(own:List cj)(bs:List cI)(ov:List av):Prop:= ∃a b,ov=a++b/\Ii G own a/\Jw G bs b
structure Sr (GB G:Gh) (fr:di) (own:List cj) (bs:List cI) (frv:Fr) (ov:List av):Prop where
 gb:ba GB G
 fr:xE G fr frv
 ob:OB G own bs ov
structure kB where
 fr:Fr
 own:List av
def E0:kB:=⟨[],[]⟩
structure SD (GB:Gh) (C:az) (n:Nat) (E:kB) (fr:di) (own:List cj) (bs:List cI) (Φ:Act->World->Prop):Prop where
 run: ∀G frv ov,Sr GB G fr own bs frv ov->St C n (frv++E.fr) (ov++E.own) G Φ
instance {GB:Gh} {C:az} {n:Nat} {E:kB} {fr:di} {own:List cj} {bs:List cI} {Φ:Act->World->Prop}:CoeFun (SD GB C n E fr own bs Φ) (fun _=> ∀G frv ov,Sr GB G fr own bs frv ov->St C n (frv++E.fr) (ov++E.own) G Φ):=⟨SD.run⟩
def YD(P:Program)(GB:Gh)(C:az)(fr:di)(own:List cj)(bs:List cI)(o:Oper)(f:FV):Prop:=
 ∀G frv ov,Sr GB G fr own bs frv ov-> ∃y,Gd G f y/\ ∀G',ba G G'->Yd P C frv ov G' o y
def CD(P:Program)(GB:Gh)(C:az)(n:Nat)(E:kB)(fr:di)(own:List cj)(bs:List cI)(o:Oper)(Φ:Act->World->Prop):Prop:=
 ∀G frv ov,Sr GB G fr own bs frv ov->Ch P C n (frv++E.fr) (ov++E.own) G o Φ
def TD(P:Program)(GB:Gh)(C:az)(n:Nat)(fr:di)(own:List cj)(bs:List cI)(o:Oper)(fr':di)(own':List cj)(bs':List cI):Prop:=
 ∀(GB':Gh) (E:kB) (Φ:Act->World->Prop),ba GB GB'->SD GB' C n E fr' own' bs' Φ->CD P GB' C n E fr own bs o Φ
def TF(P:Program)(GB:Gh)(C:az)(n:Nat)(fr:di)(own:List cj)(bs:List cI)(o:Oper)(ι:Type)(fr':ι->di)(own':ι->List cj)(bs':ι->List cI):Prop:=
 ∀(GB':Gh) (E:kB) (Φ:Act->World->Prop),ba GB GB'->(∀x,SD GB' C n E (fr' x) (own' x) (bs' x) Φ)->CD P GB' C n E fr own bs o Φ
section
variable {P:Program} {GB:Gh} {C:az} {n:Nat} {E:kB} {fr fr':di} {own own':List cj} {bs bs':List cI} {ops:Array Oper} {Q:Exit->Act->World->Prop} {r:List Oper} {Φ:Act->World->Prop}
def ZJ(P:Program)(y:Code)(Q:Exit->Act->World->Prop):Exit->Act->World->Prop:=Exit.then (y.wp P Q) Q
def aFZ(fr' fr:di):Prop:= ∀e∈fr',rI fr e.1=some e.2
def Yg(GB:Gh)(C:az)(n:Nat){X:Type}(F:X->di)(O:X->List cj)(B:X->List cI)(I:X->Prop)(μ:X->Nat)(m:Nat)(a:Act)(w:World):Prop:=
 ∃x G frv ov,I x/\μ x<m/\Sr GB G (F x) (O x) (B x) frv ov/\eB C n frv ov G a w
def AtD(GB:Gh)(C:az)(n:Nat){X:Type}(F:X->di)(O:X->List cj)(B:X->List cI)(I:X->Prop)(a:Act)(w:World):Prop:=
 ∃x G frv ov,I x/\Sr GB G (F x) (O x) (B x) frv ov/\eB C n frv ov G a w
def PF(GB:Gh)(P:Program)(f:FuncId)(ds:List DV)(r:DV):Prop:=
 ∀G vs,ba GB G->IsLs G ds vs->Fn P f vs G (fun v G'=>Is G' r v)
def PM(GB:Gh)(P:Program)(f:FuncId)(ds:List DV)(b:Nat)(ty:TypeId)(cs:List DV)(r:DV)(cs':List DV):Prop:=
 ∀G vs m lo,ba GB G->IsLs G ds vs->IsLs G cs m->qp P f vs [⟨b,m,ty,lo⟩] G (fun v css G'=>Is G' r v/\ ∃m',css=[m']/\IsLs G' cs' m')
def OR:Nat->List DV->di
 |_,[]=>[]
 |i,v::t=>(i, .d v)::OR (i+1) t
inductive qg (P:Program) (fr:di) (own:List cj):List ResultVar->List DV->Prop
 |nil:qg P fr own [] []
 |tmp {t:Nat} {v:DV} {rs:List ResultVar} {vs:List DV} (h:(rI fr t).bind Gr=some v) (k:qg P fr own rs vs):qg P fr own (.tmp t::rs) (v::vs)
 |agg {a b k:Nat} {t:TypeId} {cs l:List DV} {ty:TypeId} {lo:Bool} {rs:List ResultVar} {vs:List DV} (h:rI fr a=some (.d (.v (.pointer (some ⟨b,0,none⟩))))) (ho:qB own b cs ty lo) (ht:mf P t k) (hl:takeD cs 0 k=some l) (h2:qg P fr own rs vs):
   qg P fr own (.cell a t::rs) (.ag l::vs)
 |sc {a b:Nat} {t:TypeId} {cs:List DV} {v:DV} {ty:TypeId} {lo:Bool} {rs:List ResultVar} {vs:List DV} (h:rI fr a=some (.d (.v (.pointer (some ⟨b,0,none⟩))))) (ho:qB own b cs ty lo) (ht:mi P t) (hl:cs[0]? =some v) (h2:qg P fr own rs vs):
   qg P fr own (.cell a t::rs) (v::vs)
def iH:List DV->DV
 |[d]=>d
 |l=> .tp l
def rL{G:Gh}{ds:List DV}{vs:List Value}(h:IsLs G ds vs):Is G (iH ds) (i4 vs):=by
 match ds,h with
 |[],h=>rw[b4.1 h];exact ph.2 ⟨[],J, .nil⟩
 |[d],h=>
  obtain⟨y,m,rfl,h1,h2⟩:=bi.1 h;rw[b4.1 h2];exact h1
 |a::b::t,h=>
  obtain⟨y,m,rfl,h1,h2⟩:=bi.1 h;obtain⟨z,m',rfl,h3,h4⟩:=bi.1 h2;exact ph.2 ⟨_,J,h⟩
end
end Go.Sx
end
