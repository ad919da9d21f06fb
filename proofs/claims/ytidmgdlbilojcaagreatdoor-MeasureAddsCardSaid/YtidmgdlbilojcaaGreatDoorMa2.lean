import Derived.Test.YtidmgdlbilojcaaGreatDoorMa1
import Derived.Test.YtidmgdlbilojcaaGreatDoorProg
import Derived.Shelf.Small.Bits
import Derived.Shelf.Strconv.Itoa0
import Derived.Shelf.Bits.Mul64
set_option linter.all false
set_option maxRecDepth 100000
section
namespace Go.Sx
open Go
def J2{P:Program}{t:TypeId}{d:TypeDesc}(h:P.underlying t=some d)(w:World):(underlying t).run P w= .ok d w:=by
 simp[underlying,program,Sem.run_bind,Sem.run,h,run_pure]
class EN (P:Program) (t:TypeId):Prop where u: ∀w,(underlying t).run P w= .ok .bool w
class IU (P:Program) (t:TypeId):Prop where u: ∃e,∀w,(underlying t).run P w= .ok (.pointer e) w
class FT (P:Program) (t:TypeId):Prop where u: ∃ms,∀w,(underlying t).run P w= .ok (.interface ms) w
class Id (P:Program) (t:TypeId) (f:Nat) (off ft:outParam Nat):Prop where
 u: ∃fs fd,(∀w,(underlying t).run P w= .ok (.struct fs) w)/\fs[f]? =some fd/\fd.offset=off/\fd.type=ft
class jz (P:Program) (t:TypeId):Prop where
 un: ∃e,P.underlying t=some (.slice e)
section
variable {P:Program} {C:az} {n:Nat} {fr:Fr} {own own':List ak} {G:Gh} {Φ:Act->World->Prop}
variable {dst:Option Nat} {t t' ty':TypeId} {pos:String} {af:Array Edge} {gd:Option (Nat×Bool)} {x y:Operand}
def so{w:World}{p q:Value}{b:Bool}(h:(Op.equalIn (9999+1) t p q).run P w= .ok b w):(Op.equal t p q).run P w= .ok b w:=h
def aDU[hT:EN P t]{p q:Bool}(hx:ax fr x=some (.bool p))(hy:ax fr y=some (.bool q)):Yd P C fr own G ⟨dst, .binOp .eql t x y t',ty',pos,af,gd⟩ (.bool (p==q)):=by
 intro a w hf hh;simp only[execOp,bh hf hx,bh hf hy];have h1:(Op.equal t (.bool p) (.bool q)).run P w= .ok (p==q) w:=so (by unfold Op.equalIn;rw[aF (hT.u w)];rfl);have h2:(eqGuard .eql t x y (.bool p) (.bool q)).run P w= .ok () w:=J;have h3:(binOp .eql t (.bool p) (.bool q)).run P w= .ok (.bool (p==q)) w:=by simp only[binOp];rw[aF h1];rfl
 exact cG (by rw[aF h2];exact h3)
def aF0[hT:EN P t]{p q:Bool}(hx:ax fr x=some (.bool p))(hy:ax fr y=some (.bool q)):Yd P C fr own G ⟨dst, .binOp .neq t x y t',ty',pos,af,gd⟩ (.bool (!(p==q))):=by
 intro a w hf hh;simp only[execOp,bh hf hx,bh hf hy];have h1:(Op.equal t (.bool p) (.bool q)).run P w= .ok (p==q) w:=so (by unfold Op.equalIn;rw[aF (hT.u w)];rfl);have h2:(eqGuard .neq t x y (.bool p) (.bool q)).run P w= .ok () w:=J;have h3:(binOp .neq t (.bool p) (.bool q)).run P w= .ok (.bool (!(p==q))) w:=by simp only[binOp];rw[aF h1];rfl
 exact cG (by rw[aF h2];exact h3)
def C5[hT:IU P t]{p:Option Addr}(hx:ax fr x=some (.pointer p))(hy:ax fr y=some (.pointer none)):Yd P C fr own G ⟨dst, .binOp .eql t x y t',ty',pos,af,gd⟩ (.bool p.isNone):=by
 obtain⟨e,he⟩:=hT.u;intro a w hf hh;simp only[execOp,bh hf hx,bh hf hy];have h1:(Op.equal t (.pointer p) (.pointer none)).run P w= .ok p.isNone w:=so (by unfold Op.equalIn;rw[aF (he w)];cases p<;>rfl);have h2:(eqGuard .eql t x y (.pointer p) (.pointer none)).run P w= .ok () w:=by cases p<;>rfl
 have h3:(binOp .eql t (.pointer p) (.pointer none)).run P w= .ok (.bool p.isNone) w:=by cases p<;>(simp only[binOp];rw[aF h1];rfl)
 exact cG (by rw[aF h2];exact h3)
def CI[hT:IU P t]{p:Option Addr}(hx:ax fr x=some (.pointer p))(hy:ax fr y=some (.pointer none)):Yd P C fr own G ⟨dst, .binOp .neq t x y t',ty',pos,af,gd⟩ (.bool (!p.isNone)):=by
 obtain⟨e,he⟩:=hT.u;intro a w hf hh;simp only[execOp,bh hf hx,bh hf hy];have h1:(Op.equal t (.pointer p) (.pointer none)).run P w= .ok p.isNone w:=so (by unfold Op.equalIn;rw[aF (he w)];cases p<;>rfl);have h2:(eqGuard .neq t x y (.pointer p) (.pointer none)).run P w= .ok () w:=by cases p<;>rfl
 have h3:(binOp .neq t (.pointer p) (.pointer none)).run P w= .ok (.bool (!p.isNone)) w:=by cases p<;>(simp only[binOp];rw[aF h1];rfl)
 exact cG (by rw[aF h2];exact h3)
def LJ{v:Value}[hT:FT P t](hv:v= .nilIface\/ ∃k u,v= .iface k u)(hx:ax fr x=some v):
  Yd P C fr own G ⟨dst, .binOp .eql t x (.const .nilIface) t',ty',pos,af,gd⟩ (.bool (match v with| .nilIface=>true|_=>false)):=by
 obtain⟨e,he⟩:=hT.u;intro a w hf hh;simp only[execOp,bh hf hx,show a.eval (.const .nilIface)= .nilIface from J];rcases hv with rfl|⟨k,u,rfl⟩
 ·have h1:(Op.equal t .nilIface .nilIface).run P w= .ok true w:=so (by unfold Op.equalIn;rw[aF (he w)];rfl)
  have h2:(eqGuard .eql t x (.const .nilIface) .nilIface .nilIface).run P w= .ok () w:=by cases x<;>rfl
  exact cG (by rw[aF h2];simp only[binOp];rw[aF h1];rfl)
 ·have h1:(Op.equal t (.iface k u) .nilIface).run P w= .ok false w:=so (by unfold Op.equalIn;rw[aF (he w)];rfl)
  exact cG (by rw[aF (a:=()) (w':=w) J];simp only[binOp];rw[aF h1];rfl)
def LO{v:Value}[hT:FT P t](hv:v= .nilIface\/ ∃k u,v= .iface k u)(hx:ax fr x=some v):
  Yd P C fr own G ⟨dst, .binOp .neq t x (.const .nilIface) t',ty',pos,af,gd⟩ (.bool (match v with| .nilIface=>false|_=>true)):=by
 obtain⟨e,he⟩:=hT.u;intro a w hf hh;simp only[execOp,bh hf hx,show a.eval (.const .nilIface)= .nilIface from J];rcases hv with rfl|⟨k,u,rfl⟩
 ·have h1:(Op.equal t .nilIface .nilIface).run P w= .ok true w:=so (by unfold Op.equalIn;rw[aF (he w)];rfl)
  have h2:(eqGuard .neq t x (.const .nilIface) .nilIface .nilIface).run P w= .ok () w:=by cases x<;>rfl
  exact cG (by rw[aF h2];simp only[binOp];rw[aF h1];rfl)
 ·have h1:(Op.equal t (.iface k u) .nilIface).run P w= .ok false w:=so (by unfold Op.equalIn;rw[aF (he w)];rfl)
  exact cG (by rw[aF (a:=()) (w':=w) J];simp only[binOp];rw[aF h1];rfl)
def awu{cs l:List Value}{f off ft k:Nat}[hF:Id P t f off ft][hA:kw P ft k](hx:ax fr x=some (.agg ⟨cs⟩))(hl:cD cs off k=some l):Yd P C fr own G ⟨dst, .field t x f,ty',pos,af,gd⟩ (.agg ⟨l⟩):=by
 obtain⟨fs,fd,h1,h2,h3,h4⟩:=hF.u;intro a w hf hh;simp only[execOp,bh hf hx];have:(Instr.field t (.agg ⟨cs⟩) f).run P w= .ok (.agg ⟨l⟩) w:=by
  unfold Instr.field;rw[aF (h1 w)];simp only[h2,h3,h4,asAgg];rw[aF (run_pure _ _ _)];unfold part;rw[aF (hA.agg w)];simp only[if_true];rw[aF (hA.siz w)];obtain⟨k1,k2⟩:=pC _ _ _ _ hl;have:(⟨cs⟩:Array Value).extract off (off+k)=⟨l⟩:=by
   apply Array.ext';rw[Array.toList_extract];apply lZ;intro i;rw[List.extract_eq_take_drop,oT];split
   ·rw[mL];exact k2 i (by omega)
   ·exact(dX (show l.length<=i by omega)).symm
  rw[this];rfl
 exact cG this
def WN{cs:List Value}{f off ft:Nat}{v:Value}[hF:Id P t f off ft][hA:ip P ft](hx:ax fr x=some (.agg ⟨cs⟩))(hl:cs[off]? =some v):Yd P C fr own G ⟨dst, .field t x f,ty',pos,af,gd⟩ v:=by
 obtain⟨fs,fd,h1,h2,h3,h4⟩:=hF.u;intro a w hf hh;simp only[execOp,bh hf hx];have:(Instr.field t (.agg ⟨cs⟩) f).run P w= .ok v w:=by
  unfold Instr.field;rw[aF (h1 w)];simp only[h2,h3,h4,asAgg];rw[aF (run_pure _ _ _)];unfold part;rw[aF (hA.agg w)];have:(⟨cs⟩:Array Value)[off]? =some v:=by simpa using hl
  simp only[iL,if_false,this];rfl
 exact cG this
class Bs (P:Program) (t:TypeId) (offs:outParam (List (Nat×Nat))):Prop where
 u: ∃fs:Array Field,(∀w,(underlying t).run P w= .ok (.struct fs) w)/\(∀w,(fs.mapM (m:=Sem) fun f=>do pure (f.offset,<-sizeOf f.type)).run P w= .ok ⟨offs⟩ w)
def vf(fr:Fr)(offs:List (Nat×Nat)):List Value->List (Nat×Operand)->Option (List Value)
 |cs,[]=>some cs
 |cs,(i,x)::r=>match offs[i]?,ax fr x with
  |some (off,k),some v=>if(aA v).length=k/\off+k<=cs.length then vf fr offs (cA cs off (aA v)) r else none
  |_,_=>none
def Ek: ∀(vs:List Value) (cs:Array Value) (off j:Nat),(vs.zipIdx j).foldl (fun cs (c,j)=>cs.setIfInBounds (off+j) c) cs=⟨cA cs.toList (off+j) vs⟩
 |[],cs,off,j=>rfl
 |v::vs,cs,off,j=>by
  simp only[List.zipIdx_cons,jU];rw[Ek vs _ off (j+1)];simp[cA,jN]
def FB{a:Act}(hf:mm fr a)(offs:List (Nat×Nat)): ∀(ps:List (Nat×Operand)) (cs out:List Value),vf fr offs cs ps=some out->
  Instr.fill ((⟨offs⟩:Array (Nat×Nat))[·]?) ⟨cs⟩ (ps.map fun(i,x)=>(i,a.eval x))=some ⟨out⟩
 |[],cs,out,h=>by simp only[vf] at h;cases h;rfl
 |(i,x)::ps,cs,out,h=>by
  simp only[vf] at h;split at h
  ·rename_i off k v ho hv
   split at h
   ·rename_i hc
    simp only[bT,Instr.fill];have:(⟨offs⟩:Array (Nat×Nat))[i]? =some (off,k):=by simpa using ho
    simp only[this,bh hf hv,qb];have h1: ¬((⟨aA v⟩:Array Value).size≠k):=by simp[hc.1]
    have h2: ¬(off+(⟨aA v⟩:Array Value).size>(⟨cs⟩:Array Value).size):=by simp only[pV,hc.1];omega
    rw[if_neg (by simp only[iW,decide_eq_true_eq,not_or];exact⟨by simpa using h1,by simpa using h2⟩)];have e:=Ek (aA v) ⟨cs⟩ off 0;have e':(⟨aA v⟩:Array Value).zipIdx.foldl (fun cs (c,j)=>cs.setIfInBounds (off+j) c) (⟨cs⟩:Array Value)=⟨cA cs off (aA v)⟩:=by
     rw[<-rZ,sL];simpa using e
    rw[e'];exact FB hf offs ps _ _ h
   ·cases h
  ·cases h
def Cu{parts:Array (Nat×Operand)}{offs:List (Nat×Nat)}{z:Value}{out:List Value}[hT:Bs P t offs][hz:gh P t z](hb:vf fr offs (aA z) parts.toList=some out):Yd P C fr own G ⟨dst, .build t parts,ty',pos,af,gd⟩ (.agg ⟨out⟩):=by
 obtain⟨fs,h1,h2⟩:=hT.u;intro a w hf hh;simp only[execOp];have:(Instr.build t (parts.map fun(i,x)=>(i,a.eval x))).run P w= .ok (.agg ⟨out⟩) w:=by
  unfold Instr.build;rw[aF (hz.zero w),qb];rw[aF (h1 w)];simp only[];rw[aF (h2 w)];have:=FB hf offs parts.toList _ _ hb;simp only[pS,this];rfl
 exact cG this
end
def de(z:Value)(k:Nat):List Value:=(List.replicate k (aA z)).flatten
def Jm{α:Type}(l:List α): ∀(k i:Nat),i<k*l.length->(List.replicate k l).flatten[i]? =l[i%l.length]?
 |0,i,h=>by omega
 |k+1,i,h=>by
  rw[mV,pW];by_cases hi:i<l.length
  ·rw[dR hi,fW hi]
  ·rw[gU (by omega),Jm l k (i-l.length) (by rw[cS] at h;omega)]
   rw[Nat.mod_eq_sub_mod (Nat.ge_of_not_lt hi)]
def o5(z:Value)(k:Nat):(de z k).length=k*(aA z).length:=by simp[de]
def yW{z:Value}{k m:Nat}(h:m=k*(aA z).length):((Array.range m).map fun i=>(⟨aA z⟩:Array Value)[i%(⟨aA z⟩:Array Value).size]!)=⟨de z k⟩:=by
 subst h;apply Array.ext';apply lZ;intro i;simp only[pS,Array.toList_range,cV,pV];by_cases hi:i<k*(aA z).length
 ·rw[sM hi]
  simp only[kW];have h1:=Jm (aA z) k i hi;have hpos:0<(aA z).length:=by
   rcases fR (aA z).length with h|h
   ·rw[h,pL] at hi;omega
   ·exact h
  have hm:=dQ i hpos;show _=(de z k)[i]?;unfold de;rw[h1];simp[hm]
 ·rw[dX (by simpa using hi)]
  rw[dX (by show(de z k).length<=i;rw[o5];omega)];rfl
section
variable {P:Program} {C:az} {n:Nat} {fr:Fr} {own own':List ak} {G:Gh} {Φ:Act->World->Prop}
variable {dst:Option Nat} {t t' ty':TypeId} {pos:String} {af:Array Edge} {gd:Option (Nat×Bool)} {x y:Operand} {e s by_:Nat}
def RM[hT:cx P t e s by_](w:World): ∃i:TypeInfo,(typeInfo e).run P w= .ok i w/\i.bytes=by_:=by
 obtain⟨i,h1,_,h2⟩:=hT.info;exact⟨i,by simp[typeInfo,program,Sem.run_bind,Sem.run,h1,run_pure],h2⟩
def sH[hT:cx P t e s by_]{z:Value}[hz:gh P e z]{k k':IntKind}{l:Int}(hx:ax fr x=some (.int k l))(hy:ax fr y=some (.int k' l))(h0:0<=l)(hb:by_*l<=2^47)(hl:l<=2^60)(hs:(aA z).length=s)(hd:b9 n dst=true)
  (h: ∀b,St C n (put fr dst (.slice (some ⟨b,0,none⟩) l.toNat l.toNat)) (⟨b,de z l.toNat,e,true⟩::own) G Φ):
  Ch P C n fr own G ⟨dst, .makeSlice t x y,ty',pos,af,gd⟩ Φ:=by
 intro a w Q rl;have h1:(Instr.makeSlice t (a.eval x) (a.eval y)).run P w= .ok (.slice (some ⟨w.heap.size,0,none⟩) l.toNat l.toNat) (w.alloc (.cells ⟨de z l.toNat⟩ e)):=by
  obtain⟨i,hi,hib⟩:=RM (P:=P) (t:=t) (e:=e) (s:=s) (by_:=by_) w;rw[bh rl.fr hx,bh rl.fr hy];unfold Instr.makeSlice;rw[aF (hT.u w)];simp only[asInt,asIntOf];rw[aF (a:=l) (w':=w) J,aF (a:=l) (w':=w) J,aF hi,hib];have hw:IntKind.i64.wrap l=l:=th (by simp[IntKind.min,IntKind.max,IntKind.signed,IntKind.bits];omega);simp only[hw];have c1: ¬((by_:Int)*l>2^48):=by
   have:(2:Int)^47<=2^48:=by decide
   omega
  have c2:(decide (l<0)||decide ((by_:Int)*l>2^48))=false:=by simp[c1];omega
  simp only[c2,Int.lt_irrefl,decide_false,Bool.or_false,Bool.false_or];have c3:decide (l<0)=false:=by simp;omega
  simp only[c3,iL,if_false,gt_iff_lt,Int.lt_irrefl,decide_false,Bool.or_false];have hr: ¬(l.toNat*by_>roomBytes):=by
   unfold roomBytes;have:((l.toNat*by_:Nat):Int)=by_*l:=by rw[jX,qK h0,Int.mul_comm]
   have h47:((2^47:Nat):Int)=2^47:=by decide
   omega
  unfold askRoom;simp only[hr,if_false];rw[aF (run_pure _ _ _),aF (hT.siz w)];have hn:l.toNat*s=l.toNat*(aA z).length:=by rw[hs]
  by_cases h00:l.toNat*s=0
  ·rw[if_pos h00,aF (run_pure _ _ _)]
   have e0:de z l.toNat=[]:=bS (by rw[o5,hs];exact h00);rw[h00,e0,show(Array.range 0)= #[] from J,Array.map_empty];rfl
  ·rw[if_neg h00,aF (hz.zero w),qb]
   rw[aF (run_pure _ _ _),yW hn];rfl
 refine(fun hk=>?_:Φ (a.put dst (.slice (some ⟨w.heap.size,0,none⟩) l.toNat l.toNat)) (w.alloc (.cells ⟨de z l.toNat⟩ e))->_) (h w.heap.size _ _ ((rl.heap (rl.h.alloc _ _)).put _ hd));exact lE (v:= .slice (some ⟨w.heap.size,0,none⟩) l.toNat l.toNat) (cG h1) hk
def M5: ∀(vs cs pre:List Value),vs.length=cs.length->cA (pre++cs) pre.length vs=pre++vs
 |[],cs,pre,h=>by have:cs=[]:=bS h.symm;subst this;rfl
 |v::vs,[],pre,h=>by simp at h
 |v::vs,c::cs,pre,h=>by
  simp only[cA,pJ _ _ (aN _),pM,List.set_cons_zero];have:=M5 vs cs (pre++[v]) (by simpa using h);simpa using this
def La[hT:cx P t e s by_]{z v:Value}[hz:gh P e z](hx:ax fr x=some v)(hs:(aA z).length=s)(hv:(aA v).length=s)(hsm:s<=1000)(hs0:0<s)(hd:b9 n dst=true)
  (h: ∀b,St C n (put fr dst (.slice (some ⟨b,0,none⟩) 1 1)) (⟨b,aA v,e,true⟩::own) G Φ):
  Ch P C n fr own G ⟨dst, .buildSlice t 1 #[(0,x)],ty',pos,af,gd⟩ Φ:=by
 intro a w Q rl;have h1:(Instr.buildSlice t 1 #[(0,v)]).run P w= .ok (.slice (some ⟨w.heap.size,0,none⟩) 1 1) (w.alloc (.cells ⟨aA v⟩ e)):=by
  unfold Instr.buildSlice;rw[aF (hT.u w)];simp only[];rw[aF (hT.siz w)];have c1: ¬(1*s>2^24):=by omega
  have c2: ¬(1*s=0):=by omega
  simp only[c1,if_false];rw[if_neg c2,aF (hz.zero w),qb,aF (run_pure _ _ _)];rw[yW (k:=1) (by rw[hs])];have hzl:(de z 1).length=s:=by rw[o5,hs,lM]
  have hf:Instr.fill (fun i=>some (i*s,s)) ⟨de z 1⟩ [(0,v)]=some ⟨aA v⟩:=by
   simp only[Instr.fill,qb];rw[if_neg (by simp[hv,hzl])];have e1:=Ek (aA v) ⟨de z 1⟩ (0*s) 0;have e2:(⟨aA v⟩:Array Value).zipIdx.foldl (fun cs (c,j)=>cs.setIfInBounds (0*s+j) c) (⟨de z 1⟩:Array Value)=⟨aA v⟩:=by
    rw[<-rZ,sL];have e3:=M5 (aA v) (de z 1) [] (by rw[hv,hzl]);simp only[jT,fX] at e3;rw[kY,dT] at e1;rw[e3] at e1;simpa using e1
   rw[e2]
  simp only[hf];rfl
 refine lE (v:= .slice (some ⟨w.heap.size,0,none⟩) 1 1) (w':=w.alloc (.cells ⟨aA v⟩ e)) ?_ (h w.heap.size _ _ ((rl.heap (rl.h.alloc _ _)).put _ hd));simp only[execOp,gS,bT,iU,bh rl.fr hx];exact cG h1
end
section
variable {P:Program} {C:az} {n:Nat} {fr:Fr} {own own':List ak} {G:Gh} {Φ:Act->World->Prop}
variable {dst:Option Nat} {t t' ty':TypeId} {pos:String} {af:Array Edge} {gd:Option (Nat×Bool)} {x y:Operand} {e s by_:Nat}
def uU(fr:Fr)(s:Nat):List Value->List (Nat×Operand)->Option (List Value)
 |cs,[]=>some cs
 |cs,(i,x)::r=>match ax fr x with
  |some v=>if(aA v).length=s/\i*s+s<=cs.length then uU fr s (cA cs (i*s) (aA v)) r else none
  |none=>none
def Oh{a:Act}(hf:mm fr a)(s:Nat): ∀(ps:List (Nat×Operand)) (cs out:List Value),uU fr s cs ps=some out->
  Instr.fill (fun i=>some (i*s,s)) ⟨cs⟩ (ps.map fun(i,x)=>(i,a.eval x))=some ⟨out⟩
 |[],cs,out,h=>by simp only[uU] at h;cases h;rfl
 |(i,x)::ps,cs,out,h=>by
  simp only[uU] at h;split at h
  ·rename_i v hv
   split at h
   ·rename_i hc
    simp only[bT,Instr.fill,bh hf hv,qb];have h1: ¬((⟨aA v⟩:Array Value).size≠s):=by simp[hc.1]
    have h2: ¬(i*s+(⟨aA v⟩:Array Value).size>(⟨cs⟩:Array Value).size):=by simp only[pV,hc.1];omega
    rw[if_neg (by simp only[iW,decide_eq_true_eq,not_or];exact⟨by simpa using h1,by simpa using h2⟩)];have e:=Ek (aA v) ⟨cs⟩ (i*s) 0;have e':(⟨aA v⟩:Array Value).zipIdx.foldl (fun cs (c,j)=>cs.setIfInBounds (i*s+j) c) (⟨cs⟩:Array Value)=⟨cA cs (i*s) (aA v)⟩:=by
     rw[<-rZ,sL];simpa using e
    rw[e'];exact Oh hf s ps _ _ h
   ·cases h
  ·cases h
def Bv[hT:cx P t e s by_]{z:Value}[hz:gh P e z]{len:Nat}{parts:Array (Nat×Operand)}{out:List Value}(hs:(aA z).length=s)(hb:uU fr s (de z len) parts.toList=some out)(hsm:Nat.ble (len*s) 1000=true)(hs0:Nat.blt 0 (len*s)=true)(hd:b9 n dst=true)
  (h: ∀b,St C n (put fr dst (.slice (some ⟨b,0,none⟩) len len)) (⟨b,out,e,true⟩::own) G Φ):
  Ch P C n fr own G ⟨dst, .buildSlice t len parts,ty',pos,af,gd⟩ Φ:=by
 intro a w Q rl;have hsm':len*s<=1000:=by simpa using hsm
 have hs0':0<len*s:=by simpa[mK] using hs0
 have h1:(Instr.buildSlice t len (parts.map fun(i,x)=>(i,a.eval x))).run P w= .ok (.slice (some ⟨w.heap.size,0,none⟩) len len) (w.alloc (.cells ⟨out⟩ e)):=by
  unfold Instr.buildSlice;rw[aF (hT.u w)];simp only[];rw[aF (hT.siz w)];have c1: ¬(len*s>2^24):=by omega
  have c2: ¬(len*s=0):=by omega
  simp only[c1,if_false];rw[if_neg c2,aF (hz.zero w),qb,aF (run_pure _ _ _)];rw[yW (k:=len) (by rw[hs])];have hf:=Oh rl.fr s parts.toList _ _ hb;simp only[pS,hf];rfl
 refine lE (v:= .slice (some ⟨w.heap.size,0,none⟩) len len) (w':=w.alloc (.cells ⟨out⟩ e)) ?_ (h w.heap.size _ _ ((rl.heap (rl.h.alloc _ _)).put _ hd));simp only[execOp];exact cG h1
def OO[hT:cx P t e s by_](hd:b9 n dst=true)(h: ∀b,St C n (put fr dst (.slice (some ⟨b,0,none⟩) 0 0)) (⟨b,[],e,true⟩::own) G Φ):
  Ch P C n fr own G ⟨dst, .buildSlice t 0 #[],ty',pos,af,gd⟩ Φ:=by
 intro a w Q rl;have h1:(Instr.buildSlice t 0 #[]).run P w= .ok (.slice (some ⟨w.heap.size,0,none⟩) 0 0) (w.alloc (.cells ⟨[]⟩ e)):=by
  unfold Instr.buildSlice;rw[aF (hT.u w)];simp only[];rw[aF (hT.siz w)];simp only[kY,gt_iff_lt,Nat.not_lt_zero,if_false,if_true];rw[aF (run_pure _ _ _),show(Array.range 0)= #[] from J,Array.map_empty];rfl
 refine lE (v:= .slice (some ⟨w.heap.size,0,none⟩) 0 0) (w':=w.alloc (.cells ⟨[]⟩ e)) ?_ (h w.heap.size _ _ ((rl.heap (rl.h.alloc _ _)).put _ hd));simp only[execOp,gS,iU];exact cG h1
def Qd[hT:cx P t e s by_]{ad:Option Addr}{len cap l2 c2:Nat}(hx:ax fr x=some (.slice ad len cap))(hy:ax fr y=some (.slice none l2 c2)):Yd P C fr own G ⟨dst, .binOp .eql t x y t',ty',pos,af,gd⟩ (.bool ad.isNone):=by
 intro a w hf hh;simp only[execOp,bh hf hx,bh hf hy];have h1:(Op.equal t (.slice ad len cap) (.slice none l2 c2)).run P w= .ok ad.isNone w:=so (by unfold Op.equalIn;rw[aF (hT.u w)];cases ad<;>rfl);have h2:(eqGuard .eql t x y (.slice ad len cap) (.slice none l2 c2)).run P w= .ok () w:=J;have h3:(binOp .eql t (.slice ad len cap) (.slice none l2 c2)).run P w= .ok (.bool ad.isNone) w:=by simp only[binOp];rw[aF h1];rfl
 exact cG (by rw[aF h2];exact h3)
def Xs[hT:cx P t e s by_]{ad:Option Addr}{len cap l2 c2:Nat}(hx:ax fr x=some (.slice ad len cap))(hy:ax fr y=some (.slice none l2 c2)):Yd P C fr own G ⟨dst, .binOp .neq t x y t',ty',pos,af,gd⟩ (.bool (!ad.isNone)):=by
 intro a w hf hh;simp only[execOp,bh hf hx,bh hf hy];have h1:(Op.equal t (.slice ad len cap) (.slice none l2 c2)).run P w= .ok ad.isNone w:=so (by unfold Op.equalIn;rw[aF (hT.u w)];cases ad<;>rfl);have h2:(eqGuard .neq t x y (.slice ad len cap) (.slice none l2 c2)).run P w= .ok () w:=J;have h3:(binOp .neq t (.slice ad len cap) (.slice none l2 c2)).run P w= .ok (.bool (!ad.isNone)) w:=by simp only[binOp];rw[aF h1];rfl
 exact cG (by rw[aF h2];exact h3)
end
def ml: ∀(cs:List Value) (off k:Nat),off+k<=cs.length->cD cs off k=some ((cs.drop off).take k)
 |cs,0,0,_=>by cases cs<;>rfl
 |[],0,k+1,h=>by simp at h
 |v::t,0,k+1,h=>by
  simp only[cD,ml t 0 k (by simp at h;omega)];simp
 |[],_+1,k,h=>by simp at h
 |_::t,off+1,k,h=>by
  simp only[cD,ml t off k (by simp at h;omega)];simp
section
variable {P:Program} {C:az} {n:Nat} {fr:Fr} {own own' own1:List ak} {G:Gh} {Φ:Act->World->Prop}
variable {dst:Option Nat} {t t' ty':TypeId} {pos:String} {af:Array Edge} {gd:Option (Nat×Bool)} {x y:Operand} {e s by_:Nat}
def mP(P:Program)(C:az)(own:List ak)(G:Gh)(s m:Nat)(v:Value)(ys:List Value):Prop:=
 ∀w,bz C own G w->(Builtin.firstCells s m v).run P w= .ok ⟨ys⟩ w
def Dz{w:World}{b off k:Nat}{cs l:List Value}{ty:TypeId}{fz:Nat×Nat}(h:w.heap[b]? =some (.cells ⟨cs⟩ ty fz))(hl:cD cs off k=some l):(loadCells ⟨b,off,none⟩ k).run P w= .ok ⟨l⟩ w:=by
 obtain⟨h1,h2⟩:=pC _ _ _ _ hl;unfold loadCells;rw[IK (l:=l) k 0 #[] (fun j hj=>by rw[Cb h];simpa using h2 j hj) (by omega)];simp[<-h1]
def wj{b off m len cap:Nat}{cs ys:List Value}{ty:TypeId}{lo:Bool}(ho:im own b cs ty lo)(hl:cD cs off (m*s)=some ys):mP P C own G s m (.slice (some ⟨b,off,none⟩) len cap) ys:=
 fun w h=>Dz (h.hown _ ho.mem).1 hl
def Nt{b off m len cap:Nat}{cs ys:List Value}(hg:G b=some cs)(hl:cD cs off (m*s)=some ys):mP P C own G s m (.slice (some ⟨b,off,none⟩) len cap) ys:=
 fun w h=>by obtain⟨ty,fz,hb⟩:=h.sub _ _ hg;exact Dz hb hl
def u7{ad:Option Addr}{len cap:Nat}:mP P C own G s 0 (.slice ad len cap) []:=fun w _=>by
 cases ad with
 |none=>rfl
 |some a=>unfold Builtin.firstCells loadCells;simp[loadCellsFrom,run_pure]
def SC(z:Value)(k:Nat):Builtin.zeroCells ⟨aA z⟩ k=⟨de z k⟩:=by
 unfold Builtin.zeroCells;exact yW J
def GO{w w':World}[hT:cx P t e s by_][hN:jz P t']{z:Value}[hz:gh P e z]{ad:Option Addr}{len cap m cap2:Nat}{ad2:Option Addr}{xs ys:List Value}
  (hsx:(Builtin.firstCells s len (.slice ad len cap)).run P w.drew= .ok ⟨xs⟩ w.drew)(hsy:(Builtin.firstCells s m (.slice ad2 m cap2)).run P w.drew= .ok ⟨ys⟩ w.drew)
  (hneed:cap<len+m)(hby:0<by_)(hb:(len+m)*by_<=140737488355328):
  (Builtin.append_ #[t,t'] ty' #[.slice ad len cap, .slice ad2 m cap2]).run P w=
   .ok (.slice (some ⟨w.heap.size,0,none⟩) (len+m) (grownCap w (len+m) cap e)) (w.drew.alloc (.cells ⟨xs++ys++de z (grownCap w (len+m) cap e-(len+m))⟩ e)):=by
 obtain⟨d,hd1⟩:=hN.un;obtain⟨i,hi,his,hib⟩:=hT.info;obtain⟨i',hi',hiz⟩:=hz.info;rw[hi] at hi';cases hi';have hfit:=growslice_fits (old:=cap) (need:=len+m) (bytes:=by_) hneed hb;have hlen:len+m<=140737488355328:=cY (rK _ hby) hb;have hn: ¬(len+m<=cap):=by omega
 have h63': ¬(9223372036854775807<((len:Int)+(m:Int))):=by omega
 have h48': ¬(281474976710656<Builtin.nextslicecap (len+m) cap*i.bytes):=by rw[hib];omega
 subst his;simp[Builtin.append_,run_underlying hT.un,run_underlying hd1,sizeOf,typeInfo,zeroValue,hi,hiz,Builtin.lenOf,hn,h63',h48',Question.forced,hsx,hsy,newRow,grownCap];congr 2;apply Array.ext';rw[qb,SC];simp[dV]
def yT[hT:cx P t e s by_][hN:jz P t']{z:Value}[hz:gh P e z]{ad:Option Addr}{len cap m cap2:Nat}{ad2:Option Addr}{xs ys:List Value}
  (hx:ax fr x=some (.slice ad len cap))(hy:ax fr y=some (.slice ad2 m cap2))(hsx:mP P C own G s len (.slice ad len cap) xs)(hsy:mP P C own G s m (.slice ad2 m cap2) ys)
  (hneed:cap<len+m)(hby:0<by_)(hb:(len+m)*by_<=140737488355328)(hd:b9 n dst=true)
  (h: ∀b cap',len+m<=cap'->St C n (put fr dst (.slice (some ⟨b,0,none⟩) (len+m) cap')) (⟨b,xs++ys++de z (cap'-(len+m)),e,true⟩::own) G Φ):
  Ch P C n fr own G ⟨dst, .call ⟨.builtin .append, #[x,y], #[t,t']⟩,ty',pos,af,gd⟩ Φ:=by
 intro a w Q rl;have hcap:len+m<=grownCap w (len+m) cap e:=by unfold grownCap;simp only[Question.cut];omega
 have hrun:=GO (P:=P) (t:=t) (t':=t') (ty':=ty') (w:=w) (w':=w) (hsx _ rl.h.drew) (hsy _ rl.h.drew) hneed hby hb;refine lE (v:= .slice (some ⟨w.heap.size,0,none⟩) (len+m) (grownCap w (len+m) cap e)) (w':=w.drew.alloc (.cells ⟨xs++ys++de z (grownCap w (len+m) cap e-(len+m))⟩ e)) ?_ ?_
 ·simp only[execOp,resolve,gS,bT,iU,bh rl.fr hx,bh rl.fr hy]
  exact cG hrun
 ·exact h w.heap.size _ hcap _ _ ((rl.heap ((rl.h.drew).alloc _ _)).put _ hd)
def ju.perm{o:ak}(h:ju own o own1):own.Perm (o::own1):=by
 induction h with
 |hd o t=>exact List.Perm.refl _
 |tl x t t' o h ih=>exact(List.Perm.cons x ih).trans (List.Perm.swap _ _ _)
def Gg{w:World}[hT:cx P t e s by_][hN:jz P t']{b len cap m cap2:Nat}{ad2:Option Addr}{cs ys:List Value}
  (hb:w.heap[b]? =some (.cells ⟨cs⟩ e (0,0)))(hcs:cs.length=cap*s)(hsy:(Builtin.firstCells s m (.slice ad2 m cap2)).run P w= .ok ⟨ys⟩ w)(hys:ys.length=m*s)(hf: ∀v∈ys,flat v=true)
  (hneed:len+m<=cap):
  (Builtin.append_ #[t,t'] ty' #[.slice (some ⟨b,0,none⟩) len cap, .slice ad2 m cap2]).run P w=
   .ok (.slice (some ⟨b,0,none⟩) (len+m) cap) (gI w b (.cells ⟨cA cs (len*s) ys⟩ e (0,0))):=by
 obtain⟨d,hd1⟩:=hN.un;obtain⟨i,hi,his,hib⟩:=hT.info;subst his;have hl:len*i.size+ys.length<=cs.length:=by rw[hys,hcs,<-cS];exact bK _ hneed
 have hst:=zO (P:=P) ys w (len*i.size) 0 cs hf hb (by omega);rw[eY] at hst;simp[Builtin.append_,run_underlying hT.un,run_underlying hd1,sizeOf,typeInfo,hi,Builtin.lenOf,hneed,hsy,q9,hst]
def y6: ∀(vs cs:List Value) (off:Nat),(cA cs off vs).length=cs.length
 |[],cs,off=>rfl
 |v::vs,cs,off=>by simp[cA,y6 vs]
def qv: ∀(vs cs:List Value) (off:Nat),off+vs.length<=cs.length->cA cs off vs=cs.take off++vs++cs.drop (off+vs.length)
 |[],cs,off,h=>by simp[cA]
 |v::vs,cs,off,h=>by
  simp only[bZ] at h;rw[cA,qv vs _ _ (by simp;omega)];rw[List.take_set,sN (by omega)];have h1:(cs.take (off+1)).set off v=cs.take off++[v]:=by
   rw[fS (by omega),pJ _ _ (by simp;omega)];simp[iY (by omega:off<=cs.length)]
  rw[h1];simp only[bZ,dV,iV,jT];congr 4;omega
def Mn[hT:cx P t e s by_][hN:jz P t']{z:Value}[hz:gh P e z]{b len cap m cap2:Nat}{ad2:Option Addr}{xs ys rest:List Value}
  (hx:ax fr x=some (.slice (some ⟨b,0,none⟩) len cap))(hy:ax fr y=some (.slice ad2 m cap2))(hr:ju own ⟨b,xs++rest,e,true⟩ own1)(hxs:xs.length=len*s)(hcap:xs.length+rest.length=cap*s)(hlc:len<=cap)
  (hsy:mP P C own G s m (.slice ad2 m cap2) ys)(hys:ys.length=m*s)(hf: ∀v∈ys,flat v=true)
  (hby:0<by_)(hb:(len+m)*by_<=140737488355328)(hzs:(aA z).length=s)(hd:b9 n dst=true)
  (h: ∀b cap' rest',len+m<=cap'->rest'.length+(len+m)*s=cap'*s->St C n (put fr dst (.slice (some ⟨b,0,none⟩) (len+m) cap')) (⟨b,xs++ys++rest',e,true⟩::own1) G Φ):
  Ch P C n fr own G ⟨dst, .call ⟨.builtin .append, #[x,y], #[t,t']⟩,ty',pos,af,gd⟩ Φ:=by
 intro a w Q rl;have hp:=rl.h.perm hr.perm;have hblk:=(hp.hown _ aQ).1;simp only[] at hblk;by_cases hneed:len+m<=cap
 ·have hcs:(xs++rest).length=cap*s:=by simp;omega
  have hrun:=Gg (P:=P) (t:=t) (t':=t') (ty':=ty') (w:=w) (len:=len) hblk hcs (hsy w rl.h) hys hf hneed;have hle:len*s+m*s<=cap*s:=by rw[<-cS];exact bK _ hneed
  have hov:cA (xs++rest) (len*s) ys=xs++ys++rest.drop (m*s):=by
   rw[qv _ _ _ (by rw[hys];omega),<-hxs];simp[hys,mU]
  refine lE (v:= .slice (some ⟨b,0,none⟩) (len+m) cap) (w':=gI w b (.cells ⟨cA (xs++rest) (len*s) ys⟩ e (0,0))) ?_ ?_
  ·simp only[execOp,resolve,gS,bT,iU,bh rl.fr hx,bh rl.fr hy]
   exact cG hrun
  ·rw[hov]
   refine h b cap (rest.drop (m*s)) hneed ?_ _ _ ((rl.heap (hp.store (.hd ..))).put _ hd);rw[gM,cS];omega
 ·have hx':mP P C own G s len (.slice (some ⟨b,0,none⟩) len cap) xs:=fun w' hw'=>by
   have hb':=(((hw'.perm hr.perm).hown _ aQ).1);refine Dz hb' ?_;rw[ml _ _ _ (by simp;omega),<-hxs];simp
  have hcap':len+m<=grownCap w (len+m) cap e:=by unfold grownCap;simp only[Question.cut];omega
  have hrun:=GO (P:=P) (t:=t) (t':=t') (ty':=ty') (w:=w) (w':=w) (hx' _ rl.h.drew) (hsy _ rl.h.drew) (by omega) hby hb;refine lE (v:= .slice (some ⟨w.heap.size,0,none⟩) (len+m) (grownCap w (len+m) cap e)) (w':=w.drew.alloc (.cells ⟨xs++ys++de z (grownCap w (len+m) cap e-(len+m))⟩ e)) ?_ ?_
  ·simp only[execOp,resolve,gS,bT,iU,bh rl.fr hx,bh rl.fr hy]
   exact cG hrun
  ·refine h w.heap.size _ _ hcap' ?_ _ _ ((rl.heap (((hp.drew).drop (mW _ _)).alloc _ _)).put _ hd)
   rw[o5,hzs,<-cS];congr 1;omega
end
section
variable {P:Program} {ops:Array Oper} {Q:Exit->Act->World->Prop} {S:World->Prop} {fin:Nat->Bool}
def qn(ops:Array Oper)(fin:Nat->Bool):List (Nat×Bool)->Array Bool->Bool
 |[],listed=>(Region.ready .any ops listed).isEmpty
 |(i,true)::r,listed=>yk ops fin listed i&&qn ops fin r (listed.setIfInBounds i true)
 |(i,false)::r,listed=>(Region.ready .any ops listed==[i])&&qn ops fin r (listed.setIfInBounds i true)
def gp(P:Program)(ops:Array Oper)(Q:Exit->Act->World->Prop)(S:World->Prop)(fin:Nat->Bool):List (Nat×Bool)->Act->World->Prop
 |[],a,w=>Q .normal a w
 |(i,true)::r,a,w=> ∃o v,ops[i]? =some o/\S w/\YieldsIf P ops S o v a/\gp P ops Q S fin r (a.put o.dst v) w
 |(i,false)::r,a,w=>wpOp P ops Q i (fun a' w'=>(fin i=true\/S w')/\gp P ops Q S fin r a' w') a w
def zL(hQ: ∀c a d v w,Q (.panic c) (Act.put a d v) w->Q (.panic c) a w): ∀(π:List (Nat×Bool)) (listed:Array Bool) (a:Act) (w:World),qn ops fin π listed=true->gp P ops Q S fin π a w-> ∀fuel,π.length<=fuel->uT P ops Q S fin fuel listed a w
 |[],listed,a,w,ho,h,fuel,hf=>by
  have hr:Region.ready .any ops listed=[]:=by simpa[qn] using ho
  cases fuel with
  |zero=>exact⟨hr,h⟩
  |succ k=>exact⟨fun _=>h,by rw[hr];simp⟩
 |(i,true)::r,listed,a,w,ho,h,0,hf=>by simp at hf
 |(i,false)::r,listed,a,w,ho,h,0,hf=>by simp at hf
 |(i,true)::r,listed,a,w,ho,h,fuel+1,hf=>by
  obtain⟨o,v,hoi,hS,hy,hk⟩:=h;simp only[qn,yk,bM] at ho;obtain⟨⟨⟨⟨h1,h2⟩,h3⟩,h4⟩,h5⟩:=ho;obtain⟨h6,h7⟩:=VK h4;exact anQ hoi (Region.noSelect_spec h1) (fun c a w=>hQ c a _ _ w) h6 h7 fuel listed a w (Region.free_spec hoi h2) (by simpa using h3) hy hS
   (zL hQ r _ _ _ h5 hk fuel (by simpa using hf))
 |(i,false)::r,listed,a,w,ho,h,fuel+1,hf=>by
  simp only[qn,bM,beq_iff_eq] at ho;exact R8 ho.1 (wpOp_mono (fun a' w' h'=>⟨h'.1,zL hQ r _ _ _ ho.2 h'.2 fuel (by simpa using hf)⟩) h)
end
section
variable {P:Program} {C:az} {n:Nat} {fr:Fr} {own own0:List ak} {G G0:Gh} {ops:Array Oper} {Q:Exit->Act->World->Prop} {fin:Nat->Bool} {π:List (Nat×Bool)}
def dr(fin:Nat->Bool)(π:List (Nat×Bool)){id:Nat}(hm:P.follows .mixedOrders=true)(ho:(qn ops fin π (Array.replicate ops.size false)&&Nat.ble π.length ops.size)=true)
  (h:St C n fr own G (gp P ops (f7 Q) (HS C own G) fin π)):St C n fr own G ((Code.region id ops true).wp P Q):=by
 simp only[bM] at ho;refine YC fin hm fun a w rl=>zL (fun _ _ _ _ _ h=>h) π _ a w ho.1 (h a w rl) _ (by simpa using ho.2)
def dy{i:Nat}{o:Oper}{v:Value}(ho:ops[i]? =some o)(hy: ∀G':Gh,[GE G0 G']->Yd P C fr own0 G' o v)(hg:o.guard=none)(hd:b9 n o.dst=true)[hs:jO own0 own][hl:GL G0 G]
  (h:St C n (put fr o.dst v) own G (gp P ops (f7 Q) (HS C own0 G0) fin π)):St C n fr own G (gp P ops (f7 Q) (HS C own0 G0) fin ((i,true)::π)):=
 fun a w rl=>⟨o,v,ho,⟨G,hl.le,rl.h.drop hs.s⟩, .inl ⟨by simp[Region.wanted,hg],fun w' ⟨G',hle,hr⟩=> @hy G' ⟨hle⟩ a w' rl.fr hr⟩,h _ _ (rl.put v hd)⟩
def dM{i:Nat}{dst:Option Nat}{ty':TypeId}{pos:String}{af:Array Edge}{x:Operand}{v:Value}(ho:ops[i]? =some ⟨dst, .move x,ty',pos,af,none⟩)(hx:ax fr x=some v)(hd:b9 n dst=true)[hs:jO own0 own][hl:GL G0 G]
  (h:St C n (put fr dst v) own G (gp P ops (f7 Q) (HS C own0 G0) fin π)):St C n fr own G (gp P ops (f7 Q) (HS C own0 G0) fin ((i,true)::π)):=dy ho (fun _ _=>f6 hx) J hd h
def dA{i:Nat}{dst:Option Nat}{ty':TypeId}{pos:String}{af:Array Edge}{x:Operand}{v:Value}(ho:ops[i]? =some ⟨dst, .assign x,ty',pos,af,none⟩)(hx:ax fr x=some v)(hd:b9 n dst=true)[hs:jO own0 own][hl:GL G0 G]
  (h:St C n (put fr dst v) own G (gp P ops (f7 Q) (HS C own0 G0) fin π)):St C n fr own G (gp P ops (f7 Q) (HS C own0 G0) fin ((i,true)::π)):=dy ho (fun _ _=>IG hx) J hd h
def dF{i b o f off:Nat}{dst:Option Nat}{ty':TypeId}{pos:String}{af:Array Edge}{x:Operand}{t:TypeId}[hF:ll P t f off](ho:ops[i]? =some ⟨dst, .fieldAddr t x f,ty',pos,af,none⟩)(hx:ax fr x=some (.pointer (some ⟨b,o,none⟩)))(hd:b9 n dst=true)[hs:jO own0 own][hl:GL G0 G]
  (h:St C n (put fr dst (.pointer (some ⟨b,o+off,none⟩))) own G (gp P ops (f7 Q) (HS C own0 G0) fin π)):St C n fr own G (gp P ops (f7 Q) (HS C own0 G0) fin ((i,true)::π)):=dy ho (fun _ _=>oe hx) J hd h
def dL{i b off k:Nat}{dst:Option Nat}{ty':TypeId}{pos:String}{af:Array Edge}{x:Operand}{t ty:TypeId}{cs l:List Value}{lo:Bool}(ho:ops[i]? =some ⟨dst, .load t x,ty',pos,af,none⟩)(hx:ax fr x=some (.pointer (some ⟨b,off,none⟩)))[hw:im own0 b cs ty lo][kw P t k](hv:cD cs off k=some l)(hd:b9 n dst=true)[hs:jO own0 own][hl:GL G0 G]
  (h:St C n (put fr dst (.agg ⟨l⟩)) own G (gp P ops (f7 Q) (HS C own0 G0) fin π)):St C n fr own G (gp P ops (f7 Q) (HS C own0 G0) fin ((i,true)::π)):=dy ho (fun _ _=>AX hx hv) J hd h
def r7{i b off:Nat}{dst:Option Nat}{ty':TypeId}{pos:String}{af:Array Edge}{x:Operand}{t ty:TypeId}{cs:List Value}{v:Value}{lo:Bool}(ho:ops[i]? =some ⟨dst, .load t x,ty',pos,af,none⟩)(hx:ax fr x=some (.pointer (some ⟨b,off,none⟩)))[hw:im own0 b cs ty lo][ip P t](hv:cs[off]? =some v)(hd:b9 n dst=true)[hs:jO own0 own][hl:GL G0 G]
  (h:St C n (put fr dst v) own G (gp P ops (f7 Q) (HS C own0 G0) fin π)):St C n fr own G (gp P ops (f7 Q) (HS C own0 G0) fin ((i,true)::π)):=dy ho (fun _ _=>lA hx hv) J hd h
def u6{i:Nat}{o:Oper}{v:Value}(ho:ops[i]? =some o){j d:Nat}{b:Bool}(hg:o.guard=some (j,b))(hj:(ops[j]?).bind (·.dst)=some d)(hlk:ij fr d=some (.bool b))(hy: ∀G':Gh,[GE G0 G']->Yd P C fr own0 G' o v)(hd:b9 n o.dst=true)[hs:jO own0 own][hl:GL G0 G]
  (h:St C n (put fr o.dst v) own G (gp P ops (f7 Q) (HS C own0 G0) fin π)):St C n fr own G (gp P ops (f7 Q) (HS C own0 G0) fin ((i,true)::π)):=
 fun a w rl=>⟨o,v,ho,⟨G,hl.le,rl.h.drop hs.s⟩, .inl ⟨by simp[Region.wanted,hg,DI rl.fr hj hlk],fun w' ⟨G',hle,hr⟩=> @hy G' ⟨hle⟩ a w' rl.fr hr⟩,h _ _ (rl.put v hd)⟩
def uI{i:Nat}{o:Oper}(ho:ops[i]? =some o){j d:Nat}{b c:Bool}(hg:o.guard=some (j,b))(hj:(ops[j]?).bind (·.dst)=some d)(hlk:ij fr d=some (.bool c))(hbc:(c==b)=false)(hd:b9 n o.dst=true)[hs:jO own0 own][hl:GL G0 G]
  (h:St C n (put fr o.dst undef) own G (gp P ops (f7 Q) (HS C own0 G0) fin π)):St C n fr own G (gp P ops (f7 Q) (HS C own0 G0) fin ((i,true)::π)):=
 fun a w rl=>⟨o,undef,ho,⟨G,hl.le,rl.h.drop hs.s⟩, .inr ⟨by simp[Region.wanted,hg,DI rl.fr hj hlk,hbc],J⟩,h _ _ (rl.put undef hd)⟩
def dc{i:Nat}{o:Oper}(ho:ops[i]? =some o)(hg:o.guard=none)(hc:Ch P C n fr own G o (fun a w=>(fin i=true\/HS C own0 G0 w)/\gp P ops (f7 Q) (HS C own0 G0) fin π a w)):St C n fr own G (gp P ops (f7 Q) (HS C own0 G0) fin ((i,false)::π)):=by
 intro a w rl;show wpOp P ops (f7 Q) i _ a w;unfold wpOp;simp only[ho,Region.wanted,hg,if_true];exact .inl (hc a w _ rl)
def dn(h:St C n fr own G (Q .normal)):St C n fr own G (gp P ops (f7 Q) (HS C own0 G0) fin []):=h
def xy{A G:Gh}{b:Nat}{cs:List Value}[h:tk A b cs][k:GL A G]:G b=some cs:=k.le _ _ h.h
variable {dst:Option Nat} {t t' ty':TypeId} {pos:String} {af:Array Edge} {x y:Operand} {r:List Oper}
def sm{v:Value}(hx:ax fr x=some v)(hd:b9 n dst=true)(h:St C n (put fr dst v) own G (dh P ops Q r)):St C n fr own G (dh P ops Q (⟨dst, .move x,ty',pos,af,none⟩::r)):=rp (f6 hx) J hd h
def sa{v:Value}(hx:ax fr x=some v)(hd:b9 n dst=true)(h:St C n (put fr dst v) own G (dh P ops Q r)):St C n fr own G (dh P ops Q (⟨dst, .assign x,ty',pos,af,none⟩::r)):=rp (IG hx) J hd h
def sn{ad:Addr}(hx:ax fr x=some (.pointer (some ad)))(hd:b9 n dst=true)(h:St C n (put fr dst (.pointer (some ad))) own G (dh P ops Q r)):St C n fr own G (dh P ops Q (⟨dst, .nilCheck x,ty',pos,af,none⟩::r)):=rp (kc hx) J hd h
def sf{b o f off:Nat}[hF:ll P t f off](hx:ax fr x=some (.pointer (some ⟨b,o,none⟩)))(hd:b9 n dst=true)(h:St C n (put fr dst (.pointer (some ⟨b,o+off,none⟩))) own G (dh P ops Q r)):St C n fr own G (dh P ops Q (⟨dst, .fieldAddr t x f,ty',pos,af,none⟩::r)):=rp (oe hx) J hd h
def HN{b off k:Nat}{cs l:List Value}{lo:Bool}{ty:TypeId}(hx:ax fr x=some (.pointer (some ⟨b,off,none⟩)))[ho:im own b cs ty lo][kw P t k](hl:cD cs off k=some l)(hd:b9 n dst=true)
  (h:St C n (put fr dst (.agg ⟨l⟩)) own G (dh P ops Q r)):St C n fr own G (dh P ops Q (⟨dst, .load t x,ty',pos,af,none⟩::r)):=rp (AX hx hl) J hd h
def oF{b off:Nat}{cs:List Value}{v:Value}{lo:Bool}{ty:TypeId}(hx:ax fr x=some (.pointer (some ⟨b,off,none⟩)))[ho:im own b cs ty lo][ip P t](hl:cs[off]? =some v)(hd:b9 n dst=true)
  (h:St C n (put fr dst v) own G (dh P ops Q r)):St C n fr own G (dh P ops Q (⟨dst, .load t x,ty',pos,af,none⟩::r)):=rp (lA hx hl) J hd h
def Wg{A:Gh}{b off:Nat}{cs:List Value}{v:Value}(hx:ax fr x=some (.pointer (some ⟨b,off,none⟩)))[hg:tk A b cs][hk:GL A G][ip P t](hl:cs[off]? =some v)(hd:b9 n dst=true)
  (h:St C n (put fr dst v) own G (dh P ops Q r)):St C n fr own G (dh P ops Q (⟨dst, .load t x,ty',pos,af,none⟩::r)):=rp (uK hx (hk.le _ _ hg.h) hl) J hd h
def cE{e s by_:Nat}{ad:Option Addr}{len cap:Nat}[hT:cx P t e s by_](hx:ax fr x=some (.slice ad len cap))(hd:b9 n dst=true)
  (h:St C n (put fr dst (.int .i64 len)) own G (dh P ops Q r)):St C n fr own G (dh P ops Q (⟨dst, .call ⟨.builtin .len, #[x], #[t]⟩,ty',pos,af,none⟩::r)):=rp (pH hx) J hd h
def sx{vs:Array Value}{i:Nat}{v:Value}(hx:ax fr x=some (.tuple vs))(hv:vs[i]? =some v)(hd:b9 n dst=true)(h:St C n (put fr dst v) own G (dh P ops Q r)):St C n fr own G (dh P ops Q (⟨dst, .extract x i,ty',pos,af,none⟩::r)):=rp (IS hx hv) J hd h
def d6{C:az}{n:Nat}{fr:Fr}{own:List ak}{G:Gh}{K:Act->World->Prop}{Q:Exit->Act->World->Prop}{id:Nat}(h:St C n fr own G (Q (.exit id))):St C n fr own G (Exit.then K Q (.exit id)):=h
def bG{op:Op}{v:Value}{j d:Nat}{b:Bool}(hj:(ops[j]?).bind (·.dst)=some d)(hl:ij fr d=some (.bool b))(hy:Yd P C fr own G ⟨dst,op,ty',pos,af,some (j,b)⟩ v)(hd:b9 n dst=true)(h:St C n (put fr dst v) own G (dh P ops Q r)):St C n fr own G (dh P ops Q (⟨dst,op,ty',pos,af,some (j,b)⟩::r)):=Vi J hj hl hy hd h
def ss{op:Op}{j d:Nat}{b c:Bool}(hj:(ops[j]?).bind (·.dst)=some d)(hl:ij fr d=some (.bool c))(hbc:(c==b)=false)(hd:b9 n dst=true)(h:St C n (put fr dst undef) own G (dh P ops Q r)):St C n fr own G (dh P ops Q (⟨dst,op,ty',pos,af,some (j,b)⟩::r)):=aBB J hj hl hbc hd h
def sy{op:Op}{v:Value}(hy:Yd P C fr own G ⟨dst,op,ty',pos,af,none⟩ v)(hd:b9 n dst=true)(h:St C n (put fr dst v) own G (dh P ops Q r)):St C n fr own G (dh P ops Q (⟨dst,op,ty',pos,af,none⟩::r)):=rp hy J hd h
def sc{op:Op}(hc:Ch P C n fr own G ⟨dst,op,ty',pos,af,none⟩ (dh P ops Q r)):St C n fr own G (dh P ops Q (⟨dst,op,ty',pos,af,none⟩::r)):=WA J hc
end
def Fn.of_calls{P:Program}{f:FuncId}{vs:List Value}{G:Gh}{v:Value}(ha:ui P f)(h: ∀w,Calls P f ⟨vs⟩ w fun e w'=>e= .returned v/\w'=w):Fn P f vs G (fun u _=>u=v):=
 ⟨ha,fun w hw=>(h w).mono fun e w' ⟨he,hww⟩=>⟨v,G,he,by
  subst hww;exact⟨J,J,J,aN _,fun _ _ _=>J,hw,bD.refl _,fun _ _=>J,fun o ho=>(by cases ho), .nil,aN _,fun p hp=>by cases hp⟩,J⟩⟩
end Go.Sx
end
section
namespace Go.Sx
open Go Go.Proofs Tryz
instance:ip prog 3:=⟨fun _=>by kernel_rfl,fun _=>by kernel_rfl⟩
instance:gh prog 3 (.int .i64 0):=⟨by kernel_rfl⟩
instance:mC prog 3 .i64:=⟨fun _=>by kernel_rfl⟩
instance:ip prog 4:=⟨fun _=>by kernel_rfl,fun _=>by kernel_rfl⟩
instance:gh prog 4 (.bool false):=⟨by kernel_rfl⟩
instance:ip prog 23:=⟨fun _=>by kernel_rfl,fun _=>by kernel_rfl⟩
instance:cx prog 23 182 8 112:=⟨by kernel_rfl,by kernel_rfl⟩
instance:jz prog 23:=⟨182,by kernel_rfl⟩
instance:kw prog 25 2:=⟨fun _=>by kernel_rfl,fun _=>by kernel_rfl⟩
instance:gh prog 25 (.agg ⟨[.int .i64 0, .slice none 0 0]⟩):=⟨by kernel_rfl⟩
instance:ll prog 25 0 0:=⟨fun _ _ _=>by kernel_rfl⟩
instance:ll prog 25 1 1:=⟨fun _ _ _=>by kernel_rfl⟩
instance:cx prog 32 215 1 4:=⟨by kernel_rfl,by kernel_rfl⟩
instance:jz prog 32:=⟨215,by kernel_rfl⟩
instance:cx prog 102 201 17 128:=⟨by kernel_rfl,by kernel_rfl⟩
instance:jz prog 102:=⟨201,by kernel_rfl⟩
instance:cx prog 103 201 17 128:=⟨by kernel_rfl,by kernel_rfl⟩
instance:ip prog 104:=⟨fun _=>by kernel_rfl,fun _=>by kernel_rfl⟩
instance:gh prog 104 (.pointer none):=⟨by kernel_rfl⟩
instance:kw prog 108 9:=⟨fun _=>by kernel_rfl,fun _=>by kernel_rfl⟩
instance:gh prog 108 (.agg ⟨[.int .i64 0, .int .i64 0, .pointer none, .int .i64 0, .int .i64 0, .pointer none, .int .i64 0, .int .i64 0, .pointer none]⟩):=⟨by kernel_rfl⟩
instance:ll prog 110 0 0:=⟨fun _ _ _=>by kernel_rfl⟩
instance:ll prog 110 1 9:=⟨fun _ _ _=>by kernel_rfl⟩
instance:ll prog 110 2 10:=⟨fun _ _ _=>by kernel_rfl⟩
instance:ll prog 110 3 11:=⟨fun _ _ _=>by kernel_rfl⟩
instance:kw prog 179 6:=⟨fun _=>by kernel_rfl,fun _=>by kernel_rfl⟩
instance:kw prog 182 8:=⟨fun _=>by kernel_rfl,fun _=>by kernel_rfl⟩
instance:gh prog 182 (.agg ⟨[.bool false, .slice none 0 0, .bool false, .slice none 0 0, .bool false, .slice none 0 0, .int .i64 0, .int .i64 0]⟩):=⟨by kernel_rfl⟩
instance:ll prog 182 0 0:=⟨fun _ _ _=>by kernel_rfl⟩
instance:ll prog 182 1 6:=⟨fun _ _ _=>by kernel_rfl⟩
instance:ll prog 182 2 7:=⟨fun _ _ _=>by kernel_rfl⟩
instance:Bs prog 182 [(0,6),(6,1),(7,1)]:=⟨_,fun _=>J2 underlying182 _,fun _=>by kernel_rfl⟩
instance:mC prog 214 .u64:=⟨fun _=>by kernel_rfl⟩
instance:ip prog 215:=⟨fun _=>by kernel_rfl,fun _=>by kernel_rfl⟩
instance:gh prog 215 (.int .u32 0):=⟨by kernel_rfl⟩
instance:mC prog 215 .u32:=⟨fun _=>by kernel_rfl⟩
instance:mC prog 216 .u64:=⟨fun _=>by kernel_rfl⟩
instance:ip prog 233:=⟨fun _=>by kernel_rfl,fun _=>by kernel_rfl⟩
instance:cx prog 233 4 1 1:=⟨by kernel_rfl,by kernel_rfl⟩
instance:gh prog 235 (.agg ⟨[.slice none 0 0, .slice none 0 0, .int .i64 0, .bool false]⟩):=⟨by kernel_rfl⟩
instance:ll prog 235 0 0:=⟨fun _ _ _=>by kernel_rfl⟩
instance:ll prog 235 1 1:=⟨fun _ _ _=>by kernel_rfl⟩
instance:ll prog 235 2 2:=⟨fun _ _ _=>by kernel_rfl⟩
instance:ll prog 235 3 3:=⟨fun _ _ _=>by kernel_rfl⟩
instance:Bs prog 235 [(0,1),(1,1),(2,1),(3,1)]:=⟨_,fun _=>J2 underlying235 _,fun _=>by kernel_rfl⟩
instance:ip prog 237:=⟨fun _=>by kernel_rfl,fun _=>by kernel_rfl⟩
instance:gh prog 237 (.nilFunc):=⟨by kernel_rfl⟩
instance:cx prog 383 104 1 8:=⟨by kernel_rfl,by kernel_rfl⟩
instance:jz prog 383:=⟨104,by kernel_rfl⟩
def follows:prog.follows .mixedOrders=true:=by kernel_rfl
end Go.Sx
end
section
namespace Go.Sx
def dv:List Nat->Nat
 |[]=>0
 |d::t=>d+4294967296*dv t
def bp(ds:List Nat):Prop:= ∀d∈ds,d<4294967296
def d4(ds:List Nat):Prop:=ds.getLast? ≠some 0
instance (ds:List Nat):Decidable (d4 ds):=inferInstanceAs (Decidable (ds.getLast? ≠some 0))
def bp.nil:bp []:=fun _ h=>by cases h
def bp.cons{d:Nat}{ds:List Nat}(h:d<4294967296)(k:bp ds):bp (d::ds):=fun x hx=>by
 rcases aY.1 hx with rfl|h'
 ·exact h
 ·exact k _ h'
def bp.head{d:Nat}{ds:List Nat}(h:bp (d::ds)):d<4294967296:=h d aQ
def bp.tail{d:Nat}{ds:List Nat}(h:bp (d::ds)):bp ds:=fun x hx=>h x (aJ _ hx)
def bp.append{a b:List Nat}(h:bp a)(k:bp b):bp (a++b):=fun x hx=>by
 rcases bW.1 hx with h'|h'
 ·exact h _ h'
 ·exact k _ h'
def bp.take{a:List Nat}(h:bp a)(n:Nat):bp (a.take n):=fun x hx=>h x (fK hx)
def bp.drop{a:List Nat}(h:bp a)(n:Nat):bp (a.drop n):=fun x hx=>h x (gT hx)
def bp.get{a:List Nat}(h:bp a)(i:Nat):a.getD i 0<4294967296:=by
 rw[aX]
 cases hi:a[i]? with
 |none=>simp
 |some d=>exact h d (aL hi)
def bp.set{a:List Nat}(h:bp a)(i:Nat){d:Nat}(hd:d<4294967296):bp (a.set i d):=fun x hx=>by
 rcases List.mem_or_eq_of_mem_set hx with h'|rfl
 ·exact h _ h'
 ·exact hd
def bp.replicate(n:Nat):bp (List.replicate n 0):=fun x hx=>by
 rw[List.eq_of_mem_replicate hx];omega
def yE(a b:List Nat):dv (a++b)=dv a+4294967296^a.length*dv b:=by
 induction a with
 |nil=>simp[dv]
 |cons d t ih=>
  simp only[iV,dv,ih,bZ,fV];rw[dK,<-jN,<-cX,cZ 4294967296 (4294967296^t.length)]
def jx{ds:List Nat}(h:bp ds):dv ds<4294967296^ds.length:=by
 induction ds with
 |nil=>simp[dv]
 |cons d t ih=>
  have h1:=h.head;have h2:=ih h.tail;simp only[dv,bZ,fV];omega
def xD(n:Nat):dv (List.replicate n 0)=0:=by
 induction n with
 |zero=>rfl
 |succ n ih=>simp[mV,dv,ih]
def jg(ds:List Nat)(i:Nat):dv (ds.take (i+1))=dv (ds.take i)+4294967296^i*ds.getD i 0:=by
 by_cases h:i<ds.length
 ·rw[fS h,yE]
  simp[dv,iY (lL h),aX,h]
 ·have:ds.getD i 0=0:=by rw[aX,dX (by omega)];rfl
  rw[this,aT (by omega),aT (by omega)];simp
def Cl(ds:List Nat)(i:Nat)(h:i<=ds.length):dv ds=dv (ds.take i)+4294967296^i*dv (ds.drop i):=by
 have:=yE (ds.take i) (ds.drop i);rw[jL] at this;rw[this];simp[iY h]
def trimD:List Nat->List Nat
 |[]=>[]
 |d::t=>match trimD t with
  |[]=>if d=0 then [] else [d]
  |t'=>d::t'
def wT(d:Nat)(t:List Nat):trimD (d::t)=if trimD t=[]/\d=0 then [] else d::trimD t:=by
 simp only[trimD]
 cases h:trimD t with
 |nil=>by_cases hd:d=0<;>simp[hd]
 |cons a b=>simp
def kh(ds:List Nat):dv (trimD ds)=dv ds:=by
 induction ds with
 |nil=>rfl
 |cons d t ih=>
  rw[wT];split
  ·rename_i h
   rw[h.1] at ih;simp[dv,<-ih,h.2]
  ·simp[dv,ih]
def Nc(ds:List Nat):trimD (ds++[0])=trimD ds:=by
 induction ds with
 |nil=>rfl
 |cons d t ih=>rw[iV,wT,wT,ih]
def HG{ds:List Nat}{d:Nat}(h:d≠0):trimD (ds++[d])=ds++[d]:=by
 induction ds with
 |nil=>simp[trimD,h]
 |cons e t ih=>rw[iV,wT,ih];simp
def d4.trimD(ds:List Nat):d4 (trimD ds):=by
 induction ds with
 |nil=>simp[d4,Sx.trimD]
 |cons d t ih=>
  rw[wT];split
  ·simp[d4]
  ·rename_i h
   unfold d4 at*;rw[List.getLast?_cons]
   cases ht:(Sx.trimD t).getLast? with
   |none=>
    have:Sx.trimD t=[]:=by simpa using ht
    simp only[Option.getD_none,ne_eq,Option.some.injEq];exact fun hd=>h ⟨this,hd⟩
   |some x=>rw[ht] at ih;simpa using ih
def nv(ds:List Nat):(trimD ds).length<=ds.length:=by
 induction ds with
 |nil=>simp[trimD]
 |cons d t ih=>
  rw[wT];split
  ·simp
  ·simp;omega
def O7(ds:List Nat):trimD ds=ds.take (trimD ds).length:=by
 induction ds with
 |nil=>rfl
 |cons d t ih=>
  rw[wT];split
  ·rfl
  ·simp only[bZ,lK];rw[<-ih]
def bp.trimD{ds:List Nat}(h:bp ds):bp (trimD ds):=by rw[O7];exact h.take _
def Rd{ds:List Nat}(h:d4 ds):trimD ds=ds:=by
 rcases nZ ds with rfl|⟨l,d,rfl⟩
 ·rfl
 ·rw[nX] at*
  exact HG (fun e=>by subst e;simp[d4] at h)
def r4{ds:List Nat}(h:d4 ds)(hne:ds≠[]):4294967296^(ds.length-1)<=dv ds:=by
 rcases nZ ds with rfl|⟨l,d,rfl⟩
 ·exact absurd J hne
 ·rw[nX] at*
  have hd:d≠0:=fun e=>by subst e;simp[d4] at h
  rw[yE];simp only[aV,bZ,fX,dv];have:4294967296^(l.length+(0+1)-1)=4294967296^l.length:=by congr 1
  rw[this];have h1:4294967296^l.length*1<=4294967296^l.length*(d+4294967296*0):=dS _ (by omega);omega
def Vu{ds:List Nat}(h:d4 ds):dv ds=0↔ds=[]:=by
 constructor
 ·intro h0
  by_cases hne:ds=[]
  ·exact hne
  ·have:=r4 h hne
   have hp:0<4294967296^(ds.length-1):=fZ (by omega);omega
 ·rintro rfl;rfl
def tE{a b:List Nat}(ha:bp a)(hb:d4 b)(h:a.length<b.length):dv a<dv b:=by
 have h1:=jx ha;have h2:=r4 hb (fun e=>by subst e;simp at h);have h3:4294967296^a.length<=4294967296^(b.length-1):=bY (by omega) (by omega);omega
def OG: ∀{a b:List Nat},bp a->bp b->a.length=b.length->dv a=dv b->a=b
 |[],[],_,_,_,_=>rfl
 |d::t,e::u,ha,hb,hl,h=>by
  have h1:=ha.head;have h2:=hb.head;simp only[dv] at h;have:d=e:=by omega
  subst this;rw[OG ha.tail hb.tail (by simpa using hl) (by omega)]
def Zu{a b:List Nat}(ha:bp a)(hb:bp b)(na:d4 a)(nb:d4 b)(h:dv a=dv b):a=b:=by
 refine OG ha hb ?_ h;rcases rY a.length b.length with h'|h'|h'
 ·have:=tE ha nb h';omega
 ·exact h'
 ·have:=tE hb na h';omega
def Db{a b:List Nat}(ha:bp a)(hb:bp b)(i:Nat)(hia:i<a.length)(hib:i<b.length)(hl:a.length=b.length)(hs:a.drop (i+1)=b.drop (i+1))(h:a.getD i 0<b.getD i 0):dv a<dv b:=by
 rw[Cl a (i+1) (by omega),Cl b (i+1) (by omega),hs,jg,jg];have h1:=jx (ha.take i);rw[cR,iY (by omega)] at h1;have h2:4294967296^i*(a.getD i 0+1)<=4294967296^i*b.getD i 0:=dS _ h;rw[dK] at h2;omega
def RT{ds:List Nat}{k:Nat}(h:d4 ds)(hk:dv ds<2^k):32*ds.length<=k+31:=by
 by_cases hne:ds=[]
 ·subst hne;simp
 ·have h1:=r4 h hne
  have h2:(4294967296:Nat)^(ds.length-1)=2^(32*(ds.length-1)):=by
   rw[pT]
  rw[h2] at h1;have h3:2^(32*(ds.length-1))<2^k:=fJ h1 hk;have h4:=(nS (by omega:1<2)).1 h3;have:0<ds.length:=by cases ds with|nil=>exact absurd J hne|cons _ _=>simp
  omega
def dg(x:Nat):List Nat:=if h:x=0 then [] else(x%4294967296)::dg (x/4294967296)
termination_by x
decreasing_by omega
def eo(x:Nat):dv (dg x)=x/\bp (dg x)/\d4 (dg x):=by
 induction x using Nat.strongRecOn with
 |_ x ih=>
  unfold dg;split
  ·rename_i h;subst h;exact⟨rfl, .nil,by simp[d4]⟩
  ·rename_i h
   obtain⟨h1,h2,h3⟩:=ih (x/4294967296) (by omega);refine⟨by rw[dv,h1];omega, .cons (by omega) h2,?_⟩;unfold d4 at*;rw[List.getLast?_cons]
   cases hl:(dg (x/4294967296)).getLast? with
   |none=>
    have:dg (x/4294967296)=[]:=by simpa using hl
    rw[this] at h1;simp only[Option.getD_none,ne_eq,Option.some.injEq];simp only[dv] at h1;omega
   |some y=>rw[hl] at h3;simpa using h3
def xY{ds:List Nat}(h:bp ds)(n:d4 ds):dg (dv ds)=ds:=Zu (eo _).2.1 h (eo _).2.2 n (eo _).1
def pf{ds:List Nat}(h:bp ds):dg (dv ds)=trimD ds:=by rw[<-kh];exact xY h.trimD (d4.trimD _)
def qA: ∀(ws:List Nat) (j d:Nat),j<ws.length->dv (ws.set j d)+4294967296^j*ws.getD j 0=dv ws+4294967296^j*d
 |[],j,d,h=>by simp at h
 |w::t,0,d,h=>by simp[dv];omega
 |w::t,j+1,d,h=>by
  have ih:=qA t j d (by simpa using h);simp only[List.set_cons_succ,dv,lV,fV];have h1:4294967296^j*4294967296*t.getD j 0=4294967296*(4294967296^j*t.getD j 0):=by rw[cZ (4294967296^j),cX]
  have h2:4294967296^j*4294967296*d=4294967296*(4294967296^j*d):=by rw[cZ (4294967296^j),cX]
  rw[h1,h2];omega
def qf{ws:List Nat}{k d:Nat}(h:k<ws.length):dv ((ws.set k d).take (k+1))=dv (ws.take k)+4294967296^k*d:=by
 rw[fS (by simpa using h),List.take_set_of_le (aN _),yE];simp[dv,iY (lL h)]
def Fh(p x:Nat):p*x=p*(x%4294967296)+p*4294967296*(x/4294967296):=by
 have h:p*x=p*(4294967296*(x/4294967296)+x%4294967296):=by rw[qL]
 rw[dK,<-cX] at h;omega
def MO{p A E W c a b:Nat}(h:W+p*c=A+E):(W+p*((c+a+b)%4294967296))+(p*4294967296)*((c+a+b)/4294967296)=(A+p*a)+(E+p*b):=by
 have h1:=Fh p (c+a+b);rw[dK,dK] at h1;omega
def QT{p A E W bo b a:Nat}(h:W+E=A+p*bo)(hle:bo+b<=a):(W+p*(a-(bo+b)))+(E+p*b)=(A+p*a)+p*4294967296*0:=by
 have h1:p*a=p*(a-(bo+b))+p*bo+p*b:=by
  rw[<-dK,<-dK];congr 1;omega
 omega
def Qc{p A E W bo b a:Nat}(h:W+E=A+p*bo)(hle:a<bo+b)(hb:bo+b<=a+4294967296):(W+p*(a+4294967296-(bo+b)))+(E+p*b)=(A+p*a)+p*4294967296*1:=by
 have h1:p*a+p*4294967296=p*(a+4294967296-(bo+b))+p*bo+p*b:=by
  rw[<-dK,<-dK,<-dK];congr 1;omega
 omega
def KK{p W W' T c m w:Nat}(hs:W'+p*w=W+p*((c+m+w)%4294967296))(h:W+p*c=T):W'+(p*4294967296)*((c+m+w)/4294967296)=T+p*m:=by
 have h1:=Fh p (c+m+w);rw[dK,dK] at h1;omega
end Go.Sx
end
section
namespace Go.Sx
open Go
structure SV where
 a:Option Addr
 n:Nat
 c:Nat
def SV.v(x:SV):Value:= .slice x.a x.n x.c
structure d8 (G:Gh) (s:Nat) (x:SV) (es:List Value):Prop where
 len:x.n=es.length
 cap:x.n<=x.c
 mem:es=[]\/ ∃b off cs,x.a=some ⟨b,off,none⟩/\G b=some cs/\ ∀i (h:i<es.length),cD cs (off+i*s) s=some (aA es[i])
def d8.up'{A G:Gh}{s:Nat}{x:SV}{es:List Value}(h:d8 A s x es)(k:bD A G):d8 G s x es:=
 ⟨h.len,h.cap,h.mem.imp id (fun⟨b,off,cs,h1,h2,h3⟩=>⟨b,off,cs,h1,k _ _ h2,h3⟩)⟩
def d8.up{A G:Gh}{s:Nat}{x:SV}{es:List Value}(h:d8 A s x es)[k:GL A G]:d8 G s x es:=h.up' k.le
def d8.nil(G:Gh)(s:Nat):d8 G s ⟨none,0,0⟩ []:=⟨J,aN _, .inl J⟩
def d8.take{G:Gh}{s:Nat}{x:SV}{es:List Value}(h:d8 G s x es)(k:Nat)(hk:k<=es.length):d8 G s ⟨x.a,k,x.c⟩ (es.take k):=by
 refine⟨by simp[hk],by show k<=x.c;have:=h.len;have:=h.cap;omega,?_⟩;rcases h.mem with h0|⟨b,off,cs,h1,h2,h3⟩
 ·left;simp[h0]
 ·right;exact⟨b,off,cs,h1,h2,fun i hi=>by
   simp only[cR] at hi;rw[h3 i (by omega)];simp⟩
def uJ(a:Option Addr)(k:Nat):Option Addr:=a.map (·.add k)
section
variable {P:Program} {C:az} {n:Nat} {fr:Fr} {own own':List ak} {G:Gh} {Φ:Act->World->Prop}
variable {dst:Option Nat} {t t' ty':TypeId} {pos:String} {af:Array Edge} {gd:Option (Nat×Bool)} {x y:Operand} {e s by_:Nat}
def EL{A:Gh}[hT:cx P t e s by_]{k:IntKind}{z:SV}{es:List Value}{i:Int}(hs:d8 A s z es)(hx:ax fr x=some (.slice z.a z.n z.c))(hy:ax fr y=some (.int k i))(h0:0<=i)(h1:i<z.n):
  Yd P C fr own G ⟨dst, .indexAddr t x y,ty',pos,af,gd⟩ (.pointer (uJ z.a (i.toNat*s))):=by
 rcases hs.mem with h|⟨b,off,cs,ha,hg,hc⟩
 ·have:=hs.len;rw[h] at this;simp at this;omega
 ·rw[ha] at hx
  have:=Ee (P:=P) (C:=C) (own:=own) (G:=G) (t:=t) (dst:=dst) (ty':=ty') (pos:=pos) (af:=af) (gd:=gd) (by_:=by_) hx hy h0 h1;rw[ha];simpa[uJ,q9] using this
def PD{A:Gh}[hA:kw P t s]{z:SV}{es:List Value}{i:Nat}{l:List Value}(hs:d8 A s z es)[hl:GL A G](hx:ax fr x=some (.pointer (uJ z.a (i*s))))(h1:i<es.length)(he:es[i]? =some (.agg ⟨l⟩)):
  Yd P C fr own G ⟨dst, .load t x,ty',pos,af,gd⟩ (.agg ⟨l⟩):=by
 rcases hs.mem with h|⟨b,off,cs,ha,hg,hc⟩
 ·rw[h] at h1;simp at h1
 ·rw[ha] at hx
  have h2:=hc i h1;rw[aZ h1] at he;have he':es[i]= .agg ⟨l⟩:=by simpa using he
  rw[he'] at h2;exact EP (by simpa[uJ,q9] using hx) (hl.le _ _ hg) h2
def Yz{A:Gh}[hA:ip P t]{z:SV}{es:List Value}{i:Nat}{v:Value}(hs:d8 A 1 z es)[hl:GL A G](hx:ax fr x=some (.pointer (uJ z.a (i*1))))(he:es[i]? =some v)(hv:flat v=true):
  Yd P C fr own G ⟨dst, .load t x,ty',pos,af,gd⟩ v:=by
 obtain⟨h1,he'⟩:=aS.1 he;rcases hs.mem with h|⟨b,off,cs,ha,hg,hc⟩
 ·rw[h] at h1;simp at h1
 ·rw[ha] at hx
  have h2:=hc i h1;rw[he'] at h2;have hcv:aA v=[v]:=by cases v<;>first|rfl|(simp[flat] at hv)
  rw[hcv] at h2;obtain⟨_,h3⟩:=pC _ _ _ _ h2;have h4:=h3 0 (by omega);exact uK (off:=off+i*1) (by simpa[uJ,q9] using hx) (hl.le _ _ hg) (by simpa using h4)
end
def dI(d:Nat):Value:= .int .u32 (d:Int)
structure cj (G:Gh) (x:SV) (ds:List Nat):Prop where
 ok:bp ds
 sl:d8 G 1 x (ds.map dI)
def cj.len{G:Gh}{x:SV}{ds:List Nat}(h:cj G x ds):x.n=ds.length:=by simpa using h.sl.len
def cj.up{A G:Gh}{x:SV}{ds:List Nat}(h:cj A x ds)[k:GL A G]:cj G x ds:=⟨h.ok,h.sl.up⟩
def cj.nil(G:Gh):cj G ⟨none,0,0⟩ []:=⟨.nil, .nil G 1⟩
def cj.take{G:Gh}{x:SV}{ds:List Nat}(h:cj G x ds)(k:Nat)(hk:k<=ds.length):cj G ⟨x.a,k,x.c⟩ (ds.take k):=
 ⟨h.ok.take k,by rw[gN];exact h.sl.take k (by simpa using hk)⟩
def cj.trim{G:Gh}{x:SV}{ds:List Nat}(h:cj G x ds):cj G ⟨x.a,(trimD ds).length,x.c⟩ (trimD ds):=by
 have:=h.take _ (nv ds);rwa [<-O7] at this
def cj.of_block{G:Gh}{b c k:Nat}{cs:List Value}{ds:List Nat}(ok:bp ds)(hg:G b=some cs)(hk:k=ds.length)(hc:k<=c)(hcs:cs.take ds.length=ds.map dI):cj G ⟨some ⟨b,0,none⟩,k,c⟩ ds:=by
 refine⟨ok,by simpa using hk,hc, .inr ⟨b,0,cs,J,hg,fun i hi=>?_⟩⟩;have hi':i<ds.length:=by simpa using hi
 have hl:ds.length<=cs.length:=by
  have:=congrArg List.length hcs;simp at this;omega
 rw[ml _ _ _ (by omega)];congr 1;have h1:(cs.take ds.length)[i]? =(ds.map dI)[i]? :=by rw[hcs]
 rw[oT,if_pos hi',cV,aZ hi',aZ (by omega)] at h1;have h2:cs[i]=dI ds[i]:=by simpa using h1
 rw[dT,iX,bX (by omega),lK,pR,h2,oQ];rfl
structure fP (k:Nat) (G:Gh) (x:SV) (v:Nat):Prop where
 d:cj G x (dg v)
 lt:v<2^k
def fP.up{k:Nat}{A G:Gh}{x:SV}{v:Nat}(h:fP k A x v)[GL A G]:fP k G x v:=⟨h.d.up,h.lt⟩
def fP.len{k:Nat}{G:Gh}{x:SV}{v:Nat}(h:fP k G x v):x.n=(dg v).length:=h.d.len
def fP.mono{k k':Nat}{G:Gh}{x:SV}{v:Nat}(h:fP k G x v)(hk:v<2^k'):fP k' G x v:=⟨h.d,hk⟩
section
variable {P:Program} {C:az} {n:Nat} {fr:Fr} {own own':List ak} {G:Gh} {Φ:Act->World->Prop}
variable {dst:Option Nat} {t t' ty':TypeId} {pos:String} {af:Array Edge} {gd:Option (Nat×Bool)} {x y:Operand} {e s by_:Nat}
def iB{A:Gh}[hT:cx P t e 1 by_]{k:IntKind}{z:SV}{ds:List Nat}{i:Int}(hs:cj A z ds)(hx:ax fr x=some (.slice z.a z.n z.c))(hy:ax fr y=some (.int k i))(h0:0<=i)(h1:i<z.n):
  Yd P C fr own G ⟨dst, .indexAddr t x y,ty',pos,af,gd⟩ (.pointer (uJ z.a (i.toNat*1))):=EL hs.sl hx hy h0 h1
def ir{A:Gh}[hA:ip P t]{z:SV}{ds:List Nat}{i:Nat}(hs:cj A z ds)[hl:GL A G](hx:ax fr x=some (.pointer (uJ z.a (i*1))))(h1:i<ds.length):
  Yd P C fr own G ⟨dst, .load t x,ty',pos,af,gd⟩ (.int .u32 ((ds.getD i 0:Nat):Int)):=
 Yz hs.sl hx (by rw[cV,aZ h1,aX,aZ h1];rfl) J
def Rq{A:Gh}{z:SV}{ds:List Nat}(h:cj A z ds)[hl:GL A G]:mP P C own G 1 z.n (.slice z.a z.n z.c) (ds.map dI):=by
 intro w hw;by_cases hne:ds=[]
 ·rw[h.len]
  subst hne;exact u7 w hw
 rcases h.sl.mem with h0|⟨b,off,cs,ha,hg,hc⟩
 ·exact absurd (by simpa using h0) hne
 ·rw[ha]
  have hn:=h.len;refine Nt (hl.le _ _ hg) ?_ w hw;rw[iX];have hel: ∀i,i<ds.length->cs[off+i]? =some (dI (ds.getD i 0)):=fun i hi=>by
   have h1:=hc i (by simpa using hi);obtain⟨_,h2⟩:=pC _ _ _ _ h1;have h3:=h2 0 (by omega);rw[iX,eY] at h3;rw[h3,oQ,aX,aZ hi];rfl
  by_cases h00:ds.length=0
  ·exact absurd h00 (fun e=>hne (bS e))
  ·have hlast:=hel (ds.length-1) (by omega)
   have hle:off+ds.length<=cs.length:=by
    have:=(aS.1 hlast).1;omega
   rw[hn,ml _ _ _ hle];congr 1;apply lZ;intro i;rw[oT];split
   ·rename_i hi
    rw[mL,hel i hi,cV,aX,aZ hi];rfl
   ·rename_i hi
    rw[dX (by simpa using hi)]
def vo(n:Nat):de (.int .u32 0) n=(List.replicate n 0).map dI:=by
 unfold de
 induction n with
 |zero=>rfl
 |succ n ih=>rw[mV,pW,ih];rfl
def fq[hT:cx P t e s by_]{k:IntKind}{b len cap:Nat}{i:Int}(hx:ax fr x=some (.slice (some ⟨b,0,none⟩) len cap))(hy:ax fr y=some (.int k i))(h0:0<=i)(h1:i<len):
  Yd P C fr own G ⟨dst, .indexAddr t x y,ty',pos,af,gd⟩ (.pointer (some ⟨b,i.toNat*s,none⟩)):=by
 have:=Ee (P:=P) (C:=C) (own:=own) (G:=G) (t:=t) (dst:=dst) (ty':=ty') (pos:=pos) (af:=af) (gd:=gd) (by_:=by_) hx hy h0 h1;rwa [dT] at this
def rO[hA:ip P t]{b i:Nat}{ws:List Nat}{ty:TypeId}{lo:Bool}(hx:ax fr x=some (.pointer (some ⟨b,i*1,none⟩)))[ho:im own b (ws.map dI) ty lo](h1:i<ws.length):
  Yd P C fr own G ⟨dst, .load t x,ty',pos,af,gd⟩ (.int .u32 ((ws.getD i 0:Nat):Int)):=by
 rw[iX] at hx;refine lA hx ?_;rw[cV,aZ h1,aX,aZ h1];rfl
def mc{b i d:Nat}{ws:List Nat}{ty:TypeId}{lo:Bool}{v:Int}[hs:ip P t](hx:ax fr x=some (.pointer (some ⟨b,i*1,none⟩)))(hy:ax fr y=some (.int .u32 v))(hv:v=(d:Int))
  (hu:f8 own b (ws.map dI) ty lo ((ws.set i d).map dI) own')(hi:i<ws.length)(hd:b9 n dst=true)(h:St C n (put fr dst undef) own' G Φ):
  Ch P C n fr own G ⟨dst, .store t x y,ty',pos,af,gd⟩ Φ:=by
 rw[iX] at hx;have hu':f8 own b (ws.map dI) ty lo ((ws.map dI).set i (.int .u32 v)) own':=by
  rw[hv,<-show dI d= .int .u32 (d:Int) from J,<-kU];exact hu
 exact sO hx hy hu' (by simpa using hi) J hd h
def dC{p q:Int}(hx:ax fr x=some (.int .i64 p))(hy:ax fr y=some (.int .i64 q))(h0: -9223372036854775808<=p+q:=by omega)(h1:p+q<=9223372036854775807:=by omega):Yd P C fr own G ⟨dst, .binOp .add t x y t',ty',pos,af,gd⟩ (.int .i64 (p+q)):=If hx hy ⟨h0,h1⟩
def jD{p q:Int}(hx:ax fr x=some (.int .i64 p))(hy:ax fr y=some (.int .i64 q))(h0: -9223372036854775808<=p-q:=by omega)(h1:p-q<=9223372036854775807:=by omega):Yd P C fr own G ⟨dst, .binOp .sub t x y t',ty',pos,af,gd⟩ (.int .i64 (p-q)):=Io hx hy ⟨h0,h1⟩
def ML{p q:Int}(hx:ax fr x=some (.int .i64 p))(hy:ax fr y=some (.int .i64 q))(h0: -9223372036854775808<=p*q)(h1:p*q<=9223372036854775807):Yd P C fr own G ⟨dst, .binOp .mul t x y t',ty',pos,af,gd⟩ (.int .i64 (p*q)):=H5 hx hy ⟨h0,h1⟩
def rj{p q:Int}(hx:ax fr x=some (.int .u64 p))(hy:ax fr y=some (.int .u64 q))(h0:0<=p+q:=by omega)(h1:p+q<=18446744073709551615:=by omega):Yd P C fr own G ⟨dst, .binOp .add t x y t',ty',pos,af,gd⟩ (.int .u64 (p+q)):=If hx hy ⟨h0,h1⟩
def N0{p q:Int}(hx:ax fr x=some (.int .u64 p))(hy:ax fr y=some (.int .u64 q))(h0:0<=p-q)(h1:p-q<=18446744073709551615):Yd P C fr own G ⟨dst, .binOp .sub t x y t',ty',pos,af,gd⟩ (.int .u64 (p-q)):=Io hx hy ⟨h0,h1⟩
def ED{p q:Int}(hx:ax fr x=some (.int .u64 p))(hy:ax fr y=some (.int .u64 q))(h0:0<=p*q)(h1:p*q<=18446744073709551615):Yd P C fr own G ⟨dst, .binOp .mul t x y t',ty',pos,af,gd⟩ (.int .u64 (p*q)):=H5 hx hy ⟨h0,h1⟩
def my{k k':IntKind}{p q:Int}(hx:ax fr x=some (.int k p))(hy:ax fr y=some (.int k' q))(h0:0<=q):Yd P C fr own G ⟨dst, .binOp .shr t x y t',ty',pos,af,gd⟩ (.int k (p.fdiv (2^min q.toNat k.bits))):=by
 intro a w hf hh;simp only[execOp,bh hf hx,bh hf hy];have h1:(eqGuard .shr t x y (.int k p) (.int k' q)).run P w= .ok () w:=J;have h2:(binOp .shr t (.int k p) (.int k' q)).run P w= .ok (.int k (p.fdiv (2^min q.toNat k.bits))) w:=by
  simp[binOp,Op.shift,Int.not_lt.2 h0,run_pure]
 exact cG (by rw[aF h1];exact h2)
def vY{k k':IntKind}{p q:Int}(hx:ax fr x=some (.int k p))(hy:ax fr y=some (.int k' q))(h0:0<=q):Yd P C fr own G ⟨dst, .binOp .shl t x y t',ty',pos,af,gd⟩ (.int k (k.wrap (p*2^min q.toNat k.bits))):=by
 intro a w hf hh;simp only[execOp,bh hf hx,bh hf hy];have h1:(eqGuard .shl t x y (.int k p) (.int k' q)).run P w= .ok () w:=J;have h2:(binOp .shl t (.int k p) (.int k' q)).run P w= .ok (.int k (k.wrap (p*2^min q.toNat k.bits))) w:=by
  simp[binOp,Op.shift,Int.not_lt.2 h0,run_pure]
 exact cG (by rw[aF h1];exact h2)
def gA{k:IntKind}{p:Int}[hs:mC P t k][hd:mC P t' .u64](hx:ax fr x=some (.int k p))(h0:0<=p:=by omega)(h1:p<=18446744073709551615:=by omega):Yd P C fr own G ⟨dst, .convert t t' x,ty',pos,af,gd⟩ (.int .u64 p):=Iy hx ⟨h0,h1⟩
def J3{k:IntKind}{p:Int}[hs:mC P t k][hd:mC P t' .i64](hx:ax fr x=some (.int k p))(h0: -9223372036854775808<=p:=by omega)(h1:p<=9223372036854775807:=by omega):Yd P C fr own G ⟨dst, .convert t t' x,ty',pos,af,gd⟩ (.int .i64 p):=Iy hx ⟨h0,h1⟩
def qz(p:Int):IntKind.u32.wrap p=p%4294967296:=by simp[IntKind.wrap,IntKind.bits,IntKind.signed]
def nE(p:Int):IntKind.u64.wrap p=p%18446744073709551616:=by simp[IntKind.wrap,IntKind.bits,IntKind.signed]
def ld{k:IntKind}{p:Int}[hs:mC P t k][hd:mC P t' .u32](hx:ax fr x=some (.int k p)):Yd P C fr own G ⟨dst, .convert t t' x,ty',pos,af,gd⟩ (.int .u32 (p%4294967296)):=by
 have:=Bn (P:=P) (C:=C) (own:=own) (G:=G) (dst:=dst) (ty':=ty') (pos:=pos) (af:=af) (gd:=gd) (t:=t) (t':=t') hx;rwa [qz] at this
def yI{k:IntKind}{p q:Int}(hx:ax fr x=some (.int k p))(hy:ax fr y=some (.int k q))(h0:0<=p)(h:q≠0):Yd P C fr own G ⟨dst, .binOp .rem t x y t',ty',pos,af,gd⟩ (.int k (p%q)):=by
 have:=LM (P:=P) (C:=C) (own:=own) (G:=G) (dst:=dst) (ty':=ty') (pos:=pos) (af:=af) (gd:=gd) (t:=t) (t':=t') hx hy h;rwa [Int.tmod_eq_emod_of_nonneg h0] at this
def yo{p q:Int}(hx:ax fr x=some (.int .u64 p))(hy:ax fr y=some (.int .u64 q))(h0:0<=p)(h1:p<=18446744073709551615)(h:0<q):Yd P C fr own G ⟨dst, .binOp .quo t x y t',ty',pos,af,gd⟩ (.int .u64 (p/q)):=by
 have:=LU (P:=P) (C:=C) (own:=own) (G:=G) (dst:=dst) (ty':=ty') (pos:=pos) (af:=af) (gd:=gd) (t:=t) (t':=t') hx hy (by omega);rw[Int.tdiv_eq_ediv_of_nonneg h0,nE,Int.emod_eq_of_lt (Int.ediv_nonneg h0 (by omega)) (by have:=Int.ediv_le_self q h0;omega)] at this;exact this
def ly{Q:Exit->Act->World->Prop}{p:Prop}{inst:Decidable p}{c:Operand}{x y:Code}(hc:ax fr c=some (.bool (@decide p inst)))(h2: ¬p->St C n fr own G (y.wp P Q))(h1:p->St C n fr own G (x.wp P Q)):
  St C n fr own G ((Code.cond c x y).wp P Q):=gm hc h1 h2
end
end Go.Sx
end
section
namespace Go.Sx
open Go Go.Proofs Tryz
def S0{ds:List Nat}{k:Nat}(hk:k<ds.length)(h:trimD ds=trimD (ds.take (k+1)))(h0:ds.getD k 0=0):trimD ds=trimD (ds.take k):=by
 rw[h,fS hk];have:ds[k]=0:=by rw[aX,aZ hk] at h0;simpa using h0
 rw[this,Nc]
def asb{ds:List Nat}{k:Nat}(hk:k<ds.length)(h:trimD ds=trimD (ds.take (k+1)))(h0:ds.getD k 0≠0):trimD ds=ds.take (k+1):=by
 rw[h,fS hk];have:ds[k]≠0:=by rw[aX,aZ hk] at h0;simpa using h0
 exact HG this
def jk{A G:Gh}{x:SV}{ds:List Nat}(hx:cj A x ds)[GL A G](hb:ds.length<=1125899906842624):Fn prog 218 [x.v] G (fun v _=>v= .slice x.a (trimD ds).length x.c):=by
 have hlen:=hx.len;have hcap:=hx.sl.cap;refine Fn.intro func218 J J ntmps218 J ?_;intro C _ _;refine sR<|sa J J<|zE<|bt<|dE<|?_;refine lx (X:=Nat) (fun k=>[(0, .slice x.a k x.c)]) (fun _=>[]) (fun k _=>k<=ds.length/\trimD ds=trimD (ds.take k)) (fun k=>k) ds.length ⟨aN _,by simp⟩ (hlen▸ .cons J .nil) J ?_;rintro k Gx _ ⟨hk,ht⟩;refine bt<|sR<|sm J J<|cE J J<|sy (ru J J) J<|sm J J<|?_;refine oh 6 J (fun hg=>?_) (fun hg=>?_)
 ·have hk1:k-1<ds.length:=by omega
  have hkt:((k:Int)-1).toNat=k-1:=by omega
  have hk2:k=k-1+1:=by omega
  refine bG J J (f6 J) J<|bG J J (f6 J) J<|bG J J (pH J) J<|bG J J (jD J J) J<|?_;refine bG J J (iB (z:=⟨x.a,k,x.c⟩) (hx.take k hk) J J (by omega) (by show _<(k:Int);omega)) J<|bG J J (ir hx J (by omega)) J<|bG J J (iO J J) J<|sy (r8 J J) J<|zE<|?_;rw[hkt];refine ly J (fun hc=>?_) (fun hc=>?_) -- slot 14
  ·refine jm<|d6<|d6<|ji<|sR<|sm J J<|sa J J<|zE<|cH<|?_
   have hs:=asb hk1 (hk2▸ht) (fun e=>hc (by rw[e];rfl));refine zD (.tmp J .nil) ?_;rw[hs,<-hk2];simp[gF,hk]
  refine zK<|dE<|dB<|sm J J<|sm J J<|cE J J<|sy (jD J J) J<|sy (xh J J (by omega) (by omega)) J<|?_;refine sa J J<|zE<|?_;exact jd (k-1) ⟨by omega,S0 hk1 (hk2▸ht) (by omega)⟩ (by omega) (.cons (by rw[<-hkt];rfl) .nil) J
 refine ss J J J J<|ss J J J J<|ss J J J J<|ss J J J J<|ss J J J J<|ss J J J J<|?_;refine ss J J J J<|sy (l8 J J) J<|zE<|td J<|jm<|d6<|d6<|ji<|sR<|sm J J<|sa J J<|zE<|cH<|?_;have hk0:k=0:=by omega
 subst hk0;refine zD (.tmp J .nil) ?_;rw[ht];rfl
def SP{A G:Gh}{x:SV}{ds:List Nat}(hx:cj A x ds)[GL A G](hb:ds.length<=1125899906842624):Fn prog 265 [x.v] G (fun v _=>v= .bool (decide (d4 ds))):=by
 have hlen:=hx.len;refine Fn.intro func265 J J ntmps265 J ?_;intro C _ _;refine sR<|sa J J<|zE<|sR<|sm J J<|cE J J<|sy (iO J J) J<|sm J J<|?_;refine oh 6 J (fun hg=>?_) (fun hg=>?_)
 ·refine ss J J J J<|ss J J J J<|ss J J J J<|ss J J J J<|ss J J J J<|ss J J J J<|ss J J J J<|sy (r8 J J) J<|sa J J<|?_
  refine zE<|cH<|?_;refine zD (.tmp J .nil) ?_;have:ds=[]:=bS (by omega);subst this;simp[gF,d4]
 have hne:0<ds.length:=by omega
 have hkt:((x.n:Int)-1).toNat=ds.length-1:=by omega
 refine bG J J (f6 J) J<|bG J J (f6 J) J<|bG J J (pH J) J<|bG J J (jD J J) J<|bG J J (iB hx J J (by omega) (by omega)) J<|?_;refine bG J J (ir hx J (by omega)) J<|bG J J (u9 J J) J<|sy (l8 J J) J<|sa J J<|zE<|cH<|?_;refine zD (.tmp J .nil) ?_;rw[hkt];simp only[gF,Value.bool.injEq,decide_eq_decide,d4,lW,aX,aZ (show ds.length-1<ds.length by omega),lU,ne_eq,Option.some.injEq];exact not_congr (by omega)
def aDr(ds:List Nat): ∀v∈ds.map dI,flat v=true:=fun v hv=>by
 obtain⟨d,_,rfl⟩:=bV.1 hv;rfl
def JZ{A G:Gh}{x:SV}{ds:List Nat}(hx:cj A x ds)[GL A G](hb:ds.length<=1125899906842):Fn prog 219 [x.v] G (fun v G'=> ∃z:SV,v=z.v/\cj G' z ds):=by
 have hlen:=hx.len;refine Fn.intro func219 J J ntmps219 J ?_;intro C _ _;refine sR<|sa J J<|zE<|bt<|sR<|sm J J<|sy (Qd J J) J<|zE<|?_;refine axj J (fun hc=>?_) (fun hc=>?_)
 ·refine sR<|sa J J<|zE<|cH<|?_
  refine zD (.tmp J .nil) ⟨⟨none,0,0⟩,J,?_⟩;rcases hx.sl.mem with h|⟨b,off,cs,ha,_⟩
  ·have:ds=[]:=by simpa using h
   subst this;exact .nil _
  ·rw[ha] at hc;cases hc
 refine zK<|sR<|?_;refine sc (OO J ?_);intro b1;refine sm J J<|?_;refine sc (Mn (xs:=[]) (rest:=[]) (ys:=ds.map dI) J J (.hd ..) J J (aN _) (Rq hx) (by simp[hlen]) (aDr ds) (by decide) (by omega) J J ?_);intro b cap rest h1 h2;refine sa J J<|zE<|qk b (.hd ..) (fun G' _ hgb=>?_);refine cH<|?_;refine zD (.tmp J .nil) ⟨⟨some ⟨b,0,none⟩,x.n,cap⟩,by simp[gF,SV.v],?_⟩;exact .of_block hx.ok hgb.h hlen (by omega) (by simp)
def FE{A G:Gh}{x:SV}{ds:List Nat}{k:Nat}(hx:cj A x ds)[GL A G](hk:dv ds<2^k)(hb:ds.length<=1125899906842):Fn prog 164 [x.v] G (fun v G'=> ∃z:SV,v=z.v/\fP k G' z (dv ds)):=by
 have htl:=nv ds;refine Fn.intro func164 J J ntmps164 J ?_;intro C _ _;refine sR<|sa J J<|zE<|sR<|sm J J<|?_;refine sc (zC J J (jk hx (by omega)) J ?_);rintro _ G1 _ rfl;refine sc (zC J J (JZ hx.trim (by omega)) J ?_);rintro _ G2 _ ⟨z,rfl,hz⟩;refine sa J J<|zE<|cH<|?_;refine zD (.tmp J .nil) ⟨z,J,?_⟩;exact⟨by rw[pf hx.ok];exact hz,hk⟩
end Go.Sx
end
section
namespace Go.Proofs
open Go.Shelf
def Tryz.lays128_ren:Go.Shelf.Ren:=⟨fun|128=>274|n=>n,fun|51=>215|3=>3|4=>4|46=>216|5=>5|9=>9|n=>n,fun|n=>n⟩
def Tryz.lays125_ren:Go.Shelf.Ren:=⟨fun|125=>246|128=>274|129=>292|n=>n,fun|46=>216|3=>3|51=>215|53=>214|4=>4|5=>5|9=>9|n=>n,fun|n=>n⟩
def Tryz.lays133_ren:Go.Shelf.Ren:=⟨fun|133=>231|128=>274|n=>n,fun|51=>215|3=>3|4=>4|46=>216|5=>5|9=>9|n=>n,fun|n=>n⟩
def Tryz.lays133:Go.Proofs.Lays.n133 Tryz.prog Tryz.lays133_ren:={
 mixed:=by kernel_rfl
 f128:=Tryz.func274.trans (congrArg some (by kernel_rfl))
 f133:=Tryz.func231.trans (congrArg some (by kernel_rfl))
 t3:=Tryz.underlying3
 a3:=Tryz.isAgg3
 z3:=Tryz.sizeOf3
 v3:=Tryz.zeroValue3
 t4:=Tryz.underlying4
 a4:=Tryz.isAgg4
 z4:=Tryz.sizeOf4
 v4:=Tryz.zeroValue4
 t5:=Tryz.underlying5
 a5:=Tryz.isAgg5
 z5:=Tryz.sizeOf5
 v5:=Tryz.zeroValue5
 t9:=Tryz.underlying9
 a9:=Tryz.isAgg9
 z9:=Tryz.sizeOf9
 v9:=Tryz.zeroValue9
 t46:=Tryz.underlying216
 a46:=Tryz.isAgg216
 z46:=Tryz.sizeOf216
 v46:=Tryz.zeroValue216
 t51:=Tryz.underlying215
 a51:=Tryz.isAgg215
 z51:=Tryz.sizeOf215
 v51:=Tryz.zeroValue215}
def Tryz.bits_LeadingZeros32(x:Int)(w:World)(h0:0<=x)(h1:x<=4294967295):
  Calls Tryz.prog 231 #[.int .u32 x] w fun e w'=>e= .returned (.int .i64 (32-(Lib.bitLen x.toNat:Int)))/\w'=w:=Any.bits_LeadingZeros32 Tryz.lays133 x w h0 h1
def Tryz.lays129_ren:Go.Shelf.Ren:=⟨fun|129=>292|n=>n,fun|53=>214|3=>3|4=>4|46=>216|5=>5|9=>9|n=>n,fun|n=>n⟩
def Tryz.lays264_ren:Go.Shelf.Ren:=⟨fun|264=>212|n=>n,fun|53=>214|46=>216|n=>n,fun|n=>n⟩
def Tryz.lays264:Go.Proofs.Lays.n264 Tryz.prog Tryz.lays264_ren:={
 mixed:=by kernel_rfl
 f264:=Tryz.func212.trans (congrArg some (by kernel_rfl))
 t46:=Tryz.underlying216
 a46:=Tryz.isAgg216
 z46:=Tryz.sizeOf216
 v46:=Tryz.zeroValue216
 t53:=Tryz.underlying214
 a53:=Tryz.isAgg214
 z53:=Tryz.sizeOf214
 v53:=Tryz.zeroValue214}
open Go.RowKit Go.Lib in
def Tryz.bits_Mul64(x y:Nat)(hx:x<18446744073709551616)(hy:y<18446744073709551616)(w:World):
  Calls Tryz.prog 212 #[.int .u64 x, .int .u64 y] w fun e w'=>e= .returned (.tuple #[.int .u64 ((x*y/18446744073709551616:Nat):Int), .int .u64 ((x*y%18446744073709551616:Nat):Int)])/\w'=w:=Any.bits_Mul64 Tryz.lays264 x y hx hy w
end Go.Proofs
end
