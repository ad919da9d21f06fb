import Derived.Test.YtmdgdhokaffbkaaGreatDoorMu1
import Derived.Test.YtmdgdhokaffbkaaGreatDoorProg
import Derived.Shelf.Small.Bits
import Derived.Shelf.Strconv.Itoa0
import Derived.Shelf.Strconv.Itoa1
import Derived.Shelf.LaysM
import Derived.Shelf.Strconv.Itoa2
import Derived.Shelf.Strconv.Itoa3
import Derived.Shelf.Bits.Mul64
import Derived.Scope
set_option linter.all false
set_option maxRecDepth 100000
section
namespace Go.Sx
open Go
variable {P:Program}{t t' ty' ty:TypeId}{d n b f off ft k m e s by_ len cap l2 c2 cap2 i j:Nat}{C:aE}{fr:Fr}{own' own1 own0:List av}{G G0 A:Gh}{Φ K:Act->World->Prop}{dst:Option Nat}{pos:String}{af:Array Edge}{x y:Operand}{w:World}{p ad ad2:Option Addr}{q lo c:Bool}{v z:Value}{l out ys xs rest:List Value}{o:Oper}{ops:Array Oper}{Q:Exit->Act->World->Prop}{fin:Nat->Bool}{op:Op}
def HC{d:TypeDesc}(h:P.underlying t=some d)(w:World):(underlying t).run P w= .ok d w:=by
 simp[underlying,program,Sem.run_bind,Sem.run,h,run_pure]
class GF (P:Program) (t:TypeId):Prop where u: ∀w,(underlying t).run P w= .ok .bool w
class Gt (P:Program) (t:TypeId):Prop where u: ∃e,∀w,(underlying t).run P w= .ok (.pointer e) w
class Hj (P:Program) (t:TypeId):Prop where u: ∃ms,∀w,(underlying t).run P w= .ok (.interface ms) w
class GC (P:Program) (t:TypeId) (f:Nat) (off ft:outParam Nat):Prop where
 u: ∃fs fd,(∀w,(underlying t).run P w= .ok (.struct fs) w)/\fs[f]? =some fd/\fd.offset=off/\fd.type=ft
class ji (P:Program) (t:TypeId):Prop where
 un: ∃e,P.underlying t=some (.slice e)
section
variable {own:List av}
variable {gd:Option (Nat×Bool)}
def p8{p q:Value}{b:Bool}(h:(Op.equalIn (9999+1) t p q).run P w= .ok b w):(Op.equal t p q).run P w= .ok b w:=h
def Uu[hT:GF P t]{p:Bool}(hx:aB fr x=some (.bool p))(hy:aB fr y=some (.bool q)):Yd P C fr own G ⟨dst, .binOp .eql t x y t',ty',pos,af,gd⟩ (.bool (p==q)):=by
 intro a w hf hh;simp only[execOp,bw hf hx,bw hf hy];have h1:(Op.equal t (.bool p) (.bool q)).run P w= .ok (p==q) w:=p8 (by unfold Op.equalIn;rw[aO (hT.u w)];rfl);have h2:(eqGuard .eql t x y (.bool p) (.bool q)).run P w= .ok () w:=J;have h3:(binOp .eql t (.bool p) (.bool q)).run P w= .ok (.bool (p==q)) w:=by simp only[binOp];rw[aO h1];rfl
 exact cD (by rw[aO h2];exact h3)
def V6[hT:GF P t]{p:Bool}(hx:aB fr x=some (.bool p))(hy:aB fr y=some (.bool q)):Yd P C fr own G ⟨dst, .binOp .neq t x y t',ty',pos,af,gd⟩ (.bool (!(p==q))):=by
 intro a w hf hh;simp only[execOp,bw hf hx,bw hf hy];have h1:(Op.equal t (.bool p) (.bool q)).run P w= .ok (p==q) w:=p8 (by unfold Op.equalIn;rw[aO (hT.u w)];rfl);have h2:(eqGuard .neq t x y (.bool p) (.bool q)).run P w= .ok () w:=J;have h3:(binOp .neq t (.bool p) (.bool q)).run P w= .ok (.bool (!(p==q))) w:=by simp only[binOp];rw[aO h1];rfl
 exact cD (by rw[aO h2];exact h3)
def D2[hT:Gt P t](hx:aB fr x=some (.pointer p))(hy:aB fr y=some (.pointer none)):Yd P C fr own G ⟨dst, .binOp .eql t x y t',ty',pos,af,gd⟩ (.bool p.isNone):=by
 obtain⟨e,he⟩:=hT.u;intro a w hf hh;simp only[execOp,bw hf hx,bw hf hy];have h1:(Op.equal t (.pointer p) (.pointer none)).run P w= .ok p.isNone w:=p8 (by unfold Op.equalIn;rw[aO (he w)];cases p<;>rfl);have h2:(eqGuard .eql t x y (.pointer p) (.pointer none)).run P w= .ok () w:=by cases p<;>rfl
 have h3:(binOp .eql t (.pointer p) (.pointer none)).run P w= .ok (.bool p.isNone) w:=by cases p<;>(simp only[binOp];rw[aO h1];rfl)
 exact cD (by rw[aO h2];exact h3)
def EL[hT:Gt P t](hx:aB fr x=some (.pointer p))(hy:aB fr y=some (.pointer none)):Yd P C fr own G ⟨dst, .binOp .neq t x y t',ty',pos,af,gd⟩ (.bool (!p.isNone)):=by
 obtain⟨e,he⟩:=hT.u;intro a w hf hh;simp only[execOp,bw hf hx,bw hf hy];have h1:(Op.equal t (.pointer p) (.pointer none)).run P w= .ok p.isNone w:=p8 (by unfold Op.equalIn;rw[aO (he w)];cases p<;>rfl);have h2:(eqGuard .neq t x y (.pointer p) (.pointer none)).run P w= .ok () w:=by cases p<;>rfl
 have h3:(binOp .neq t (.pointer p) (.pointer none)).run P w= .ok (.bool (!p.isNone)) w:=by cases p<;>(simp only[binOp];rw[aO h1];rfl)
 exact cD (by rw[aO h2];exact h3)
def O0[hT:Hj P t](hv:v= .nilIface\/ ∃k u,v= .iface k u)(hx:aB fr x=some v):
  Yd P C fr own G ⟨dst, .binOp .eql t x (.const .nilIface) t',ty',pos,af,gd⟩ (.bool (match v with| .nilIface=>true|_=>false)):=by
 obtain⟨e,he⟩:=hT.u;intro a w hf hh;simp only[execOp,bw hf hx,show a.eval (.const .nilIface)= .nilIface from J];rcases hv with rfl|⟨k,u,rfl⟩
 .have h1:(Op.equal t .nilIface .nilIface).run P w= .ok true w:=p8 (by unfold Op.equalIn;rw[aO (he w)];rfl)
  have h2:(eqGuard .eql t x (.const .nilIface) .nilIface .nilIface).run P w= .ok () w:=by cases x<;>rfl
  exact cD (by rw[aO h2];simp only[binOp];rw[aO h1];rfl)
 .have h1:(Op.equal t (.iface k u) .nilIface).run P w= .ok false w:=p8 (by unfold Op.equalIn;rw[aO (he w)];rfl)
  exact cD (by rw[aO (a:=()) (w':=w) J];simp only[binOp];rw[aO h1];rfl)
def Q1[hT:Hj P t](hv:v= .nilIface\/ ∃k u,v= .iface k u)(hx:aB fr x=some v):
  Yd P C fr own G ⟨dst, .binOp .neq t x (.const .nilIface) t',ty',pos,af,gd⟩ (.bool (match v with| .nilIface=>false|_=>true)):=by
 obtain⟨e,he⟩:=hT.u;intro a w hf hh;simp only[execOp,bw hf hx,show a.eval (.const .nilIface)= .nilIface from J];rcases hv with rfl|⟨k,u,rfl⟩
 .have h1:(Op.equal t .nilIface .nilIface).run P w= .ok true w:=p8 (by unfold Op.equalIn;rw[aO (he w)];rfl)
  have h2:(eqGuard .neq t x (.const .nilIface) .nilIface .nilIface).run P w= .ok () w:=by cases x<;>rfl
  exact cD (by rw[aO h2];simp only[binOp];rw[aO h1];rfl)
 .have h1:(Op.equal t (.iface k u) .nilIface).run P w= .ok false w:=p8 (by unfold Op.equalIn;rw[aO (he w)];rfl)
  exact cD (by rw[aO (a:=()) (w':=w) J];simp only[binOp];rw[aO h1];rfl)
def Z2{cs:List Value}[hF:GC P t f off ft][hA:kl P ft k](hx:aB fr x=some (.agg ⟨cs⟩))(hl:co cs off k=some l):Yd P C fr own G ⟨dst, .field t x f,ty',pos,af,gd⟩ (.agg ⟨l⟩):=by
 obtain⟨fs,fd,h1,h2,h3,h4⟩:=hF.u;intro a w hf hh;simp only[execOp,bw hf hx];have:(Instr.field t (.agg ⟨cs⟩) f).run P w= .ok (.agg ⟨l⟩) w:=by
  unfold Instr.field;rw[aO (h1 w)];simp only[h2,h3,h4,asAgg];rw[aO (run_pure _ _ _)];unfold part;rw[aO (hA.agg w)];simp only[if_true];rw[aO (hA.siz w)];obtain⟨k1,k2⟩:=pn _ _ _ _ hl;have:(⟨cs⟩:Array Value).extract off (off+k)=⟨l⟩:=by
   apply Array.ext';rw[Array.toList_extract];apply lW;intro i;rw[List.extract_eq_take_drop,oR];split
   .rw[lN];exact k2 i (by omega)
   .exact(eJ (show l.length<=i by omega)).symm
  rw[this];rfl
 exact cD this
def YW{cs:List Value}[hF:GC P t f off ft][hA:jB P ft](hx:aB fr x=some (.agg ⟨cs⟩))(hl:cs[off]? =some v):Yd P C fr own G ⟨dst, .field t x f,ty',pos,af,gd⟩ v:=by
 obtain⟨fs,fd,h1,h2,h3,h4⟩:=hF.u;intro a w hf hh;simp only[execOp,bw hf hx];have:(Instr.field t (.agg ⟨cs⟩) f).run P w= .ok v w:=by
  unfold Instr.field;rw[aO (h1 w)];simp only[h2,h3,h4,asAgg];rw[aO (run_pure _ _ _)];unfold part;rw[aO (hA.agg w)];have:(⟨cs⟩:Array Value)[off]? =some v:=by simpa using hl
  simp only[kJ,if_false,this];rfl
 exact cD this
class AP (P:Program) (t:TypeId) (offs:outParam (List (Nat×Nat))):Prop where
 u: ∃fs:Array Field,(∀w,(underlying t).run P w= .ok (.struct fs) w)/\(∀w,(fs.mapM (m:=Sem) fun f=>do pure (f.offset,<-sizeOf f.type)).run P w= .ok ⟨offs⟩ w)
def tz(fr:Fr)(offs:List (Nat×Nat)):List Value->List (Nat×Operand)->Option (List Value)
 |cs,[]=>some cs
 |cs,(i,x)::r=>match offs[i]?,aB fr x with
  |some (off,k),some v=>if(aF v).length=k/\off+k<=cs.length then tz fr offs (cp cs off (aF v)) r else none
  |_,_=>none
def Ea: ∀(vs:List Value) (cs:Array Value) (off j:Nat),(vs.zipIdx j).foldl (fun cs (c,j)=>cs.setIfInBounds (off+j) c) cs=⟨cp cs.toList (off+j) vs⟩
 |[],cs,off,j=>rfl
 |v::vs,cs,off,j=>by
  simp only[List.zipIdx_cons,kY];rw[Ea vs _ off (j+1)];simp[cp,kN]
def FY{a:Act}(hf:kG fr a)(offs:List (Nat×Nat)): ∀(ps:List (Nat×Operand)) (cs out:List Value),tz fr offs cs ps=some out->
  Instr.fill ((⟨offs⟩:Array (Nat×Nat))[·]?) ⟨cs⟩ (ps.map fun(i,x)=>(i,a.eval x))=some ⟨out⟩
 |[],cs,out,h=>by simp only[tz] at h;cases h;rfl
 |(i,x)::ps,cs,out,h=>by
  simp only[tz] at h;split at h
  .rename_i off k v ho hv
   split at h
   .rename_i hc
    simp only[bY,Instr.fill];have:(⟨offs⟩:Array (Nat×Nat))[i]? =some (off,k):=by simpa using ho
    simp only[this,bw hf hv,oD];have h1: ¬((⟨aF v⟩:Array Value).size≠k):=by simp[hc.1]
    have h2: ¬(off+(⟨aF v⟩:Array Value).size>(⟨cs⟩:Array Value).size):=by simp only[pX,hc.1];omega
    rw[if_neg (by simp only[gM,decide_eq_true_eq,not_or];exact⟨by simpa using h1,by simpa using h2⟩)];have e:=Ea (aF v) ⟨cs⟩ off 0;have e':(⟨aF v⟩:Array Value).zipIdx.foldl (fun cs (c,j)=>cs.setIfInBounds (off+j) c) (⟨cs⟩:Array Value)=⟨cp cs off (aF v)⟩:=by
     rw[<-qM,sT];simpa using e
    rw[e'];exact FY hf offs ps _ _ h
   .cases h
  .cases h
def vk{parts:Array (Nat×Operand)}{offs:List (Nat×Nat)}[hT:AP P t offs][hz:gc P t z](hb:tz fr offs (aF z) parts.toList=some out):Yd P C fr own G ⟨dst, .build t parts,ty',pos,af,gd⟩ (.agg ⟨out⟩):=by
 obtain⟨fs,h1,h2⟩:=hT.u;intro a w hf hh;simp only[execOp];have:(Instr.build t (parts.map fun(i,x)=>(i,a.eval x))).run P w= .ok (.agg ⟨out⟩) w:=by
  unfold Instr.build;rw[aO (hz.zero w),oD];rw[aO (h1 w)];simp only[];rw[aO (h2 w)];have:=FY hf offs parts.toList _ _ hb;simp only[pW,this];rfl
 exact cD this
end
def dl(z:Value)(k:Nat):List Value:=(List.replicate k (aF z)).flatten
def Jg{α:Type}(l:List α): ∀(k i:Nat),i<k*l.length->(List.replicate k l).flatten[i]? =l[i%l.length]?
 |0,i,h=>by omega
 |k+1,i,h=>by
  rw[sS,rJ];by_cases hi:i<l.length
  .rw[jT hi,jN hi]
  .rw[jV (by omega),Jg l k (i-l.length) (by rw[dV] at h;omega)]
   rw[Nat.mod_eq_sub_mod (Nat.ge_of_not_lt hi)]
def nk(z:Value)(k:Nat):(dl z k).length=k*(aF z).length:=by simp[dl]
def BE(h:m=k*(aF z).length):((Array.range m).map fun i=>(⟨aF z⟩:Array Value)[i%(⟨aF z⟩:Array Value).size]!)=⟨dl z k⟩:=by
 subst h;apply Array.ext';apply lW;intro i;simp only[pW,Array.toList_range,cY,pX];by_cases hi:i<k*(aF z).length
 .rw[pM hi]
  simp only[lQ];have h1:=Jg (aF z) k i hi;have hpos:0<(aF z).length:=by
   rcases fU (aF z).length with h|h
   .rw[h,tQ] at hi;omega
   .exact h
  have hm:=dK i hpos;show _=(dl z k)[i]?;unfold dl;rw[h1];simp[hm]
 .rw[eJ (by simpa using hi)]
  rw[eJ (by show(dl z k).length<=i;rw[nk];omega)];rfl
section
variable {own:List av}
variable {gd:Option (Nat×Bool)}
def Od[hT:cj P t e s by_](w:World): ∃i:TypeInfo,(typeInfo e).run P w= .ok i w/\i.bytes=by_:=by
 obtain⟨i,h1,_,h2⟩:=hT.info;exact⟨i,by simp[typeInfo,program,Sem.run_bind,Sem.run,h1,run_pure],h2⟩
def HQ[hT:cj P t e s by_]{z:Value}[hz:gc P e z]{k k':IntKind}{l:Int}(hx:aB fr x=some (.int k l))(hy:aB fr y=some (.int k' l))(h0:0<=l)(hb:by_*l<=2^47)(hl:l<=2^60)(hs:(aF z).length=s)(hd:b8 n dst=true)
  (h: ∀b,St C n (put fr dst (.slice (some ⟨b,0,none⟩) l.toNat l.toNat)) (⟨b,dl z l.toNat,e,true⟩::own) G Φ):
  Ch P C n fr own G ⟨dst, .makeSlice t x y,ty',pos,af,gd⟩ Φ:=by
 intro a w Q rl;have h1:(Instr.makeSlice t (a.eval x) (a.eval y)).run P w= .ok (.slice (some ⟨w.heap.size,0,none⟩) l.toNat l.toNat) (w.alloc (.cells ⟨dl z l.toNat⟩ e)):=by
  obtain⟨i,hi,hib⟩:=Od (P:=P) (t:=t) (e:=e) (s:=s) (by_:=by_) w;rw[bw rl.fr hx,bw rl.fr hy];unfold Instr.makeSlice;rw[aO (hT.u w)];simp only[asInt,asIntOf];rw[aO (a:=l) (w':=w) J,aO (a:=l) (w':=w) J,aO hi,hib];have hw:IntKind.i64.wrap l=l:=rp (by simp[IntKind.min,IntKind.max,IntKind.signed,IntKind.bits];omega);simp only[hw];have c1: ¬((by_:Int)*l>2^48):=by
   have:(2:Int)^47<=2^48:=by decide
   omega
  have c2:(decide (l<0)||decide ((by_:Int)*l>2^48))=false:=by simp[c1];omega
  simp only[c2,Int.lt_irrefl,decide_false,Bool.or_false,Bool.false_or];have c3:decide (l<0)=false:=by simp;omega
  simp only[c3,kJ,if_false,gt_iff_lt,Int.lt_irrefl,decide_false,Bool.or_false];have hr: ¬(l.toNat*by_>roomBytes):=by
   unfold roomBytes;have:((l.toNat*by_:Nat):Int)=by_*l:=by rw[iU,pN h0,rK]
   have h47:((2^47:Nat):Int)=2^47:=by decide
   omega
  unfold askRoom;simp only[hr,if_false];rw[aO (run_pure _ _ _),aO (hT.siz w)];have hn:l.toNat*s=l.toNat*(aF z).length:=by rw[hs]
  by_cases h00:l.toNat*s=0
  .rw[if_pos h00,aO (run_pure _ _ _)]
   have e0:dl z l.toNat=[]:=cR (by rw[nk,hs];exact h00);rw[h00,e0,show(Array.range 0)= #[] from J,Array.map_empty];rfl
  .rw[if_neg h00,aO (hz.zero w),oD]
   rw[aO (run_pure _ _ _),BE hn];rfl
 refine(fun hk=>?_:Φ (a.put dst (.slice (some ⟨w.heap.size,0,none⟩) l.toNat l.toNat)) (w.alloc (.cells ⟨dl z l.toNat⟩ e))->_) (h w.heap.size _ _ ((rl.heap (rl.h.alloc _ _)).put _ hd));exact kv (v:= .slice (some ⟨w.heap.size,0,none⟩) l.toNat l.toNat) (cD h1) hk
def Pd: ∀(vs cs pre:List Value),vs.length=cs.length->cp (pre++cs) pre.length vs=pre++vs
 |[],cs,pre,h=>by have:cs=[]:=cR h.symm;subst this;rfl
 |v::vs,[],pre,h=>by simp at h
 |v::vs,c::cs,pre,h=>by
  simp only[cp,nX _ _ (bW _),pY,List.set_cons_zero];have:=Pd vs cs (pre++[v]) (by simpa using h);simpa using this
def J6[hT:cj P t e s by_][hz:gc P e z](hx:aB fr x=some v)(hs:(aF z).length=s)(hv:(aF v).length=s)(hsm:s<=1000)(hs0:0<s)(hd:b8 n dst=true)
  (h: ∀b,St C n (put fr dst (.slice (some ⟨b,0,none⟩) 1 1)) (⟨b,aF v,e,true⟩::own) G Φ):
  Ch P C n fr own G ⟨dst, .buildSlice t 1 #[(0,x)],ty',pos,af,gd⟩ Φ:=by
 intro a w Q rl;have h1:(Instr.buildSlice t 1 #[(0,v)]).run P w= .ok (.slice (some ⟨w.heap.size,0,none⟩) 1 1) (w.alloc (.cells ⟨aF v⟩ e)):=by
  unfold Instr.buildSlice;rw[aO (hT.u w)];simp only[];rw[aO (hT.siz w)];have c1: ¬(1*s>2^24):=by omega
  have c2: ¬(1*s=0):=by omega
  simp only[c1,if_false];rw[if_neg c2,aO (hz.zero w),oD,aO (run_pure _ _ _)];rw[BE (k:=1) (by rw[hs])];have hzl:(dl z 1).length=s:=by rw[nk,hs,mR]
  have hf:Instr.fill (fun i=>some (i*s,s)) ⟨dl z 1⟩ [(0,v)]=some ⟨aF v⟩:=by
   simp only[Instr.fill,oD];rw[if_neg (by simp[hv,hzl])];have e1:=Ea (aF v) ⟨dl z 1⟩ (0*s) 0;have e2:(⟨aF v⟩:Array Value).zipIdx.foldl (fun cs (c,j)=>cs.setIfInBounds (0*s+j) c) (⟨dl z 1⟩:Array Value)=⟨aF v⟩:=by
    rw[<-qM,sT];have e3:=Pd (aF v) (dl z 1) [] (by rw[hv,hzl]);simp only[jL,eY] at e3;rw[kX,eX] at e1;rw[e3] at e1;simpa using e1
   rw[e2]
  simp only[hf];rfl
 refine kv (v:= .slice (some ⟨w.heap.size,0,none⟩) 1 1) (w':=w.alloc (.cells ⟨aF v⟩ e)) ?_ (h w.heap.size _ _ ((rl.heap (rl.h.alloc _ _)).put _ hd));simp only[execOp,iY,bY,gN,bw rl.fr hx];exact cD h1
end
section
variable {own:List av}
variable {gd:Option (Nat×Bool)}
def tv(fr:Fr)(s:Nat):List Value->List (Nat×Operand)->Option (List Value)
 |cs,[]=>some cs
 |cs,(i,x)::r=>match aB fr x with
  |some v=>if(aF v).length=s/\i*s+s<=cs.length then tv fr s (cp cs (i*s) (aF v)) r else none
  |none=>none
def O6{a:Act}(hf:kG fr a)(s:Nat): ∀(ps:List (Nat×Operand)) (cs out:List Value),tv fr s cs ps=some out->
  Instr.fill (fun i=>some (i*s,s)) ⟨cs⟩ (ps.map fun(i,x)=>(i,a.eval x))=some ⟨out⟩
 |[],cs,out,h=>by simp only[tv] at h;cases h;rfl
 |(i,x)::ps,cs,out,h=>by
  simp only[tv] at h;split at h
  .rename_i v hv
   split at h
   .rename_i hc
    simp only[bY,Instr.fill,bw hf hv,oD];have h1: ¬((⟨aF v⟩:Array Value).size≠s):=by simp[hc.1]
    have h2: ¬(i*s+(⟨aF v⟩:Array Value).size>(⟨cs⟩:Array Value).size):=by simp only[pX,hc.1];omega
    rw[if_neg (by simp only[gM,decide_eq_true_eq,not_or];exact⟨by simpa using h1,by simpa using h2⟩)];have e:=Ea (aF v) ⟨cs⟩ (i*s) 0;have e':(⟨aF v⟩:Array Value).zipIdx.foldl (fun cs (c,j)=>cs.setIfInBounds (i*s+j) c) (⟨cs⟩:Array Value)=⟨cp cs (i*s) (aF v)⟩:=by
     rw[<-qM,sT];simpa using e
    rw[e'];exact O6 hf s ps _ _ h
   .cases h
  .cases h
def LC[hT:cj P t e s by_][hz:gc P e z]{parts:Array (Nat×Operand)}(hs:(aF z).length=s)(hb:tv fr s (dl z len) parts.toList=some out)(hsm:Nat.ble (len*s) 1000=true)(hs0:Nat.blt 0 (len*s)=true)(hd:b8 n dst=true)
  (h: ∀b,St C n (put fr dst (.slice (some ⟨b,0,none⟩) len len)) (⟨b,out,e,true⟩::own) G Φ):
  Ch P C n fr own G ⟨dst, .buildSlice t len parts,ty',pos,af,gd⟩ Φ:=by
 intro a w Q rl;have hsm':len*s<=1000:=by simpa using hsm
 have hs0':0<len*s:=by simpa[kS] using hs0
 have h1:(Instr.buildSlice t len (parts.map fun(i,x)=>(i,a.eval x))).run P w= .ok (.slice (some ⟨w.heap.size,0,none⟩) len len) (w.alloc (.cells ⟨out⟩ e)):=by
  unfold Instr.buildSlice;rw[aO (hT.u w)];simp only[];rw[aO (hT.siz w)];have c1: ¬(len*s>2^24):=by omega
  have c2: ¬(len*s=0):=by omega
  simp only[c1,if_false];rw[if_neg c2,aO (hz.zero w),oD,aO (run_pure _ _ _)];rw[BE (k:=len) (by rw[hs])];have hf:=O6 rl.fr s parts.toList _ _ hb;simp only[pW,hf];rfl
 refine kv (v:= .slice (some ⟨w.heap.size,0,none⟩) len len) (w':=w.alloc (.cells ⟨out⟩ e)) ?_ (h w.heap.size _ _ ((rl.heap (rl.h.alloc _ _)).put _ hd));simp only[execOp];exact cD h1
def O3[hT:cj P t e s by_](hd:b8 n dst=true)(h: ∀b,St C n (put fr dst (.slice (some ⟨b,0,none⟩) 0 0)) (⟨b,[],e,true⟩::own) G Φ):
  Ch P C n fr own G ⟨dst, .buildSlice t 0 #[],ty',pos,af,gd⟩ Φ:=by
 intro a w Q rl;have h1:(Instr.buildSlice t 0 #[]).run P w= .ok (.slice (some ⟨w.heap.size,0,none⟩) 0 0) (w.alloc (.cells ⟨[]⟩ e)):=by
  unfold Instr.buildSlice;rw[aO (hT.u w)];simp only[];rw[aO (hT.siz w)];simp only[kX,gt_iff_lt,sY,if_false,if_true];rw[aO (run_pure _ _ _),show(Array.range 0)= #[] from J,Array.map_empty];rfl
 refine kv (v:= .slice (some ⟨w.heap.size,0,none⟩) 0 0) (w':=w.alloc (.cells ⟨[]⟩ e)) ?_ (h w.heap.size _ _ ((rl.heap (rl.h.alloc _ _)).put _ hd));simp only[execOp,iY,gN];exact cD h1
def QY[hT:cj P t e s by_](hx:aB fr x=some (.slice ad len cap))(hy:aB fr y=some (.slice none l2 c2)):Yd P C fr own G ⟨dst, .binOp .eql t x y t',ty',pos,af,gd⟩ (.bool ad.isNone):=by
 intro a w hf hh;simp only[execOp,bw hf hx,bw hf hy];have h1:(Op.equal t (.slice ad len cap) (.slice none l2 c2)).run P w= .ok ad.isNone w:=p8 (by unfold Op.equalIn;rw[aO (hT.u w)];cases ad<;>rfl);have h2:(eqGuard .eql t x y (.slice ad len cap) (.slice none l2 c2)).run P w= .ok () w:=J;have h3:(binOp .eql t (.slice ad len cap) (.slice none l2 c2)).run P w= .ok (.bool ad.isNone) w:=by simp only[binOp];rw[aO h1];rfl
 exact cD (by rw[aO h2];exact h3)
def aFw[hT:cj P t e s by_](hx:aB fr x=some (.slice ad len cap))(hy:aB fr y=some (.slice none l2 c2)):Yd P C fr own G ⟨dst, .binOp .neq t x y t',ty',pos,af,gd⟩ (.bool (!ad.isNone)):=by
 intro a w hf hh;simp only[execOp,bw hf hx,bw hf hy];have h1:(Op.equal t (.slice ad len cap) (.slice none l2 c2)).run P w= .ok ad.isNone w:=p8 (by unfold Op.equalIn;rw[aO (hT.u w)];cases ad<;>rfl);have h2:(eqGuard .neq t x y (.slice ad len cap) (.slice none l2 c2)).run P w= .ok () w:=J;have h3:(binOp .neq t (.slice ad len cap) (.slice none l2 c2)).run P w= .ok (.bool (!ad.isNone)) w:=by simp only[binOp];rw[aO h1];rfl
 exact cD (by rw[aO h2];exact h3)
end
def k9: ∀(cs:List Value) (off k:Nat),off+k<=cs.length->co cs off k=some ((cs.drop off).take k)
 |cs,0,0,_=>by cases cs<;>rfl
 |[],0,k+1,h=>by simp at h
 |v::t,0,k+1,h=>by
  simp only[co,k9 t 0 k (by simp at h;omega)];simp
 |[],_+1,k,h=>by simp at h
 |_::t,off+1,k,h=>by
  simp only[co,k9 t off k (by simp at h;omega)];simp
section
variable {own:List av}
variable {gd:Option (Nat×Bool)}
def lH(P:Program)(C:aE)(own:List av)(G:Gh)(s m:Nat)(v:Value)(ys:List Value):Prop:=
 ∀w,bE C own G w->(Builtin.firstCells s m v).run P w= .ok ⟨ys⟩ w
def C4{cs:List Value}{fz:Nat×Nat}(h:w.heap[b]? =some (.cells ⟨cs⟩ ty fz))(hl:co cs off k=some l):(loadCells ⟨b,off,none⟩ k).run P w= .ok ⟨l⟩ w:=by
 obtain⟨h1,h2⟩:=pn _ _ _ _ hl;unfold loadCells;rw[GQ (l:=l) k 0 #[] (fun j hj=>by rw[EA h];simpa using h2 j hj) (by omega)];simp[<-h1]
def xy{cs:List Value}(ho:iw own b cs ty lo)(hl:co cs off (m*s)=some ys):lH P C own G s m (.slice (some ⟨b,off,none⟩) len cap) ys:=
 fun w h=>C4 (h.hown _ ho.mem).1 hl
def M3{cs:List Value}(hg:G b=some cs)(hl:co cs off (m*s)=some ys):lH P C own G s m (.slice (some ⟨b,off,none⟩) len cap) ys:=
 fun w h=>by obtain⟨ty,fz,hb⟩:=h.sub _ _ hg;exact C4 hb hl
def uh:lH P C own G s 0 (.slice ad len cap) []:=fun w _=>by
 cases ad with
 |none=>rfl
 |some a=>unfold Builtin.firstCells loadCells;simp[loadCellsFrom,run_pure]
def VD(z:Value)(k:Nat):Builtin.zeroCells ⟨aF z⟩ k=⟨dl z k⟩:=by
 unfold Builtin.zeroCells;exact BE J
def Ff{w':World}[hT:cj P t e s by_][hN:ji P t'][hz:gc P e z]
  (hsx:(Builtin.firstCells s len (.slice ad len cap)).run P w.drew= .ok ⟨xs⟩ w.drew)(hsy:(Builtin.firstCells s m (.slice ad2 m cap2)).run P w.drew= .ok ⟨ys⟩ w.drew)
  (hneed:cap<len+m)(hby:0<by_)(hb:(len+m)*by_<=140737488355328):
  (Builtin.append_ #[t,t'] ty' #[.slice ad len cap, .slice ad2 m cap2]).run P w=
   .ok (.slice (some ⟨w.heap.size,0,none⟩) (len+m) (grownCap w (len+m) cap e)) (w.drew.alloc (.cells ⟨xs++ys++dl z (grownCap w (len+m) cap e-(len+m))⟩ e)):=by
 obtain⟨d,hd1⟩:=hN.un;obtain⟨i,hi,his,hib⟩:=hT.info;obtain⟨i',hi',hiz⟩:=hz.info;rw[hi] at hi';cases hi';have hfit:=growslice_fits (old:=cap) (need:=len+m) (bytes:=by_) hneed hb;have hlen:len+m<=140737488355328:=cS (mK _ hby) hb;have hn: ¬(len+m<=cap):=by omega
 have h63': ¬(9223372036854775807<((len:Int)+(m:Int))):=by omega
 have h48': ¬(281474976710656<Builtin.nextslicecap (len+m) cap*i.bytes):=by rw[hib];omega
 subst his;simp[Builtin.append_,run_underlying hT.un,run_underlying hd1,sizeOf,typeInfo,zeroValue,hi,hiz,Builtin.lenOf,hn,h63',h48',Question.forced,hsx,hsy,newRow,grownCap];congr 2;apply Array.ext';rw[oD,VD];simp[dX]
def En[hT:cj P t e s by_][hN:ji P t'][hz:gc P e z]
  (hx:aB fr x=some (.slice ad len cap))(hy:aB fr y=some (.slice ad2 m cap2))(hsx:lH P C own G s len (.slice ad len cap) xs)(hsy:lH P C own G s m (.slice ad2 m cap2) ys)
  (hneed:cap<len+m)(hby:0<by_)(hb:(len+m)*by_<=140737488355328)(hd:b8 n dst=true)
  (h: ∀b cap',len+m<=cap'->St C n (put fr dst (.slice (some ⟨b,0,none⟩) (len+m) cap')) (⟨b,xs++ys++dl z (cap'-(len+m)),e,true⟩::own) G Φ):
  Ch P C n fr own G ⟨dst, .call ⟨.builtin .append, #[x,y], #[t,t']⟩,ty',pos,af,gd⟩ Φ:=by
 intro a w Q rl;have hcap:len+m<=grownCap w (len+m) cap e:=by unfold grownCap;simp only[Question.cut];omega
 have hrun:=Ff (P:=P) (t:=t) (t':=t') (ty':=ty') (w:=w) (w':=w) (hsx _ rl.h.drew) (hsy _ rl.h.drew) hneed hby hb;refine kv (v:= .slice (some ⟨w.heap.size,0,none⟩) (len+m) (grownCap w (len+m) cap e)) (w':=w.drew.alloc (.cells ⟨xs++ys++dl z (grownCap w (len+m) cap e-(len+m))⟩ e)) ?_ ?_
 .simp only[execOp,resolve,iY,bY,gN,bw rl.fr hx,bw rl.fr hy]
  exact cD hrun
 .exact h w.heap.size _ hcap _ _ ((rl.heap ((rl.h.drew).alloc _ _)).put _ hd)
def jo.perm{o:av}(h:jo own o own1):own.Perm (o::own1):=by
 induction h with
 |hd o t=>exact List.Perm.refl _
 |tl x t t' o h ih=>exact(List.Perm.cons x ih).trans (List.Perm.swap _ _ _)
def Jj[hT:cj P t e s by_][hN:ji P t']{cs:List Value}
  (hb:w.heap[b]? =some (.cells ⟨cs⟩ e (0,0)))(hcs:cs.length=cap*s)(hsy:(Builtin.firstCells s m (.slice ad2 m cap2)).run P w= .ok ⟨ys⟩ w)(hys:ys.length=m*s)(hf: ∀v∈ys,flat v=true)
  (hneed:len+m<=cap):
  (Builtin.append_ #[t,t'] ty' #[.slice (some ⟨b,0,none⟩) len cap, .slice ad2 m cap2]).run P w=
   .ok (.slice (some ⟨b,0,none⟩) (len+m) cap) (gq w b (.cells ⟨cp cs (len*s) ys⟩ e (0,0))):=by
 obtain⟨d,hd1⟩:=hN.un;obtain⟨i,hi,his,hib⟩:=hT.info;subst his;have hl:len*i.size+ys.length<=cs.length:=by rw[hys,hcs,<-dV];exact bT _ hneed
 have hst:=Bn (P:=P) ys w (len*i.size) 0 cs hf hb (by omega);rw[gX] at hst;simp[Builtin.append_,run_underlying hT.un,run_underlying hd1,sizeOf,typeInfo,hi,Builtin.lenOf,hneed,hsy,qA,hst]
def Bv: ∀(vs cs:List Value) (off:Nat),(cp cs off vs).length=cs.length
 |[],cs,off=>rfl
 |v::vs,cs,off=>by simp[cp,Bv vs]
def py: ∀(vs cs:List Value) (off:Nat),off+vs.length<=cs.length->cp cs off vs=cs.take off++vs++cs.drop (off+vs.length)
 |[],cs,off,h=>by simp[cp]
 |v::vs,cs,off,h=>by
  simp only[bQ] at h;rw[cp,py vs _ _ (by simp;omega)];rw[List.take_set,sL (by omega)];have h1:(cs.take (off+1)).set off v=cs.take off++[v]:=by
   rw[iL (by omega),nX _ _ (by simp;omega)];simp[jM (by omega:off<=cs.length)]
  rw[h1];simp only[bQ,dX,gL,jL];congr 4;omega
def Mi[hT:cj P t e s by_][hN:ji P t'][hz:gc P e z]
  (hx:aB fr x=some (.slice (some ⟨b,0,none⟩) len cap))(hy:aB fr y=some (.slice ad2 m cap2))(hr:jo own ⟨b,xs++rest,e,true⟩ own1)(hxs:xs.length=len*s)(hcap:xs.length+rest.length=cap*s)(hlc:len<=cap)
  (hsy:lH P C own G s m (.slice ad2 m cap2) ys)(hys:ys.length=m*s)(hf: ∀v∈ys,flat v=true)
  (hby:0<by_)(hb:(len+m)*by_<=140737488355328)(hzs:(aF z).length=s)(hd:b8 n dst=true)
  (h: ∀b cap' rest',len+m<=cap'->rest'.length+(len+m)*s=cap'*s->St C n (put fr dst (.slice (some ⟨b,0,none⟩) (len+m) cap')) (⟨b,xs++ys++rest',e,true⟩::own1) G Φ):
  Ch P C n fr own G ⟨dst, .call ⟨.builtin .append, #[x,y], #[t,t']⟩,ty',pos,af,gd⟩ Φ:=by
 intro a w Q rl;have hp:=rl.h.perm hr.perm;have hblk:=(hp.hown _ aQ).1;simp only[] at hblk;by_cases hneed:len+m<=cap
 .have hcs:(xs++rest).length=cap*s:=by simp;omega
  have hrun:=Jj (P:=P) (t:=t) (t':=t') (ty':=ty') (w:=w) (len:=len) hblk hcs (hsy w rl.h) hys hf hneed;have hle:len*s+m*s<=cap*s:=by rw[<-dV];exact bT _ hneed
  have hov:cp (xs++rest) (len*s) ys=xs++ys++rest.drop (m*s):=by
   rw[py _ _ _ (by rw[hys];omega),<-hxs];simp[hys,mS]
  refine kv (v:= .slice (some ⟨b,0,none⟩) (len+m) cap) (w':=gq w b (.cells ⟨cp (xs++rest) (len*s) ys⟩ e (0,0))) ?_ ?_
  .simp only[execOp,resolve,iY,bY,gN,bw rl.fr hx,bw rl.fr hy]
   exact cD hrun
  .rw[hov]
   refine h b cap (rest.drop (m*s)) hneed ?_ _ _ ((rl.heap (hp.store (.hd ..))).put _ hd);rw[gK,dV];omega
 .have hx':lH P C own G s len (.slice (some ⟨b,0,none⟩) len cap) xs:=fun w' hw'=>by
   have hb':=(((hw'.perm hr.perm).hown _ aQ).1);refine C4 hb' ?_;rw[k9 _ _ _ (by simp;omega),<-hxs];simp
  have hcap':len+m<=grownCap w (len+m) cap e:=by unfold grownCap;simp only[Question.cut];omega
  have hrun:=Ff (P:=P) (t:=t) (t':=t') (ty':=ty') (w:=w) (w':=w) (hx' _ rl.h.drew) (hsy _ rl.h.drew) (by omega) hby hb;refine kv (v:= .slice (some ⟨w.heap.size,0,none⟩) (len+m) (grownCap w (len+m) cap e)) (w':=w.drew.alloc (.cells ⟨xs++ys++dl z (grownCap w (len+m) cap e-(len+m))⟩ e)) ?_ ?_
  .simp only[execOp,resolve,iY,bY,gN,bw rl.fr hx,bw rl.fr hy]
   exact cD hrun
  .refine h w.heap.size _ _ hcap' ?_ _ _ ((rl.heap (((hp.drew).drop (mU _ _)).alloc _ _)).put _ hd)
   rw[nk,hzs,<-dV];congr 1;omega
end
section
variable {S:World->Prop}
def sA(ops:Array Oper)(fin:Nat->Bool):List (Nat×Bool)->Array Bool->Bool
 |[],listed=>(Region.ready .any ops listed).isEmpty
 |(i,true)::r,listed=>Rl ops fin listed i&&sA ops fin r (listed.setIfInBounds i true)
 |(i,false)::r,listed=>(Region.ready .any ops listed==[i])&&sA ops fin r (listed.setIfInBounds i true)
def iC(P:Program)(ops:Array Oper)(Q:Exit->Act->World->Prop)(S:World->Prop)(fin:Nat->Bool):List (Nat×Bool)->Act->World->Prop
 |[],a,w=>Q .normal a w
 |(i,true)::r,a,w=> ∃o v,ops[i]? =some o/\S w/\YieldsIf P ops S o v a/\iC P ops Q S fin r (a.put o.dst v) w
 |(i,false)::r,a,w=>wpOp P ops Q i (fun a' w'=>(fin i=true\/S w')/\iC P ops Q S fin r a' w') a w
def Bo(hQ: ∀c a d v w,Q (.panic c) (Act.put a d v) w->Q (.panic c) a w): ∀(π:List (Nat×Bool)) (listed:Array Bool) (a:Act) (w:World),sA ops fin π listed=true->iC P ops Q S fin π a w-> ∀fuel,π.length<=fuel->uz P ops Q S fin fuel listed a w
 |[],listed,a,w,ho,h,fuel,hf=>by
  have hr:Region.ready .any ops listed=[]:=by simpa[sA] using ho
  cases fuel with
  |zero=>exact⟨hr,h⟩
  |succ k=>exact⟨fun _=>h,by rw[hr];simp⟩
 |(i,true)::r,listed,a,w,ho,h,0,hf=>by simp at hf
 |(i,false)::r,listed,a,w,ho,h,0,hf=>by simp at hf
 |(i,true)::r,listed,a,w,ho,h,fuel+1,hf=>by
  obtain⟨o,v,hoi,hS,hy,hk⟩:=h;simp only[sA,Rl,bU] at ho;obtain⟨⟨⟨⟨h1,h2⟩,h3⟩,h4⟩,h5⟩:=ho;obtain⟨h6,h7⟩:=X' h4;exact Y9 hoi (Region.noSelect_spec h1) (fun c a w=>hQ c a _ _ w) h6 h7 fuel listed a w (Region.free_spec hoi h2) (by simpa using h3) hy hS
   (Bo hQ r _ _ _ h5 hk fuel (by simpa using hf))
 |(i,false)::r,listed,a,w,ho,h,fuel+1,hf=>by
  simp only[sA,bU,beq_iff_eq] at ho;exact Xf ho.1 (wpOp_mono (fun a' w' h'=>⟨h'.1,Bo hQ r _ _ _ ho.2 h'.2 fuel (by simpa using hf)⟩) h)
end
section
variable {own:List av}{π:List (Nat×Bool)}
def dr(fin:Nat->Bool)(π:List (Nat×Bool)){id:Nat}(hm:P.follows .mixedOrders=true)(ho:(sA ops fin π (Array.replicate ops.size false)&&Nat.ble π.length ops.size)=true)
  (h:St C n fr own G (iC P ops (gn Q) (HS C own G) fin π)):St C n fr own G ((Code.region id ops true).wp P Q):=by
 simp only[bU] at ho;refine UJ fin hm fun a w rl=>Bo (fun _ _ _ _ _ h=>h) π _ a w ho.1 (h a w rl) _ (by simpa using ho.2)
def dy(ho:ops[i]? =some o)(hy: ∀G':Gh,[GE G0 G']->Yd P C fr own0 G' o v)(hg:o.guard=none)(hd:b8 n o.dst=true)[hs:ll own0 own][hl:GL G0 G]
  (h:St C n (put fr o.dst v) own G (iC P ops (gn Q) (HS C own0 G0) fin π)):St C n fr own G (iC P ops (gn Q) (HS C own0 G0) fin ((i,true)::π)):=
 fun a w rl=>⟨o,v,ho,⟨G,hl.le,rl.h.drop hs.s⟩, .inl ⟨by simp[Region.wanted,hg],fun w' ⟨G',hle,hr⟩=> @hy G' ⟨hle⟩ a w' rl.fr hr⟩,h _ _ (rl.put v hd)⟩
def dM(ho:ops[i]? =some ⟨dst, .move x,ty',pos,af,none⟩)(hx:aB fr x=some v)(hd:b8 n dst=true)[hs:ll own0 own][hl:GL G0 G]
  (h:St C n (put fr dst v) own G (iC P ops (gn Q) (HS C own0 G0) fin π)):St C n fr own G (iC P ops (gn Q) (HS C own0 G0) fin ((i,true)::π)):=dy ho (fun _ _=>lf hx) J hd h
def dA(ho:ops[i]? =some ⟨dst, .assign x,ty',pos,af,none⟩)(hx:aB fr x=some v)(hd:b8 n dst=true)[hs:ll own0 own][hl:GL G0 G]
  (h:St C n (put fr dst v) own G (iC P ops (gn Q) (HS C own0 G0) fin π)):St C n fr own G (iC P ops (gn Q) (HS C own0 G0) fin ((i,true)::π)):=dy ho (fun _ _=>Hy hx) J hd h
def dF{o:Nat}[hF:kP P t f off](ho:ops[i]? =some ⟨dst, .fieldAddr t x f,ty',pos,af,none⟩)(hx:aB fr x=some (.pointer (some ⟨b,o,none⟩)))(hd:b8 n dst=true)[hs:ll own0 own][hl:GL G0 G]
  (h:St C n (put fr dst (.pointer (some ⟨b,o+off,none⟩))) own G (iC P ops (gn Q) (HS C own0 G0) fin π)):St C n fr own G (iC P ops (gn Q) (HS C own0 G0) fin ((i,true)::π)):=dy ho (fun _ _=>ri hx) J hd h
def dL{cs:List Value}(ho:ops[i]? =some ⟨dst, .load t x,ty',pos,af,none⟩)(hx:aB fr x=some (.pointer (some ⟨b,off,none⟩)))[hw:iw own0 b cs ty lo][kl P t k](hv:co cs off k=some l)(hd:b8 n dst=true)[hs:ll own0 own][hl:GL G0 G]
  (h:St C n (put fr dst (.agg ⟨l⟩)) own G (iC P ops (gn Q) (HS C own0 G0) fin π)):St C n fr own G (iC P ops (gn Q) (HS C own0 G0) fin ((i,true)::π)):=dy ho (fun _ _=>Da hx hv) J hd h
def pH{cs:List Value}(ho:ops[i]? =some ⟨dst, .load t x,ty',pos,af,none⟩)(hx:aB fr x=some (.pointer (some ⟨b,off,none⟩)))[hw:iw own0 b cs ty lo][jB P t](hv:cs[off]? =some v)(hd:b8 n dst=true)[hs:ll own0 own][hl:GL G0 G]
  (h:St C n (put fr dst v) own G (iC P ops (gn Q) (HS C own0 G0) fin π)):St C n fr own G (iC P ops (gn Q) (HS C own0 G0) fin ((i,true)::π)):=dy ho (fun _ _=>nn hx hv) J hd h
def uC(ho:ops[i]? =some o){b:Bool}(hg:o.guard=some (j,b))(hj:(ops[j]?).bind (·.dst)=some d)(hlk:io fr d=some (.bool b))(hy: ∀G':Gh,[GE G0 G']->Yd P C fr own0 G' o v)(hd:b8 n o.dst=true)[hs:ll own0 own][hl:GL G0 G]
  (h:St C n (put fr o.dst v) own G (iC P ops (gn Q) (HS C own0 G0) fin π)):St C n fr own G (iC P ops (gn Q) (HS C own0 G0) fin ((i,true)::π)):=
 fun a w rl=>⟨o,v,ho,⟨G,hl.le,rl.h.drop hs.s⟩, .inl ⟨by simp[Region.wanted,hg,Jr rl.fr hj hlk],fun w' ⟨G',hle,hr⟩=> @hy G' ⟨hle⟩ a w' rl.fr hr⟩,h _ _ (rl.put v hd)⟩
def dc(ho:ops[i]? =some o)(hg:o.guard=none)(hc:Ch P C n fr own G o (fun a w=>(fin i=true\/HS C own0 G0 w)/\iC P ops (gn Q) (HS C own0 G0) fin π a w)):St C n fr own G (iC P ops (gn Q) (HS C own0 G0) fin ((i,false)::π)):=by
 intro a w rl;show wpOp P ops (gn Q) i _ a w;unfold wpOp;simp only[ho,Region.wanted,hg,if_true];exact .inl (hc a w _ rl)
def dn(h:St C n fr own G (Q .normal)):St C n fr own G (iC P ops (gn Q) (HS C own0 G0) fin []):=h
def tw{cs:List Value}[h:s8 A b cs][k:GL A G]:G b=some cs:=k.le _ _ h.h
variable {r:List Oper}
def sm(hx:aB fr x=some v)(hd:b8 n dst=true)(h:St C n (put fr dst v) own G (cP P ops Q r)):St C n fr own G (cP P ops Q (⟨dst, .move x,ty',pos,af,none⟩::r)):=pk (lf hx) J hd h
def sa(hx:aB fr x=some v)(hd:b8 n dst=true)(h:St C n (put fr dst v) own G (cP P ops Q r)):St C n fr own G (cP P ops Q (⟨dst, .assign x,ty',pos,af,none⟩::r)):=pk (Hy hx) J hd h
def sn{ad:Addr}(hx:aB fr x=some (.pointer (some ad)))(hd:b8 n dst=true)(h:St C n (put fr dst (.pointer (some ad))) own G (cP P ops Q r)):St C n fr own G (cP P ops Q (⟨dst, .nilCheck x,ty',pos,af,none⟩::r)):=pk (mI hx) J hd h
def sf{o:Nat}[hF:kP P t f off](hx:aB fr x=some (.pointer (some ⟨b,o,none⟩)))(hd:b8 n dst=true)(h:St C n (put fr dst (.pointer (some ⟨b,o+off,none⟩))) own G (cP P ops Q r)):St C n fr own G (cP P ops Q (⟨dst, .fieldAddr t x f,ty',pos,af,none⟩::r)):=pk (ri hx) J hd h
def B9{cs:List Value}(hx:aB fr x=some (.pointer (some ⟨b,off,none⟩)))[ho:iw own b cs ty lo][kl P t k](hl:co cs off k=some l)(hd:b8 n dst=true)
  (h:St C n (put fr dst (.agg ⟨l⟩)) own G (cP P ops Q r)):St C n fr own G (cP P ops Q (⟨dst, .load t x,ty',pos,af,none⟩::r)):=pk (Da hx hl) J hd h
def mz{cs:List Value}(hx:aB fr x=some (.pointer (some ⟨b,off,none⟩)))[ho:iw own b cs ty lo][jB P t](hl:cs[off]? =some v)(hd:b8 n dst=true)
  (h:St C n (put fr dst v) own G (cP P ops Q r)):St C n fr own G (cP P ops Q (⟨dst, .load t x,ty',pos,af,none⟩::r)):=pk (nn hx hl) J hd h
def Tt{cs:List Value}(hx:aB fr x=some (.pointer (some ⟨b,off,none⟩)))[hg:s8 A b cs][hk:GL A G][kl P t k](hl:co cs off k=some l)(hd:b8 n dst=true)
  (h:St C n (put fr dst (.agg ⟨l⟩)) own G (cP P ops Q r)):St C n fr own G (cP P ops Q (⟨dst, .load t x,ty',pos,af,none⟩::r)):=pk (EP hx (hk.le _ _ hg.h) hl) J hd h
def YU{cs:List Value}(hx:aB fr x=some (.pointer (some ⟨b,off,none⟩)))[hg:s8 A b cs][hk:GL A G][jB P t](hl:cs[off]? =some v)(hd:b8 n dst=true)
  (h:St C n (put fr dst v) own G (cP P ops Q r)):St C n fr own G (cP P ops Q (⟨dst, .load t x,ty',pos,af,none⟩::r)):=pk (qv hx (hk.le _ _ hg.h) hl) J hd h
def rF[hT:cj P t e s by_](hx:aB fr x=some (.slice ad len cap))(hd:b8 n dst=true)
  (h:St C n (put fr dst (.int .i64 len)) own G (cP P ops Q r)):St C n fr own G (cP P ops Q (⟨dst, .call ⟨.builtin .len, #[x], #[t]⟩,ty',pos,af,none⟩::r)):=pk (tE hx) J hd h
def sx{vs:Array Value}(hx:aB fr x=some (.tuple vs))(hv:vs[i]? =some v)(hd:b8 n dst=true)(h:St C n (put fr dst v) own G (cP P ops Q r)):St C n fr own G (cP P ops Q (⟨dst, .extract x i,ty',pos,af,none⟩::r)):=pk (vD hx hv) J hd h
def D4{own:List av}{id:Nat}(h:St C n fr own G (Q (.exit id))):St C n fr own G (Exit.then K Q (.exit id)):=h
def fp{b:Bool}(hj:(ops[j]?).bind (·.dst)=some d)(hl:io fr d=some (.bool b))(hy:Yd P C fr own G ⟨dst,op,ty',pos,af,some (j,b)⟩ v)(hd:b8 n dst=true)(h:St C n (put fr dst v) own G (cP P ops Q r)):St C n fr own G (cP P ops Q (⟨dst,op,ty',pos,af,some (j,b)⟩::r)):=aHb J hj hl hy hd h
def ss{b:Bool}(hj:(ops[j]?).bind (·.dst)=some d)(hl:io fr d=some (.bool c))(hbc:(c==b)=false)(hd:b8 n dst=true)(h:St C n (put fr dst undef) own G (cP P ops Q r)):St C n fr own G (cP P ops Q (⟨dst,op,ty',pos,af,some (j,b)⟩::r)):=Ux J hj hl hbc hd h
def sy(hy:Yd P C fr own G ⟨dst,op,ty',pos,af,none⟩ v)(hd:b8 n dst=true)(h:St C n (put fr dst v) own G (cP P ops Q r)):St C n fr own G (cP P ops Q (⟨dst,op,ty',pos,af,none⟩::r)):=pk hy J hd h
def sc{op:Op}(hc:Ch P C n fr own G ⟨dst,op,ty',pos,af,none⟩ (cP P ops Q r)):St C n fr own G (cP P ops Q (⟨dst,op,ty',pos,af,none⟩::r)):=aGk J hc
end
def Fn.of_calls{f:FuncId}{vs:List Value}(ha:rE P f)(h: ∀w,Calls P f ⟨vs⟩ w fun e w'=>e= .returned v/\w'=w):Fn P f vs G (fun u _=>u=v):=
 ⟨ha,fun w hw=>(h w).mono fun e w' ⟨he,hww⟩=>⟨v,G,he,by
  subst hww;exact⟨J,J,J,bW _,fun _ _ _=>J,hw,bH.refl _,fun _ _=>J,fun o ho=>(by cases ho), .nil,bW _,fun p hp=>by cases hp⟩,J⟩⟩
end Go.Sx
end
section
namespace Go.Sx
open Go Go.Proofs Tryz
instance:jB prog 3:=⟨fun _=>by kernel_rfl,fun _=>by kernel_rfl⟩
instance:gc prog 3 (.int .i64 0):=⟨by kernel_rfl⟩
instance:jB prog 4:=⟨fun _=>by kernel_rfl,fun _=>by kernel_rfl⟩
instance:gc prog 4 (.bool false):=⟨by kernel_rfl⟩
instance:cj prog 46 225 1 4:=⟨by kernel_rfl,by kernel_rfl⟩
instance:ji prog 46:=⟨225,by kernel_rfl⟩
instance:jB prog 67:=⟨fun _=>by kernel_rfl,fun _=>by kernel_rfl⟩
instance:cj prog 67 233 8 112:=⟨by kernel_rfl,by kernel_rfl⟩
instance:ji prog 67:=⟨233,by kernel_rfl⟩
instance:kl prog 69 2:=⟨fun _=>by kernel_rfl,fun _=>by kernel_rfl⟩
instance:gc prog 69 (.agg ⟨[.int .i64 0, .slice none 0 0]⟩):=⟨by kernel_rfl⟩
instance:kP prog 69 0 0:=⟨fun _ _ _=>by kernel_rfl⟩
instance:kP prog 69 1 1:=⟨fun _ _ _=>by kernel_rfl⟩
instance:kl prog 136 6:=⟨fun _=>by kernel_rfl,fun _=>by kernel_rfl⟩
instance:gc prog 136 (.agg ⟨[.bool false, .slice none 0 0, .bool false, .slice none 0 0, .bool false, .slice none 0 0]⟩):=⟨by kernel_rfl⟩
instance:gc prog 140 (.agg ⟨[.bool false, .bool false, .bool false, .slice none 0 0, .bool false, .slice none 0 0, .bool false, .slice none 0 0, .pointer none, .pointer none]⟩):=⟨by kernel_rfl⟩
instance:AP prog 140 [(0,1),(1,1),(2,6),(8,1),(9,1)]:=⟨_,fun _=>HC underlying140 _,fun _=>by kernel_rfl⟩
instance:jB prog 143:=⟨fun _=>by kernel_rfl,fun _=>by kernel_rfl⟩
instance:gc prog 143 (.pointer none):=⟨by kernel_rfl⟩
instance:gc prog 225 (.int .u32 0):=⟨by kernel_rfl⟩
instance:kl prog 230 6:=⟨fun _=>by kernel_rfl,fun _=>by kernel_rfl⟩
instance:kl prog 233 8:=⟨fun _=>by kernel_rfl,fun _=>by kernel_rfl⟩
instance:gc prog 233 (.agg ⟨[.bool false, .slice none 0 0, .bool false, .slice none 0 0, .bool false, .slice none 0 0, .int .i64 0, .int .i64 0]⟩):=⟨by kernel_rfl⟩
instance:kP prog 233 0 0:=⟨fun _ _ _=>by kernel_rfl⟩
instance:kP prog 233 1 6:=⟨fun _ _ _=>by kernel_rfl⟩
instance:kP prog 233 2 7:=⟨fun _ _ _=>by kernel_rfl⟩
instance:AP prog 233 [(0,6),(6,1),(7,1)]:=⟨_,fun _=>HC underlying233 _,fun _=>by kernel_rfl⟩
instance:jB prog 237:=⟨fun _=>by kernel_rfl,fun _=>by kernel_rfl⟩
instance:cj prog 237 4 1 1:=⟨by kernel_rfl,by kernel_rfl⟩
instance:gc prog 239 (.agg ⟨[.slice none 0 0, .slice none 0 0, .int .i64 0, .bool false]⟩):=⟨by kernel_rfl⟩
instance:kP prog 239 0 0:=⟨fun _ _ _=>by kernel_rfl⟩
instance:kP prog 239 1 1:=⟨fun _ _ _=>by kernel_rfl⟩
instance:kP prog 239 2 2:=⟨fun _ _ _=>by kernel_rfl⟩
instance:kP prog 239 3 3:=⟨fun _ _ _=>by kernel_rfl⟩
instance:AP prog 239 [(0,1),(1,1),(2,1),(3,1)]:=⟨_,fun _=>HC underlying239 _,fun _=>by kernel_rfl⟩
instance:jB prog 241:=⟨fun _=>by kernel_rfl,fun _=>by kernel_rfl⟩
instance:gc prog 241 (.nilFunc):=⟨by kernel_rfl⟩
instance:kl prog 243 9:=⟨fun _=>by kernel_rfl,fun _=>by kernel_rfl⟩
instance:gc prog 243 (.agg ⟨[.int .i64 0, .int .i64 0, .pointer none, .int .i64 0, .int .i64 0, .pointer none, .int .i64 0, .int .i64 0, .pointer none]⟩):=⟨by kernel_rfl⟩
instance:kP prog 245 0 0:=⟨fun _ _ _=>by kernel_rfl⟩
instance:kP prog 245 1 9:=⟨fun _ _ _=>by kernel_rfl⟩
instance:kP prog 245 2 10:=⟨fun _ _ _=>by kernel_rfl⟩
instance:kP prog 245 3 11:=⟨fun _ _ _=>by kernel_rfl⟩
instance:cj prog 249 143 1 8:=⟨by kernel_rfl,by kernel_rfl⟩
instance:ji prog 249:=⟨143,by kernel_rfl⟩
instance:cj prog 253 330 17 128:=⟨by kernel_rfl,by kernel_rfl⟩
instance:ji prog 253:=⟨330,by kernel_rfl⟩
instance:cj prog 254 330 17 128:=⟨by kernel_rfl,by kernel_rfl⟩
def follows:prog.follows .mixedOrders=true:=by kernel_rfl
end Go.Sx
end
section
namespace Go.Sx
def dv:List Nat->Nat
 |[]=>0
 |d::t=>d+4294967296*dv t
def bB(ds:List Nat):Prop:= ∀d∈ds,d<4294967296
def ew(ds:List Nat):Prop:=ds.getLast? ≠some 0
instance (ds:List Nat):Decidable (ew ds):=inferInstanceAs (Decidable (ds.getLast? ≠some 0))
def bB.nil:bB []:=fun _ h=>by cases h
def bB.cons{d:Nat}{ds:List Nat}(h:d<4294967296)(k:bB ds):bB (d::ds):=fun x hx=>by
 rcases aK.1 hx with rfl|h'
 .exact h
 .exact k _ h'
def bB.head{d:Nat}{ds:List Nat}(h:bB (d::ds)):d<4294967296:=h d aQ
def bB.tail{d:Nat}{ds:List Nat}(h:bB (d::ds)):bB ds:=fun x hx=>h x (aJ _ hx)
def bB.append{a b:List Nat}(h:bB a)(k:bB b):bB (a++b):=fun x hx=>by
 rcases aM.1 hx with h'|h'
 .exact h _ h'
 .exact k _ h'
def bB.take{a:List Nat}(h:bB a)(n:Nat):bB (a.take n):=fun x hx=>h x (eM hx)
def bB.drop{a:List Nat}(h:bB a)(n:Nat):bB (a.drop n):=fun x hx=>h x (gU hx)
def bB.get{a:List Nat}(h:bB a)(i:Nat):a.getD i 0<4294967296:=by
 rw[aW]
 cases hi:a[i]? with
 |none=>simp
 |some d=>exact h d (aV hi)
def bB.set{a:List Nat}(h:bB a)(i:Nat){d:Nat}(hd:d<4294967296):bB (a.set i d):=fun x hx=>by
 rcases List.mem_or_eq_of_mem_set hx with h'|rfl
 .exact h _ h'
 .exact hd
def bB.replicate(n:Nat):bB (List.replicate n 0):=fun x hx=>by
 rw[List.eq_of_mem_replicate hx];omega
def y6(a b:List Nat):dv (a++b)=dv a+4294967296^a.length*dv b:=by
 induction a with
 |nil=>simp[dv]
 |cons d t ih=>
  simp only[gL,dv,ih,bQ,gR];rw[fQ,<-kN,<-cV,cJ 4294967296 (4294967296^t.length)]
def l8{ds:List Nat}(h:bB ds):dv ds<4294967296^ds.length:=by
 induction ds with
 |nil=>simp[dv]
 |cons d t ih=>
  have h1:=h.head;have h2:=ih h.tail;simp only[dv,bQ,gR];omega
def w6(n:Nat):dv (List.replicate n 0)=0:=by
 induction n with
 |zero=>rfl
 |succ n ih=>simp[sS,dv,ih]
def nH(ds:List Nat)(i:Nat):dv (ds.take (i+1))=dv (ds.take i)+4294967296^i*ds.getD i 0:=by
 by_cases h:i<ds.length
 .rw[iL h,y6]
  simp[dv,jM (gJ h),aW,h]
 .have:ds.getD i 0=0:=by rw[aW,eJ (by omega)];rfl
  rw[this,cZ (by omega),cZ (by omega)];simp
def AV(ds:List Nat)(i:Nat)(h:i<=ds.length:=by omega):dv ds=dv (ds.take i)+4294967296^i*dv (ds.drop i):=by
 have:=y6 (ds.take i) (ds.drop i);rw[kQ] at this;rw[this];simp[jM h]
def trimD:List Nat->List Nat
 |[]=>[]
 |d::t=>match trimD t with
  |[]=>if d=0 then [] else [d]
  |t'=>d::t'
def uV(d:Nat)(t:List Nat):trimD (d::t)=if trimD t=[]/\d=0 then [] else d::trimD t:=by
 simp only[trimD]
 cases h:trimD t with
 |nil=>by_cases hd:d=0<;>simp[hd]
 |cons a b=>simp
def T6(ds:List Nat):dv (trimD ds)=dv ds:=by
 induction ds with
 |nil=>rfl
 |cons d t ih=>
  rw[uV];split
  .rename_i h
   rw[h.1] at ih;simp[dv,<-ih,h.2]
  .simp[dv,ih]
def SQ(ds:List Nat):trimD (ds++[0])=trimD ds:=by
 induction ds with
 |nil=>rfl
 |cons d t ih=>rw[gL,uV,uV,ih]
def RH{ds:List Nat}{d:Nat}(h:d≠0):trimD (ds++[d])=ds++[d]:=by
 induction ds with
 |nil=>simp[trimD,h]
 |cons e t ih=>rw[gL,uV,ih];simp
def ew.trimD(ds:List Nat):ew (trimD ds):=by
 induction ds with
 |nil=>simp[ew,Sx.trimD]
 |cons d t ih=>
  rw[uV];split
  .simp[ew]
  .rename_i h
   unfold ew at*;rw[List.getLast?_cons]
   cases ht:(Sx.trimD t).getLast? with
   |none=>
    have:Sx.trimD t=[]:=by simpa using ht
    simp only[Option.getD_none,ne_eq,Option.some.injEq];exact fun hd=>h ⟨this,hd⟩
   |some x=>rw[ht] at ih;simpa using ih
def TR(ds:List Nat):(trimD ds).length<=ds.length:=by
 induction ds with
 |nil=>simp[trimD]
 |cons d t ih=>
  rw[uV];split
  .simp
  .simp;omega
def Tn(ds:List Nat):trimD ds=ds.take (trimD ds).length:=by
 induction ds with
 |nil=>rfl
 |cons d t ih=>
  rw[uV];split
  .rfl
  .simp only[bQ,oZ];rw[<-ih]
def bB.trimD{ds:List Nat}(h:bB ds):bB (trimD ds):=by rw[Tn];exact h.take _
def asV{ds:List Nat}(h:ew ds):trimD ds=ds:=by
 rcases nJ ds with rfl|⟨l,d,rfl⟩
 .rfl
 .rw[nK] at*
  exact RH (fun e=>by subst e;simp[ew] at h)
def uR{ds:List Nat}(h:ew ds)(hne:ds≠[]):4294967296^(ds.length-1)<=dv ds:=by
 rcases nJ ds with rfl|⟨l,d,rfl⟩
 .exact absurd J hne
 .rw[nK] at*
  have hd:d≠0:=fun e=>by subst e;simp[ew] at h
  rw[y6];simp only[aY,bQ,eY,dv];have:4294967296^(l.length+(0+1)-1)=4294967296^l.length:=by congr 1
  rw[this];have h1:4294967296^l.length*1<=4294967296^l.length*(d+4294967296*0):=fR _ (by omega);omega
def xv{a b:List Nat}(ha:bB a)(hb:ew b)(h:a.length<b.length):dv a<dv b:=by
 have h1:=l8 ha;have h2:=uR hb (fun e=>by subst e;simp at h);have h3:4294967296^a.length<=4294967296^(b.length-1):=bR (by omega) (by omega);omega
def LQ: ∀{a b:List Nat},bB a->bB b->a.length=b.length->dv a=dv b->a=b
 |[],[],_,_,_,_=>rfl
 |d::t,e::u,ha,hb,hl,h=>by
  have h1:=ha.head;have h2:=hb.head;simp only[dv] at h;have:d=e:=by omega
  subst this;rw[LQ ha.tail hb.tail (by simpa using hl) (by omega)]
def XU{a b:List Nat}(ha:bB a)(hb:bB b)(na:ew a)(nb:ew b)(h:dv a=dv b):a=b:=by
 refine LQ ha hb ?_ h;rcases rW a.length b.length with h'|h'|h'
 .have:=xv ha nb h';omega
 .exact h'
 .have:=xv hb na h';omega
def Ka{a b:List Nat}(ha:bB a)(hb:bB b)(i:Nat)(hia:i<a.length)(hib:i<b.length)(hl:a.length=b.length)(hs:a.drop (i+1)=b.drop (i+1))(h:a.getD i 0<b.getD i 0):dv a<dv b:=by
 rw[AV a (i+1),AV b (i+1),hs,nH,nH];have h1:=l8 (ha.take i);rw[bL,jM (by omega)] at h1;have h2:4294967296^i*(a.getD i 0+1)<=4294967296^i*b.getD i 0:=fR _ h;rw[fQ] at h2;omega
def WZ{ds:List Nat}{k:Nat}(h:ew ds)(hk:dv ds<2^k):32*ds.length<=k+31:=by
 by_cases hne:ds=[]
 .subst hne;simp
 .have h1:=uR h hne
  have h2:(4294967296:Nat)^(ds.length-1)=2^(32*(ds.length-1)):=by
   rw[tK]
  rw[h2] at h1;have h3:2^(32*(ds.length-1))<2^k:=fK h1 hk;have h4:=(nN (by omega:1<2)).1 h3;have:0<ds.length:=by cases ds with|nil=>exact absurd J hne|cons _ _=>simp
  omega
def dg(x:Nat):List Nat:=if h:x=0 then [] else(x%4294967296)::dg (x/4294967296)
termination_by x
decreasing_by omega
def fE(x:Nat):dv (dg x)=x/\bB (dg x)/\ew (dg x):=by
 induction x using Nat.strongRecOn with
 |_ x ih=>
  unfold dg;split
  .rename_i h;subst h;exact⟨rfl, .nil,by simp[ew]⟩
  .rename_i h
   obtain⟨h1,h2,h3⟩:=ih (x/4294967296) (by omega);refine⟨by rw[dv,h1];omega, .cons (by omega) h2,?_⟩;unfold ew at*;rw[List.getLast?_cons]
   cases hl:(dg (x/4294967296)).getLast? with
   |none=>
    have:dg (x/4294967296)=[]:=by simpa using hl
    rw[this] at h1;simp only[Option.getD_none,ne_eq,Option.some.injEq];simp only[dv] at h1;omega
   |some y=>rw[hl] at h3;simpa using h3
def YB{ds:List Nat}(h:bB ds)(n:ew ds):dg (dv ds)=ds:=XU (fE _).2.1 h (fE _).2.2 n (fE _).1
def C9{ds:List Nat}(h:bB ds):dg (dv ds)=trimD ds:=by rw[<-T6];exact YB h.trimD (ew.trimD _)
def vz: ∀(ws:List Nat) (j d:Nat),j<ws.length->dv (ws.set j d)+4294967296^j*ws.getD j 0=dv ws+4294967296^j*d
 |[],j,d,h=>by simp at h
 |w::t,0,d,h=>by simp[dv];omega
 |w::t,j+1,d,h=>by
  have ih:=vz t j d (by simpa using h);simp only[List.set_cons_succ,dv,oX,gR];have h1:4294967296^j*4294967296*t.getD j 0=4294967296*(4294967296^j*t.getD j 0):=by rw[cJ (4294967296^j),cV]
  have h2:4294967296^j*4294967296*d=4294967296*(4294967296^j*d):=by rw[cJ (4294967296^j),cV]
  rw[h1,h2];omega
def u6{ws:List Nat}{k d:Nat}(h:k<ws.length:=by omega):dv ((ws.set k d).take (k+1))=dv (ws.take k)+4294967296^k*d:=by
 rw[iL (by simpa using h),List.take_set_of_le (bW _),y6];simp[dv,jM (gJ h)]
def QX(p x:Nat):p*x=p*(x%4294967296)+p*4294967296*(x/4294967296):=by
 have h:p*x=p*(4294967296*(x/4294967296)+x%4294967296):=by rw[qT]
 rw[fQ,<-cV] at h;omega
def WH{p A E W c a b:Nat}(h:W+p*c=A+E):(W+p*((c+a+b)%4294967296))+(p*4294967296)*((c+a+b)/4294967296)=(A+p*a)+(E+p*b):=by
 have h1:=QX p (c+a+b);rw[fQ,fQ] at h1;omega
def Wu{p A E W bo b a:Nat}(h:W+E=A+p*bo)(hle:bo+b<=a):(W+p*(a-(bo+b)))+(E+p*b)=(A+p*a)+p*4294967296*0:=by
 have h1:p*a=p*(a-(bo+b))+p*bo+p*b:=by
  rw[<-fQ,<-fQ];congr 1;omega
 omega
def aAo{p A E W bo b a:Nat}(h:W+E=A+p*bo)(hle:a<bo+b)(hb:bo+b<=a+4294967296):(W+p*(a+4294967296-(bo+b)))+(E+p*b)=(A+p*a)+p*4294967296*1:=by
 have h1:p*a+p*4294967296=p*(a+4294967296-(bo+b))+p*bo+p*b:=by
  rw[<-fQ,<-fQ,<-fQ];congr 1;omega
 omega
def XK{p W W' T c m w:Nat}(hs:W'+p*w=W+p*((c+m+w)%4294967296))(h:W+p*c=T):W'+(p*4294967296)*((c+m+w)/4294967296)=T+p*m:=by
 have h1:=QX p (c+m+w);rw[fQ,fQ] at h1;omega
end Go.Sx
end
section
namespace Go.Sx
open Go
variable {A G:Gh}{s e by_ b:Nat}{es l:List Value}{P:Program}{C:aE}{fr:Fr}{own':List av}{Φ:Act->World->Prop}{dst:Option Nat}{t t' ty':TypeId}{pos:String}{af:Array Edge}{y:Operand}{k k':IntKind}{i p q:Int}{ds:List Nat}
structure SV where
 a:Option Addr
 n:Nat
 c:Nat
variable {x z:SV}
def SV.v(x:SV):Value:= .slice x.a x.n x.c
structure f7 (G:Gh) (s:Nat) (x:SV) (es:List Value):Prop where
 len:x.n=es.length
 cap:x.n<=x.c
 mem:es=[]\/ ∃b off cs,x.a=some ⟨b,off,none⟩/\G b=some cs/\ ∀i (h:i<es.length),co cs (off+i*s) s=some (aF es[i])
def f7.up'(h:f7 A s x es)(k:bH A G):f7 G s x es:=
 ⟨h.len,h.cap,h.mem.imp id (fun⟨b,off,cs,h1,h2,h3⟩=>⟨b,off,cs,h1,k _ _ h2,h3⟩)⟩
def f7.up(h:f7 A s x es)[k:GL A G]:f7 G s x es:=h.up' k.le
def f7.nil(G:Gh)(s:Nat):f7 G s ⟨none,0,0⟩ []:=⟨J,bW _, .inl J⟩
def CQ(a:Option Addr)(k:Nat):Option Addr:=a.map (·.add k)
section
variable {n:Nat}{own:List av}
variable {gd:Option (Nat×Bool)}{x:Operand}
def Yi[hT:cj P t e s by_](hs:f7 A s z es)(hx:aB fr x=some (.slice z.a z.n z.c))(hy:aB fr y=some (.int k i))(h0:0<=i)(h1:i<z.n):
  Yd P C fr own G ⟨dst, .indexAddr t x y,ty',pos,af,gd⟩ (.pointer (CQ z.a (i.toNat*s))):=by
 rcases hs.mem with h|⟨b,off,cs,ha,hg,hc⟩
 .have:=hs.len;rw[h] at this;simp at this;omega
 .rw[ha] at hx
  have:=vG (P:=P) (C:=C) (own:=own) (G:=G) (t:=t) (dst:=dst) (ty':=ty') (pos:=pos) (af:=af) (gd:=gd) (by_:=by_) hx hy h0 h1;rw[ha];simpa[CQ,qA] using this
def Y6[hA:kl P t s]{i:Nat}(hs:f7 A s z es)[hl:GL A G](hx:aB fr x=some (.pointer (CQ z.a (i*s))))(h1:i<es.length)(he:es[i]? =some (.agg ⟨l⟩)):
  Yd P C fr own G ⟨dst, .load t x,ty',pos,af,gd⟩ (.agg ⟨l⟩):=by
 rcases hs.mem with h|⟨b,off,cs,ha,hg,hc⟩
 .rw[h] at h1;simp at h1
 .rw[ha] at hx
  have h2:=hc i h1;rw[aZ h1] at he;have he':es[i]= .agg ⟨l⟩:=by simpa using he
  rw[he'] at h2;exact EP (by simpa[CQ,qA] using hx) (hl.le _ _ hg) h2
end
def dI(d:Nat):Value:= .int .u32 (d:Int)
structure mE (G:Gh) (x:SV) (ds:List Nat):Prop where
 ok:bB ds
 sl:f7 G 1 x (ds.map dI)
def mE.len{G:Gh}{x:SV}{ds:List Nat}(h:mE G x ds):x.n=ds.length:=by simpa using h.sl.len
def mE.up{A G:Gh}{x:SV}{ds:List Nat}(h:mE A x ds)[k:GL A G]:mE G x ds:=⟨h.ok,h.sl.up⟩
def mE.nil(G:Gh):mE G ⟨none,0,0⟩ []:=⟨.nil, .nil G 1⟩
def mE.of_block{c k:Nat}{cs:List Value}(ok:bB ds)(hg:G b=some cs)(hk:k=ds.length)(hc:k<=c)(hcs:cs.take ds.length=ds.map dI):mE G ⟨some ⟨b,0,none⟩,k,c⟩ ds:=by
 refine⟨ok,by simpa using hk,hc, .inr ⟨b,0,cs,J,hg,fun i hi=>?_⟩⟩;have hi':i<ds.length:=by simpa using hi
 have hl:ds.length<=cs.length:=by
  have:=congrArg List.length hcs;simp at this;omega
 rw[k9 _ _ _ (by omega)];congr 1;have h1:(cs.take ds.length)[i]? =(ds.map dI)[i]? :=by rw[hcs]
 rw[oR,if_pos hi',cY,aZ hi',aZ (by omega)] at h1;have h2:cs[i]=dI ds[i]:=by simpa using h1
 rw[eX,iN,bK (by omega),oZ,tJ,h2,pU];rfl
structure AL (k:Nat) (G:Gh) (x:SV) (v:Nat):Prop where
 d:mE G x (dg v)
 lt:v<2^k
def AL.up{k:Nat}{A G:Gh}{x:SV}{v:Nat}(h:AL k A x v)[GL A G]:AL k G x v:=⟨h.d.up,h.lt⟩
section
variable {n:Nat}{own:List av}
variable {gd:Option (Nat×Bool)}{x:Operand}
def aGt(h:mE A z ds)[hl:GL A G]:lH P C own G 1 z.n (.slice z.a z.n z.c) (ds.map dI):=by
 intro w hw;by_cases hne:ds=[]
 .rw[h.len]
  subst hne;exact uh w hw
 rcases h.sl.mem with h0|⟨b,off,cs,ha,hg,hc⟩
 .exact absurd (by simpa using h0) hne
 .rw[ha]
  have hn:=h.len;refine M3 (hl.le _ _ hg) ?_ w hw;rw[iN];have hel: ∀i,i<ds.length->cs[off+i]? =some (dI (ds.getD i 0)):=fun i hi=>by
   have h1:=hc i (by simpa using hi);obtain⟨_,h2⟩:=pn _ _ _ _ h1;have h3:=h2 0 (by omega);rw[iN,gX] at h3;rw[h3,pU,aW,aZ hi];rfl
  by_cases h00:ds.length=0
  .exact absurd h00 (fun e=>hne (cR e))
  .have hlast:=hel (ds.length-1) (by omega)
   have hle:off+ds.length<=cs.length:=by
    have:=(aT.1 hlast).1;omega
   rw[hn,k9 _ _ _ hle];congr 1;apply lW;intro i;rw[oR];split
   .rename_i hi
    rw[lN,hel i hi,cY,aW,aZ hi];rfl
   .rename_i hi
    rw[eJ (by simpa using hi)]
def tn[hT:cj P t e s by_]{len cap:Nat}(hx:aB fr x=some (.slice (some ⟨b,0,none⟩) len cap))(hy:aB fr y=some (.int k i))(h0:0<=i:=by omega)(h1:i<len:=by omega):
  Yd P C fr own G ⟨dst, .indexAddr t x y,ty',pos,af,gd⟩ (.pointer (some ⟨b,i.toNat*s,none⟩)):=by
 have:=vG (P:=P) (C:=C) (own:=own) (G:=G) (t:=t) (dst:=dst) (ty':=ty') (pos:=pos) (af:=af) (gd:=gd) (by_:=by_) hx hy h0 h1;rwa [eX] at this
def u9(hx:aB fr x=some (.int .i64 p))(hy:aB fr y=some (.int .i64 q))(h0: -9223372036854775808<=p+q:=by omega)(h1:p+q<=9223372036854775807:=by omega):Yd P C fr own G ⟨dst, .binOp .add t x y t',ty',pos,af,gd⟩ (.int .i64 (p+q)):=MV hx hy ⟨h0,h1⟩
def XF(hx:aB fr x=some (.int .i64 p))(hy:aB fr y=some (.int .i64 q))(h0: -9223372036854775808<=p-q:=by omega)(h1:p-q<=9223372036854775807:=by omega):Yd P C fr own G ⟨dst, .binOp .sub t x y t',ty',pos,af,gd⟩ (.int .i64 (p-q)):=Ov hx hy ⟨h0,h1⟩
def WR(hx:aB fr x=some (.int k p))(hy:aB fr y=some (.int k' q))(h0:0<=q):Yd P C fr own G ⟨dst, .binOp .shr t x y t',ty',pos,af,gd⟩ (.int k (p.fdiv (2^min q.toNat k.bits))):=by
 intro a w hf hh;simp only[execOp,bw hf hx,bw hf hy];have h1:(eqGuard .shr t x y (.int k p) (.int k' q)).run P w= .ok () w:=J;have h2:(binOp .shr t (.int k p) (.int k' q)).run P w= .ok (.int k (p.fdiv (2^min q.toNat k.bits))) w:=by
  simp[binOp,Op.shift,Int.not_lt.2 h0,run_pure]
 exact cD (by rw[aO h1];exact h2)
def SL(hx:aB fr x=some (.int k p))(hy:aB fr y=some (.int k' q))(h0:0<=q):Yd P C fr own G ⟨dst, .binOp .shl t x y t',ty',pos,af,gd⟩ (.int k (k.wrap (p*2^min q.toNat k.bits))):=by
 intro a w hf hh;simp only[execOp,bw hf hx,bw hf hy];have h1:(eqGuard .shl t x y (.int k p) (.int k' q)).run P w= .ok () w:=J;have h2:(binOp .shl t (.int k p) (.int k' q)).run P w= .ok (.int k (k.wrap (p*2^min q.toNat k.bits))) w:=by
  simp[binOp,Op.shift,Int.not_lt.2 h0,run_pure]
 exact cD (by rw[aO h1];exact h2)
def s6(p:Int):IntKind.u32.wrap p=p%4294967296:=by simp[IntKind.wrap,IntKind.bits,IntKind.signed]
def q7(p:Int):IntKind.u64.wrap p=p%18446744073709551616:=by simp[IntKind.wrap,IntKind.bits,IntKind.signed]
def axp[hs:uT P t k][hd:uT P t' .u32](hx:aB fr x=some (.int k p)):Yd P C fr own G ⟨dst, .convert t t' x,ty',pos,af,gd⟩ (.int .u32 (p%4294967296)):=by
 have:=Ej (P:=P) (C:=C) (own:=own) (G:=G) (dst:=dst) (ty':=ty') (pos:=pos) (af:=af) (gd:=gd) (t:=t) (t':=t') hx;rwa [s6] at this
def Yy(hx:aB fr x=some (.int k p))(hy:aB fr y=some (.int k q))(h0:0<=p)(h:q≠0):Yd P C fr own G ⟨dst, .binOp .rem t x y t',ty',pos,af,gd⟩ (.int k (p%q)):=by
 have:=Qu (P:=P) (C:=C) (own:=own) (G:=G) (dst:=dst) (ty':=ty') (pos:=pos) (af:=af) (gd:=gd) (t:=t) (t':=t') hx hy h;rwa [Int.tmod_eq_emod_of_nonneg h0] at this
def ZF(hx:aB fr x=some (.int .u64 p))(hy:aB fr y=some (.int .u64 q))(h0:0<=p)(h1:p<=18446744073709551615)(h:0<q):Yd P C fr own G ⟨dst, .binOp .quo t x y t',ty',pos,af,gd⟩ (.int .u64 (p/q)):=by
 have:=J1 (P:=P) (C:=C) (own:=own) (G:=G) (dst:=dst) (ty':=ty') (pos:=pos) (af:=af) (gd:=gd) (t:=t) (t':=t') hx hy (by omega);rw[Int.tdiv_eq_ediv_of_nonneg h0,q7,Int.emod_eq_of_lt (Int.ediv_nonneg h0 (by omega)) (by have:=Int.ediv_le_self q h0;omega)] at this;exact this
def P'{Q:Exit->Act->World->Prop}{p:Prop}{inst:Decidable p}{c:Operand}{x y:Code}(hc:aB fr c=some (.bool (@decide p inst)))(h2: ¬p->St C n fr own G (y.wp P Q))(h1:p->St C n fr own G (x.wp P Q)):
  St C n fr own G ((Code.cond c x y).wp P Q):=uB hc h1 h2
end
end Go.Sx
end
section
namespace Go.Sx
open Go Go.Proofs Tryz
def U2(ds:List Nat): ∀v∈ds.map dI,flat v=true:=fun v hv=>by
 obtain⟨d,_,rfl⟩:=aR.1 hv;rfl
def SE{A G:Gh}{x:SV}{ds:List Nat}(hx:mE A x ds)[GL A G](hb:ds.length<=1125899906842):Fn prog 250 [x.v] G (fun v G'=> ∃z:SV,v=z.v/\mE G' z ds):=by
 have hlen:=hx.len;refine Fn.intro func250 J J ntmps250 J ?_;intro C _ _;refine sR<|sa J J<|zE<|eE<|sR<|sm J J<|sy (QY J J) J<|zE<|?_;refine Zp J (fun hc=>?_) (fun hc=>?_)
 .refine sR<|sa J J<|zE<|kD<|?_
  refine zD (.tmp J .nil) ⟨⟨none,0,0⟩,J,?_⟩;rcases hx.sl.mem with h|⟨b,off,cs,ha,_⟩
  .have:ds=[]:=by simpa using h
   subst this;exact .nil _
  .rw[ha] at hc;cases hc
 refine zK<|sR<|?_;refine sc (O3 J ?_);intro b1;refine sm J J<|?_;refine sc (Mi (xs:=[]) (rest:=[]) (ys:=ds.map dI) J J (.hd ..) J J (bW _) (aGt hx) (by simp[hlen]) (U2 ds) (by decide) (by omega) J J ?_);intro b cap rest h1 h2;refine sa J J<|zE<|BD b (.hd ..) (fun G' _ hgb=>?_);refine kD<|?_;refine zD (.tmp J .nil) ⟨⟨some ⟨b,0,none⟩,x.n,cap⟩,by simp[nv,SV.v],?_⟩;exact .of_block hx.ok hgb.h hlen (by omega) (by simp)
end Go.Sx
end
section
namespace Go.Proofs
open Go.Shelf
def Tryz.lays133_ren:Go.Shelf.Ren:=⟨fun|133=>251|128=>293|n=>n,fun|51=>225|3=>3|4=>4|46=>226|5=>5|9=>9|n=>n,fun|n=>n⟩
def Tryz.lays133:Go.Proofs.Lays.n133 Tryz.prog Tryz.lays133_ren:={
 mixed:=by kernel_rfl
 f128:=Tryz.func293.trans (congrArg some (by kernel_rfl))
 f133:=Tryz.func251.trans (congrArg some (by kernel_rfl))
 t3:=Tryz.underlying3
 a3:=Tryz.isAgg3
 z3:=Tryz.sizeOf3
 v3:=Tryz.zeroValue3
 t4:=Tryz.underlying4
 a4:=Tryz.isAgg4
 z4:=Tryz.sizeOf4
 v4:=Tryz.zeroValue4
 t5:=Tryz.underlying5
 a5:=Tryz.isAgg5
 z5:=Tryz.sizeOf5
 v5:=Tryz.zeroValue5
 t9:=Tryz.underlying9
 a9:=Tryz.isAgg9
 z9:=Tryz.sizeOf9
 v9:=Tryz.zeroValue9
 t46:=Tryz.underlying226
 a46:=Tryz.isAgg226
 z46:=Tryz.sizeOf226
 v46:=Tryz.zeroValue226
 t51:=Tryz.underlying225
 a51:=Tryz.isAgg225
 z51:=Tryz.sizeOf225
 v51:=Tryz.zeroValue225}
def Tryz.bits_LeadingZeros32(x:Int)(w:World)(h0:0<=x)(h1:x<=4294967295):
  Calls Tryz.prog 251 #[.int .u32 x] w fun e w'=>e= .returned (.int .i64 (32-(Lib.bitLen x.toNat:Int)))/\w'=w:=Any.bits_LeadingZeros32 Tryz.lays133 x w h0 h1
open Go.Lib in
open Go.Lib in
open Go.Lib in
open Go.Lib in
open Go.RowKit Go.Sort Go.Lib in
open Go.RowKit Go.Sort Go.Lib in
open Go.RowKit Go.Sort Go.Lib in
open Go.RowKit Go.Sort Go.Lib in
open Go.RowKit Go.Sort Go.Lib in
open Go.RowKit Go.Sort Go.Lib in
open Go.RowKit Go.Sort Go.Lib in
def Tryz.lays264_ren:Go.Shelf.Ren:=⟨fun|264=>178|n=>n,fun|53=>224|46=>226|n=>n,fun|n=>n⟩
def Tryz.lays264:Go.Proofs.Lays.n264 Tryz.prog Tryz.lays264_ren:={
 mixed:=by kernel_rfl
 f264:=Tryz.func178.trans (congrArg some (by kernel_rfl))
 t46:=Tryz.underlying226
 a46:=Tryz.isAgg226
 z46:=Tryz.sizeOf226
 v46:=Tryz.zeroValue226
 t53:=Tryz.underlying224
 a53:=Tryz.isAgg224
 z53:=Tryz.sizeOf224
 v53:=Tryz.zeroValue224}
open Go.RowKit Go.Lib in
def Tryz.bits_Mul64(x y:Nat)(hx:x<18446744073709551616)(hy:y<18446744073709551616)(w:World):
  Calls Tryz.prog 178 #[.int .u64 x, .int .u64 y] w fun e w'=>e= .returned (.tuple #[.int .u64 ((x*y/18446744073709551616:Nat):Int), .int .u64 ((x*y%18446744073709551616:Nat):Int)])/\w'=w:=Any.bits_Mul64 Tryz.lays264 x y hx hy w
end Go.Proofs
end
section
namespace Go.Sx
open Go Go.Proofs Tryz
variable {x k n:Nat}{P:Program}{G:Gh}{q:Int}
def bl(x:Nat):Nat:=if x=0 then 0 else Nat.log2 x+1
def BY(x:Nat):x<2^bl x:=by
 unfold bl;split
 .rename_i h;subst h;decide
 .exact Nat.lt_log2_self
def n9{x k:Nat}:bl x<=k↔x<2^k:=by
 constructor
 .intro h;exact dZ (BY x) (bR (by omega) h)
 .intro h
  unfold bl;split
  .omega
  .rename_i h0
   have:=(Nat.log2_lt h0).2 h;omega
def Xs(h:x≠0):bl x=1+bl (x/2):=by
 have h1: ∀k,bl x<=k+1↔bl (x/2)<=k:=fun k=>by
  rw[n9,n9,gR];omega
 have h2:bl x≠0:=fun e=>by
  have:=BY x;rw[e] at this;simp at this;exact h this
 have h3:=(h1 (bl (x/2))).2 (bW _);have h4:=(h1 (bl x-1)).1 (by omega);omega
def O8: ∀(f x:Nat),x<2^f->Lib.bitLenAux f x=bl x
 |0,x,h=>by
  have:x=0:=by simpa using h
  subst this;rfl
 |f+1,x,h=>by
  unfold Lib.bitLenAux;split
  .rename_i h0;subst h0;rfl
  .rename_i h0
   rw[O8 f (x/2) (by rw[gR] at h;omega),Xs h0]
def S0(h:x<2^64):Lib.bitLen x=bl x:=O8 64 x h
def Uy(d:Nat)(h:x<2^k)(hd:d≠0):bl (x+2^k*d)=k+bl d:=by
 have h1: ∀j,bl (x+2^k*d)<=k+j↔bl d<=j:=fun j=>by
  rw[n9,n9,fX];constructor
  .intro h'
   exact Nat.lt_of_mul_lt_mul_left (a:=2^k) (by omega)
  .intro h'
   have:2^k*(d+1)<=2^k*2^j:=fR _ h';rw[fQ] at this;omega
 have h2:k<bl (x+2^k*d):=by
  rcases jZ k (bl (x+2^k*d)) with h'|h'
  .exact h'
  .have:=n9.1 h'
   have h3:2^k*1<=2^k*d:=fR _ (by omega);omega
 have h3:=(h1 (bl d)).2 (bW _);have h4:=(h1 (bl (x+2^k*d)-k)).1 (by omega);omega
def aHt{ds:List Nat}(h:bB ds)(hn:ew ds)(hne:ds≠[]):bl (dv ds)=32*(ds.length-1)+bl (ds.getD (ds.length-1) 0):=by
 rcases nJ ds with rfl|⟨l,d,rfl⟩
 .exact absurd J hne
 .rw[nK] at*
  have hd:d≠0:=fun e=>by subst e;simp[ew] at hn
  have hl:bB l:=fun x hx=>h x (bV _ hx);have h1:=l8 hl;rw[y6];have h2:(4294967296:Nat)^l.length=2^(32*l.length):=by rw[tK]
  rw[h2] at h1⊢;have h3:dv [d]=d:=by simp[dv]
  rw[h3,Uy d h1 hd];have h4:(l++[d]).length-1=l.length:=by simp
  rw[h4,aW,jV (bW _)];simp
def Ma{f:FuncId}{fn:Func}{c:Code}(h:P.funcs[f]? =some fn)(hb:fn.body=some c)(hn:(fn.name== "runtime.NumGoroutine")=false):rE P f:=⟨fn,h,hn,by rw[hb];rfl⟩
def Td(hx:x<4294967296):Fn prog 251 [.int .u32 (x:Int)] G (fun v _=>v= .int .i64 (32-(bl x:Int))):=by
 have h:=Fn.of_calls (G:=G) (Ma func251 J J) (fun w=>Tryz.bits_LeadingZeros32 (x:Int) w (by omega) (by omega));rw[cK,S0 (tZ hx (by decide))] at h;exact h
def iB(a b:Nat):Int:=if a<b then-1 else if a=b then 0 else 1


def pq(d k:Nat)(hk:k<64)(h:d*2^k<18446744073709551616)(hq:q.toNat=k:=by omega):IntKind.u64.wrap ((d:Int)*2^min q.toNat IntKind.u64.bits)=((d*2^k:Nat):Int):=by
 rw[hq,jM (by show k<=64;omega),q7];have e2:(d:Int)*2^k=((d*2^k:Nat):Int):=by push_cast;rfl
 rw[e2];omega
def PX(d k:Nat)(hk:k<64:=by omega)(hq:q.toNat=k:=by omega):(d:Int).fdiv (2^min q.toNat IntKind.u64.bits)=((d/2^k:Nat):Int):=by
 rw[hq,jM (by show k<=64;omega),kK _ (pT (Int.pow_pos (by decide)))];push_cast;rfl
section
variable {C:aE}{fr:Fr}{own:List av}{dst:Option Nat}{t t1 t2 ty':TypeId}{pos:String}{af:Array Edge}{gd:Option (Nat×Bool)}{x y:Operand}
end
end Go.Sx
end
section
namespace Go.Sx
def vf(i:Nat):(4294967296:Nat)^(i+1)=4294967296^i*4294967296:=gR ..
def aA7{U p V T S first third:Nat}(hU:U<(first*4294967296+third+1)*p)(h3:third<4294967296)(hV:(T*4294967296+S)*p<=V)(hT:0<T):
  U<(first/T+1)*V:=by
 have h1:first+1<=(first/T+1)*T:=by
  have:=Nat.lt_mul_div_succ first hT
  rw[cJ];omega
 calc U<(first*4294967296+third+1)*p:=hU
  _<=((first+1)*4294967296)*p:=bT _ (by omega)
  _<=(((first/T+1)*T)*4294967296)*p:=bT _ (bT _ h1)
  _=(first/T+1)*((T*4294967296)*p):=by rw[cV (first/T+1),cV (first/T+1)]
  _<=(first/T+1)*V:=fR _ (cS (bT _ (oV _ _)) hV)
def X8{U p V T S first third v0:Nat}(hU:(first*4294967296+third)*p<=U)(hV:V=(T*4294967296+S)*p+v0)(hv:v0<p)(hlt:U<V*4294967296):first<=T*4294967296+S:=by
 rcases jZ (T*4294967296+S) first with h|h
 .exfalso
  have h1:(T*4294967296+S+1)*p<=first*p:=bT p h
  rw[dV _ 1,mR] at h1;rw[dV,mM] at hU;have:0<=third*p:=bJ _;omega
 .exact h
def FN{U p V T S first third g r:Nat}(hU:U<(first*4294967296+third+1)*p)(hV:(T*4294967296+S)*p<=V)(hg:first=g*T+r)(hc:r*4294967296+third<g*S:=by omega):U<g*V:=by
 refine dZ hU (cS (bT p (m:=g*(T*4294967296+S)) ?_) ?_)
 .rw[fQ,<-cV,hg,dV];omega
 .rw[cV];exact fR _ hV
def HI{U p V T S first third g r v0:Nat}(hU:(first*4294967296+third)*p<=U)(hV:V=(T*4294967296+S)*p+v0)(hv:v0<p)(hT:0<T)(hg:first=g*T+r)(hgB:g<4294967296)(hc:g*S<=r*4294967296+third):g*V<U+V:=by
 have h1:g*((T*4294967296+S)*p)<=U:=by
  rw[<-cV];refine cS (bT p ?_) hU;rw[fQ,<-cV,hg,dV];omega
 have h2:g*v0<=4294967295*v0:=bT _ (by omega);have h3:4294967296*p<=V:=by
  rw[hV];refine cS (bT p ?_) (oV _ _);omega
 have h4:g*V=g*((T*4294967296+S)*p)+g*v0:=by rw[<-fQ,<-hV]
 omega
def VH{U V R g:Nat}(h:U<(g+1)*V)(hr:R+g*V=U):R<V:=by
 rw[dV,mR] at h;omega
def Xm{U V R R' g w M:Nat}(h2:g*V<U+V)(hr:R+g*V=U+M)(hb:R'+w*M=R+V)(hR:R<M)(hR':R'<M)(hw:w<=1)(hg:0<g):R'+(g-1)*V=U/\R'<V:=by
 have hgv:g*V=(g-1)*V+V:=by
  conv=>lhs;rw[show g=(g-1)+1 by omega,dV,mR]
 have:w=1:=by
  rcases jZ w 1 with h|h
  .have:w=0:=by omega
   subst this;omega
  .omega
 subst this;omega
def y9(us:List Nat)(i:Nat):dv (us.drop i)=us.getD i 0+4294967296*dv (us.drop (i+1)):=by
 rcases jZ i us.length with h|h
 .rw[bK h];simp[dv,List.getD,aZ h]
 .rw[iM h,iM (by omega)]
  simp[dv,eJ h,List.getD]
def vn(us:List Nat)(i:Nat):dv us=dv (us.take i)+4294967296^i*dv (us.drop i):=by
 rcases jZ us.length i with h|h
 .rw[cZ (by omega),iM (by omega)];simp[dv]
 .exact AV us i h
def CB{us:List Nat}(h:bB us)(i:Nat):dv (us.take i)<4294967296^i:=by
 refine dZ (l8 (h.take i)) (bR (by decide) ?_);simp[bL];omega
def Ao{us:List Nat}{i:Nat}(hd:dv us<4294967296^i):dv (us.drop i)=0:=by
 have h:=vn us i;rcases fU (dv (us.drop i)) with h0|h0
 .exact h0
 .have:=fR (4294967296^i) h0
  omega
def Yj{W W' U E p u x bo b c c1 g d:Nat}(hs:W'+p*u=W+p*x)(hw:W+E=U+(bo+c)*p)(hc:c1=c+g*d)(hx:x+(c1%4294967296+bo)=u+b*4294967296):
  W'+(E+g*d*p)=U+(b+c1/4294967296)*(p*4294967296):=by
 have h1:=congrArg (p* ·) hx;simp only[fQ] at h1;have h2:p*c1=p*(c1%4294967296)+p*(c1/4294967296)*4294967296:=by
  rw[cV,<-fQ,Nat.mod_add_div']
 have h3:p*c1=p*c+p*(g*d):=by rw[hc,fQ]
 rw[dV,cJ bo,cJ c] at hw;rw[cJ (g*d),dV,<-cV b,<-cV (c1/4294967296),cJ b,cJ (c1/4294967296)];rw[<-cV] at h1;omega
def Te{W W' U E p u x bo b c:Nat}(hs:W'+p*u=W+p*x)(hw:W+E=U+(bo+c)*p)(hx:x+(c+bo)=u+b*4294967296):W'+E=U+b*(p*4294967296):=by
 have h1:=congrArg (p* ·) hx;simp only[fQ] at h1;rw[dV,cJ bo,cJ c] at hw;rw[<-cV b,cJ b];rw[<-cV] at h1;omega
def U6{W W' R E p u d c:Nat}(hs:W'+p*u=W+p*((c+(u+d))%4294967296))(hw:W+c*p=R+E):W'+(c+(u+d))/4294967296*(p*4294967296)=R+(E+d*p):=by
 have h2:p*(c+(u+d))=p*((c+(u+d))%4294967296)+p*((c+(u+d))/4294967296)*4294967296:=by
  rw[cV,<-fQ,Nat.mod_add_div']
 rw[fQ p c,fQ p u] at h2;rw[cJ c] at hw;rw[cJ d,<-cV,cJ _ p];omega
def aBu{W W' R p u c:Nat}(hs:W'+p*u=W+p*((u+c)%4294967296))(hw:W+c*p=R):W'+(u+c)/4294967296*(p*4294967296)=R:=by
 have h2:p*(u+c)=p*((u+c)%4294967296)+p*((u+c)/4294967296)*4294967296:=by
  rw[cV,<-fQ,Nat.mod_add_div']
 rw[fQ p u] at h2;rw[cJ c] at hw;rw[<-cV,cJ _ p];omega
def XH{us:List Nat}(h:bB us)(i:Nat)(hd:dv us<4294967296^(i+3)):
  dv us=((us.getD (i+2) 0*4294967296+us.getD (i+1) 0)*4294967296+us.getD i 0)*4294967296^i+dv (us.take i):=by
 have h0:=Ao hd;rw[vn us i,y9 us i,y9 us (i+1),y9 us (i+2),h0,kU,cJ];congr 2;omega
def ZA{us:List Nat}(h:bB us)(i:Nat)(hd:dv us<4294967296^(i+2)):
  dv us=(us.getD (i+1) 0*4294967296+us.getD i 0)*4294967296^i+dv (us.take i):=by
 have h0:=Ao hd;rw[vn us i,y9 us i,y9 us (i+1),h0,kU,cJ];congr 2;omega
def C7{us:List Nat}{k i d:Nat}(h:bB us)(hd:d<4294967296)(hk:dv us<4294967296^k)(hi:i<k:=by omega):dv (us.set i d)<4294967296^k:=by
 rw[vn _ k,List.drop_set,if_pos hi,Ao hk,tQ,gX];exact CB (h.set i hd) k
end Go.Sx
end
section
namespace Go.Sx
open Go Go.Proofs

end Go.Sx
end
section
namespace Go.Sx
open Go
section
variable {P:Program}{C:aE}{n:Nat}{fr:Fr}{own:List av}{G:Gh}
def Lw:Exit->Bool
 | .goto _=>false
 |_=>true
end
end Go.Sx
end
section
namespace Go.Sx
open Go Go.Proofs Tryz
variable {V t s u k g e x y:Nat}
def Wc{n:Nat}(h1:4294967296^(n-1)<=V)(h2:V<4294967296^n)(hn:0<n):(dg V).length=n:=by
 obtain⟨e,hk,hr⟩:=fE V;have hne:dg V≠[]:=fun h=>by
  rw[h] at e;have:0<4294967296^(n-1):=fN (by decide);simp[dv] at e;omega
 have h3:=uR hr hne;have h4:=l8 hk;rw[e] at h3 h4;have h5:=(nN (a:=4294967296) (by decide)).1 (fK h3 h2);have h6:=(nN (a:=4294967296) (by decide)).1 (fK h1 h4);omega
def Tj(h0:0<t)(ht:t<4294967296)(hs:s=32-bl t):s<32/\2147483648<=t*2^s/\(t+1)*2^s<=4294967296:=by
 have h1:bl t<=32:=n9.2 ht;have h2:bl t≠0:=fun h=>by
  have:=BY t;rw[h] at this;omega
 have h3:=BY t;have h4: ¬t<2^(bl t-1):=fun h=>by
  have:=n9.2 h;omega
 have e1:2^(bl t-1)*2^s=2147483648:=by rw[<-fX,show bl t-1+s=31 by omega]
 have e2:2^bl t*2^s=4294967296:=by rw[<-fX,show bl t+s=32 by omega]
 refine⟨by omega,?_,?_⟩
 .rw[<-e1];exact bT _ (by omega)
 .rw[<-e2];exact bT _ h3
def aHe{us:List Nat}(h:bB us)(i:Nat)(hd:us.length=i+1):dv us=us.getD i 0*4294967296^i+dv (us.take i):=by
 have h0:dv (us.drop (i+1))=0:=by rw[iM (by omega)];rfl
 rw[vn us i,y9 us i,h0,kU,cJ];rfl
def PZ{b:List Nat}(h:ew b)(i:Nat)(hi:b.length=i+1):0<b.getD i 0:=by
 rcases fU (b.getD i 0) with h0|h0
 .exfalso
  apply h;rw[nV,hi,show i+1-1=i from J];rw[List.getD,aZ (by omega)] at h0;rw[aZ (by omega)];simpa using h0
 .exact h0
def ZG(a:List Nat)(k:Nat):dv (a++List.replicate k 0)=dv a:=by rw[y6,w6];simp
def rP(u m bo:Nat):Nat:=if m+bo<=u then u-(m+bo) else u+18446744073709551616-(m+bo)
def CG(u m bo:Nat)(hu:u<4294967296)(hm:m<4294967296)(hb:bo<=1):IntKind.u64.wrap (IntKind.u64.wrap ((u:Int)-(m:Int))-(bo:Int))=((rP u m bo:Nat):Int):=by
 rw[q7,q7];unfold rP;split<;>omega
def RJ(u m bo:Nat)(hu:u<4294967296)(hm:m<4294967296)(hb:bo<=1):rP u m bo%4294967296+(m+bo)=u+rP u m bo/9223372036854775808*4294967296/\rP u m bo/9223372036854775808<=1/\rP u m bo<18446744073709551616:=by
 unfold rP;split<;>omega
def kt(h:u<2^k):32*(dg u).length<=k+31:=WZ (fE u).2.2 (by rw[(fE u).1];exact h)
structure IV where
 neg:Bool
 a:SV
def IV.v(z:IV):Value:= .agg ⟨[.bool z.neg, .slice z.a.a z.a.n z.a.c]⟩
def zv(neg:Bool)(u:Nat):Int:=if neg then-(u:Int) else u
def qF(neg:Bool)(u:Nat):(zv neg u).natAbs=u:=by cases neg<;>simp[zv]
def Zu(neg:Bool)(u:Nat):zv (!neg) u= -zv neg u:=by cases neg<;>simp[zv]
def Nx(n m:Bool)(u w:Nat):zv (n !=m) (u*w)=zv n u*zv m w:=by cases n<;>cases m<;>simp[zv,Int.neg_mul,Int.mul_neg]
def Nb(neg:Bool)(u:Nat):decide (zv neg u<0)=(neg&&decide (0<u)):=by
 cases neg<;>simp[zv]
def lD(m:Int):zv (decide (m<0)) m.natAbs=m:=by
 unfold zv;by_cases h:m<0<;>simp[h]<;>omega
structure ph (k:Nat) (G:Gh) (z:IV) (m:Int):Prop where
 neg:z.neg=decide (m<0)
 abs:AL k G z.a m.natAbs
def ph.up{k:Nat}{A G:Gh}{z:IV}{m:Int}(h:ph k A z m)[GL A G]:ph k G z m:=⟨h.neg,h.abs.up⟩
def YR(n:Bool)(u w:Nat):zv n (u+w)=zv n u+zv n w:=by cases n<;>simp[zv]<;>omega
def JV(p:Int):IntKind.i64.wrap p=(p+9223372036854775808)%18446744073709551616-9223372036854775808:=by
 have e:IntKind.i64.wrap p=if(true&&decide (p%2^64>=2^(64-1)))=true then p%2^64-2^64 else p%2^64:=J
 rw[e,show(2:Int)^64=18446744073709551616 by decide,show(2:Int)^(64-1)=9223372036854775808 by decide,sX];by_cases h:p%18446744073709551616>=9223372036854775808
 .rw[decide_eq_true h,if_pos J];omega
 .rw[decide_eq_false h,if_neg (by decide)];omega
structure RV where
 n:Int
 d:Int
 p:Option Addr
def RV.v(z:RV):Value:= .agg ⟨[.int .i64 z.n, .int .i64 z.d, .pointer z.p]⟩
def Zo{neg:Bool}(h:g∣u):zv neg (u/g)=zv neg u/(g:Int):=by
 cases neg
 .simp[zv]
 .simp only[zv,if_true]
  rw[Int.neg_ediv_of_dvd (rQ.2 h),sQ]
def Px{m:Int}(he:0<e):(mkRat m e).num=m/((Nat.gcd m.natAbs e:Nat):Int)/\(mkRat m e).den=e/Nat.gcd m.natAbs e:=by
 rw[Rat.num_mkRat,Rat.den_mkRat,if_neg (by omega),if_neg (by omega),jX];exact⟨J,J⟩
def VL:(((bl x:Nat):Int)<=62)↔x<4611686018427387904:=by
 have:bl x<=62↔x<2^62:=n9;omega

def U8{G:Gh}(hx:x<18446744073709551616)(hy:y<18446744073709551616):Fn prog 178 [.int .u64 (x:Nat), .int .u64 (y:Nat)] G (fun v _=>v= .tuple #[.int .u64 ((x*y/18446744073709551616:Nat):Int), .int .u64 ((x*y%18446744073709551616:Nat):Int)]):=
 Fn.of_calls (G:=G) (Ma func178 J J) (fun w=>Tryz.bits_Mul64 x y hx hy w)
def Sc(a b:Int):a*b=if(a<0)↔(b<0) then((a.natAbs*b.natAbs:Nat):Int) else-((a.natAbs*b.natAbs:Nat):Int):=by
 rcases(by omega:a<0\/0<=a) with h|h<;>rcases(by omega:b<0\/0<=b) with h2|h2
 .rw[if_pos (by simp[h,h2]),iU,lY (pT h),lY (pT h2),Int.neg_mul_neg]
 .rw[if_neg (by simp[h];omega),iU,lY (pT h),nT h2,Int.neg_mul,Int.neg_neg]
 .rw[if_neg (by simp[h2];omega),iU,nT h,lY (pT h2),Int.mul_neg,Int.neg_neg]
 .rw[if_pos (by constructor<;>intro<;>omega),iU,nT h,nT h2]
def atJ{p:Int}(h:p.natAbs<9223372036854775808):IntKind.i64.wrap p=p:=by rw[JV];omega

end Go.Sx
end
