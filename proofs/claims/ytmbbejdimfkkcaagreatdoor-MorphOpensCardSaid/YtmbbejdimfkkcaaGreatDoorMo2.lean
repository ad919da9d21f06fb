import Derived.Test.YtmbbejdimfkkcaaGreatDoorMo1
import Derived.Test.YtmbbejdimfkkcaaGreatDoorProg
import Derived.Shelf.Small.Bits
import Derived.Shelf.Strconv.Itoa0
import Derived.Shelf.Strconv.Itoa1
import Derived.Shelf.LaysM
import Derived.Shelf.Strconv.Itoa2
import Derived.Shelf.Strconv.Itoa3
import Derived.Shelf.Bits.Mul64
import Derived.Scope
set_option linter.all false
set_option maxRecDepth 100000
section
namespace Go.Sx
open Go
variable {P:Program}{t t' ty' ty:TypeId}{d n b f off ft k m e s by_ len cap l2 c2 cap2 i j:Nat}{C:aH}{fr:Fr}{own' own1 own0:List aA}{G G0 A:Gh}{Φ K:Act->World->Prop}{dst:Option Nat}{pos:String}{af:Array Edge}{x y:Operand}{w:World}{p ad ad2:Option Addr}{q lo c:Bool}{v z:Value}{l out ys xs rest:List Value}{o:Oper}{ops:Array Oper}{Q:Exit->Act->World->Prop}{fin:Nat->Bool}{op:Op}
def MP{d:TypeDesc}(h:P.underlying t=some d)(w:World):(underlying t).run P w= .ok d w:=by
 simp[underlying,program,Sem.run_bind,Sem.run,h,run_pure]
class L2 (P:Program) (t:TypeId):Prop where u: ∀w,(underlying t).run P w= .ok .bool w
class H9 (P:Program) (t:TypeId):Prop where u: ∃e,∀w,(underlying t).run P w= .ok (.pointer e) w
class MA (P:Program) (t:TypeId):Prop where u: ∃ms,∀w,(underlying t).run P w= .ok (.interface ms) w
class Mg (P:Program) (t:TypeId) (f:Nat) (off ft:outParam Nat):Prop where
 u: ∃fs fd,(∀w,(underlying t).run P w= .ok (.struct fs) w)/\fs[f]? =some fd/\fd.offset=off/\fd.type=ft
class kd (P:Program) (t:TypeId):Prop where
 un: ∃e,P.underlying t=some (.slice e)
section
variable {own:List aA}
variable {gd:Option (Nat×Bool)}
def tw{p q:Value}{b:Bool}(h:(Op.equalIn (9999+1) t p q).run P w= .ok b w):(Op.equal t p q).run P w= .ok b w:=h
theorem oki{p:Prop}(h:p:=by rw[bj h2];exact h3):p:=h
def aIV[hT:L2 P t]{p:Bool}(hx:aE fr x=some (.bool p))(hy:aE fr y=some (.bool q)):Yd P C fr own G ⟨dst, .binOp .eql t x y t',ty',pos,af,gd⟩ (.bool (p==q)):=by
 intro a w hf hh;simp only[execOp,bF hf hx,bF hf hy];have h1:(Op.equal t (.bool p) (.bool q)).run P w= .ok (p==q) w:=tw (by unfold Op.equalIn;rw[bj (hT.u w)];rfl);have h2:(eqGuard .eql t x y (.bool p) (.bool q)).run P w= .ok () w:=J;have h3:(binOp .eql t (.bool p) (.bool q)).run P w= .ok (.bool (p==q)) w:=by simp only[binOp];rw[bj h1];rfl
 exact dh oki
def aIG[hT:L2 P t]{p:Bool}(hx:aE fr x=some (.bool p))(hy:aE fr y=some (.bool q)):Yd P C fr own G ⟨dst, .binOp .neq t x y t',ty',pos,af,gd⟩ (.bool (!(p==q))):=by
 intro a w hf hh;simp only[execOp,bF hf hx,bF hf hy];have h1:(Op.equal t (.bool p) (.bool q)).run P w= .ok (p==q) w:=tw (by unfold Op.equalIn;rw[bj (hT.u w)];rfl);have h2:(eqGuard .neq t x y (.bool p) (.bool q)).run P w= .ok () w:=J;have h3:(binOp .neq t (.bool p) (.bool q)).run P w= .ok (.bool (!(p==q))) w:=by simp only[binOp];rw[bj h1];rfl
 exact dh oki
theorem ozv{p:Prop}(h:p:=by unfold Op.equalIn;rw[bj (he w)];cases p<;>rfl):p:=h
def FR[hT:H9 P t](hx:aE fr x=some (.pointer p))(hy:aE fr y=some (.pointer none)):Yd P C fr own G ⟨dst, .binOp .eql t x y t',ty',pos,af,gd⟩ (.bool p.isNone):=by
 obtain⟨e,he⟩:=hT.u;intro a w hf hh;simp only[execOp,bF hf hx,bF hf hy];have h1:(Op.equal t (.pointer p) (.pointer none)).run P w= .ok p.isNone w:=tw ozv;have h2:(eqGuard .eql t x y (.pointer p) (.pointer none)).run P w= .ok () w:=by cases p<;>rfl
 have h3:(binOp .eql t (.pointer p) (.pointer none)).run P w= .ok (.bool p.isNone) w:=by cases p<;>(simp only[binOp];rw[bj h1];rfl)
 exact dh oki
def Ew[hT:H9 P t](hx:aE fr x=some (.pointer p))(hy:aE fr y=some (.pointer none)):Yd P C fr own G ⟨dst, .binOp .neq t x y t',ty',pos,af,gd⟩ (.bool (!p.isNone)):=by
 obtain⟨e,he⟩:=hT.u;intro a w hf hh;simp only[execOp,bF hf hx,bF hf hy];have h1:(Op.equal t (.pointer p) (.pointer none)).run P w= .ok p.isNone w:=tw ozv;have h2:(eqGuard .neq t x y (.pointer p) (.pointer none)).run P w= .ok () w:=by cases p<;>rfl
 have h3:(binOp .neq t (.pointer p) (.pointer none)).run P w= .ok (.bool (!p.isNone)) w:=by cases p<;>(simp only[binOp];rw[bj h1];rfl)
 exact dh oki
theorem oka{p:Prop}(h:p:=by unfold Op.equalIn;rw[bj (he w)];rfl):p:=h
theorem oza{p:Prop}(h:p:=by rw[bj (a:=()) (w':=w) J];simp only[binOp];rw[bj h1];rfl):p:=h
def Tm[hT:MA P t](hv:v= .nilIface\/ ∃k u,v= .iface k u)(hx:aE fr x=some v):
  Yd P C fr own G ⟨dst, .binOp .eql t x (.const .nilIface) t',ty',pos,af,gd⟩ (.bool (match v with| .nilIface=>true|_=>false)):=by
 obtain⟨e,he⟩:=hT.u;intro a w hf hh;simp only[execOp,bF hf hx,show a.eval (.const .nilIface)= .nilIface from J];rcases hv with rfl|⟨k,u,rfl⟩
 .have h1:(Op.equal t .nilIface .nilIface).run P w= .ok true w:=tw oka
  have h2:(eqGuard .eql t x (.const .nilIface) .nilIface .nilIface).run P w= .ok () w:=by cases x<;>rfl
  exact dh (by rw[bj h2];simp only[binOp];rw[bj h1];rfl)
 .have h1:(Op.equal t (.iface k u) .nilIface).run P w= .ok false w:=tw oka
  exact dh oza
def V7[hT:MA P t](hv:v= .nilIface\/ ∃k u,v= .iface k u)(hx:aE fr x=some v):
  Yd P C fr own G ⟨dst, .binOp .neq t x (.const .nilIface) t',ty',pos,af,gd⟩ (.bool (match v with| .nilIface=>false|_=>true)):=by
 obtain⟨e,he⟩:=hT.u;intro a w hf hh;simp only[execOp,bF hf hx,show a.eval (.const .nilIface)= .nilIface from J];rcases hv with rfl|⟨k,u,rfl⟩
 .have h1:(Op.equal t .nilIface .nilIface).run P w= .ok true w:=tw oka
  have h2:(eqGuard .neq t x (.const .nilIface) .nilIface .nilIface).run P w= .ok () w:=by cases x<;>rfl
  exact dh (by rw[bj h2];simp only[binOp];rw[bj h1];rfl)
 .have h1:(Op.equal t (.iface k u) .nilIface).run P w= .ok false w:=tw oka
  exact dh oza
def aww{cs:List Value}[hF:Mg P t f off ft][hA:li P ft k](hx:aE fr x=some (.agg ⟨cs⟩))(hl:cF cs off k=some l):Yd P C fr own G ⟨dst, .field t x f,ty',pos,af,gd⟩ (.agg ⟨l⟩):=by
 obtain⟨fs,fd,h1,h2,h3,h4⟩:=hF.u;intro a w hf hh;simp only[execOp,bF hf hx];have:(Instr.field t (.agg ⟨cs⟩) f).run P w= .ok (.agg ⟨l⟩) w:=by
  unfold Instr.field;rw[bj (h1 w)];simp only[h2,h3,h4,asAgg];rw[bj (run_pure _ _ _)];unfold part;rw[bj (hA.agg w)];simp only[if_true];rw[bj (hA.siz w)];obtain⟨k1,k2⟩:=ru _ _ _ _ hl;have:(⟨cs⟩:Array Value).extract off (off+k)=⟨l⟩:=by
   apply Array.ext';rw[Array.toList_extract];apply mX;intro i;rw[List.extract_eq_take_drop,pV];split
   .rw[mS];exact k2 i we
   .exact(fK (show l.length<=i by omega)).symm
  rw[this];rfl
 exact dh this
def WJ{cs:List Value}[hF:Mg P t f off ft][hA:kO P ft](hx:aE fr x=some (.agg ⟨cs⟩))(hl:cs[off]? =some v):Yd P C fr own G ⟨dst, .field t x f,ty',pos,af,gd⟩ v:=by
 obtain⟨fs,fd,h1,h2,h3,h4⟩:=hF.u;intro a w hf hh;simp only[execOp,bF hf hx];have:(Instr.field t (.agg ⟨cs⟩) f).run P w= .ok v w:=by
  unfold Instr.field;rw[bj (h1 w)];simp only[h2,h3,h4,asAgg];rw[bj (run_pure _ _ _)];unfold part;rw[bj (hA.agg w)];have:(⟨cs⟩:Array Value)[off]? =some v:=by simpa using hl
  simp only[gR,if_false,this];rfl
 exact dh this
class Du (P:Program) (t:TypeId) (offs:outParam (List (Nat×Nat))):Prop where
 u: ∃fs:Array Field,(∀w,(underlying t).run P w= .ok (.struct fs) w)/\(∀w,(fs.mapM (m:=Sem) fun f=>do pure (f.offset,<-sizeOf f.type)).run P w= .ok ⟨offs⟩ w)
def xh(fr:Fr)(offs:List (Nat×Nat)):List Value->List (Nat×Operand)->Option (List Value)
 |cs,[]=>some cs
 |cs,(i,x)::r=>match offs[i]?,aE fr x with
  |some (off,k),some v=>if(aO v).length=k/\off+k<=cs.length then xh fr offs (cH cs off (aO v)) r else none
  |_,_=>none
def GI: ∀(vs:List Value) (cs:Array Value) (off j:Nat),(vs.zipIdx j).foldl (fun cs (c,j)=>cs.setIfInBounds (off+j) c) cs=⟨cH cs.toList (off+j) vs⟩
 |[],cs,off,j=>rfl
 |v::vs,cs,off,j=>by
  simp only[List.zipIdx_cons,iQ];rw[GI vs _ off (j+1)];simp[cH,lT]
theorem okw{p:Prop}(h:p:=by simp only[fN,decide_eq_true_eq,not_or];exact⟨by simpa using h1,by simpa using h2⟩):p:=h
def J'{a:Act}(hf:ma fr a)(offs:List (Nat×Nat)): ∀(ps:List (Nat×Operand)) (cs out:List Value),xh fr offs cs ps=some out->
  Instr.fill ((⟨offs⟩:Array (Nat×Nat))[·]?) ⟨cs⟩ (ps.map fun(i,x)=>(i,a.eval x))=some ⟨out⟩
 |[],cs,out,h=>by simp only[xh] at h;cases h;rfl
 |(i,x)::ps,cs,out,h=>by
  simp only[xh] at h;split at h
  .rename_i off k v ho hv
   split at h
   .rename_i hc
    simp only[bY,Instr.fill];have:(⟨offs⟩:Array (Nat×Nat))[i]? =some (off,k):=by simpa using ho
    simp only[this,bF hf hv,pP];have h1: ¬((⟨aO v⟩:Array Value).size≠k):=by simp[hc.1]
    have h2: ¬(off+(⟨aO v⟩:Array Value).size>(⟨cs⟩:Array Value).size):=by simp only[pN,hc.1];omega
    rw[if_neg okw];have e:=GI (aO v) ⟨cs⟩ off 0;have e':(⟨aO v⟩:Array Value).zipIdx.foldl (fun cs (c,j)=>cs.setIfInBounds (off+j) c) (⟨cs⟩:Array Value)=⟨cH cs off (aO v)⟩:=by
     rw[<-rR,tM];simpa using e
    rw[e'];exact J' hf offs ps _ _ h
   .cases h
  .cases h
def yp{parts:Array (Nat×Operand)}{offs:List (Nat×Nat)}[hT:Du P t offs][hz:gA P t z](hb:xh fr offs (aO z) parts.toList=some out):Yd P C fr own G ⟨dst, .build t parts,ty',pos,af,gd⟩ (.agg ⟨out⟩):=by
 obtain⟨fs,h1,h2⟩:=hT.u;intro a w hf hh;simp only[execOp];have:(Instr.build t (parts.map fun(i,x)=>(i,a.eval x))).run P w= .ok (.agg ⟨out⟩) w:=by
  unfold Instr.build;rw[bj (hz.zero w),pP];rw[bj (h1 w)];simp only[];rw[bj (h2 w)];have:=J' hf offs parts.toList _ _ hb;simp only[qJ,this];rfl
 exact dh this
end
def dH(z:Value)(k:Nat):List Value:=(List.replicate k (aO z)).flatten
def KB{α:Type}(l:List α): ∀(k i:Nat),i<k*l.length->(List.replicate k l).flatten[i]? =l[i%l.length]?
 |0,i,h=>by omega
 |k+1,i,h=>by
  rw[tN,sX];by_cases hi:i<l.length
  .rw[kJ hi,kY hi]
  .rw[jN we,KB l k (i-l.length) (by rw[dS] at h;omega)]
   rw[Nat.mod_eq_sub_mod (Nat.ge_of_not_lt hi)]
def pA(z:Value)(k:Nat):(dH z k).length=k*(aO z).length:=by simp[dH]
theorem omU{p:Prop}(h:p:=by simpa using hi):p:=h
def CX(h:m=k*(aO z).length):((Array.range m).map fun i=>(⟨aO z⟩:Array Value)[i%(⟨aO z⟩:Array Value).size]!)=⟨dH z k⟩:=by
 subst h;apply Array.ext';apply mX;intro i;simp only[qJ,Array.toList_range,cJ,pN];by_cases hi:i<k*(aO z).length
 .rw[qR hi]
  simp only[lR];have h1:=KB (aO z) k i hi;have hpos:0<(aO z).length:=by
   rcases gX (aO z).length with h|h
   .rw[h,uK] at hi;omega
   .exact h
  have hm:=dW i hpos;show _=(dH z k)[i]?;unfold dH;rw[h1];simp[hm]
 .rw[fK omU]
  rw[fK (by show(dH z k).length<=i;rw[pA];omega)];rfl
section
variable {own:List aA}
variable {gd:Option (Nat×Bool)}
def NU[hT:cE P t e s by_](w:World): ∃i:TypeInfo,(typeInfo e).run P w= .ok i w/\i.bytes=by_:=by
 obtain⟨i,h1,_,h2⟩:=hT.info;exact⟨i,by simp[typeInfo,program,Sem.run_bind,Sem.run,h1,run_pure],h2⟩
theorem okM{p:Prop}(h:p:=by simp[IntKind.min,IntKind.max,IntKind.signed,IntKind.bits];omega):p:=h
def JS[hT:cE P t e s by_]{z:Value}[hz:gA P e z]{k k':IntKind}{l:Int}(hx:aE fr x=some (.int k l))(hy:aE fr y=some (.int k' l))(h0:0<=l)(hb:by_*l<=2^47)(hl:l<=2^60)(hs:(aO z).length=s)(hd:co n dst=true)
  (h: ∀b,St C n (put fr dst (.slice (some ⟨b,0,none⟩) l.toNat l.toNat)) (⟨b,dH z l.toNat,e,true⟩::own) G Φ):
  Ch P C n fr own G ⟨dst, .makeSlice t x y,ty',pos,af,gd⟩ Φ:=by
 intro a w Q rl;have h1:(Instr.makeSlice t (a.eval x) (a.eval y)).run P w= .ok (.slice (some ⟨w.heap.size,0,none⟩) l.toNat l.toNat) (w.alloc (.cells ⟨dH z l.toNat⟩ e)):=by
  obtain⟨i,hi,hib⟩:=NU (P:=P) (t:=t) (e:=e) (s:=s) (by_:=by_) w;rw[bF rl.fr hx,bF rl.fr hy];unfold Instr.makeSlice;rw[bj (hT.u w)];simp only[asInt,asIntOf];rw[bj (a:=l) (w':=w) J,bj (a:=l) (w':=w) J,bj hi,hib];have hw:IntKind.i64.wrap l=l:=tI okM;simp only[hw];have c1: ¬((by_:Int)*l>2^48):=by
   have:(2:Int)^47<=2^48:=by decide
   omega
  have c2:(decide (l<0)||decide ((by_:Int)*l>2^48))=false:=by simp[c1];omega
  simp only[c2,Int.lt_irrefl,decide_false,Bool.or_false,pR];have c3:decide (l<0)=false:=by simp;omega
  simp only[c3,gR,if_false,gt_iff_lt,Int.lt_irrefl,decide_false,Bool.or_false];have hr: ¬(l.toNat*by_>roomBytes):=by
   unfold roomBytes;have:((l.toNat*by_:Nat):Int)=by_*l:=by rw[jJ,qS h0,sJ]
   have h47:((2^47:Nat):Int)=2^47:=by decide
   omega
  unfold askRoom;simp only[hr,if_false];rw[bj (run_pure _ _ _),bj (hT.siz w)];have hn:l.toNat*s=l.toNat*(aO z).length:=by rw[hs]
  by_cases h00:l.toNat*s=0
  .rw[if_pos h00,bj (run_pure _ _ _)]
   have e0:dH z l.toNat=[]:=cY (by rw[pA,hs];exact h00);rw[h00,e0,show(Array.range 0)= #[] from J,Array.map_empty];rfl
  .rw[if_neg h00,bj (hz.zero w),pP]
   rw[bj (run_pure _ _ _),CX hn];rfl
 refine(fun hk=>?_:Φ (a.put dst (.slice (some ⟨w.heap.size,0,none⟩) l.toNat l.toNat)) (w.alloc (.cells ⟨dH z l.toNat⟩ e))->_) (h w.heap.size _ _ ((rl.heap (rl.h.alloc _ _)).put _ hd));exact lw (v:= .slice (some ⟨w.heap.size,0,none⟩) l.toNat l.toNat) (dh h1) hk
def NA: ∀(vs cs pre:List Value),vs.length=cs.length->cH (pre++cs) pre.length vs=pre++vs
 |[],cs,pre,h=>by have:cs=[]:=cY h.symm;subst this;rfl
 |v::vs,[],pre,h=>by simp at h
 |v::vs,c::cs,pre,h=>by
  simp only[cH,nN _ _ (bV _),qK,List.set_cons_zero];have:=NA vs cs (pre++[v]) omE;simpa using this
def Pi[hT:cE P t e s by_][hz:gA P e z](hx:aE fr x=some v)(hs:(aO z).length=s)(hv:(aO v).length=s)(hsm:s<=1000)(hs0:0<s)(hd:co n dst=true)
  (h: ∀b,St C n (put fr dst (.slice (some ⟨b,0,none⟩) 1 1)) (⟨b,aO v,e,true⟩::own) G Φ):
  Ch P C n fr own G ⟨dst, .buildSlice t 1 #[(0,x)],ty',pos,af,gd⟩ Φ:=by
 intro a w Q rl;have h1:(Instr.buildSlice t 1 #[(0,v)]).run P w= .ok (.slice (some ⟨w.heap.size,0,none⟩) 1 1) (w.alloc (.cells ⟨aO v⟩ e)):=by
  unfold Instr.buildSlice;rw[bj (hT.u w)];simp only[];rw[bj (hT.siz w)];have c1: ¬(1*s>2^24):=by omega
  have c2: ¬(1*s=0):=by omega
  simp only[c1,if_false];rw[if_neg c2,bj (hz.zero w),pP,bj (run_pure _ _ _)];rw[CX (k:=1) (by rw[hs])];have hzl:(dH z 1).length=s:=by rw[pA,hs,mN]
  have hf:Instr.fill (fun i=>some (i*s,s)) ⟨dH z 1⟩ [(0,v)]=some ⟨aO v⟩:=by
   simp only[Instr.fill,pP];rw[if_neg (by simp[hv,hzl])];have e1:=GI (aO v) ⟨dH z 1⟩ (0*s) 0;have e2:(⟨aO v⟩:Array Value).zipIdx.foldl (fun cs (c,j)=>cs.setIfInBounds (0*s+j) c) (⟨dH z 1⟩:Array Value)=⟨aO v⟩:=by
    rw[<-rR,tM];have e3:=NA (aO v) (dH z 1) [] (by rw[hv,hzl]);simp only[kV,eX] at e3;rw[kL,fX] at e1;rw[e3] at e1;simpa using e1
   rw[e2]
  simp only[hf];rfl
 refine lw (v:= .slice (some ⟨w.heap.size,0,none⟩) 1 1) (w':=w.alloc (.cells ⟨aO v⟩ e)) ?_ (h w.heap.size _ _ ((rl.heap (rl.h.alloc _ _)).put _ hd));simp only[execOp,jZ,bY,iU,bF rl.fr hx];exact dh h1
end
section
variable {own:List aA}
variable {gd:Option (Nat×Bool)}
def vT(fr:Fr)(s:Nat):List Value->List (Nat×Operand)->Option (List Value)
 |cs,[]=>some cs
 |cs,(i,x)::r=>match aE fr x with
  |some v=>if(aO v).length=s/\i*s+s<=cs.length then vT fr s (cH cs (i*s) (aO v)) r else none
  |none=>none
def Ty{a:Act}(hf:ma fr a)(s:Nat): ∀(ps:List (Nat×Operand)) (cs out:List Value),vT fr s cs ps=some out->
  Instr.fill (fun i=>some (i*s,s)) ⟨cs⟩ (ps.map fun(i,x)=>(i,a.eval x))=some ⟨out⟩
 |[],cs,out,h=>by simp only[vT] at h;cases h;rfl
 |(i,x)::ps,cs,out,h=>by
  simp only[vT] at h;split at h
  .rename_i v hv
   split at h
   .rename_i hc
    simp only[bY,Instr.fill,bF hf hv,pP];have h1: ¬((⟨aO v⟩:Array Value).size≠s):=by simp[hc.1]
    have h2: ¬(i*s+(⟨aO v⟩:Array Value).size>(⟨cs⟩:Array Value).size):=by simp only[pN,hc.1];omega
    rw[if_neg okw];have e:=GI (aO v) ⟨cs⟩ (i*s) 0;have e':(⟨aO v⟩:Array Value).zipIdx.foldl (fun cs (c,j)=>cs.setIfInBounds (i*s+j) c) (⟨cs⟩:Array Value)=⟨cH cs (i*s) (aO v)⟩:=by
     rw[<-rR,tM];simpa using e
    rw[e'];exact Ty hf s ps _ _ h
   .cases h
  .cases h
def U9[hT:cE P t e s by_][hz:gA P e z]{parts:Array (Nat×Operand)}(hs:(aO z).length=s)(hb:vT fr s (dH z len) parts.toList=some out)(hsm:Nat.ble (len*s) 1000=true)(hs0:Nat.blt 0 (len*s)=true)(hd:co n dst=true)
  (h: ∀b,St C n (put fr dst (.slice (some ⟨b,0,none⟩) len len)) (⟨b,out,e,true⟩::own) G Φ):
  Ch P C n fr own G ⟨dst, .buildSlice t len parts,ty',pos,af,gd⟩ Φ:=by
 intro a w Q rl;have hsm':len*s<=1000:=by simpa using hsm
 have hs0':0<len*s:=by simpa[lV] using hs0
 have h1:(Instr.buildSlice t len (parts.map fun(i,x)=>(i,a.eval x))).run P w= .ok (.slice (some ⟨w.heap.size,0,none⟩) len len) (w.alloc (.cells ⟨out⟩ e)):=by
  unfold Instr.buildSlice;rw[bj (hT.u w)];simp only[];rw[bj (hT.siz w)];have c1: ¬(len*s>2^24):=by omega
  have c2: ¬(len*s=0):=by omega
  simp only[c1,if_false];rw[if_neg c2,bj (hz.zero w),pP,bj (run_pure _ _ _)];rw[CX (k:=len) (by rw[hs])];have hf:=Ty rl.fr s parts.toList _ _ hb;simp only[qJ,hf];rfl
 refine lw (v:= .slice (some ⟨w.heap.size,0,none⟩) len len) (w':=w.alloc (.cells ⟨out⟩ e)) ?_ (h w.heap.size _ _ ((rl.heap (rl.h.alloc _ _)).put _ hd));simp only[execOp];exact dh h1
def PL[hT:cE P t e s by_](hd:co n dst=true)(h: ∀b,St C n (put fr dst (.slice (some ⟨b,0,none⟩) 0 0)) (⟨b,[],e,true⟩::own) G Φ):
  Ch P C n fr own G ⟨dst, .buildSlice t 0 #[],ty',pos,af,gd⟩ Φ:=by
 intro a w Q rl;have h1:(Instr.buildSlice t 0 #[]).run P w= .ok (.slice (some ⟨w.heap.size,0,none⟩) 0 0) (w.alloc (.cells ⟨[]⟩ e)):=by
  unfold Instr.buildSlice;rw[bj (hT.u w)];simp only[];rw[bj (hT.siz w)];simp only[kL,gt_iff_lt,tT,if_false,if_true];rw[bj (run_pure _ _ _),show(Array.range 0)= #[] from J,Array.map_empty];rfl
 refine lw (v:= .slice (some ⟨w.heap.size,0,none⟩) 0 0) (w':=w.alloc (.cells ⟨[]⟩ e)) ?_ (h w.heap.size _ _ ((rl.heap (rl.h.alloc _ _)).put _ hd));simp only[execOp,jZ,iU];exact dh h1
theorem ozn{p:Prop}(h:p:=by unfold Op.equalIn;rw[bj (hT.u w)];cases ad<;>rfl):p:=h
def Qb[hT:cE P t e s by_](hx:aE fr x=some (.slice ad len cap))(hy:aE fr y=some (.slice none l2 c2)):Yd P C fr own G ⟨dst, .binOp .eql t x y t',ty',pos,af,gd⟩ (.bool ad.isNone):=by
 intro a w hf hh;simp only[execOp,bF hf hx,bF hf hy];have h1:(Op.equal t (.slice ad len cap) (.slice none l2 c2)).run P w= .ok ad.isNone w:=tw ozn;have h2:(eqGuard .eql t x y (.slice ad len cap) (.slice none l2 c2)).run P w= .ok () w:=J;have h3:(binOp .eql t (.slice ad len cap) (.slice none l2 c2)).run P w= .ok (.bool ad.isNone) w:=by simp only[binOp];rw[bj h1];rfl
 exact dh oki
def XO[hT:cE P t e s by_](hx:aE fr x=some (.slice ad len cap))(hy:aE fr y=some (.slice none l2 c2)):Yd P C fr own G ⟨dst, .binOp .neq t x y t',ty',pos,af,gd⟩ (.bool (!ad.isNone)):=by
 intro a w hf hh;simp only[execOp,bF hf hx,bF hf hy];have h1:(Op.equal t (.slice ad len cap) (.slice none l2 c2)).run P w= .ok ad.isNone w:=tw ozn;have h2:(eqGuard .neq t x y (.slice ad len cap) (.slice none l2 c2)).run P w= .ok () w:=J;have h3:(binOp .neq t (.slice ad len cap) (.slice none l2 c2)).run P w= .ok (.bool (!ad.isNone)) w:=by simp only[binOp];rw[bj h1];rfl
 exact dh oki
end
def mi: ∀(cs:List Value) (off k:Nat),off+k<=cs.length->cF cs off k=some ((cs.drop off).take k)
 |cs,0,0,_=>by cases cs<;>rfl
 |[],0,k+1,h=>by simp at h
 |v::t,0,k+1,h=>by
  simp only[cF,mi t 0 k (by simp at h;omega)];simp
 |[],_+1,k,h=>by simp at h
 |_::t,off+1,k,h=>by
  simp only[cF,mi t off k (by simp at h;omega)];simp
section
variable {own:List aA}
variable {gd:Option (Nat×Bool)}
def ng(P:Program)(C:aH)(own:List aA)(G:Gh)(s m:Nat)(v:Value)(ys:List Value):Prop:=
 ∀w,bI C own G w->(Builtin.firstCells s m v).run P w= .ok ⟨ys⟩ w
def Gt{cs:List Value}{fz:Nat×Nat}(h:w.heap[b]? =some (.cells ⟨cs⟩ ty fz))(hl:cF cs off k=some l):(loadCells ⟨b,off,none⟩ k).run P w= .ok ⟨l⟩ w:=by
 obtain⟨h1,h2⟩:=ru _ _ _ _ hl;unfold loadCells;rw[Im (l:=l) k 0 #[] (fun j hj=>by rw[FH h];simpa using h2 j hj) we];simp[<-h1]
def Ao{cs:List Value}(ho:jc own b cs ty lo)(hl:cF cs off (m*s)=some ys):ng P C own G s m (.slice (some ⟨b,off,none⟩) len cap) ys:=
 fun w h=>Gt (h.hown _ ho.mem).1 hl
def Sk{cs:List Value}(hg:G b=some cs)(hl:cF cs off (m*s)=some ys):ng P C own G s m (.slice (some ⟨b,off,none⟩) len cap) ys:=
 fun w h=>by obtain⟨ty,fz,hb⟩:=h.sub _ _ hg;exact Gt hb hl
def ww:ng P C own G s 0 (.slice ad len cap) []:=fun w _=>by
 cases ad with
 |none=>rfl
 |some a=>unfold Builtin.firstCells loadCells;simp[loadCellsFrom,run_pure]
def amH(z:Value)(k:Nat):Builtin.zeroCells ⟨aO z⟩ k=⟨dH z k⟩:=by
 unfold Builtin.zeroCells;exact CX J
def L7{w':World}[hT:cE P t e s by_][hN:kd P t'][hz:gA P e z]
  (hsx:(Builtin.firstCells s len (.slice ad len cap)).run P w.drew= .ok ⟨xs⟩ w.drew)(hsy:(Builtin.firstCells s m (.slice ad2 m cap2)).run P w.drew= .ok ⟨ys⟩ w.drew)
  (hneed:cap<len+m)(hby:0<by_)(hb:(len+m)*by_<=140737488355328):
  (Builtin.append_ #[t,t'] ty' #[.slice ad len cap, .slice ad2 m cap2]).run P w=
   .ok (.slice (some ⟨w.heap.size,0,none⟩) (len+m) (grownCap w (len+m) cap e)) (w.drew.alloc (.cells ⟨xs++ys++dH z (grownCap w (len+m) cap e-(len+m))⟩ e)):=by
 obtain⟨d,hd1⟩:=hN.un;obtain⟨i,hi,his,hib⟩:=hT.info;obtain⟨i',hi',hiz⟩:=hz.info;rw[hi] at hi';cases hi';have hfit:=growslice_fits (old:=cap) (need:=len+m) (bytes:=by_) hneed hb;have hlen:len+m<=140737488355328:=cX (nZ _ hby) hb;have hn: ¬(len+m<=cap):=by omega
 have h63': ¬(9223372036854775807<((len:Int)+(m:Int))):=by omega
 have h48': ¬(281474976710656<Builtin.nextslicecap (len+m) cap*i.bytes):=by rw[hib];omega
 subst his;simp[Builtin.append_,run_underlying hT.un,run_underlying hd1,sizeOf,typeInfo,zeroValue,hi,hiz,Builtin.lenOf,hn,h63',h48',Question.forced,hsx,hsy,newRow,grownCap];congr 2;apply Array.ext';rw[pP,amH];simp[dT]
def EZ[hT:cE P t e s by_][hN:kd P t'][hz:gA P e z]
  (hx:aE fr x=some (.slice ad len cap))(hy:aE fr y=some (.slice ad2 m cap2))(hsx:ng P C own G s len (.slice ad len cap) xs)(hsy:ng P C own G s m (.slice ad2 m cap2) ys)
  (hneed:cap<len+m)(hby:0<by_)(hb:(len+m)*by_<=140737488355328)(hd:co n dst=true)
  (h: ∀b cap',len+m<=cap'->St C n (put fr dst (.slice (some ⟨b,0,none⟩) (len+m) cap')) (⟨b,xs++ys++dH z (cap'-(len+m)),e,true⟩::own) G Φ):
  Ch P C n fr own G ⟨dst, .call ⟨.builtin .append, #[x,y], #[t,t']⟩,ty',pos,af,gd⟩ Φ:=by
 intro a w Q rl;have hcap:len+m<=grownCap w (len+m) cap e:=by unfold grownCap;simp only[Question.cut];omega
 have hrun:=L7 (P:=P) (t:=t) (t':=t') (ty':=ty') (w:=w) (w':=w) (hsx _ rl.h.drew) (hsy _ rl.h.drew) hneed hby hb;refine lw (v:= .slice (some ⟨w.heap.size,0,none⟩) (len+m) (grownCap w (len+m) cap e)) (w':=w.drew.alloc (.cells ⟨xs++ys++dH z (grownCap w (len+m) cap e-(len+m))⟩ e)) ?_ ?_
 .simp only[execOp,resolve,jZ,bY,iU,bF rl.fr hx,bF rl.fr hy]
  exact dh hrun
 .exact h w.heap.size _ hcap _ _ ((rl.heap ((rl.h.drew).alloc _ _)).put _ hd)
def kn.perm{o:aA}(h:kn own o own1):own.Perm (o::own1):=by
 induction h with
 |hd o t=>exact List.Perm.refl _
 |tl x t t' o h ih=>exact(List.Perm.cons x ih).trans (List.Perm.swap _ _ _)
def Mv[hT:cE P t e s by_][hN:kd P t']{cs:List Value}
  (hb:w.heap[b]? =some (.cells ⟨cs⟩ e (0,0)))(hcs:cs.length=cap*s)(hsy:(Builtin.firstCells s m (.slice ad2 m cap2)).run P w= .ok ⟨ys⟩ w)(hys:ys.length=m*s)(hf: ∀v∈ys,flat v=true)
  (hneed:len+m<=cap):
  (Builtin.append_ #[t,t'] ty' #[.slice (some ⟨b,0,none⟩) len cap, .slice ad2 m cap2]).run P w=
   .ok (.slice (some ⟨b,0,none⟩) (len+m) cap) (iv w b (.cells ⟨cH cs (len*s) ys⟩ e (0,0))):=by
 obtain⟨d,hd1⟩:=hN.un;obtain⟨i,hi,his,hib⟩:=hT.info;subst his;have hl:len*i.size+ys.length<=cs.length:=by rw[hys,hcs,<-dS];exact bW _ hneed
 have hst:=DB (P:=P) ys w (len*i.size) 0 cs hf hb we;rw[gV] at hst;simp[Builtin.append_,run_underlying hT.un,run_underlying hd1,sizeOf,typeInfo,hi,Builtin.lenOf,hneed,hsy,si,hst]
def Da: ∀(vs cs:List Value) (off:Nat),(cH cs off vs).length=cs.length
 |[],cs,off=>rfl
 |v::vs,cs,off=>by simp[cH,Da vs]
def rO: ∀(vs cs:List Value) (off:Nat),off+vs.length<=cs.length->cH cs off vs=cs.take off++vs++cs.drop (off+vs.length)
 |[],cs,off,h=>by simp[cH]
 |v::vs,cs,off,h=>by
  simp only[aS] at h;rw[cH,rO vs _ _ omq];rw[List.take_set,uQ we];have h1:(cs.take (off+1)).set off v=cs.take off++[v]:=by
   rw[jW we,nN _ _ omq];simp[kW (by omega:off<=cs.length)]
  rw[h1];simp only[aS,dT,gL,kV];congr 4;omega
def QM[hT:cE P t e s by_][hN:kd P t'][hz:gA P e z]
  (hx:aE fr x=some (.slice (some ⟨b,0,none⟩) len cap))(hy:aE fr y=some (.slice ad2 m cap2))(hr:kn own ⟨b,xs++rest,e,true⟩ own1)(hxs:xs.length=len*s)(hcap:xs.length+rest.length=cap*s)(hlc:len<=cap)
  (hsy:ng P C own G s m (.slice ad2 m cap2) ys)(hys:ys.length=m*s)(hf: ∀v∈ys,flat v=true)
  (hby:0<by_)(hb:(len+m)*by_<=140737488355328)(hzs:(aO z).length=s)(hd:co n dst=true)
  (h: ∀b cap' rest',len+m<=cap'->rest'.length+(len+m)*s=cap'*s->St C n (put fr dst (.slice (some ⟨b,0,none⟩) (len+m) cap')) (⟨b,xs++ys++rest',e,true⟩::own1) G Φ):
  Ch P C n fr own G ⟨dst, .call ⟨.builtin .append, #[x,y], #[t,t']⟩,ty',pos,af,gd⟩ Φ:=by
 intro a w Q rl;have hp:=rl.h.perm hr.perm;have hblk:=(hp.hown _ aQ).1;simp only[] at hblk;by_cases hneed:len+m<=cap
 .have hcs:(xs++rest).length=cap*s:=by simp;omega
  have hrun:=Mv (P:=P) (t:=t) (t':=t') (ty':=ty') (w:=w) (len:=len) hblk hcs (hsy w rl.h) hys hf hneed;have hle:len*s+m*s<=cap*s:=by rw[<-dS];exact bW _ hneed
  have hov:cH (xs++rest) (len*s) ys=xs++ys++rest.drop (m*s):=by
   rw[rO _ _ _ (by rw[hys];omega),<-hxs];simp[hys,nU]
  refine lw (v:= .slice (some ⟨b,0,none⟩) (len+m) cap) (w':=iv w b (.cells ⟨cH (xs++rest) (len*s) ys⟩ e (0,0))) ?_ ?_
  .simp only[execOp,resolve,jZ,bY,iU,bF rl.fr hx,bF rl.fr hy]
   exact dh hrun
  .rw[hov]
   refine h b cap (rest.drop (m*s)) hneed ?_ _ _ ((rl.heap (hp.store (.hd ..))).put _ hd);rw[gM,dS];omega
 .have hx':ng P C own G s len (.slice (some ⟨b,0,none⟩) len cap) xs:=fun w' hw'=>by
   have hb':=(((hw'.perm hr.perm).hown _ aQ).1);refine Gt hb' ?_;rw[mi _ _ _ omq,<-hxs];simp
  have hcap':len+m<=grownCap w (len+m) cap e:=by unfold grownCap;simp only[Question.cut];omega
  have hrun:=L7 (P:=P) (t:=t) (t':=t') (ty':=ty') (w:=w) (w':=w) (hx' _ rl.h.drew) (hsy _ rl.h.drew) we hby hb;refine lw (v:= .slice (some ⟨w.heap.size,0,none⟩) (len+m) (grownCap w (len+m) cap e)) (w':=w.drew.alloc (.cells ⟨xs++ys++dH z (grownCap w (len+m) cap e-(len+m))⟩ e)) ?_ ?_
  .simp only[execOp,resolve,jZ,bY,iU,bF rl.fr hx,bF rl.fr hy]
   exact dh hrun
  .refine h w.heap.size _ _ hcap' ?_ _ _ ((rl.heap (((hp.drew).drop (nV _ _)).alloc _ _)).put _ hd)
   rw[pA,hzs,<-dS];congr 1;omega
end
section
variable {S:World->Prop}
def vg(ops:Array Oper)(fin:Nat->Bool):List (Nat×Bool)->Array Bool->Bool
 |[],listed=>(Region.ready .any ops listed).isEmpty
 |(i,true)::r,listed=>VG ops fin listed i&&vg ops fin r (listed.setIfInBounds i true)
 |(i,false)::r,listed=>(Region.ready .any ops listed==[i])&&vg ops fin r (listed.setIfInBounds i true)
def jg(P:Program)(ops:Array Oper)(Q:Exit->Act->World->Prop)(S:World->Prop)(fin:Nat->Bool):List (Nat×Bool)->Act->World->Prop
 |[],a,w=>Q .normal a w
 |(i,true)::r,a,w=> ∃o v,ops[i]? =some o/\S w/\YieldsIf P ops S o v a/\jg P ops Q S fin r (a.put o.dst v) w
 |(i,false)::r,a,w=>wpOp P ops Q i (fun a' w'=>(fin i=true\/S w')/\jg P ops Q S fin r a' w') a w
def DU(hQ: ∀c a d v w,Q (.panic c) (Act.put a d v) w->Q (.panic c) a w): ∀(π:List (Nat×Bool)) (listed:Array Bool) (a:Act) (w:World),vg ops fin π listed=true->jg P ops Q S fin π a w-> ∀fuel,π.length<=fuel->wj P ops Q S fin fuel listed a w
 |[],listed,a,w,ho,h,fuel,hf=>by
  have hr:Region.ready .any ops listed=[]:=by simpa[vg] using ho
  cases fuel with
  |zero=>exact⟨hr,h⟩
  |succ k=>exact⟨fun _=>h,by rw[hr];simp⟩
 |(i,true)::r,listed,a,w,ho,h,0,hf=>by simp at hf
 |(i,false)::r,listed,a,w,ho,h,0,hf=>by simp at hf
 |(i,true)::r,listed,a,w,ho,h,fuel+1,hf=>by
  obtain⟨o,v,hoi,hS,hy,hk⟩:=h;simp only[vg,VG,bT] at ho;obtain⟨⟨⟨⟨h1,h2⟩,h3⟩,h4⟩,h5⟩:=ho;obtain⟨h6,h7⟩:=auF h4;exact apL hoi (Region.noSelect_spec h1) (fun c a w=>hQ c a _ _ w) h6 h7 fuel listed a w (Region.free_spec hoi h2) (by simpa using h3) hy hS
   (DU hQ r _ _ _ h5 hk fuel ozr)
 |(i,false)::r,listed,a,w,ho,h,fuel+1,hf=>by
  simp only[vg,bT,beq_iff_eq] at ho;exact at7 ho.1 (wpOp_mono (fun a' w' h'=>⟨h'.1,DU hQ r _ _ _ ho.2 h'.2 fuel ozr⟩) h)
end
section
variable {own:List aA}{π:List (Nat×Bool)}
def dr(fin:Nat->Bool)(π:List (Nat×Bool)){id:Nat}(hm:P.follows .mixedOrders=true)(ho:(vg ops fin π (Array.replicate ops.size false)&&Nat.ble π.length ops.size)=true)
  (h:St C n fr own G (jg P ops (il Q) (HS C own G) fin π)):St C n fr own G ((Code.region id ops true).wp P Q):=by
 simp only[bT] at ho;refine ay9 fin hm fun a w rl=>DU (fun _ _ _ _ _ h=>h) π _ a w ho.1 (h a w rl) _ (by simpa using ho.2)
def dy(ho:ops[i]? =some o)(hy: ∀G':Gh,[GE G0 G']->Yd P C fr own0 G' o v)(hg:o.guard=none)(hd:co n o.dst=true)[hs:mz own0 own][hl:GL G0 G]
  (h:St C n (put fr o.dst v) own G (jg P ops (il Q) (HS C own0 G0) fin π)):St C n fr own G (jg P ops (il Q) (HS C own0 G0) fin ((i,true)::π)):=
 fun a w rl=>⟨o,v,ho,⟨G,hl.le,rl.h.drop hs.s⟩, .inl ⟨by simp[Region.wanted,hg],fun w' ⟨G',hle,hr⟩=> @hy G' ⟨hle⟩ a w' rl.fr hr⟩,h _ _ (rl.put v hd)⟩
def dM(ho:ops[i]? =some ⟨dst, .move x,ty',pos,af,none⟩)(hx:aE fr x=some v)(hd:co n dst=true)[hs:mz own0 own][hl:GL G0 G]
  (h:St C n (put fr dst v) own G (jg P ops (il Q) (HS C own0 G0) fin π)):St C n fr own G (jg P ops (il Q) (HS C own0 G0) fin ((i,true)::π)):=dy ho (fun _ _=>mo hx) J hd h
def dA(ho:ops[i]? =some ⟨dst, .assign x,ty',pos,af,none⟩)(hx:aE fr x=some v)(hd:co n dst=true)[hs:mz own0 own][hl:GL G0 G]
  (h:St C n (put fr dst v) own G (jg P ops (il Q) (HS C own0 G0) fin π)):St C n fr own G (jg P ops (il Q) (HS C own0 G0) fin ((i,true)::π)):=dy ho (fun _ _=>La hx) J hd h
def dF{o:Nat}[hF:lE P t f off](ho:ops[i]? =some ⟨dst, .fieldAddr t x f,ty',pos,af,none⟩)(hx:aE fr x=some (.pointer (some ⟨b,o,none⟩)))(hd:co n dst=true)[hs:mz own0 own][hl:GL G0 G]
  (h:St C n (put fr dst (.pointer (some ⟨b,o+off,none⟩))) own G (jg P ops (il Q) (HS C own0 G0) fin π)):St C n fr own G (jg P ops (il Q) (HS C own0 G0) fin ((i,true)::π)):=dy ho (fun _ _=>sj hx) J hd h
def dL{cs:List Value}(ho:ops[i]? =some ⟨dst, .load t x,ty',pos,af,none⟩)(hx:aE fr x=some (.pointer (some ⟨b,off,none⟩)))[hw:jc own0 b cs ty lo][li P t k](hv:cF cs off k=some l)(hd:co n dst=true)[hs:mz own0 own][hl:GL G0 G]
  (h:St C n (put fr dst (.agg ⟨l⟩)) own G (jg P ops (il Q) (HS C own0 G0) fin π)):St C n fr own G (jg P ops (il Q) (HS C own0 G0) fin ((i,true)::π)):=dy ho (fun _ _=>D6 hx hv) J hd h
def q6{cs:List Value}(ho:ops[i]? =some ⟨dst, .load t x,ty',pos,af,none⟩)(hx:aE fr x=some (.pointer (some ⟨b,off,none⟩)))[hw:jc own0 b cs ty lo][kO P t](hv:cs[off]? =some v)(hd:co n dst=true)[hs:mz own0 own][hl:GL G0 G]
  (h:St C n (put fr dst v) own G (jg P ops (il Q) (HS C own0 G0) fin π)):St C n fr own G (jg P ops (il Q) (HS C own0 G0) fin ((i,true)::π)):=dy ho (fun _ _=>pp hx hv) J hd h
def vJ(ho:ops[i]? =some o){b:Bool}(hg:o.guard=some (j,b))(hj:(ops[j]?).bind (·.dst)=some d)(hlk:i0 fr d=some (.bool b))(hy: ∀G':Gh,[GE G0 G']->Yd P C fr own0 G' o v)(hd:co n o.dst=true)[hs:mz own0 own][hl:GL G0 G]
  (h:St C n (put fr o.dst v) own G (jg P ops (il Q) (HS C own0 G0) fin π)):St C n fr own G (jg P ops (il Q) (HS C own0 G0) fin ((i,true)::π)):=
 fun a w rl=>⟨o,v,ho,⟨G,hl.le,rl.h.drop hs.s⟩, .inl ⟨by simp[Region.wanted,hg,Na rl.fr hj hlk],fun w' ⟨G',hle,hr⟩=> @hy G' ⟨hle⟩ a w' rl.fr hr⟩,h _ _ (rl.put v hd)⟩
def dc(ho:ops[i]? =some o)(hg:o.guard=none)(hc:Ch P C n fr own G o (fun a w=>(fin i=true\/HS C own0 G0 w)/\jg P ops (il Q) (HS C own0 G0) fin π a w)):St C n fr own G (jg P ops (il Q) (HS C own0 G0) fin ((i,false)::π)):=by
 intro a w rl;show wpOp P ops (il Q) i _ a w;unfold wpOp;simp only[ho,Region.wanted,hg,if_true];exact .inl (hc a w _ rl)
def dn(h:St C n fr own G (Q .normal)):St C n fr own G (jg P ops (il Q) (HS C own0 G0) fin []):=h
def vo{cs:List Value}[h:ub A b cs][k:GL A G]:G b=some cs:=k.le _ _ h.h
variable {r:List Oper}
def sm(hx:aE fr x=some v)(hd:co n dst=true)(h:St C n (put fr dst v) own G (dt P ops Q r)):St C n fr own G (dt P ops Q (⟨dst, .move x,ty',pos,af,none⟩::r)):=rp (mo hx) J hd h
def sa(hx:aE fr x=some v)(hd:co n dst=true)(h:St C n (put fr dst v) own G (dt P ops Q r)):St C n fr own G (dt P ops Q (⟨dst, .assign x,ty',pos,af,none⟩::r)):=rp (La hx) J hd h
def sn{ad:Addr}(hx:aE fr x=some (.pointer (some ad)))(hd:co n dst=true)(h:St C n (put fr dst (.pointer (some ad))) own G (dt P ops Q r)):St C n fr own G (dt P ops Q (⟨dst, .nilCheck x,ty',pos,af,none⟩::r)):=rp (og hx) J hd h
def sf{o:Nat}[hF:lE P t f off](hx:aE fr x=some (.pointer (some ⟨b,o,none⟩)))(hd:co n dst=true)(h:St C n (put fr dst (.pointer (some ⟨b,o+off,none⟩))) own G (dt P ops Q r)):St C n fr own G (dt P ops Q (⟨dst, .fieldAddr t x f,ty',pos,af,none⟩::r)):=rp (sj hx) J hd h
def EN{cs:List Value}(hx:aE fr x=some (.pointer (some ⟨b,off,none⟩)))[ho:jc own b cs ty lo][li P t k](hl:cF cs off k=some l)(hd:co n dst=true)
  (h:St C n (put fr dst (.agg ⟨l⟩)) own G (dt P ops Q r)):St C n fr own G (dt P ops Q (⟨dst, .load t x,ty',pos,af,none⟩::r)):=rp (D6 hx hl) J hd h
def ol{cs:List Value}(hx:aE fr x=some (.pointer (some ⟨b,off,none⟩)))[ho:jc own b cs ty lo][kO P t](hl:cs[off]? =some v)(hd:co n dst=true)
  (h:St C n (put fr dst v) own G (dt P ops Q r)):St C n fr own G (dt P ops Q (⟨dst, .load t x,ty',pos,af,none⟩::r)):=rp (pp hx hl) J hd h
def slg{cs:List Value}(hx:aE fr x=some (.pointer (some ⟨b,off,none⟩)))[hg:ub A b cs][hk:GL A G][li P t k](hl:cF cs off k=some l)(hd:co n dst=true)
  (h:St C n (put fr dst (.agg ⟨l⟩)) own G (dt P ops Q r)):St C n fr own G (dt P ops Q (⟨dst, .load t x,ty',pos,af,none⟩::r)):=rp (GH hx (hk.le _ _ hg.h) hl) J hd h
def aM2{cs:List Value}(hx:aE fr x=some (.pointer (some ⟨b,off,none⟩)))[hg:ub A b cs][hk:GL A G][kO P t](hl:cs[off]? =some v)(hd:co n dst=true)
  (h:St C n (put fr dst v) own G (dt P ops Q r)):St C n fr own G (dt P ops Q (⟨dst, .load t x,ty',pos,af,none⟩::r)):=rp (tA hx (hk.le _ _ hg.h) hl) J hd h
def uB[hT:cE P t e s by_](hx:aE fr x=some (.slice ad len cap))(hd:co n dst=true)
  (h:St C n (put fr dst (.int .i64 len)) own G (dt P ops Q r)):St C n fr own G (dt P ops Q (⟨dst, .call ⟨.builtin .len, #[x], #[t]⟩,ty',pos,af,none⟩::r)):=rp (wx hx) J hd h
def sx{vs:Array Value}(hx:aE fr x=some (.tuple vs))(hv:vs[i]? =some v)(hd:co n dst=true)(h:St C n (put fr dst v) own G (dt P ops Q r)):St C n fr own G (dt P ops Q (⟨dst, .extract x i,ty',pos,af,none⟩::r)):=rp (zj hx hv) J hd h
def Gc{own:List aA}{id:Nat}(h:St C n fr own G (Q (.exit id))):St C n fr own G (Exit.then K Q (.exit id)):=h
def ge{b:Bool}(hj:(ops[j]?).bind (·.dst)=some d)(hl:i0 fr d=some (.bool b))(hy:Yd P C fr own G ⟨dst,op,ty',pos,af,some (j,b)⟩ v)(hd:co n dst=true)(h:St C n (put fr dst v) own G (dt P ops Q r)):St C n fr own G (dt P ops Q (⟨dst,op,ty',pos,af,some (j,b)⟩::r)):=aK0 J hj hl hy hd h
def ss{b:Bool}(hj:(ops[j]?).bind (·.dst)=some d)(hl:i0 fr d=some (.bool c))(hbc:(c==b)=false)(hd:co n dst=true)(h:St C n (put fr dst undef) own G (dt P ops Q r)):St C n fr own G (dt P ops Q (⟨dst,op,ty',pos,af,some (j,b)⟩::r)):=aEJ J hj hl hbc hd h
def sy(hy:Yd P C fr own G ⟨dst,op,ty',pos,af,none⟩ v)(hd:co n dst=true)(h:St C n (put fr dst v) own G (dt P ops Q r)):St C n fr own G (dt P ops Q (⟨dst,op,ty',pos,af,none⟩::r)):=rp hy J hd h
def sc{op:Op}(hc:Ch P C n fr own G ⟨dst,op,ty',pos,af,none⟩ (dt P ops Q r)):St C n fr own G (dt P ops Q (⟨dst,op,ty',pos,af,none⟩::r)):=aLa J hc
end
def Fn.of_calls{f:FuncId}{vs:List Value}(ha:ua P f)(h: ∀w,Calls P f ⟨vs⟩ w fun e w'=>e= .returned v/\w'=w):Fn P f vs G (fun u _=>u=v):=
 ⟨ha,fun w hw=>(h w).mono fun e w' ⟨he,hww⟩=>⟨v,G,he,by
  subst hww;exact⟨J,J,J,bV _,fun _ _ _=>J,hw,b7.refl _,fun _ _=>J,fun o ho=>(by cases ho), .nil,bV _,fun p hp=>by cases hp⟩,J⟩⟩
end Go.Sx
end
section
namespace Go.Sx
open Go Go.Proofs Tryz
instance:kO prog 3:=⟨fun _=>by kernel_rfl,fun _=>by kernel_rfl⟩
instance:gA prog 3 (.int .i64 0):=⟨omd⟩
instance:kO prog 4:=⟨fun _=>by kernel_rfl,fun _=>by kernel_rfl⟩
instance:gA prog 4 (.bool false):=⟨omd⟩
instance:kO prog 29:=⟨fun _=>by kernel_rfl,fun _=>by kernel_rfl⟩
instance:cE prog 29 94 8 112:=⟨omd,omd⟩
instance:kd prog 29:=⟨94,omd⟩
instance:li prog 31 2:=⟨fun _=>by kernel_rfl,fun _=>by kernel_rfl⟩
instance:gA prog 31 (.agg ⟨[.int .i64 0, .slice none 0 0]⟩):=⟨omd⟩
instance:lE prog 31 0 0:=⟨fun _ _ _=>by kernel_rfl⟩
instance:lE prog 31 1 1:=⟨fun _ _ _=>by kernel_rfl⟩
instance:li prog 54 6:=⟨fun _=>by kernel_rfl,fun _=>by kernel_rfl⟩
instance:gA prog 54 (.agg ⟨[.bool false, .slice none 0 0, .bool false, .slice none 0 0, .bool false, .slice none 0 0]⟩):=⟨omd⟩
instance:gA prog 58 (.agg ⟨[.bool false, .bool false, .bool false, .slice none 0 0, .bool false, .slice none 0 0, .bool false, .slice none 0 0, .pointer none, .pointer none]⟩):=⟨omd⟩
instance:Du prog 58 [(0,1),(1,1),(2,6),(8,1),(9,1)]:=⟨_,fun _=>MP underlying58 _,fun _=>by kernel_rfl⟩
instance:cE prog 73 245 1 4:=⟨omd,omd⟩
instance:kd prog 73:=⟨245,omd⟩
instance:kO prog 81:=⟨fun _=>by kernel_rfl,fun _=>by kernel_rfl⟩
instance:gA prog 81 (.pointer none):=⟨omd⟩
instance:li prog 92 6:=⟨fun _=>by kernel_rfl,fun _=>by kernel_rfl⟩
instance:li prog 94 8:=⟨fun _=>by kernel_rfl,fun _=>by kernel_rfl⟩
instance:gA prog 94 (.agg ⟨[.bool false, .slice none 0 0, .bool false, .slice none 0 0, .bool false, .slice none 0 0, .int .i64 0, .int .i64 0]⟩):=⟨omd⟩
instance:lE prog 94 0 0:=⟨fun _ _ _=>by kernel_rfl⟩
instance:lE prog 94 1 6:=⟨fun _ _ _=>by kernel_rfl⟩
instance:lE prog 94 2 7:=⟨fun _ _ _=>by kernel_rfl⟩
instance:Du prog 94 [(0,6),(6,1),(7,1)]:=⟨_,fun _=>MP underlying94 _,fun _=>by kernel_rfl⟩
instance:cE prog 130 81 1 8:=⟨omd,omd⟩
instance:kd prog 130:=⟨81,omd⟩
instance:cE prog 133 209 17 128:=⟨omd,omd⟩
instance:kd prog 133:=⟨209,omd⟩
instance:cE prog 134 209 17 128:=⟨omd,omd⟩
instance:kO prog 141:=⟨fun _=>by kernel_rfl,fun _=>by kernel_rfl⟩
instance:cE prog 141 4 1 1:=⟨omd,omd⟩
instance:gA prog 186 (.agg ⟨[.slice none 0 0, .slice none 0 0, .int .i64 0, .bool false]⟩):=⟨omd⟩
instance:lE prog 186 0 0:=⟨fun _ _ _=>by kernel_rfl⟩
instance:lE prog 186 1 1:=⟨fun _ _ _=>by kernel_rfl⟩
instance:lE prog 186 2 2:=⟨fun _ _ _=>by kernel_rfl⟩
instance:lE prog 186 3 3:=⟨fun _ _ _=>by kernel_rfl⟩
instance:Du prog 186 [(0,1),(1,1),(2,1),(3,1)]:=⟨_,fun _=>MP underlying186 _,fun _=>by kernel_rfl⟩
instance:kO prog 188:=⟨fun _=>by kernel_rfl,fun _=>by kernel_rfl⟩
instance:gA prog 188 (.nilFunc):=⟨omd⟩
instance:li prog 193 9:=⟨fun _=>by kernel_rfl,fun _=>by kernel_rfl⟩
instance:gA prog 193 (.agg ⟨[.int .i64 0, .int .i64 0, .pointer none, .int .i64 0, .int .i64 0, .pointer none, .int .i64 0, .int .i64 0, .pointer none]⟩):=⟨omd⟩
instance:lE prog 195 0 0:=⟨fun _ _ _=>by kernel_rfl⟩
instance:lE prog 195 1 9:=⟨fun _ _ _=>by kernel_rfl⟩
instance:lE prog 195 2 10:=⟨fun _ _ _=>by kernel_rfl⟩
instance:lE prog 195 3 11:=⟨fun _ _ _=>by kernel_rfl⟩
instance:gA prog 245 (.int .u32 0):=⟨omd⟩
def follows:prog.follows .mixedOrders=true:=by kernel_rfl
end Go.Sx
end
section
namespace Go.Sx
def dv:List Nat->Nat
 |[]=>0
 |d::t=>d+4294967296*dv t
def bH(ds:List Nat):Prop:= ∀d∈ds,d<4294967296
def fA(ds:List Nat):Prop:=ds.getLast? ≠some 0
instance (ds:List Nat):Decidable (fA ds):=inferInstanceAs (Decidable (ds.getLast? ≠some 0))
def bH.nil:bH []:=fun _ h=>by cases h
def bH.cons{d:Nat}{ds:List Nat}(h:d<4294967296)(k:bH ds):bH (d::ds):=fun x hx=>by
 rcases aW.1 hx with rfl|h'
 .exact h
 .exact k _ h'
def bH.head{d:Nat}{ds:List Nat}(h:bH (d::ds)):d<4294967296:=h d aQ
def bH.tail{d:Nat}{ds:List Nat}(h:bH (d::ds)):bH ds:=fun x hx=>h x (aJ _ hx)
def bH.append{a b:List Nat}(h:bH a)(k:bH b):bH (a++b):=fun x hx=>by
 rcases bZ.1 hx with h'|h'
 .exact h _ h'
 .exact k _ h'
def bH.take{a:List Nat}(h:bH a)(n:Nat):bH (a.take n):=fun x hx=>h x (eK hx)
def bH.drop{a:List Nat}(h:bH a)(n:Nat):bH (a.drop n):=fun x hx=>h x (iZ hx)
def bH.get{a:List Nat}(h:bH a)(i:Nat):a.getD i 0<4294967296:=by
 rw[aV]
 cases hi:a[i]? with
 |none=>simp
 |some d=>exact h d (aK hi)
def bH.set{a:List Nat}(h:bH a)(i:Nat){d:Nat}(hd:d<4294967296):bH (a.set i d):=fun x hx=>by
 rcases List.mem_or_eq_of_mem_set hx with h'|rfl
 .exact h _ h'
 .exact hd
def bH.replicate(n:Nat):bH (List.replicate n 0):=fun x hx=>by
 rw[List.eq_of_mem_replicate hx];omega
def Bp(a b:List Nat):dv (a++b)=dv a+4294967296^a.length*dv b:=by
 induction a with
 |nil=>simp[dv]
 |cons d t ih=>
  simp only[gL,dv,ih,aS,iK];rw[fW,<-lT,<-cR,cW 4294967296 (4294967296^t.length)]
def m6{ds:List Nat}(h:bH ds):dv ds<4294967296^ds.length:=by
 induction ds with
 |nil=>simp[dv]
 |cons d t ih=>
  have h1:=h.head;have h2:=ih h.tail;simp only[dv,aS,iK];omega
def Ar(n:Nat):dv (List.replicate n 0)=0:=by
 induction n with
 |zero=>rfl
 |succ n ih=>simp[tN,dv,ih]
def pB(ds:List Nat)(i:Nat):dv (ds.take (i+1))=dv (ds.take i)+4294967296^i*ds.getD i 0:=by
 by_cases h:i<ds.length
 .rw[jW h,Bp]
  simp[dv,kW (gS h),aV,h]
 .have:ds.getD i 0=0:=by rw[aV,fK we];rfl
  rw[this,bM we,bM we];simp
def Dk(ds:List Nat)(i:Nat)(h:i<=ds.length:=by omega):dv ds=dv (ds.take i)+4294967296^i*dv (ds.drop i):=by
 have:=Bp (ds.take i) (ds.drop i);rw[kR] at this;rw[this];simp[kW h]
def trimD:List Nat->List Nat
 |[]=>[]
 |d::t=>match trimD t with
  |[]=>if d=0 then [] else [d]
  |t'=>d::t'
def ya(d:Nat)(t:List Nat):trimD (d::t)=if trimD t=[]/\d=0 then [] else d::trimD t:=by
 simp only[trimD]
 cases h:trimD t with
 |nil=>by_cases hd:d=0<;>simp[hd]
 |cons a b=>simp
def aAM(ds:List Nat):dv (trimD ds)=dv ds:=by
 induction ds with
 |nil=>rfl
 |cons d t ih=>
  rw[ya];split
  .rename_i h
   rw[h.1] at ih;simp[dv,<-ih,h.2]
  .simp[dv,ih]
def WT(ds:List Nat):trimD (ds++[0])=trimD ds:=by
 induction ds with
 |nil=>rfl
 |cons d t ih=>rw[gL,ya,ya,ih]
def PC{ds:List Nat}{d:Nat}(h:d≠0):trimD (ds++[d])=ds++[d]:=by
 induction ds with
 |nil=>simp[trimD,h]
 |cons e t ih=>rw[gL,ya,ih];simp
def fA.trimD(ds:List Nat):fA (trimD ds):=by
 induction ds with
 |nil=>simp[fA,Sx.trimD]
 |cons d t ih=>
  rw[ya];split
  .simp[fA]
  .rename_i h
   unfold fA at*;rw[List.getLast?_cons]
   cases ht:(Sx.trimD t).getLast? with
   |none=>
    have:Sx.trimD t=[]:=by simpa using ht
    simp only[Option.getD_none,ne_eq,Option.some.injEq];exact fun hd=>h ⟨this,hd⟩
   |some x=>rw[ht] at ih;simpa using ih
def axr(ds:List Nat):(trimD ds).length<=ds.length:=by
 induction ds with
 |nil=>simp[trimD]
 |cons d t ih=>
  rw[ya];split
  .simp
  .simp;omega
def Yz(ds:List Nat):trimD ds=ds.take (trimD ds).length:=by
 induction ds with
 |nil=>rfl
 |cons d t ih=>
  rw[ya];split
  .rfl
  .simp only[aS,oL];rw[<-ih]
def bH.trimD{ds:List Nat}(h:bH ds):bH (trimD ds):=by rw[Yz];exact h.take _
def azg{ds:List Nat}(h:fA ds):trimD ds=ds:=by
 rcases oQ ds with rfl|⟨l,d,rfl⟩
 .rfl
 .rw[oZ] at*
  exact PC (fun e=>by subst e;simp[fA] at h)
def Ae{ds:List Nat}(h:fA ds)(hne:ds≠[]):4294967296^(ds.length-1)<=dv ds:=by
 rcases oQ ds with rfl|⟨l,d,rfl⟩
 .exact absurd J hne
 .rw[oZ] at*
  have hd:d≠0:=fun e=>by subst e;simp[fA] at h
  rw[Bp];simp only[aY,aS,eX,dv];have:4294967296^(l.length+(0+1)-1)=4294967296^l.length:=by congr 1
  rw[this];have h1:4294967296^l.length*1<=4294967296^l.length*(d+4294967296*0):=fV _ we;omega
def Ak{a b:List Nat}(ha:bH a)(hb:fA b)(h:a.length<b.length):dv a<dv b:=by
 have h1:=m6 ha;have h2:=Ae hb (fun e=>by subst e;simp at h);have h3:4294967296^a.length<=4294967296^(b.length-1):=bR we we;omega
def UR: ∀{a b:List Nat},bH a->bH b->a.length=b.length->dv a=dv b->a=b
 |[],[],_,_,_,_=>rfl
 |d::t,e::u,ha,hb,hl,h=>by
  have h1:=ha.head;have h2:=hb.head;simp only[dv] at h;have:d=e:=by omega
  subst this;rw[UR ha.tail hb.tail (by simpa using hl) we]
def Xp{a b:List Nat}(ha:bH a)(hb:bH b)(na:fA a)(nb:fA b)(h:dv a=dv b):a=b:=by
 refine UR ha hb ?_ h;rcases sV a.length b.length with h'|h'|h'
 .have:=Ak ha nb h';omega
 .exact h'
 .have:=Ak hb na h';omega
def UP{a b:List Nat}(ha:bH a)(hb:bH b)(i:Nat)(hia:i<a.length)(hib:i<b.length)(hl:a.length=b.length)(hs:a.drop (i+1)=b.drop (i+1))(h:a.getD i 0<b.getD i 0):dv a<dv b:=by
 rw[Dk a (i+1),Dk b (i+1),hs,pB,pB];have h1:=m6 (ha.take i);rw[bL,kW we] at h1;have h2:4294967296^i*(a.getD i 0+1)<=4294967296^i*b.getD i 0:=fV _ h;rw[fW] at h2;omega
def aGd{ds:List Nat}{k:Nat}(h:fA ds)(hk:dv ds<2^k):32*ds.length<=k+31:=by
 by_cases hne:ds=[]
 .subst hne;simp
 .have h1:=Ae h hne
  have h2:(4294967296:Nat)^(ds.length-1)=2^(32*(ds.length-1)):=by
   rw[uR]
  rw[h2] at h1;have h3:2^(32*(ds.length-1))<2^k:=dR h1 hk;have h4:=(oR (by omega:1<2)).1 h3;have:0<ds.length:=by cases ds with|nil=>exact absurd J hne|cons _ _=>simp
  omega
def dg(x:Nat):List Nat:=if h:x=0 then [] else(x%4294967296)::dg (x/4294967296)
termination_by x
decreasing_by omega
def gh(x:Nat):dv (dg x)=x/\bH (dg x)/\fA (dg x):=by
 induction x using Nat.strongRecOn with
 |_ x ih=>
  unfold dg;split
  .rename_i h;subst h;exact⟨rfl, .nil,by simp[fA]⟩
  .rename_i h
   obtain⟨h1,h2,h3⟩:=ih (x/4294967296) we;refine⟨by rw[dv,h1];omega, .cons we h2,?_⟩;unfold fA at*;rw[List.getLast?_cons]
   cases hl:(dg (x/4294967296)).getLast? with
   |none=>
    have:dg (x/4294967296)=[]:=by simpa using hl
    rw[this] at h1;simp only[Option.getD_none,ne_eq,Option.some.injEq];simp only[dv] at h1;omega
   |some y=>rw[hl] at h3;simpa using h3
def Zc{ds:List Nat}(h:bH ds)(n:fA ds):dg (dv ds)=ds:=Xp (gh _).2.1 h (gh _).2.2 n (gh _).1
def F9{ds:List Nat}(h:bH ds):dg (dv ds)=trimD ds:=by rw[<-aAM];exact Zc h.trimD (fA.trimD _)
def zc: ∀(ws:List Nat) (j d:Nat),j<ws.length->dv (ws.set j d)+4294967296^j*ws.getD j 0=dv ws+4294967296^j*d
 |[],j,d,h=>by simp at h
 |w::t,0,d,h=>by simp[dv];omega
 |w::t,j+1,d,h=>by
  have ih:=zc t j d omE;simp only[List.set_cons_succ,dv,oM,iK];have h1:4294967296^j*4294967296*t.getD j 0=4294967296*(4294967296^j*t.getD j 0):=by rw[cW (4294967296^j),cR]
  have h2:4294967296^j*4294967296*d=4294967296*(4294967296^j*d):=by rw[cW (4294967296^j),cR]
  rw[h1,h2];omega
def z6{ws:List Nat}{k d:Nat}(h:k<ws.length:=by omega):dv ((ws.set k d).take (k+1))=dv (ws.take k)+4294967296^k*d:=by
 rw[jW omE,List.take_set_of_le (bV _),Bp];simp[dv,kW (gS h)]
def Ni(p x:Nat):p*x=p*(x%4294967296)+p*4294967296*(x/4294967296):=by
 have h:p*x=p*(4294967296*(x/4294967296)+x%4294967296):=by rw[rU]
 rw[fW,<-cR] at h;omega
def aB6{p A E W c a b:Nat}(h:W+p*c=A+E):(W+p*((c+a+b)%4294967296))+(p*4294967296)*((c+a+b)/4294967296)=(A+p*a)+(E+p*b):=by
 have h1:=Ni p (c+a+b);rw[fW,fW] at h1;omega
def aJt{p A E W bo b a:Nat}(h:W+E=A+p*bo)(hle:bo+b<=a):(W+p*(a-(bo+b)))+(E+p*b)=(A+p*a)+p*4294967296*0:=by
 have h1:p*a=p*(a-(bo+b))+p*bo+p*b:=by
  rw[<-fW,<-fW];congr 1;omega
 omega
def aDZ{p A E W bo b a:Nat}(h:W+E=A+p*bo)(hle:a<bo+b)(hb:bo+b<=a+4294967296):(W+p*(a+4294967296-(bo+b)))+(E+p*b)=(A+p*a)+p*4294967296*1:=by
 have h1:p*a+p*4294967296=p*(a+4294967296-(bo+b))+p*bo+p*b:=by
  rw[<-fW,<-fW,<-fW];congr 1;omega
 omega
def Zh{p W W' T c m w:Nat}(hs:W'+p*w=W+p*((c+m+w)%4294967296))(h:W+p*c=T):W'+(p*4294967296)*((c+m+w)/4294967296)=T+p*m:=by
 have h1:=Ni p (c+m+w);rw[fW,fW] at h1;omega
end Go.Sx
end
section
namespace Go.Sx
open Go
variable {A G:Gh}{s e by_ b:Nat}{es l:List Value}{P:Program}{C:aH}{fr:Fr}{own':List aA}{Φ:Act->World->Prop}{dst:Option Nat}{t t' ty':TypeId}{pos:String}{af:Array Edge}{y:Operand}{k k':IntKind}{i p q:Int}{ds:List Nat}
structure SV where
 a:Option Addr
 n:Nat
 c:Nat
variable {x z:SV}
def SV.v(x:SV):Value:= .slice x.a x.n x.c
structure gt (G:Gh) (s:Nat) (x:SV) (es:List Value):Prop where
 len:x.n=es.length
 cap:x.n<=x.c
 mem:es=[]\/ ∃b off cs,x.a=some ⟨b,off,none⟩/\G b=some cs/\ ∀i (h:i<es.length),cF cs (off+i*s) s=some (aO es[i])
def gt.up'(h:gt A s x es)(k:b7 A G):gt G s x es:=
 ⟨h.len,h.cap,h.mem.imp id (fun⟨b,off,cs,h1,h2,h3⟩=>⟨b,off,cs,h1,k _ _ h2,h3⟩)⟩
def gt.up(h:gt A s x es)[k:GL A G]:gt G s x es:=h.up' k.le
def gt.nil(G:Gh)(s:Nat):gt G s ⟨none,0,0⟩ []:=⟨J,bV _, .inl J⟩
def GO(a:Option Addr)(k:Nat):Option Addr:=a.map (·.add k)
section
variable {n:Nat}{own:List aA}
variable {gd:Option (Nat×Bool)}{x:Operand}
def aKw[hT:cE P t e s by_](hs:gt A s z es)(hx:aE fr x=some (.slice z.a z.n z.c))(hy:aE fr y=some (.int k i))(h0:0<=i)(h1:i<z.n):
  Yd P C fr own G ⟨dst, .indexAddr t x y,ty',pos,af,gd⟩ (.pointer (GO z.a (i.toNat*s))):=by
 rcases hs.mem with h|⟨b,off,cs,ha,hg,hc⟩
 .have:=hs.len;rw[h] at this;simp at this;omega
 .rw[ha] at hx
  have:=xz (P:=P) (C:=C) (own:=own) (G:=G) (t:=t) (dst:=dst) (ty':=ty') (pos:=pos) (af:=af) (gd:=gd) (by_:=by_) hx hy h0 h1;rw[ha];simpa[GO,si] using this
def Yj[hA:li P t s]{i:Nat}(hs:gt A s z es)[hl:GL A G](hx:aE fr x=some (.pointer (GO z.a (i*s))))(h1:i<es.length)(he:es[i]? =some (.agg ⟨l⟩)):
  Yd P C fr own G ⟨dst, .load t x,ty',pos,af,gd⟩ (.agg ⟨l⟩):=by
 rcases hs.mem with h|⟨b,off,cs,ha,hg,hc⟩
 .rw[h] at h1;simp at h1
 .rw[ha] at hx
  have h2:=hc i h1;rw[aZ h1] at he;have he':es[i]= .agg ⟨l⟩:=by simpa using he
  rw[he'] at h2;exact GH (by simpa[GO,si] using hx) (hl.le _ _ hg) h2
end
def dI(d:Nat):Value:= .int .u32 (d:Int)
structure oh (G:Gh) (x:SV) (ds:List Nat):Prop where
 ok:bH ds
 sl:gt G 1 x (ds.map dI)
def oh.len{G:Gh}{x:SV}{ds:List Nat}(h:oh G x ds):x.n=ds.length:=by simpa using h.sl.len
def oh.up{A G:Gh}{x:SV}{ds:List Nat}(h:oh A x ds)[k:GL A G]:oh G x ds:=⟨h.ok,h.sl.up⟩
def oh.nil(G:Gh):oh G ⟨none,0,0⟩ []:=⟨.nil, .nil G 1⟩
def oh.of_block{c k:Nat}{cs:List Value}(ok:bH ds)(hg:G b=some cs)(hk:k=ds.length)(hc:k<=c)(hcs:cs.take ds.length=ds.map dI):oh G ⟨some ⟨b,0,none⟩,k,c⟩ ds:=by
 refine⟨ok,by simpa using hk,hc, .inr ⟨b,0,cs,J,hg,fun i hi=>?_⟩⟩;have hi':i<ds.length:=by simpa using hi
 have hl:ds.length<=cs.length:=by
  have:=congrArg List.length hcs;simp at this;omega
 rw[mi _ _ _ we];congr 1;have h1:(cs.take ds.length)[i]? =(ds.map dI)[i]? :=by rw[hcs]
 rw[pV,if_pos hi',cJ,aZ hi',aZ we] at h1;have h2:cs[i]=dI ds[i]:=by simpa using h1
 rw[fX,jT,bK we,oL,uU,h2,qV];rfl
structure Cu (k:Nat) (G:Gh) (x:SV) (v:Nat):Prop where
 d:oh G x (dg v)
 lt:v<2^k
def Cu.up{k:Nat}{A G:Gh}{x:SV}{v:Nat}(h:Cu k A x v)[GL A G]:Cu k G x v:=⟨h.d.up,h.lt⟩
section
variable {n:Nat}{own:List aA}
variable {gd:Option (Nat×Bool)}{x:Operand}
def aL5(h:oh A z ds)[hl:GL A G]:ng P C own G 1 z.n (.slice z.a z.n z.c) (ds.map dI):=by
 intro w hw;by_cases hne:ds=[]
 .rw[h.len]
  subst hne;exact ww w hw
 rcases h.sl.mem with h0|⟨b,off,cs,ha,hg,hc⟩
 .exact absurd (by simpa using h0) hne
 .rw[ha]
  have hn:=h.len;refine Sk (hl.le _ _ hg) ?_ w hw;rw[jT];have hel: ∀i,i<ds.length->cs[off+i]? =some (dI (ds.getD i 0)):=fun i hi=>by
   have h1:=hc i omU;obtain⟨_,h2⟩:=ru _ _ _ _ h1;have h3:=h2 0 we;rw[jT,gV] at h3;rw[h3,qV,aV,aZ hi];rfl
  by_cases h00:ds.length=0
  .exact absurd h00 (fun e=>hne (cY e))
  .have hlast:=hel (ds.length-1) we
   have hle:off+ds.length<=cs.length:=by
    have:=(aR.1 hlast).1;omega
   rw[hn,mi _ _ _ hle];congr 1;apply mX;intro i;rw[pV];split
   .rename_i hi
    rw[mS,hel i hi,cJ,aV,aZ hi];rfl
   .rename_i hi
    rw[fK omU]
def wc[hT:cE P t e s by_]{len cap:Nat}(hx:aE fr x=some (.slice (some ⟨b,0,none⟩) len cap))(hy:aE fr y=some (.int k i))(h0:0<=i:=by omega)(h1:i<len:=by omega):
  Yd P C fr own G ⟨dst, .indexAddr t x y,ty',pos,af,gd⟩ (.pointer (some ⟨b,i.toNat*s,none⟩)):=by
 have:=xz (P:=P) (C:=C) (own:=own) (G:=G) (t:=t) (dst:=dst) (ty':=ty') (pos:=pos) (af:=af) (gd:=gd) (by_:=by_) hx hy h0 h1;rwa [fX] at this
def Aa(hx:aE fr x=some (.int .i64 p))(hy:aE fr y=some (.int .i64 q))(h0: -9223372036854775808<=p+q:=by omega)(h1:p+q<=9223372036854775807:=by omega):Yd P C fr own G ⟨dst, .binOp .add t x y t',ty',pos,af,gd⟩ (.int .i64 (p+q)):=U2 hx hy ⟨h0,h1⟩
def aAO(hx:aE fr x=some (.int .i64 p))(hy:aE fr y=some (.int .i64 q))(h0: -9223372036854775808<=p-q:=by omega)(h1:p-q<=9223372036854775807:=by omega):Yd P C fr own G ⟨dst, .binOp .sub t x y t',ty',pos,af,gd⟩ (.int .i64 (p-q)):=QU hx hy ⟨h0,h1⟩
def WL(hx:aE fr x=some (.int k p))(hy:aE fr y=some (.int k' q))(h0:0<=q):Yd P C fr own G ⟨dst, .binOp .shr t x y t',ty',pos,af,gd⟩ (.int k (p.fdiv (2^min q.toNat k.bits))):=by
 intro a w hf hh;simp only[execOp,bF hf hx,bF hf hy];have h1:(eqGuard .shr t x y (.int k p) (.int k' q)).run P w= .ok () w:=J;have h2:(binOp .shr t (.int k p) (.int k' q)).run P w= .ok (.int k (p.fdiv (2^min q.toNat k.bits))) w:=by
  simp[binOp,Op.shift,Int.not_lt.2 h0,run_pure]
 exact dh (by rw[bj h1];exact h2)
def aIX(hx:aE fr x=some (.int k p))(hy:aE fr y=some (.int k' q))(h0:0<=q):Yd P C fr own G ⟨dst, .binOp .shl t x y t',ty',pos,af,gd⟩ (.int k (k.wrap (p*2^min q.toNat k.bits))):=by
 intro a w hf hh;simp only[execOp,bF hf hx,bF hf hy];have h1:(eqGuard .shl t x y (.int k p) (.int k' q)).run P w= .ok () w:=J;have h2:(binOp .shl t (.int k p) (.int k' q)).run P w= .ok (.int k (k.wrap (p*2^min q.toNat k.bits))) w:=by
  simp[binOp,Op.shift,Int.not_lt.2 h0,run_pure]
 exact dh (by rw[bj h1];exact h2)
def vi(p:Int):IntKind.u32.wrap p=p%4294967296:=by simp[IntKind.wrap,IntKind.bits,IntKind.signed]
def sI(p:Int):IntKind.u64.wrap p=p%18446744073709551616:=by simp[IntKind.wrap,IntKind.bits,IntKind.signed]
def YN[hs:yu P t k][hd:yu P t' .u32](hx:aE fr x=some (.int k p)):Yd P C fr own G ⟨dst, .convert t t' x,ty',pos,af,gd⟩ (.int .u32 (p%4294967296)):=by
 have:=F2 (P:=P) (C:=C) (own:=own) (G:=G) (dst:=dst) (ty':=ty') (pos:=pos) (af:=af) (gd:=gd) (t:=t) (t':=t') hx;rwa [vi] at this
def aEM(hx:aE fr x=some (.int k p))(hy:aE fr y=some (.int k q))(h0:0<=p)(h:q≠0):Yd P C fr own G ⟨dst, .binOp .rem t x y t',ty',pos,af,gd⟩ (.int k (p%q)):=by
 have:=UO (P:=P) (C:=C) (own:=own) (G:=G) (dst:=dst) (ty':=ty') (pos:=pos) (af:=af) (gd:=gd) (t:=t) (t':=t') hx hy h;rwa [Int.tmod_eq_emod_of_nonneg h0] at this
def aFe(hx:aE fr x=some (.int .u64 p))(hy:aE fr y=some (.int .u64 q))(h0:0<=p)(h1:p<=18446744073709551615)(h:0<q):Yd P C fr own G ⟨dst, .binOp .quo t x y t',ty',pos,af,gd⟩ (.int .u64 (p/q)):=by
 have:=QR (P:=P) (C:=C) (own:=own) (G:=G) (dst:=dst) (ty':=ty') (pos:=pos) (af:=af) (gd:=gd) (t:=t) (t':=t') hx hy we;rw[Int.tdiv_eq_ediv_of_nonneg h0,sI,Int.emod_eq_of_lt (Int.ediv_nonneg h0 we) (by have:=Int.ediv_le_self q h0;omega)] at this;exact this
def Ou{Q:Exit->Act->World->Prop}{p:Prop}{inst:Decidable p}{c:Operand}{x y:Code}(hc:aE fr c=some (.bool (@decide p inst)))(h2: ¬p->St C n fr own G (y.wp P Q))(h1:p->St C n fr own G (x.wp P Q)):
  St C n fr own G ((Code.cond c x y).wp P Q):=xj hc h1 h2
end
end Go.Sx
end
section
namespace Go.Sx
open Go Go.Proofs Tryz
def aDU(ds:List Nat): ∀v∈ds.map dI,flat v=true:=fun v hv=>by
 obtain⟨d,_,rfl⟩:=aU.1 hv;rfl
def azh{A G:Gh}{x:SV}{ds:List Nat}(hx:oh A x ds)[GL A G](hb:ds.length<=1125899906842):Fn prog 271 [x.v] G (fun v G'=> ∃z:SV,v=z.v/\oh G' z ds):=by
 have hlen:=hx.len;refine Fn.intro func271 J J ntmps271 J ?_;intro C _ _;refine sR<|sa J J<|zE<|fw<|sR<|sm J J<|sy (Qb J J) J<|zE<|?_;refine aBQ J (fun hc=>?_) (fun hc=>?_)
 .refine sR<|sa J J<|zE<|lD<|?_
  refine zD (.tmp J .nil) ⟨⟨none,0,0⟩,J,?_⟩;rcases hx.sl.mem with h|⟨b,off,cs,ha,_⟩
  .have:ds=[]:=by simpa using h
   subst this;exact .nil _
  .rw[ha] at hc;cases hc
 refine zK<|sR<|?_;refine sc (PL J ?_);intro b1;refine sm J J<|?_;refine sc (QM (xs:=[]) (rest:=[]) (ys:=ds.map dI) J J (.hd ..) J J (bV _) (aL5 hx) (by simp[hlen]) (aDU ds) oma we J J ?_);intro b cap rest h1 h2;refine sa J J<|zE<|DG b (.hd ..) (fun G' _ hgb=>?_);refine lD<|?_;refine zD (.tmp J .nil) ⟨⟨some ⟨b,0,none⟩,x.n,cap⟩,by simp[pf,SV.v],?_⟩;exact .of_block hx.ok hgb.h hlen we omc
end Go.Sx
end
section
namespace Go.Proofs
open Go.Shelf
def Tryz.lays133_ren:Go.Shelf.Ren:=⟨fun|133=>259|128=>282|n=>n,fun|51=>245|3=>3|4=>4|46=>246|5=>5|9=>9|n=>n,fun|n=>n⟩
def Tryz.lays133:Go.Proofs.Lays.n133 Tryz.prog Tryz.lays133_ren:={
 mixed:=by kernel_rfl
 f128:=Tryz.func282.trans (congrArg some (by kernel_rfl))
 f133:=Tryz.func259.trans (congrArg some (by kernel_rfl))
 t3:=Tryz.underlying3
 a3:=Tryz.isAgg3
 z3:=Tryz.sizeOf3
 v3:=Tryz.zeroValue3
 t4:=Tryz.underlying4
 a4:=Tryz.isAgg4
 z4:=Tryz.sizeOf4
 v4:=Tryz.zeroValue4
 t5:=Tryz.underlying5
 a5:=Tryz.isAgg5
 z5:=Tryz.sizeOf5
 v5:=Tryz.zeroValue5
 t9:=Tryz.underlying9
 a9:=Tryz.isAgg9
 z9:=Tryz.sizeOf9
 v9:=Tryz.zeroValue9
 t46:=Tryz.underlying246
 a46:=Tryz.isAgg246
 z46:=Tryz.sizeOf246
 v46:=Tryz.zeroValue246
 t51:=Tryz.underlying245
 a51:=Tryz.isAgg245
 z51:=Tryz.sizeOf245
 v51:=Tryz.zeroValue245}
def Tryz.bits_LeadingZeros32(x:Int)(w:World)(h0:0<=x)(h1:x<=4294967295):
  Calls Tryz.prog 259 #[.int .u32 x] w fun e w'=>e= .returned (.int .i64 (32-(Lib.bitLen x.toNat:Int)))/\w'=w:=Any.bits_LeadingZeros32 Tryz.lays133 x w h0 h1
open Go.Lib in
open Go.Lib in
open Go.Lib in
open Go.Lib in
open Go.RowKit Go.Sort Go.Lib in
open Go.RowKit Go.Sort Go.Lib in
open Go.RowKit Go.Sort Go.Lib in
open Go.RowKit Go.Sort Go.Lib in
open Go.RowKit Go.Sort Go.Lib in
open Go.RowKit Go.Sort Go.Lib in
open Go.RowKit Go.Sort Go.Lib in
def Tryz.lays264_ren:Go.Shelf.Ren:=⟨fun|264=>235|n=>n,fun|53=>180|46=>246|n=>n,fun|n=>n⟩
def Tryz.lays264:Go.Proofs.Lays.n264 Tryz.prog Tryz.lays264_ren:={
 mixed:=by kernel_rfl
 f264:=Tryz.func235.trans (congrArg some (by kernel_rfl))
 t46:=Tryz.underlying246
 a46:=Tryz.isAgg246
 z46:=Tryz.sizeOf246
 v46:=Tryz.zeroValue246
 t53:=Tryz.underlying180
 a53:=Tryz.isAgg180
 z53:=Tryz.sizeOf180
 v53:=Tryz.zeroValue180}
open Go.RowKit Go.Lib in
def Tryz.bits_Mul64(x y:Nat)(hx:x<18446744073709551616)(hy:y<18446744073709551616)(w:World):
  Calls Tryz.prog 235 #[.int .u64 x, .int .u64 y] w fun e w'=>e= .returned (.tuple #[.int .u64 ((x*y/18446744073709551616:Nat):Int), .int .u64 ((x*y%18446744073709551616:Nat):Int)])/\w'=w:=Any.bits_Mul64 Tryz.lays264 x y hx hy w
end Go.Proofs
end
section
namespace Go.Sx
open Go Go.Proofs Tryz
variable {x k n:Nat}{P:Program}{G:Gh}{q:Int}
def bl(x:Nat):Nat:=if x=0 then 0 else Nat.log2 x+1
def GT(x:Nat):x<2^bl x:=by
 unfold bl;split
 .rename_i h;subst h;decide
 .exact Nat.lt_log2_self
def pn{x k:Nat}:bl x<=k↔x<2^k:=by
 constructor
 .intro h;exact cS (GT x) (bR we h)
 .intro h
  unfold bl;split
  .omega
  .rename_i h0
   have:=(Nat.log2_lt h0).2 h;omega
def aGg(h:x≠0):bl x=1+bl (x/2):=by
 have h1: ∀k,bl x<=k+1↔bl (x/2)<=k:=fun k=>by
  rw[pn,pn,iK];omega
 have h2:bl x≠0:=fun e=>by
  have:=GT x;rw[e] at this;simp at this;exact h this
 have h3:=(h1 (bl (x/2))).2 (bV _);have h4:=(h1 (bl x-1)).1 we;omega
def PQ: ∀(f x:Nat),x<2^f->Lib.bitLenAux f x=bl x
 |0,x,h=>by
  have:x=0:=by simpa using h
  subst this;rfl
 |f+1,x,h=>by
  unfold Lib.bitLenAux;split
  .rename_i h0;subst h0;rfl
  .rename_i h0
   rw[PQ f (x/2) (by rw[iK] at h;omega),aGg h0]
def avs(h:x<2^64):Lib.bitLen x=bl x:=PQ 64 x h
def Xv(d:Nat)(h:x<2^k)(hd:d≠0):bl (x+2^k*d)=k+bl d:=by
 have h1: ∀j,bl (x+2^k*d)<=k+j↔bl d<=j:=fun j=>by
  rw[pn,pn,fY];constructor
  .intro h'
   exact Nat.lt_of_mul_lt_mul_left (a:=2^k) we
  .intro h'
   have:2^k*(d+1)<=2^k*2^j:=fV _ h';rw[fW] at this;omega
 have h2:k<bl (x+2^k*d):=by
  rcases jS k (bl (x+2^k*d)) with h'|h'
  .exact h'
  .have:=pn.1 h'
   have h3:2^k*1<=2^k*d:=fV _ we;omega
 have h3:=(h1 (bl d)).2 (bV _);have h4:=(h1 (bl (x+2^k*d)-k)).1 we;omega
def aLn{ds:List Nat}(h:bH ds)(hn:fA ds)(hne:ds≠[]):bl (dv ds)=32*(ds.length-1)+bl (ds.getD (ds.length-1) 0):=by
 rcases oQ ds with rfl|⟨l,d,rfl⟩
 .exact absurd J hne
 .rw[oZ] at*
  have hd:d≠0:=fun e=>by subst e;simp[fA] at hn
  have hl:bH l:=fun x hx=>h x (bU _ hx);have h1:=m6 hl;rw[Bp];have h2:(4294967296:Nat)^l.length=2^(32*l.length):=by rw[uR]
  rw[h2] at h1⊢;have h3:dv [d]=d:=by simp[dv]
  rw[h3,Xv d h1 hd];have h4:(l++[d]).length-1=l.length:=by simp
  rw[h4,aV,jN (bV _)];simp
def QZ{f:FuncId}{fn:Func}{c:Code}(h:P.funcs[f]? =some fn)(hb:fn.body=some c)(hn:(fn.name== "runtime.NumGoroutine")=false):ua P f:=⟨fn,h,hn,by rw[hb];rfl⟩
def axn(hx:x<4294967296):Fn prog 259 [.int .u32 (x:Int)] G (fun v _=>v= .int .i64 (32-(bl x:Int))):=by
 have h:=Fn.of_calls (G:=G) (QZ func259 J J) (fun w=>Tryz.bits_LeadingZeros32 (x:Int) w we we);rw[cK,avs (uV hx oma)] at h;exact h
def jk(a b:Nat):Int:=if a<b then-1 else if a=b then 0 else 1


def q9(d k:Nat)(hk:k<64)(h:d*2^k<18446744073709551616)(hq:q.toNat=k:=by omega):IntKind.u64.wrap ((d:Int)*2^min q.toNat IntKind.u64.bits)=((d*2^k:Nat):Int):=by
 rw[hq,kW (by show k<=64;omega),sI];have e2:(d:Int)*2^k=((d*2^k:Nat):Int):=by push_cast;rfl
 rw[e2];omega
def S2(d k:Nat)(hk:k<64:=by omega)(hq:q.toNat=k:=by omega):(d:Int).fdiv (2^min q.toNat IntKind.u64.bits)=((d/2^k:Nat):Int):=by
 rw[hq,kW (by show k<=64;omega),kM _ (qW (Int.pow_pos oma))];push_cast;rfl
section
variable {C:aH}{fr:Fr}{own:List aA}{dst:Option Nat}{t t1 t2 ty':TypeId}{pos:String}{af:Array Edge}{gd:Option (Nat×Bool)}{x y:Operand}
end
end Go.Sx
end
section
namespace Go.Sx
def yt(i:Nat):(4294967296:Nat)^(i+1)=4294967296^i*4294967296:=iK ..
def aEU{U p V T S first third:Nat}(hU:U<(first*4294967296+third+1)*p)(h3:third<4294967296)(hV:(T*4294967296+S)*p<=V)(hT:0<T):
  U<(first/T+1)*V:=by
 have h1:first+1<=(first/T+1)*T:=by
  have:=Nat.lt_mul_div_succ first hT
  rw[cW];omega
 calc U<(first*4294967296+third+1)*p:=hU
  _<=((first+1)*4294967296)*p:=bW _ we
  _<=(((first/T+1)*T)*4294967296)*p:=bW _ (bW _ h1)
  _=(first/T+1)*((T*4294967296)*p):=by rw[cR (first/T+1),cR (first/T+1)]
  _<=(first/T+1)*V:=fV _ (cX (bW _ (nT _ _)) hV)
def aMW{U p V T S first third v0:Nat}(hU:(first*4294967296+third)*p<=U)(hV:V=(T*4294967296+S)*p+v0)(hv:v0<p)(hlt:U<V*4294967296):first<=T*4294967296+S:=by
 rcases jS (T*4294967296+S) first with h|h
 .exfalso
  have h1:(T*4294967296+S+1)*p<=first*p:=bW p h
  rw[dS _ 1,mN] at h1;rw[dS,nS] at hU;have:0<=third*p:=aN _;omega
 .exact h
def Ig{U p V T S first third g r:Nat}(hU:U<(first*4294967296+third+1)*p)(hV:(T*4294967296+S)*p<=V)(hg:first=g*T+r)(hc:r*4294967296+third<g*S:=by omega):U<g*V:=by
 refine cS hU (cX (bW p (m:=g*(T*4294967296+S)) ?_) ?_)
 .rw[fW,<-cR,hg,dS];omega
 .rw[cR];exact fV _ hV
def K0{U p V T S first third g r v0:Nat}(hU:(first*4294967296+third)*p<=U)(hV:V=(T*4294967296+S)*p+v0)(hv:v0<p)(hT:0<T)(hg:first=g*T+r)(hgB:g<4294967296)(hc:g*S<=r*4294967296+third):g*V<U+V:=by
 have h1:g*((T*4294967296+S)*p)<=U:=by
  rw[<-cR];refine cX (bW p ?_) hU;rw[fW,<-cR,hg,dS];omega
 have h2:g*v0<=4294967295*v0:=bW _ we;have h3:4294967296*p<=V:=by
  rw[hV];refine cX (bW p ?_) (nT _ _);omega
 have h4:g*V=g*((T*4294967296+S)*p)+g*v0:=by rw[<-fW,<-hV]
 omega
def Za{U V R g:Nat}(h:U<(g+1)*V)(hr:R+g*V=U):R<V:=by
 rw[dS,mN] at h;omega
def aEy{U V R R' g w M:Nat}(h2:g*V<U+V)(hr:R+g*V=U+M)(hb:R'+w*M=R+V)(hR:R<M)(hR':R'<M)(hw:w<=1)(hg:0<g):R'+(g-1)*V=U/\R'<V:=by
 have hgv:g*V=(g-1)*V+V:=by
  conv=>lhs;rw[show g=(g-1)+1 by omega,dS,mN]
 have:w=1:=by
  rcases jS w 1 with h|h
  .have:w=0:=by omega
   subst this;omega
  .omega
 subst this;omega
def AF(us:List Nat)(i:Nat):dv (us.drop i)=us.getD i 0+4294967296*dv (us.drop (i+1)):=by
 rcases jS i us.length with h|h
 .rw[bK h];simp[dv,List.getD,aZ h]
 .rw[jQ h,jQ we]
  simp[dv,fK h,List.getD]
def yk(us:List Nat)(i:Nat):dv us=dv (us.take i)+4294967296^i*dv (us.drop i):=by
 rcases jS us.length i with h|h
 .rw[bM we,jQ we];simp[dv]
 .exact Dk us i h
def HW{us:List Nat}(h:bH us)(i:Nat):dv (us.take i)<4294967296^i:=by
 refine cS (m6 (h.take i)) (bR oma ?_);simp[bL];omega
def C6{us:List Nat}{i:Nat}(hd:dv us<4294967296^i):dv (us.drop i)=0:=by
 have h:=yk us i;rcases gX (dv (us.drop i)) with h0|h0
 .exact h0
 .have:=fV (4294967296^i) h0
  omega
def aED{W W' U E p u x bo b c c1 g d:Nat}(hs:W'+p*u=W+p*x)(hw:W+E=U+(bo+c)*p)(hc:c1=c+g*d)(hx:x+(c1%4294967296+bo)=u+b*4294967296):
  W'+(E+g*d*p)=U+(b+c1/4294967296)*(p*4294967296):=by
 have h1:=congrArg (p* ·) hx;simp only[fW] at h1;have h2:p*c1=p*(c1%4294967296)+p*(c1/4294967296)*4294967296:=by
  rw[cR,<-fW,Nat.mod_add_div']
 have h3:p*c1=p*c+p*(g*d):=by rw[hc,fW]
 rw[dS,cW bo,cW c] at hw;rw[cW (g*d),dS,<-cR b,<-cR (c1/4294967296),cW b,cW (c1/4294967296)];rw[<-cR] at h1;omega
def aD3{W W' U E p u x bo b c:Nat}(hs:W'+p*u=W+p*x)(hw:W+E=U+(bo+c)*p)(hx:x+(c+bo)=u+b*4294967296):W'+E=U+b*(p*4294967296):=by
 have h1:=congrArg (p* ·) hx;simp only[fW] at h1;rw[dS,cW bo,cW c] at hw;rw[<-cR b,cW b];rw[<-cR] at h1;omega
def aF0{W W' R E p u d c:Nat}(hs:W'+p*u=W+p*((c+(u+d))%4294967296))(hw:W+c*p=R+E):W'+(c+(u+d))/4294967296*(p*4294967296)=R+(E+d*p):=by
 have h2:p*(c+(u+d))=p*((c+(u+d))%4294967296)+p*((c+(u+d))/4294967296)*4294967296:=by
  rw[cR,<-fW,Nat.mod_add_div']
 rw[fW p c,fW p u] at h2;rw[cW c] at hw;rw[cW d,<-cR,cW _ p];omega
def aDK{W W' R p u c:Nat}(hs:W'+p*u=W+p*((u+c)%4294967296))(hw:W+c*p=R):W'+(u+c)/4294967296*(p*4294967296)=R:=by
 have h2:p*(u+c)=p*((u+c)%4294967296)+p*((u+c)/4294967296)*4294967296:=by
  rw[cR,<-fW,Nat.mod_add_div']
 rw[fW p u] at h2;rw[cW c] at hw;rw[<-cR,cW _ p];omega
def aLj{us:List Nat}(h:bH us)(i:Nat)(hd:dv us<4294967296^(i+3)):
  dv us=((us.getD (i+2) 0*4294967296+us.getD (i+1) 0)*4294967296+us.getD i 0)*4294967296^i+dv (us.take i):=by
 have h0:=C6 hd;rw[yk us i,AF us i,AF us (i+1),AF us (i+2),h0,lJ,cW];congr 2;omega
def aK2{us:List Nat}(h:bH us)(i:Nat)(hd:dv us<4294967296^(i+2)):
  dv us=(us.getD (i+1) 0*4294967296+us.getD i 0)*4294967296^i+dv (us.take i):=by
 have h0:=C6 hd;rw[yk us i,AF us i,AF us (i+1),h0,lJ,cW];congr 2;omega
def D2{us:List Nat}{k i d:Nat}(h:bH us)(hd:d<4294967296)(hk:dv us<4294967296^k)(hi:i<k:=by omega):dv (us.set i d)<4294967296^k:=by
 rw[yk _ k,List.drop_set,if_pos hi,C6 hk,uK,gV];exact HW (h.set i hd) k
end Go.Sx
end
section
namespace Go.Sx
open Go Go.Proofs

end Go.Sx
end
section
namespace Go.Sx
open Go
section
variable {P:Program}{C:aH}{n:Nat}{fr:Fr}{own:List aA}{G:Gh}
def Sq:Exit->Bool
 | .goto _=>false
 |_=>true
end
end Go.Sx
end
section
namespace Go.Sx
open Go Go.Proofs Tryz
variable {V t s u k g e x y:Nat}
def aJu{n:Nat}(h1:4294967296^(n-1)<=V)(h2:V<4294967296^n)(hn:0<n):(dg V).length=n:=by
 obtain⟨e,hk,hr⟩:=gh V;have hne:dg V≠[]:=fun h=>by
  rw[h] at e;have:0<4294967296^(n-1):=gU oma;simp[dv] at e;omega
 have h3:=Ae hr hne;have h4:=m6 hk;rw[e] at h3 h4;have h5:=(oR (a:=4294967296) oma).1 (dR h3 h2);have h6:=(oR (a:=4294967296) oma).1 (dR h1 h4);omega
def ava(h0:0<t)(ht:t<4294967296)(hs:s=32-bl t):s<32/\2147483648<=t*2^s/\(t+1)*2^s<=4294967296:=by
 have h1:bl t<=32:=pn.2 ht;have h2:bl t≠0:=fun h=>by
  have:=GT t;rw[h] at this;omega
 have h3:=GT t;have h4: ¬t<2^(bl t-1):=fun h=>by
  have:=pn.2 h;omega
 have e1:2^(bl t-1)*2^s=2147483648:=by rw[<-fY,show bl t-1+s=31 by omega]
 have e2:2^bl t*2^s=4294967296:=by rw[<-fY,show bl t+s=32 by omega]
 refine⟨we,?_,?_⟩
 .rw[<-e1];exact bW _ we
 .rw[<-e2];exact bW _ h3
def aLA{us:List Nat}(h:bH us)(i:Nat)(hd:us.length=i+1):dv us=us.getD i 0*4294967296^i+dv (us.take i):=by
 have h0:dv (us.drop (i+1))=0:=by rw[jQ we];rfl
 rw[yk us i,AF us i,h0,lJ,cW];rfl
def T6{b:List Nat}(h:fA b)(i:Nat)(hi:b.length=i+1):0<b.getD i 0:=by
 rcases gX (b.getD i 0) with h0|h0
 .exfalso
  apply h;rw[oX,hi,show i+1-1=i from J];rw[List.getD,aZ we] at h0;rw[aZ we];simpa using h0
 .exact h0
def aAD(a:List Nat)(k:Nat):dv (a++List.replicate k 0)=dv a:=by rw[Bp,Ar];simp
def vd(u m bo:Nat):Nat:=if m+bo<=u then u-(m+bo) else u+18446744073709551616-(m+bo)
def EY(u m bo:Nat)(hu:u<4294967296)(hm:m<4294967296)(hb:bo<=1):IntKind.u64.wrap (IntKind.u64.wrap ((u:Int)-(m:Int))-(bo:Int))=((vd u m bo:Nat):Int):=by
 rw[sI,sI];unfold vd;split<;>omega
def Rj(u m bo:Nat)(hu:u<4294967296)(hm:m<4294967296)(hb:bo<=1):vd u m bo%4294967296+(m+bo)=u+vd u m bo/9223372036854775808*4294967296/\vd u m bo/9223372036854775808<=1/\vd u m bo<18446744073709551616:=by
 unfold vd;split<;>omega
def kA(h:u<2^k):32*(dg u).length<=k+31:=aGd (gh u).2.2 (by rw[(gh u).1];exact h)
structure IV where
 neg:Bool
 a:SV
def IV.v(z:IV):Value:= .agg ⟨[.bool z.neg, .slice z.a.a z.a.n z.a.c]⟩
def zv(neg:Bool)(u:Nat):Int:=if neg then-(u:Int) else u
def tn(neg:Bool)(u:Nat):(zv neg u).natAbs=u:=by cases neg<;>simp[zv]
def X6(neg:Bool)(u:Nat):zv (!neg) u= -zv neg u:=by cases neg<;>simp[zv]
def Po(n m:Bool)(u w:Nat):zv (n !=m) (u*w)=zv n u*zv m w:=by cases n<;>cases m<;>simp[zv,uS,tY]
def VX(neg:Bool)(u:Nat):decide (zv neg u<0)=(neg&&decide (0<u)):=by
 cases neg<;>simp[zv]
def mp(m:Int):zv (decide (m<0)) m.natAbs=m:=by
 unfold zv;by_cases h:m<0<;>simp[h]<;>omega
structure qC (k:Nat) (G:Gh) (z:IV) (m:Int):Prop where
 neg:z.neg=decide (m<0)
 abs:Cu k G z.a m.natAbs
def qC.up{k:Nat}{A G:Gh}{z:IV}{m:Int}(h:qC k A z m)[GL A G]:qC k G z m:=⟨h.neg,h.abs.up⟩
def aq4(n:Bool)(u w:Nat):zv n (u+w)=zv n u+zv n w:=by cases n<;>simp[zv]<;>omega
def KI(p:Int):IntKind.i64.wrap p=(p+9223372036854775808)%18446744073709551616-9223372036854775808:=by
 have e:IntKind.i64.wrap p=if(true&&decide (p%2^64>=2^(64-1)))=true then p%2^64-2^64 else p%2^64:=J
 rw[e,show(2:Int)^64=18446744073709551616 by decide,show(2:Int)^(64-1)=9223372036854775808 by decide,pS];by_cases h:p%18446744073709551616>=9223372036854775808
 .rw[decide_eq_true h,if_pos J];omega
 .rw[decide_eq_false h,if_neg oma];omega
structure RV where
 n:Int
 d:Int
 p:Option Addr
def RV.v(z:RV):Value:= .agg ⟨[.int .i64 z.n, .int .i64 z.d, .pointer z.p]⟩
def aGS{neg:Bool}(h:g∣u):zv neg (u/g)=zv neg u/(g:Int):=by
 cases neg
 .simp[zv]
 .simp only[zv,if_true]
  rw[Int.neg_ediv_of_dvd (rM.2 h),tX]
def RB{m:Int}(he:0<e):(mkRat m e).num=m/((Nat.gcd m.natAbs e:Nat):Int)/\(mkRat m e).den=e/Nat.gcd m.natAbs e:=by
 rw[Rat.num_mkRat,Rat.den_mkRat,if_neg we,if_neg we,jL];exact⟨J,J⟩
def WW:(((bl x:Nat):Int)<=62)↔x<4611686018427387904:=by
 have:bl x<=62↔x<2^62:=pn;omega

def WH{G:Gh}(hx:x<18446744073709551616)(hy:y<18446744073709551616):Fn prog 235 [.int .u64 (x:Nat), .int .u64 (y:Nat)] G (fun v _=>v= .tuple #[.int .u64 ((x*y/18446744073709551616:Nat):Int), .int .u64 ((x*y%18446744073709551616:Nat):Int)]):=
 Fn.of_calls (G:=G) (QZ func235 J J) (fun w=>Tryz.bits_Mul64 x y hx hy w)
def RI(a b:Int):a*b=if(a<0)↔(b<0) then((a.natAbs*b.natAbs:Nat):Int) else-((a.natAbs*b.natAbs:Nat):Int):=by
 rcases(by omega:a<0\/0<=a) with h|h<;>rcases(by omega:b<0\/0<=b) with h2|h2
 .rw[if_pos (by simp[h,h2]),jJ,mJ (qW h),mJ (qW h2),Int.neg_mul_neg]
 .rw[if_neg (by simp[h];omega),jJ,mJ (qW h),oV h2,uS,Int.neg_neg]
 .rw[if_neg (by simp[h2];omega),jJ,oV h,mJ (qW h2),tY,Int.neg_neg]
 .rw[if_pos (by constructor<;>intro<;>omega),jJ,oV h,oV h2]
def ayw{p:Int}(h:p.natAbs<9223372036854775808):IntKind.i64.wrap p=p:=by rw[KI];omega

end Go.Sx
end
