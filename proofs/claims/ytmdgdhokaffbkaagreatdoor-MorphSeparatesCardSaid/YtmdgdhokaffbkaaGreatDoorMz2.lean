import Derived.Test.YtmdgdhokaffbkaaGreatDoorMz1
import Derived.Test.YtmdgdhokaffbkaaGreatDoorProg
import Derived.Shelf.Small.Bits
import Derived.Shelf.Strconv.Itoa0
import Derived.Shelf.Strconv.Itoa1
import Derived.Shelf.LaysM
import Derived.Shelf.Strconv.Itoa2
import Derived.Shelf.Strconv.Itoa3
import Derived.Shelf.Bits.Mul64
import Derived.Scope
set_option linter.all false
set_option maxRecDepth 100000
section
namespace Go.Sx
open Go
variable {P:Program}{t t' ty' ty:TypeId}{d n b f off ft k m e s by_ len cap l2 c2 cap2 i j:Nat}{C:aG}{fr:Fr}{own' own1 own0:List aA}{G G0 A:Gh}{Φ K:Act->World->Prop}{dst:Option Nat}{pos:String}{af:Array Edge}{x y:Operand}{w:World}{p ad ad2:Option Addr}{q lo c:Bool}{v z:Value}{l out ys xs rest:List Value}{o:Oper}{ops:Array Oper}{Q:Exit->Act->World->Prop}{fin:Nat->Bool}{op:Op}
def GK{d:TypeDesc}(h:P.underlying t=some d)(w:World):(underlying t).run P w= .ok d w:=by
 simp[underlying,program,Sem.run_bind,Sem.run,h,run_pure]
class Hi (P:Program) (t:TypeId):Prop where u: ∀w,(underlying t).run P w= .ok .bool w
class Gk (P:Program) (t:TypeId):Prop where u: ∃e,∀w,(underlying t).run P w= .ok (.pointer e) w
class F' (P:Program) (t:TypeId):Prop where u: ∃ms,∀w,(underlying t).run P w= .ok (.interface ms) w
class JL (P:Program) (t:TypeId) (f:Nat) (off ft:outParam Nat):Prop where
 u: ∃fs fd,(∀w,(underlying t).run P w= .ok (.struct fs) w)/\fs[f]? =some fd/\fd.offset=off/\fd.type=ft
class kz (P:Program) (t:TypeId):Prop where
 un: ∃e,P.underlying t=some (.slice e)
section
variable {own:List aA}
variable {gd:Option (Nat×Bool)}
def ud{p q:Value}{b:Bool}(h:(Op.equalIn (9999+1) t p q).run P w= .ok b w):(Op.equal t p q).run P w= .ok b w:=h
theorem omW{p:Prop}(h:p:=by rw[bh h2];exact h3):p:=h
def aJO[hT:Hi P t]{p:Bool}(hx:aE fr x=some (.bool p))(hy:aE fr y=some (.bool q)):Yd P C fr own G ⟨dst, .binOp .eql t x y t',ty',pos,af,gd⟩ (.bool (p==q)):=by
 intro a w hf hh;simp only[execOp,bC hf hx,bC hf hy];have h1:(Op.equal t (.bool p) (.bool q)).run P w= .ok (p==q) w:=ud (by unfold Op.equalIn;rw[bh (hT.u w)];rfl);have h2:(eqGuard .eql t x y (.bool p) (.bool q)).run P w= .ok () w:=J;have h3:(binOp .eql t (.bool p) (.bool q)).run P w= .ok (.bool (p==q)) w:=by simp only[binOp];rw[bh h1];rfl
 exact dq omW
def VV[hT:Hi P t]{p:Bool}(hx:aE fr x=some (.bool p))(hy:aE fr y=some (.bool q)):Yd P C fr own G ⟨dst, .binOp .neq t x y t',ty',pos,af,gd⟩ (.bool (!(p==q))):=by
 intro a w hf hh;simp only[execOp,bC hf hx,bC hf hy];have h1:(Op.equal t (.bool p) (.bool q)).run P w= .ok (p==q) w:=ud (by unfold Op.equalIn;rw[bh (hT.u w)];rfl);have h2:(eqGuard .neq t x y (.bool p) (.bool q)).run P w= .ok () w:=J;have h3:(binOp .neq t (.bool p) (.bool q)).run P w= .ok (.bool (!(p==q))) w:=by simp only[binOp];rw[bh h1];rfl
 exact dq omW
theorem ozk{p:Prop}(h:p:=by unfold Op.equalIn;rw[bh (he w)];cases p<;>rfl):p:=h
def CL[hT:Gk P t](hx:aE fr x=some (.pointer p))(hy:aE fr y=some (.pointer none)):Yd P C fr own G ⟨dst, .binOp .eql t x y t',ty',pos,af,gd⟩ (.bool p.isNone):=by
 obtain⟨e,he⟩:=hT.u;intro a w hf hh;simp only[execOp,bC hf hx,bC hf hy];have h1:(Op.equal t (.pointer p) (.pointer none)).run P w= .ok p.isNone w:=ud ozk;have h2:(eqGuard .eql t x y (.pointer p) (.pointer none)).run P w= .ok () w:=by cases p<;>rfl
 have h3:(binOp .eql t (.pointer p) (.pointer none)).run P w= .ok (.bool p.isNone) w:=by cases p<;>(simp only[binOp];rw[bh h1];rfl)
 exact dq omW
def Ea[hT:Gk P t](hx:aE fr x=some (.pointer p))(hy:aE fr y=some (.pointer none)):Yd P C fr own G ⟨dst, .binOp .neq t x y t',ty',pos,af,gd⟩ (.bool (!p.isNone)):=by
 obtain⟨e,he⟩:=hT.u;intro a w hf hh;simp only[execOp,bC hf hx,bC hf hy];have h1:(Op.equal t (.pointer p) (.pointer none)).run P w= .ok p.isNone w:=ud ozk;have h2:(eqGuard .neq t x y (.pointer p) (.pointer none)).run P w= .ok () w:=by cases p<;>rfl
 have h3:(binOp .neq t (.pointer p) (.pointer none)).run P w= .ok (.bool (!p.isNone)) w:=by cases p<;>(simp only[binOp];rw[bh h1];rfl)
 exact dq omW
theorem omQ{p:Prop}(h:p:=by unfold Op.equalIn;rw[bh (he w)];rfl):p:=h
theorem okP{p:Prop}(h:p:=by rw[bh (a:=()) (w':=w) J];simp only[binOp];rw[bh h1];rfl):p:=h
def SK[hT:F' P t](hv:v= .nilIface\/ ∃k u,v= .iface k u)(hx:aE fr x=some v):
  Yd P C fr own G ⟨dst, .binOp .eql t x (.const .nilIface) t',ty',pos,af,gd⟩ (.bool (match v with| .nilIface=>true|_=>false)):=by
 obtain⟨e,he⟩:=hT.u;intro a w hf hh;simp only[execOp,bC hf hx,show a.eval (.const .nilIface)= .nilIface from J];rcases hv with rfl|⟨k,u,rfl⟩
 .have h1:(Op.equal t .nilIface .nilIface).run P w= .ok true w:=ud omQ
  have h2:(eqGuard .eql t x (.const .nilIface) .nilIface .nilIface).run P w= .ok () w:=by cases x<;>rfl
  exact dq (by rw[bh h2];simp only[binOp];rw[bh h1];rfl)
 .have h1:(Op.equal t (.iface k u) .nilIface).run P w= .ok false w:=ud omQ
  exact dq okP
def Ub[hT:F' P t](hv:v= .nilIface\/ ∃k u,v= .iface k u)(hx:aE fr x=some v):
  Yd P C fr own G ⟨dst, .binOp .neq t x (.const .nilIface) t',ty',pos,af,gd⟩ (.bool (match v with| .nilIface=>false|_=>true)):=by
 obtain⟨e,he⟩:=hT.u;intro a w hf hh;simp only[execOp,bC hf hx,show a.eval (.const .nilIface)= .nilIface from J];rcases hv with rfl|⟨k,u,rfl⟩
 .have h1:(Op.equal t .nilIface .nilIface).run P w= .ok true w:=ud omQ
  have h2:(eqGuard .neq t x (.const .nilIface) .nilIface .nilIface).run P w= .ok () w:=by cases x<;>rfl
  exact dq (by rw[bh h2];simp only[binOp];rw[bh h1];rfl)
 .have h1:(Op.equal t (.iface k u) .nilIface).run P w= .ok false w:=ud omQ
  exact dq okP
def ay9{cs:List Value}[hF:JL P t f off ft][hA:lD P ft k](hx:aE fr x=some (.agg ⟨cs⟩))(hl:dd cs off k=some l):Yd P C fr own G ⟨dst, .field t x f,ty',pos,af,gd⟩ (.agg ⟨l⟩):=by
 obtain⟨fs,fd,h1,h2,h3,h4⟩:=hF.u;intro a w hf hh;simp only[execOp,bC hf hx];have:(Instr.field t (.agg ⟨cs⟩) f).run P w= .ok (.agg ⟨l⟩) w:=by
  unfold Instr.field;rw[bh (h1 w)];simp only[h2,h3,h4,asAgg];rw[bh (run_pure _ _ _)];unfold part;rw[bh (hA.agg w)];simp only[if_true];rw[bh (hA.siz w)];obtain⟨k1,k2⟩:=rE _ _ _ _ hl;have:(⟨cs⟩:Array Value).extract off (off+k)=⟨l⟩:=by
   apply Array.ext';rw[Array.toList_extract];apply kL;intro i;rw[List.extract_eq_take_drop,pS];split
   .rw[mQ];exact k2 i m5
   .exact(dR (show l.length<=i by omega)).symm
  rw[this];rfl
 exact dq this
def azg{cs:List Value}[hF:JL P t f off ft][hA:k9 P ft](hx:aE fr x=some (.agg ⟨cs⟩))(hl:cs[off]? =some v):Yd P C fr own G ⟨dst, .field t x f,ty',pos,af,gd⟩ v:=by
 obtain⟨fs,fd,h1,h2,h3,h4⟩:=hF.u;intro a w hf hh;simp only[execOp,bC hf hx];have:(Instr.field t (.agg ⟨cs⟩) f).run P w= .ok v w:=by
  unfold Instr.field;rw[bh (h1 w)];simp only[h2,h3,h4,asAgg];rw[bh (run_pure _ _ _)];unfold part;rw[bh (hA.agg w)];have:(⟨cs⟩:Array Value)[off]? =some v:=by simpa using hl
  simp only[kW,if_false,this];rfl
 exact dq this
class AK (P:Program) (t:TypeId) (offs:outParam (List (Nat×Nat))):Prop where
 u: ∃fs:Array Field,(∀w,(underlying t).run P w= .ok (.struct fs) w)/\(∀w,(fs.mapM (m:=Sem) fun f=>do pure (f.offset,<-sizeOf f.type)).run P w= .ok ⟨offs⟩ w)
def wj(fr:Fr)(offs:List (Nat×Nat)):List Value->List (Nat×Operand)->Option (List Value)
 |cs,[]=>some cs
 |cs,(i,x)::r=>match offs[i]?,aE fr x with
  |some (off,k),some v=>if(aH v).length=k/\off+k<=cs.length then wj fr offs (cP cs off (aH v)) r else none
  |_,_=>none
def Em: ∀(vs:List Value) (cs:Array Value) (off j:Nat),(vs.zipIdx j).foldl (fun cs (c,j)=>cs.setIfInBounds (off+j) c) cs=⟨cP cs.toList (off+j) vs⟩
 |[],cs,off,j=>rfl
 |v::vs,cs,off,j=>by
  simp only[List.zipIdx_cons,jN];rw[Em vs _ off (j+1)];simp[cP,lR]
theorem okj{p:Prop}(h:p:=by simp only[gS,decide_eq_true_eq,not_or];exact⟨by simpa using h1,by simpa using h2⟩):p:=h
def I5{a:Act}(hf:mh fr a)(offs:List (Nat×Nat)): ∀(ps:List (Nat×Operand)) (cs out:List Value),wj fr offs cs ps=some out->
  Instr.fill ((⟨offs⟩:Array (Nat×Nat))[·]?) ⟨cs⟩ (ps.map fun(i,x)=>(i,a.eval x))=some ⟨out⟩
 |[],cs,out,h=>by simp only[wj] at h;cases h;rfl
 |(i,x)::ps,cs,out,h=>by
  simp only[wj] at h;split at h
  .rename_i off k v ho hv
   split at h
   .rename_i hc
    simp only[bY,Instr.fill];have:(⟨offs⟩:Array (Nat×Nat))[i]? =some (off,k):=by simpa using ho
    simp only[this,bC hf hv,po];have h1: ¬((⟨aH v⟩:Array Value).size≠k):=by simp[hc.1]
    have h2: ¬(off+(⟨aH v⟩:Array Value).size>(⟨cs⟩:Array Value).size):=by simp only[oR,hc.1];omega
    rw[if_neg okj];have e:=Em (aH v) ⟨cs⟩ off 0;have e':(⟨aH v⟩:Array Value).zipIdx.foldl (fun cs (c,j)=>cs.setIfInBounds (off+j) c) (⟨cs⟩:Array Value)=⟨cP cs off (aH v)⟩:=by
     rw[<-rM,tU];simpa using e
    rw[e'];exact I5 hf offs ps _ _ h
   .cases h
  .cases h
def xi{parts:Array (Nat×Operand)}{offs:List (Nat×Nat)}[hT:AK P t offs][hz:ie P t z](hb:wj fr offs (aH z) parts.toList=some out):Yd P C fr own G ⟨dst, .build t parts,ty',pos,af,gd⟩ (.agg ⟨out⟩):=by
 obtain⟨fs,h1,h2⟩:=hT.u;intro a w hf hh;simp only[execOp];have:(Instr.build t (parts.map fun(i,x)=>(i,a.eval x))).run P w= .ok (.agg ⟨out⟩) w:=by
  unfold Instr.build;rw[bh (hz.zero w),po];rw[bh (h1 w)];simp only[];rw[bh (h2 w)];have:=I5 hf offs parts.toList _ _ hb;simp only[pW,this];rfl
 exact dq this
end
def du(z:Value)(k:Nat):List Value:=(List.replicate k (aH z)).flatten
def Hg{α:Type}(l:List α): ∀(k i:Nat),i<k*l.length->(List.replicate k l).flatten[i]? =l[i%l.length]?
 |0,i,h=>by omega
 |k+1,i,h=>by
  rw[mT,nJ];by_cases hi:i<l.length
  .rw[fS hi,iN hi]
  .rw[fN m5,Hg l k (i-l.length) (by rw[dV] at h;omega)]
   rw[Nat.mod_eq_sub_mod (Nat.ge_of_not_lt hi)]
def oP(z:Value)(k:Nat):(du z k).length=k*(aH z).length:=by simp[du]
theorem omI{p:Prop}(h:p:=by simpa using hi):p:=h
def Bo(h:m=k*(aH z).length):((Array.range m).map fun i=>(⟨aH z⟩:Array Value)[i%(⟨aH z⟩:Array Value).size]!)=⟨du z k⟩:=by
 subst h;apply Array.ext';apply kL;intro i;simp only[pW,Array.toList_range,cZ,oR];by_cases hi:i<k*(aH z).length
 .rw[pJ hi]
  simp only[kU];have h1:=Hg (aH z) k i hi;have hpos:0<(aH z).length:=by
   rcases fW (aH z).length with h|h
   .rw[h,tL] at hi;omega
   .exact h
  have hm:=dJ i hpos;show _=(du z k)[i]?;unfold du;rw[h1];simp[hm]
 .rw[dR omI]
  rw[dR (by show(du z k).length<=i;rw[oP];omega)];rfl
section
variable {own:List aA}
variable {gd:Option (Nat×Bool)}
def Q1[hT:cD P t e s by_](w:World): ∃i:TypeInfo,(typeInfo e).run P w= .ok i w/\i.bytes=by_:=by
 obtain⟨i,h1,_,h2⟩:=hT.info;exact⟨i,by simp[typeInfo,program,Sem.run_bind,Sem.run,h1,run_pure],h2⟩
theorem oky{p:Prop}(h:p:=by simp[IntKind.min,IntKind.max,IntKind.signed,IntKind.bits];omega):p:=h
def HD[hT:cD P t e s by_]{z:Value}[hz:ie P e z]{k k':IntKind}{l:Int}(hx:aE fr x=some (.int k l))(hy:aE fr y=some (.int k' l))(h0:0<=l)(hb:by_*l<=2^47)(hl:l<=2^60)(hs:(aH z).length=s)(hd:cv n dst=true)
  (h: ∀b,St C n (put fr dst (.slice (some ⟨b,0,none⟩) l.toNat l.toNat)) (⟨b,du z l.toNat,e,true⟩::own) G Φ):
  Ch P C n fr own G ⟨dst, .makeSlice t x y,ty',pos,af,gd⟩ Φ:=by
 intro a w Q rl;have h1:(Instr.makeSlice t (a.eval x) (a.eval y)).run P w= .ok (.slice (some ⟨w.heap.size,0,none⟩) l.toNat l.toNat) (w.alloc (.cells ⟨du z l.toNat⟩ e)):=by
  obtain⟨i,hi,hib⟩:=Q1 (P:=P) (t:=t) (e:=e) (s:=s) (by_:=by_) w;rw[bC rl.fr hx,bC rl.fr hy];unfold Instr.makeSlice;rw[bh (hT.u w)];simp only[asInt,asIntOf];rw[bh (a:=l) (w':=w) J,bh (a:=l) (w':=w) J,bh hi,hib];have hw:IntKind.i64.wrap l=l:=vn oky;simp only[hw];have c1: ¬((by_:Int)*l>2^48):=by
   have:(2:Int)^47<=2^48:=by decide
   omega
  have c2:(decide (l<0)||decide ((by_:Int)*l>2^48))=false:=by simp[c1];omega
  simp only[c2,Int.lt_irrefl,decide_false,Bool.or_false,Bool.false_or];have c3:decide (l<0)=false:=by simp;omega
  simp only[c3,kW,if_false,gt_iff_lt,Int.lt_irrefl,decide_false,Bool.or_false];have hr: ¬(l.toNat*by_>roomBytes):=by
   unfold roomBytes;have:((l.toNat*by_:Nat):Int)=by_*l:=by rw[jQ,rZ h0,sW]
   have h47:((2^47:Nat):Int)=2^47:=by decide
   omega
  unfold askRoom;simp only[hr,if_false];rw[bh (run_pure _ _ _),bh (hT.siz w)];have hn:l.toNat*s=l.toNat*(aH z).length:=by rw[hs]
  by_cases h00:l.toNat*s=0
  .rw[if_pos h00,bh (run_pure _ _ _)]
   have e0:du z l.toNat=[]:=cJ (by rw[oP,hs];exact h00);rw[h00,e0,show(Array.range 0)= #[] from J,Array.map_empty];rfl
  .rw[if_neg h00,bh (hz.zero w),po]
   rw[bh (run_pure _ _ _),Bo hn];rfl
 refine(fun hk=>?_:Φ (a.put dst (.slice (some ⟨w.heap.size,0,none⟩) l.toNat l.toNat)) (w.alloc (.cells ⟨du z l.toNat⟩ e))->_) (h w.heap.size _ _ ((rl.heap (rl.h.alloc _ _)).put _ hd));exact kI (v:= .slice (some ⟨w.heap.size,0,none⟩) l.toNat l.toNat) (dq h1) hk
def Nx: ∀(vs cs pre:List Value),vs.length=cs.length->cP (pre++cs) pre.length vs=pre++vs
 |[],cs,pre,h=>by have:cs=[]:=cJ h.symm;subst this;rfl
 |v::vs,[],pre,h=>by simp at h
 |v::vs,c::cs,pre,h=>by
  simp only[cP,oK _ _ (bW _),qS,List.set_cons_zero];have:=Nx vs cs (pre++[v]) omv;simpa using this
def SM[hT:cD P t e s by_][hz:ie P e z](hx:aE fr x=some v)(hs:(aH z).length=s)(hv:(aH v).length=s)(hsm:s<=1000)(hs0:0<s)(hd:cv n dst=true)
  (h: ∀b,St C n (put fr dst (.slice (some ⟨b,0,none⟩) 1 1)) (⟨b,aH v,e,true⟩::own) G Φ):
  Ch P C n fr own G ⟨dst, .buildSlice t 1 #[(0,x)],ty',pos,af,gd⟩ Φ:=by
 intro a w Q rl;have h1:(Instr.buildSlice t 1 #[(0,v)]).run P w= .ok (.slice (some ⟨w.heap.size,0,none⟩) 1 1) (w.alloc (.cells ⟨aH v⟩ e)):=by
  unfold Instr.buildSlice;rw[bh (hT.u w)];simp only[];rw[bh (hT.siz w)];have c1: ¬(1*s>2^24):=by omega
  have c2: ¬(1*s=0):=by omega
  simp only[c1,if_false];rw[if_neg c2,bh (hz.zero w),po,bh (run_pure _ _ _)];rw[Bo (k:=1) (by rw[hs])];have hzl:(du z 1).length=s:=by rw[oP,hs,nM]
  have hf:Instr.fill (fun i=>some (i*s,s)) ⟨du z 1⟩ [(0,v)]=some ⟨aH v⟩:=by
   simp only[Instr.fill,po];rw[if_neg (by simp[hv,hzl])];have e1:=Em (aH v) ⟨du z 1⟩ (0*s) 0;have e2:(⟨aH v⟩:Array Value).zipIdx.foldl (fun cs (c,j)=>cs.setIfInBounds (0*s+j) c) (⟨du z 1⟩:Array Value)=⟨aH v⟩:=by
    rw[<-rM,tU];have e3:=Nx (aH v) (du z 1) [] (by rw[hv,hzl]);simp only[kQ,eK] at e3;rw[kM,eM] at e1;rw[e3] at e1;simpa using e1
   rw[e2]
  simp only[hf];rfl
 refine kI (v:= .slice (some ⟨w.heap.size,0,none⟩) 1 1) (w':=w.alloc (.cells ⟨aH v⟩ e)) ?_ (h w.heap.size _ _ ((rl.heap (rl.h.alloc _ _)).put _ hd));simp only[execOp,iY,bY,iQ,bC rl.fr hx];exact dq h1
end
section
variable {own:List aA}
variable {gd:Option (Nat×Bool)}
def wN(fr:Fr)(s:Nat):List Value->List (Nat×Operand)->Option (List Value)
 |cs,[]=>some cs
 |cs,(i,x)::r=>match aE fr x with
  |some v=>if(aH v).length=s/\i*s+s<=cs.length then wN fr s (cP cs (i*s) (aH v)) r else none
  |none=>none
def UD{a:Act}(hf:mh fr a)(s:Nat): ∀(ps:List (Nat×Operand)) (cs out:List Value),wN fr s cs ps=some out->
  Instr.fill (fun i=>some (i*s,s)) ⟨cs⟩ (ps.map fun(i,x)=>(i,a.eval x))=some ⟨out⟩
 |[],cs,out,h=>by simp only[wN] at h;cases h;rfl
 |(i,x)::ps,cs,out,h=>by
  simp only[wN] at h;split at h
  .rename_i v hv
   split at h
   .rename_i hc
    simp only[bY,Instr.fill,bC hf hv,po];have h1: ¬((⟨aH v⟩:Array Value).size≠s):=by simp[hc.1]
    have h2: ¬(i*s+(⟨aH v⟩:Array Value).size>(⟨cs⟩:Array Value).size):=by simp only[oR,hc.1];omega
    rw[if_neg okj];have e:=Em (aH v) ⟨cs⟩ (i*s) 0;have e':(⟨aH v⟩:Array Value).zipIdx.foldl (fun cs (c,j)=>cs.setIfInBounds (i*s+j) c) (⟨cs⟩:Array Value)=⟨cP cs (i*s) (aH v)⟩:=by
     rw[<-rM,tU];simpa using e
    rw[e'];exact UD hf s ps _ _ h
   .cases h
  .cases h
def Nt[hT:cD P t e s by_][hz:ie P e z]{parts:Array (Nat×Operand)}(hs:(aH z).length=s)(hb:wN fr s (du z len) parts.toList=some out)(hsm:Nat.ble (len*s) 1000=true)(hs0:Nat.blt 0 (len*s)=true)(hd:cv n dst=true)
  (h: ∀b,St C n (put fr dst (.slice (some ⟨b,0,none⟩) len len)) (⟨b,out,e,true⟩::own) G Φ):
  Ch P C n fr own G ⟨dst, .buildSlice t len parts,ty',pos,af,gd⟩ Φ:=by
 intro a w Q rl;have hsm':len*s<=1000:=by simpa using hsm
 have hs0':0<len*s:=by simpa[lY] using hs0
 have h1:(Instr.buildSlice t len (parts.map fun(i,x)=>(i,a.eval x))).run P w= .ok (.slice (some ⟨w.heap.size,0,none⟩) len len) (w.alloc (.cells ⟨out⟩ e)):=by
  unfold Instr.buildSlice;rw[bh (hT.u w)];simp only[];rw[bh (hT.siz w)];have c1: ¬(len*s>2^24):=by omega
  have c2: ¬(len*s=0):=by omega
  simp only[c1,if_false];rw[if_neg c2,bh (hz.zero w),po,bh (run_pure _ _ _)];rw[Bo (k:=len) (by rw[hs])];have hf:=UD rl.fr s parts.toList _ _ hb;simp only[pW,hf];rfl
 refine kI (v:= .slice (some ⟨w.heap.size,0,none⟩) len len) (w':=w.alloc (.cells ⟨out⟩ e)) ?_ (h w.heap.size _ _ ((rl.heap (rl.h.alloc _ _)).put _ hd));simp only[execOp];exact dq h1
def N2[hT:cD P t e s by_](hd:cv n dst=true)(h: ∀b,St C n (put fr dst (.slice (some ⟨b,0,none⟩) 0 0)) (⟨b,[],e,true⟩::own) G Φ):
  Ch P C n fr own G ⟨dst, .buildSlice t 0 #[],ty',pos,af,gd⟩ Φ:=by
 intro a w Q rl;have h1:(Instr.buildSlice t 0 #[]).run P w= .ok (.slice (some ⟨w.heap.size,0,none⟩) 0 0) (w.alloc (.cells ⟨[]⟩ e)):=by
  unfold Instr.buildSlice;rw[bh (hT.u w)];simp only[];rw[bh (hT.siz w)];simp only[kM,gt_iff_lt,tW,if_false,if_true];rw[bh (run_pure _ _ _),show(Array.range 0)= #[] from J,Array.map_empty];rfl
 refine kI (v:= .slice (some ⟨w.heap.size,0,none⟩) 0 0) (w':=w.alloc (.cells ⟨[]⟩ e)) ?_ (h w.heap.size _ _ ((rl.heap (rl.h.alloc _ _)).put _ hd));simp only[execOp,iY,iQ];exact dq h1
theorem ozd{p:Prop}(h:p:=by unfold Op.equalIn;rw[bh (hT.u w)];cases ad<;>rfl):p:=h
def PA[hT:cD P t e s by_](hx:aE fr x=some (.slice ad len cap))(hy:aE fr y=some (.slice none l2 c2)):Yd P C fr own G ⟨dst, .binOp .eql t x y t',ty',pos,af,gd⟩ (.bool ad.isNone):=by
 intro a w hf hh;simp only[execOp,bC hf hx,bC hf hy];have h1:(Op.equal t (.slice ad len cap) (.slice none l2 c2)).run P w= .ok ad.isNone w:=ud ozd;have h2:(eqGuard .eql t x y (.slice ad len cap) (.slice none l2 c2)).run P w= .ok () w:=J;have h3:(binOp .eql t (.slice ad len cap) (.slice none l2 c2)).run P w= .ok (.bool ad.isNone) w:=by simp only[binOp];rw[bh h1];rfl
 exact dq omW
def Wt[hT:cD P t e s by_](hx:aE fr x=some (.slice ad len cap))(hy:aE fr y=some (.slice none l2 c2)):Yd P C fr own G ⟨dst, .binOp .neq t x y t',ty',pos,af,gd⟩ (.bool (!ad.isNone)):=by
 intro a w hf hh;simp only[execOp,bC hf hx,bC hf hy];have h1:(Op.equal t (.slice ad len cap) (.slice none l2 c2)).run P w= .ok ad.isNone w:=ud ozd;have h2:(eqGuard .neq t x y (.slice ad len cap) (.slice none l2 c2)).run P w= .ok () w:=J;have h3:(binOp .neq t (.slice ad len cap) (.slice none l2 c2)).run P w= .ok (.bool (!ad.isNone)) w:=by simp only[binOp];rw[bh h1];rfl
 exact dq omW
end
def l5: ∀(cs:List Value) (off k:Nat),off+k<=cs.length->dd cs off k=some ((cs.drop off).take k)
 |cs,0,0,_=>by cases cs<;>rfl
 |[],0,k+1,h=>by simp at h
 |v::t,0,k+1,h=>by
  simp only[dd,l5 t 0 k (by simp at h;omega)];simp
 |[],_+1,k,h=>by simp at h
 |_::t,off+1,k,h=>by
  simp only[dd,l5 t off k (by simp at h;omega)];simp
section
variable {own:List aA}
variable {gd:Option (Nat×Bool)}
def nI(P:Program)(C:aG)(own:List aA)(G:Gh)(s m:Nat)(v:Value)(ys:List Value):Prop:=
 ∀w,bP C own G w->(Builtin.firstCells s m v).run P w= .ok ⟨ys⟩ w
def EK{cs:List Value}{fz:Nat×Nat}(h:w.heap[b]? =some (.cells ⟨cs⟩ ty fz))(hl:dd cs off k=some l):(loadCells ⟨b,off,none⟩ k).run P w= .ok ⟨l⟩ w:=by
 obtain⟨h1,h2⟩:=rE _ _ _ _ hl;unfold loadCells;rw[KI (l:=l) k 0 #[] (fun j hj=>by rw[Bw h];simpa using h2 j hj) m5];simp[<-h1]
def z'{cs:List Value}(ho:jw own b cs ty lo)(hl:dd cs off (m*s)=some ys):nI P C own G s m (.slice (some ⟨b,off,none⟩) len cap) ys:=
 fun w h=>EK (h.hown _ ho.mem).1 hl
def M6{cs:List Value}(hg:G b=some cs)(hl:dd cs off (m*s)=some ys):nI P C own G s m (.slice (some ⟨b,off,none⟩) len cap) ys:=
 fun w h=>by obtain⟨ty,fz,hb⟩:=h.sub _ _ hg;exact EK hb hl
def wi:nI P C own G s 0 (.slice ad len cap) []:=fun w _=>by
 cases ad with
 |none=>rfl
 |some a=>unfold Builtin.firstCells loadCells;simp[loadCellsFrom,run_pure]
def UK(z:Value)(k:Nat):Builtin.zeroCells ⟨aH z⟩ k=⟨du z k⟩:=by
 unfold Builtin.zeroCells;exact Bo J
def Km{w':World}[hT:cD P t e s by_][hN:kz P t'][hz:ie P e z]
  (hsx:(Builtin.firstCells s len (.slice ad len cap)).run P w.drew= .ok ⟨xs⟩ w.drew)(hsy:(Builtin.firstCells s m (.slice ad2 m cap2)).run P w.drew= .ok ⟨ys⟩ w.drew)
  (hneed:cap<len+m)(hby:0<by_)(hb:(len+m)*by_<=140737488355328):
  (Builtin.append_ #[t,t'] ty' #[.slice ad len cap, .slice ad2 m cap2]).run P w=
   .ok (.slice (some ⟨w.heap.size,0,none⟩) (len+m) (grownCap w (len+m) cap e)) (w.drew.alloc (.cells ⟨xs++ys++du z (grownCap w (len+m) cap e-(len+m))⟩ e)):=by
 obtain⟨d,hd1⟩:=hN.un;obtain⟨i,hi,his,hib⟩:=hT.info;obtain⟨i',hi',hiz⟩:=hz.info;rw[hi] at hi';cases hi';have hfit:=growslice_fits (old:=cap) (need:=len+m) (bytes:=by_) hneed hb;have hlen:len+m<=140737488355328:=dZ (nK _ hby) hb;have hn: ¬(len+m<=cap):=by omega
 have h63': ¬(9223372036854775807<((len:Int)+(m:Int))):=by omega
 have h48': ¬(281474976710656<Builtin.nextslicecap (len+m) cap*i.bytes):=by rw[hib];omega
 subst his;simp[Builtin.append_,run_underlying hT.un,run_underlying hd1,sizeOf,typeInfo,zeroValue,hi,hiz,Builtin.lenOf,hn,h63',h48',Question.forced,hsx,hsy,newRow,grownCap];congr 2;apply Array.ext';rw[po,UK];simp[dK]
def Dc[hT:cD P t e s by_][hN:kz P t'][hz:ie P e z]
  (hx:aE fr x=some (.slice ad len cap))(hy:aE fr y=some (.slice ad2 m cap2))(hsx:nI P C own G s len (.slice ad len cap) xs)(hsy:nI P C own G s m (.slice ad2 m cap2) ys)
  (hneed:cap<len+m)(hby:0<by_)(hb:(len+m)*by_<=140737488355328)(hd:cv n dst=true)
  (h: ∀b cap',len+m<=cap'->St C n (put fr dst (.slice (some ⟨b,0,none⟩) (len+m) cap')) (⟨b,xs++ys++du z (cap'-(len+m)),e,true⟩::own) G Φ):
  Ch P C n fr own G ⟨dst, .call ⟨.builtin .append, #[x,y], #[t,t']⟩,ty',pos,af,gd⟩ Φ:=by
 intro a w Q rl;have hcap:len+m<=grownCap w (len+m) cap e:=by unfold grownCap;simp only[Question.cut];omega
 have hrun:=Km (P:=P) (t:=t) (t':=t') (ty':=ty') (w:=w) (w':=w) (hsx _ rl.h.drew) (hsy _ rl.h.drew) hneed hby hb;refine kI (v:= .slice (some ⟨w.heap.size,0,none⟩) (len+m) (grownCap w (len+m) cap e)) (w':=w.drew.alloc (.cells ⟨xs++ys++du z (grownCap w (len+m) cap e-(len+m))⟩ e)) ?_ ?_
 .simp only[execOp,resolve,iY,bY,iQ,bC rl.fr hx,bC rl.fr hy]
  exact dq hrun
 .exact h w.heap.size _ hcap _ _ ((rl.heap ((rl.h.drew).alloc _ _)).put _ hd)
def ki.perm{o:aA}(h:ki own o own1):own.Perm (o::own1):=by
 induction h with
 |hd o t=>exact List.Perm.refl _
 |tl x t t' o h ih=>exact(List.Perm.cons x ih).trans (List.Perm.swap _ _ _)
def F9[hT:cD P t e s by_][hN:kz P t']{cs:List Value}
  (hb:w.heap[b]? =some (.cells ⟨cs⟩ e (0,0)))(hcs:cs.length=cap*s)(hsy:(Builtin.firstCells s m (.slice ad2 m cap2)).run P w= .ok ⟨ys⟩ w)(hys:ys.length=m*s)(hf: ∀v∈ys,flat v=true)
  (hneed:len+m<=cap):
  (Builtin.append_ #[t,t'] ty' #[.slice (some ⟨b,0,none⟩) len cap, .slice ad2 m cap2]).run P w=
   .ok (.slice (some ⟨b,0,none⟩) (len+m) cap) (iv w b (.cells ⟨cP cs (len*s) ys⟩ e (0,0))):=by
 obtain⟨d,hd1⟩:=hN.un;obtain⟨i,hi,his,hib⟩:=hT.info;subst his;have hl:len*i.size+ys.length<=cs.length:=by rw[hys,hcs,<-dV];exact bS _ hneed
 have hst:=yz (P:=P) ys w (len*i.size) 0 cs hf hb m5;rw[gQ] at hst;simp[Builtin.append_,run_underlying hT.un,run_underlying hd1,sizeOf,typeInfo,hi,Builtin.lenOf,hneed,hsy,rH,hst]
def AN: ∀(vs cs:List Value) (off:Nat),(cP cs off vs).length=cs.length
 |[],cs,off=>rfl
 |v::vs,cs,off=>by simp[cP,AN vs]
def qj: ∀(vs cs:List Value) (off:Nat),off+vs.length<=cs.length->cP cs off vs=cs.take off++vs++cs.drop (off+vs.length)
 |[],cs,off,h=>by simp[cP]
 |v::vs,cs,off,h=>by
  simp only[aN] at h;rw[cP,qj vs _ _ omg];rw[List.take_set,rX m5];have h1:(cs.take (off+1)).set off v=cs.take off++[v]:=by
   rw[jY m5,oK _ _ omg];simp[jZ (by omega:off<=cs.length)]
  rw[h1];simp only[aN,dK,iV,kQ];congr 4;omega
def RA[hT:cD P t e s by_][hN:kz P t'][hz:ie P e z]
  (hx:aE fr x=some (.slice (some ⟨b,0,none⟩) len cap))(hy:aE fr y=some (.slice ad2 m cap2))(hr:ki own ⟨b,xs++rest,e,true⟩ own1)(hxs:xs.length=len*s)(hcap:xs.length+rest.length=cap*s)(hlc:len<=cap)
  (hsy:nI P C own G s m (.slice ad2 m cap2) ys)(hys:ys.length=m*s)(hf: ∀v∈ys,flat v=true)
  (hby:0<by_)(hb:(len+m)*by_<=140737488355328)(hzs:(aH z).length=s)(hd:cv n dst=true)
  (h: ∀b cap' rest',len+m<=cap'->rest'.length+(len+m)*s=cap'*s->St C n (put fr dst (.slice (some ⟨b,0,none⟩) (len+m) cap')) (⟨b,xs++ys++rest',e,true⟩::own1) G Φ):
  Ch P C n fr own G ⟨dst, .call ⟨.builtin .append, #[x,y], #[t,t']⟩,ty',pos,af,gd⟩ Φ:=by
 intro a w Q rl;have hp:=rl.h.perm hr.perm;have hblk:=(hp.hown _ aQ).1;simp only[] at hblk;by_cases hneed:len+m<=cap
 .have hcs:(xs++rest).length=cap*s:=by simp;omega
  have hrun:=F9 (P:=P) (t:=t) (t':=t') (ty':=ty') (w:=w) (len:=len) hblk hcs (hsy w rl.h) hys hf hneed;have hle:len*s+m*s<=cap*s:=by rw[<-dV];exact bS _ hneed
  have hov:cP (xs++rest) (len*s) ys=xs++ys++rest.drop (m*s):=by
   rw[qj _ _ _ (by rw[hys];omega),<-hxs];simp[hys,nN]
  refine kI (v:= .slice (some ⟨b,0,none⟩) (len+m) cap) (w':=iv w b (.cells ⟨cP (xs++rest) (len*s) ys⟩ e (0,0))) ?_ ?_
  .simp only[execOp,resolve,iY,bY,iQ,bC rl.fr hx,bC rl.fr hy]
   exact dq hrun
  .rw[hov]
   refine h b cap (rest.drop (m*s)) hneed ?_ _ _ ((rl.heap (hp.store (.hd ..))).put _ hd);rw[gT,dV];omega
 .have hx':nI P C own G s len (.slice (some ⟨b,0,none⟩) len cap) xs:=fun w' hw'=>by
   have hb':=(((hw'.perm hr.perm).hown _ aQ).1);refine EK hb' ?_;rw[l5 _ _ _ omg,<-hxs];simp
  have hcap':len+m<=grownCap w (len+m) cap e:=by unfold grownCap;simp only[Question.cut];omega
  have hrun:=Km (P:=P) (t:=t) (t':=t') (ty':=ty') (w:=w) (w':=w) (hx' _ rl.h.drew) (hsy _ rl.h.drew) m5 hby hb;refine kI (v:= .slice (some ⟨w.heap.size,0,none⟩) (len+m) (grownCap w (len+m) cap e)) (w':=w.drew.alloc (.cells ⟨xs++ys++du z (grownCap w (len+m) cap e-(len+m))⟩ e)) ?_ ?_
  .simp only[execOp,resolve,iY,bY,iQ,bC rl.fr hx,bC rl.fr hy]
   exact dq hrun
  .refine h w.heap.size _ _ hcap' ?_ _ _ ((rl.heap (((hp.drew).drop (nS _ _)).alloc _ _)).put _ hd)
   rw[oP,hzs,<-dV];congr 1;omega
end
section
variable {S:World->Prop}
def vA(ops:Array Oper)(fin:Nat->Bool):List (Nat×Bool)->Array Bool->Bool
 |[],listed=>(Region.ready .any ops listed).isEmpty
 |(i,true)::r,listed=>PH ops fin listed i&&vA ops fin r (listed.setIfInBounds i true)
 |(i,false)::r,listed=>(Region.ready .any ops listed==[i])&&vA ops fin r (listed.setIfInBounds i true)
def js(P:Program)(ops:Array Oper)(Q:Exit->Act->World->Prop)(S:World->Prop)(fin:Nat->Bool):List (Nat×Bool)->Act->World->Prop
 |[],a,w=>Q .normal a w
 |(i,true)::r,a,w=> ∃o v,ops[i]? =some o/\S w/\YieldsIf P ops S o v a/\js P ops Q S fin r (a.put o.dst v) w
 |(i,false)::r,a,w=>wpOp P ops Q i (fun a' w'=>(fin i=true\/S w')/\js P ops Q S fin r a' w') a w
def Cq(hQ: ∀c a d v w,Q (.panic c) (Act.put a d v) w->Q (.panic c) a w): ∀(π:List (Nat×Bool)) (listed:Array Bool) (a:Act) (w:World),vA ops fin π listed=true->js P ops Q S fin π a w-> ∀fuel,π.length<=fuel->w8 P ops Q S fin fuel listed a w
 |[],listed,a,w,ho,h,fuel,hf=>by
  have hr:Region.ready .any ops listed=[]:=by simpa[vA] using ho
  cases fuel with
  |zero=>exact⟨hr,h⟩
  |succ k=>exact⟨fun _=>h,by rw[hr];simp⟩
 |(i,true)::r,listed,a,w,ho,h,0,hf=>by simp at hf
 |(i,false)::r,listed,a,w,ho,h,0,hf=>by simp at hf
 |(i,true)::r,listed,a,w,ho,h,fuel+1,hf=>by
  obtain⟨o,v,hoi,hS,hy,hk⟩:=h;simp only[vA,PH,bR] at ho;obtain⟨⟨⟨⟨h1,h2⟩,h3⟩,h4⟩,h5⟩:=ho;obtain⟨h6,h7⟩:=auf h4;exact ape hoi (Region.noSelect_spec h1) (fun c a w=>hQ c a _ _ w) h6 h7 fuel listed a w (Region.free_spec hoi h2) (by simpa using h3) hy hS
   (Cq hQ r _ _ _ h5 hk fuel ozg)
 |(i,false)::r,listed,a,w,ho,h,fuel+1,hf=>by
  simp only[vA,bR,beq_iff_eq] at ho;exact Xg ho.1 (wpOp_mono (fun a' w' h'=>⟨h'.1,Cq hQ r _ _ _ ho.2 h'.2 fuel ozg⟩) h)
end
section
variable {own:List aA}{π:List (Nat×Bool)}
def dr(fin:Nat->Bool)(π:List (Nat×Bool)){id:Nat}(hm:P.follows .mixedOrders=true)(ho:(vA ops fin π (Array.replicate ops.size false)&&Nat.ble π.length ops.size)=true)
  (h:St C n fr own G (js P ops (iF Q) (HS C own G) fin π)):St C n fr own G ((Code.region id ops true).wp P Q):=by
 simp only[bR] at ho;refine azu fin hm fun a w rl=>Cq (fun _ _ _ _ _ h=>h) π _ a w ho.1 (h a w rl) _ (by simpa using ho.2)
def dy(ho:ops[i]? =some o)(hy: ∀G':Gh,[GE G0 G']->Yd P C fr own0 G' o v)(hg:o.guard=none)(hd:cv n o.dst=true)[hs:m9 own0 own][hl:GL G0 G]
  (h:St C n (put fr o.dst v) own G (js P ops (iF Q) (HS C own0 G0) fin π)):St C n fr own G (js P ops (iF Q) (HS C own0 G0) fin ((i,true)::π)):=
 fun a w rl=>⟨o,v,ho,⟨G,hl.le,rl.h.drop hs.s⟩, .inl ⟨by simp[Region.wanted,hg],fun w' ⟨G',hle,hr⟩=> @hy G' ⟨hle⟩ a w' rl.fr hr⟩,h _ _ (rl.put v hd)⟩
def dM(ho:ops[i]? =some ⟨dst, .move x,ty',pos,af,none⟩)(hx:aE fr x=some v)(hd:cv n dst=true)[hs:m9 own0 own][hl:GL G0 G]
  (h:St C n (put fr dst v) own G (js P ops (iF Q) (HS C own0 G0) fin π)):St C n fr own G (js P ops (iF Q) (HS C own0 G0) fin ((i,true)::π)):=dy ho (fun _ _=>nj hx) J hd h
def dA(ho:ops[i]? =some ⟨dst, .assign x,ty',pos,af,none⟩)(hx:aE fr x=some v)(hd:cv n dst=true)[hs:m9 own0 own][hl:GL G0 G]
  (h:St C n (put fr dst v) own G (js P ops (iF Q) (HS C own0 G0) fin π)):St C n fr own G (js P ops (iF Q) (HS C own0 G0) fin ((i,true)::π)):=dy ho (fun _ _=>Hs hx) J hd h
def dF{o:Nat}[hF:mC P t f off](ho:ops[i]? =some ⟨dst, .fieldAddr t x f,ty',pos,af,none⟩)(hx:aE fr x=some (.pointer (some ⟨b,o,none⟩)))(hd:cv n dst=true)[hs:m9 own0 own][hl:GL G0 G]
  (h:St C n (put fr dst (.pointer (some ⟨b,o+off,none⟩))) own G (js P ops (iF Q) (HS C own0 G0) fin π)):St C n fr own G (js P ops (iF Q) (HS C own0 G0) fin ((i,true)::π)):=dy ho (fun _ _=>ta hx) J hd h
def dL{cs:List Value}(ho:ops[i]? =some ⟨dst, .load t x,ty',pos,af,none⟩)(hx:aE fr x=some (.pointer (some ⟨b,off,none⟩)))[hw:jw own0 b cs ty lo][lD P t k](hv:dd cs off k=some l)(hd:cv n dst=true)[hs:m9 own0 own][hl:GL G0 G]
  (h:St C n (put fr dst (.agg ⟨l⟩)) own G (js P ops (iF Q) (HS C own0 G0) fin π)):St C n fr own G (js P ops (iF Q) (HS C own0 G0) fin ((i,true)::π)):=dy ho (fun _ _=>EB hx hv) J hd h
def rA{cs:List Value}(ho:ops[i]? =some ⟨dst, .load t x,ty',pos,af,none⟩)(hx:aE fr x=some (.pointer (some ⟨b,off,none⟩)))[hw:jw own0 b cs ty lo][k9 P t](hv:cs[off]? =some v)(hd:cv n dst=true)[hs:m9 own0 own][hl:GL G0 G]
  (h:St C n (put fr dst v) own G (js P ops (iF Q) (HS C own0 G0) fin π)):St C n fr own G (js P ops (iF Q) (HS C own0 G0) fin ((i,true)::π)):=dy ho (fun _ _=>pP hx hv) J hd h
def vU(ho:ops[i]? =some o){b:Bool}(hg:o.guard=some (j,b))(hj:(ops[j]?).bind (·.dst)=some d)(hlk:jk fr d=some (.bool b))(hy: ∀G':Gh,[GE G0 G']->Yd P C fr own0 G' o v)(hd:cv n o.dst=true)[hs:m9 own0 own][hl:GL G0 G]
  (h:St C n (put fr o.dst v) own G (js P ops (iF Q) (HS C own0 G0) fin π)):St C n fr own G (js P ops (iF Q) (HS C own0 G0) fin ((i,true)::π)):=
 fun a w rl=>⟨o,v,ho,⟨G,hl.le,rl.h.drop hs.s⟩, .inl ⟨by simp[Region.wanted,hg,J2 rl.fr hj hlk],fun w' ⟨G',hle,hr⟩=> @hy G' ⟨hle⟩ a w' rl.fr hr⟩,h _ _ (rl.put v hd)⟩
def dc(ho:ops[i]? =some o)(hg:o.guard=none)(hc:Ch P C n fr own G o (fun a w=>(fin i=true\/HS C own0 G0 w)/\js P ops (iF Q) (HS C own0 G0) fin π a w)):St C n fr own G (js P ops (iF Q) (HS C own0 G0) fin ((i,false)::π)):=by
 intro a w rl;show wpOp P ops (iF Q) i _ a w;unfold wpOp;simp only[ho,Region.wanted,hg,if_true];exact .inl (hc a w _ rl)
def dn(h:St C n fr own G (Q .normal)):St C n fr own G (js P ops (iF Q) (HS C own0 G0) fin []):=h
def wT{cs:List Value}[h:uW A b cs][k:GL A G]:G b=some cs:=k.le _ _ h.h
variable {r:List Oper}
def sm(hx:aE fr x=some v)(hd:cv n dst=true)(h:St C n (put fr dst v) own G (dB P ops Q r)):St C n fr own G (dB P ops Q (⟨dst, .move x,ty',pos,af,none⟩::r)):=rD (nj hx) J hd h
def sa(hx:aE fr x=some v)(hd:cv n dst=true)(h:St C n (put fr dst v) own G (dB P ops Q r)):St C n fr own G (dB P ops Q (⟨dst, .assign x,ty',pos,af,none⟩::r)):=rD (Hs hx) J hd h
def sn{ad:Addr}(hx:aE fr x=some (.pointer (some ad)))(hd:cv n dst=true)(h:St C n (put fr dst (.pointer (some ad))) own G (dB P ops Q r)):St C n fr own G (dB P ops Q (⟨dst, .nilCheck x,ty',pos,af,none⟩::r)):=rD (o9 hx) J hd h
def sf{o:Nat}[hF:mC P t f off](hx:aE fr x=some (.pointer (some ⟨b,o,none⟩)))(hd:cv n dst=true)(h:St C n (put fr dst (.pointer (some ⟨b,o+off,none⟩))) own G (dB P ops Q r)):St C n fr own G (dB P ops Q (⟨dst, .fieldAddr t x f,ty',pos,af,none⟩::r)):=rD (ta hx) J hd h
def Fp{cs:List Value}(hx:aE fr x=some (.pointer (some ⟨b,off,none⟩)))[ho:jw own b cs ty lo][lD P t k](hl:dd cs off k=some l)(hd:cv n dst=true)
  (h:St C n (put fr dst (.agg ⟨l⟩)) own G (dB P ops Q r)):St C n fr own G (dB P ops Q (⟨dst, .load t x,ty',pos,af,none⟩::r)):=rD (EB hx hl) J hd h
def oO{cs:List Value}(hx:aE fr x=some (.pointer (some ⟨b,off,none⟩)))[ho:jw own b cs ty lo][k9 P t](hl:cs[off]? =some v)(hd:cv n dst=true)
  (h:St C n (put fr dst v) own G (dB P ops Q r)):St C n fr own G (dB P ops Q (⟨dst, .load t x,ty',pos,af,none⟩::r)):=rD (pP hx hl) J hd h
def slg{cs:List Value}(hx:aE fr x=some (.pointer (some ⟨b,off,none⟩)))[hg:uW A b cs][hk:GL A G][lD P t k](hl:dd cs off k=some l)(hd:cv n dst=true)
  (h:St C n (put fr dst (.agg ⟨l⟩)) own G (dB P ops Q r)):St C n fr own G (dB P ops Q (⟨dst, .load t x,ty',pos,af,none⟩::r)):=rD (DS hx (hk.le _ _ hg.h) hl) J hd h
def VA{cs:List Value}(hx:aE fr x=some (.pointer (some ⟨b,off,none⟩)))[hg:uW A b cs][hk:GL A G][k9 P t](hl:cs[off]? =some v)(hd:cv n dst=true)
  (h:St C n (put fr dst v) own G (dB P ops Q r)):St C n fr own G (dB P ops Q (⟨dst, .load t x,ty',pos,af,none⟩::r)):=rD (te hx (hk.le _ _ hg.h) hl) J hd h
def uL[hT:cD P t e s by_](hx:aE fr x=some (.slice ad len cap))(hd:cv n dst=true)
  (h:St C n (put fr dst (.int .i64 len)) own G (dB P ops Q r)):St C n fr own G (dB P ops Q (⟨dst, .call ⟨.builtin .len, #[x], #[t]⟩,ty',pos,af,none⟩::r)):=rD (vh hx) J hd h
def sx{vs:Array Value}(hx:aE fr x=some (.tuple vs))(hv:vs[i]? =some v)(hd:cv n dst=true)(h:St C n (put fr dst v) own G (dB P ops Q r)):St C n fr own G (dB P ops Q (⟨dst, .extract x i,ty',pos,af,none⟩::r)):=rD (xv hx hv) J hd h
def DT{own:List aA}{id:Nat}(h:St C n fr own G (Q (.exit id))):St C n fr own G (Exit.then K Q (.exit id)):=h
def gz{b:Bool}(hj:(ops[j]?).bind (·.dst)=some d)(hl:jk fr d=some (.bool b))(hy:Yd P C fr own G ⟨dst,op,ty',pos,af,some (j,b)⟩ v)(hd:cv n dst=true)(h:St C n (put fr dst v) own G (dB P ops Q r)):St C n fr own G (dB P ops Q (⟨dst,op,ty',pos,af,some (j,b)⟩::r)):=aMo J hj hl hy hd h
def ss{b:Bool}(hj:(ops[j]?).bind (·.dst)=some d)(hl:jk fr d=some (.bool c))(hbc:(c==b)=false)(hd:cv n dst=true)(h:St C n (put fr dst undef) own G (dB P ops Q r)):St C n fr own G (dB P ops Q (⟨dst,op,ty',pos,af,some (j,b)⟩::r)):=ZF J hj hl hbc hd h
def sy(hy:Yd P C fr own G ⟨dst,op,ty',pos,af,none⟩ v)(hd:cv n dst=true)(h:St C n (put fr dst v) own G (dB P ops Q r)):St C n fr own G (dB P ops Q (⟨dst,op,ty',pos,af,none⟩::r)):=rD hy J hd h
def sc{op:Op}(hc:Ch P C n fr own G ⟨dst,op,ty',pos,af,none⟩ (dB P ops Q r)):St C n fr own G (dB P ops Q (⟨dst,op,ty',pos,af,none⟩::r)):=VX J hc
end
def Fn.of_calls{f:FuncId}{vs:List Value}(ha:rC P f)(h: ∀w,Calls P f ⟨vs⟩ w fun e w'=>e= .returned v/\w'=w):Fn P f vs G (fun u _=>u=v):=
 ⟨ha,fun w hw=>(h w).mono fun e w' ⟨he,hww⟩=>⟨v,G,he,by
  subst hww;exact⟨J,J,J,bW _,fun _ _ _=>J,hw,b9.refl _,fun _ _=>J,fun o ho=>(by cases ho), .nil,bW _,fun p hp=>by cases hp⟩,J⟩⟩
end Go.Sx
end
section
namespace Go.Sx
open Go Go.Proofs Tryz
instance:k9 prog 3:=⟨fun _=>by kernel_rfl,fun _=>by kernel_rfl⟩
instance:ie prog 3 (.int .i64 0):=⟨v6⟩
instance:k9 prog 4:=⟨fun _=>by kernel_rfl,fun _=>by kernel_rfl⟩
instance:ie prog 4 (.bool false):=⟨v6⟩
instance:cD prog 46 225 1 4:=⟨v6,v6⟩
instance:kz prog 46:=⟨225,v6⟩
instance:k9 prog 67:=⟨fun _=>by kernel_rfl,fun _=>by kernel_rfl⟩
instance:cD prog 67 233 8 112:=⟨v6,v6⟩
instance:kz prog 67:=⟨233,v6⟩
instance:lD prog 69 2:=⟨fun _=>by kernel_rfl,fun _=>by kernel_rfl⟩
instance:ie prog 69 (.agg ⟨[.int .i64 0, .slice none 0 0]⟩):=⟨v6⟩
instance:mC prog 69 0 0:=⟨fun _ _ _=>by kernel_rfl⟩
instance:mC prog 69 1 1:=⟨fun _ _ _=>by kernel_rfl⟩
instance:lD prog 136 6:=⟨fun _=>by kernel_rfl,fun _=>by kernel_rfl⟩
instance:ie prog 136 (.agg ⟨[.bool false, .slice none 0 0, .bool false, .slice none 0 0, .bool false, .slice none 0 0]⟩):=⟨v6⟩
instance:ie prog 140 (.agg ⟨[.bool false, .bool false, .bool false, .slice none 0 0, .bool false, .slice none 0 0, .bool false, .slice none 0 0, .pointer none, .pointer none]⟩):=⟨v6⟩
instance:AK prog 140 [(0,1),(1,1),(2,6),(8,1),(9,1)]:=⟨_,fun _=>GK underlying140 _,fun _=>by kernel_rfl⟩
instance:k9 prog 143:=⟨fun _=>by kernel_rfl,fun _=>by kernel_rfl⟩
instance:ie prog 143 (.pointer none):=⟨v6⟩
instance:ie prog 225 (.int .u32 0):=⟨v6⟩
instance:lD prog 230 6:=⟨fun _=>by kernel_rfl,fun _=>by kernel_rfl⟩
instance:lD prog 233 8:=⟨fun _=>by kernel_rfl,fun _=>by kernel_rfl⟩
instance:ie prog 233 (.agg ⟨[.bool false, .slice none 0 0, .bool false, .slice none 0 0, .bool false, .slice none 0 0, .int .i64 0, .int .i64 0]⟩):=⟨v6⟩
instance:mC prog 233 0 0:=⟨fun _ _ _=>by kernel_rfl⟩
instance:mC prog 233 1 6:=⟨fun _ _ _=>by kernel_rfl⟩
instance:mC prog 233 2 7:=⟨fun _ _ _=>by kernel_rfl⟩
instance:AK prog 233 [(0,6),(6,1),(7,1)]:=⟨_,fun _=>GK underlying233 _,fun _=>by kernel_rfl⟩
instance:k9 prog 237:=⟨fun _=>by kernel_rfl,fun _=>by kernel_rfl⟩
instance:cD prog 237 4 1 1:=⟨v6,v6⟩
instance:ie prog 239 (.agg ⟨[.slice none 0 0, .slice none 0 0, .int .i64 0, .bool false]⟩):=⟨v6⟩
instance:mC prog 239 0 0:=⟨fun _ _ _=>by kernel_rfl⟩
instance:mC prog 239 1 1:=⟨fun _ _ _=>by kernel_rfl⟩
instance:mC prog 239 2 2:=⟨fun _ _ _=>by kernel_rfl⟩
instance:mC prog 239 3 3:=⟨fun _ _ _=>by kernel_rfl⟩
instance:AK prog 239 [(0,1),(1,1),(2,1),(3,1)]:=⟨_,fun _=>GK underlying239 _,fun _=>by kernel_rfl⟩
instance:k9 prog 241:=⟨fun _=>by kernel_rfl,fun _=>by kernel_rfl⟩
instance:ie prog 241 (.nilFunc):=⟨v6⟩
instance:lD prog 243 9:=⟨fun _=>by kernel_rfl,fun _=>by kernel_rfl⟩
instance:ie prog 243 (.agg ⟨[.int .i64 0, .int .i64 0, .pointer none, .int .i64 0, .int .i64 0, .pointer none, .int .i64 0, .int .i64 0, .pointer none]⟩):=⟨v6⟩
instance:mC prog 245 0 0:=⟨fun _ _ _=>by kernel_rfl⟩
instance:mC prog 245 1 9:=⟨fun _ _ _=>by kernel_rfl⟩
instance:mC prog 245 2 10:=⟨fun _ _ _=>by kernel_rfl⟩
instance:mC prog 245 3 11:=⟨fun _ _ _=>by kernel_rfl⟩
instance:cD prog 249 143 1 8:=⟨v6,v6⟩
instance:kz prog 249:=⟨143,v6⟩
instance:cD prog 253 330 17 128:=⟨v6,v6⟩
instance:kz prog 253:=⟨330,v6⟩
instance:cD prog 254 330 17 128:=⟨v6,v6⟩
def follows:prog.follows .mixedOrders=true:=by kernel_rfl
end Go.Sx
end
section
namespace Go.Sx
def dv:List Nat->Nat
 |[]=>0
 |d::t=>d+4294967296*dv t
def bF(ds:List Nat):Prop:= ∀d∈ds,d<4294967296
def gi(ds:List Nat):Prop:=ds.getLast? ≠some 0
instance (ds:List Nat):Decidable (gi ds):=inferInstanceAs (Decidable (ds.getLast? ≠some 0))
def bF.nil:bF []:=fun _ h=>by cases h
def bF.cons{d:Nat}{ds:List Nat}(h:d<4294967296)(k:bF ds):bF (d::ds):=fun x hx=>by
 rcases aV.1 hx with rfl|h'
 .exact h
 .exact k _ h'
def bF.head{d:Nat}{ds:List Nat}(h:bF (d::ds)):d<4294967296:=h d aQ
def bF.tail{d:Nat}{ds:List Nat}(h:bF (d::ds)):bF ds:=fun x hx=>h x (aJ _ hx)
def bF.append{a b:List Nat}(h:bF a)(k:bF b):bF (a++b):=fun x hx=>by
 rcases aL.1 hx with h'|h'
 .exact h _ h'
 .exact k _ h'
def bF.take{a:List Nat}(h:bF a)(n:Nat):bF (a.take n):=fun x hx=>h x (dS hx)
def bF.drop{a:List Nat}(h:bF a)(n:Nat):bF (a.drop n):=fun x hx=>h x (gL hx)
def bF.get{a:List Nat}(h:bF a)(i:Nat):a.getD i 0<4294967296:=by
 rw[aK]
 cases hi:a[i]? with
 |none=>simp
 |some d=>exact h d (aW hi)
def bF.set{a:List Nat}(h:bF a)(i:Nat){d:Nat}(hd:d<4294967296):bF (a.set i d):=fun x hx=>by
 rcases List.mem_or_eq_of_mem_set hx with h'|rfl
 .exact h _ h'
 .exact hd
def bF.replicate(n:Nat):bF (List.replicate n 0):=fun x hx=>by
 rw[mM hx];omega
def yF(a b:List Nat):dv (a++b)=dv a+4294967296^a.length*dv b:=by
 induction a with
 |nil=>simp[dv]
 |cons d t ih=>
  simp only[iV,dv,ih,aN,iZ];rw[fY,<-lR,<-cM,cW 4294967296 (4294967296^t.length)]
def nq{ds:List Nat}(h:bF ds):dv ds<4294967296^ds.length:=by
 induction ds with
 |nil=>simp[dv]
 |cons d t ih=>
  have h1:=h.head;have h2:=ih h.tail;simp only[dv,aN,iZ];omega
def zc(n:Nat):dv (List.replicate n 0)=0:=by
 induction n with
 |zero=>rfl
 |succ n ih=>simp[mT,dv,ih]
def pE(ds:List Nat)(i:Nat):dv (ds.take (i+1))=dv (ds.take i)+4294967296^i*ds.getD i 0:=by
 by_cases h:i<ds.length
 .rw[jY h,yF]
  simp[dv,jZ (gU h),aK,h]
 .have:ds.getD i 0=0:=by rw[aK,dR m5];rfl
  rw[this,bM m5,bM m5];simp
def Ck(ds:List Nat)(i:Nat)(h:i<=ds.length:=by omega):dv ds=dv (ds.take i)+4294967296^i*dv (ds.drop i):=by
 have:=yF (ds.take i) (ds.drop i);rw[kR] at this;rw[this];simp[jZ h]
def trimD:List Nat->List Nat
 |[]=>[]
 |d::t=>match trimD t with
  |[]=>if d=0 then [] else [d]
  |t'=>d::t'
def x5(d:Nat)(t:List Nat):trimD (d::t)=if trimD t=[]/\d=0 then [] else d::trimD t:=by
 simp only[trimD]
 cases h:trimD t with
 |nil=>by_cases hd:d=0<;>simp[hd]
 |cons a b=>simp
def Wa(ds:List Nat):dv (trimD ds)=dv ds:=by
 induction ds with
 |nil=>rfl
 |cons d t ih=>
  rw[x5];split
  .rename_i h
   rw[h.1] at ih;simp[dv,<-ih,h.2]
  .simp[dv,ih]
def arg(ds:List Nat):trimD (ds++[0])=trimD ds:=by
 induction ds with
 |nil=>rfl
 |cons d t ih=>rw[iV,x5,x5,ih]
def Qc{ds:List Nat}{d:Nat}(h:d≠0):trimD (ds++[d])=ds++[d]:=by
 induction ds with
 |nil=>simp[trimD,h]
 |cons e t ih=>rw[iV,x5,ih];simp
def gi.trimD(ds:List Nat):gi (trimD ds):=by
 induction ds with
 |nil=>simp[gi,Sx.trimD]
 |cons d t ih=>
  rw[x5];split
  .simp[gi]
  .rename_i h
   unfold gi at*;rw[List.getLast?_cons]
   cases ht:(Sx.trimD t).getLast? with
   |none=>
    have:Sx.trimD t=[]:=by simpa using ht
    simp only[Option.getD_none,ne_eq,Option.some.injEq];exact fun hd=>h ⟨this,hd⟩
   |some x=>rw[ht] at ih;simpa using ih
def V8(ds:List Nat):(trimD ds).length<=ds.length:=by
 induction ds with
 |nil=>simp[trimD]
 |cons d t ih=>
  rw[x5];split
  .simp
  .simp;omega
def aut(ds:List Nat):trimD ds=ds.take (trimD ds).length:=by
 induction ds with
 |nil=>rfl
 |cons d t ih=>
  rw[x5];split
  .rfl
  .simp only[aN,pX];rw[<-ih]
def bF.trimD{ds:List Nat}(h:bF ds):bF (trimD ds):=by rw[aut];exact h.take _
def avG{ds:List Nat}(h:gi ds):trimD ds=ds:=by
 rcases oV ds with rfl|⟨l,d,rfl⟩
 .rfl
 .rw[oW] at*
  exact Qc (fun e=>by subst e;simp[gi] at h)
def xK{ds:List Nat}(h:gi ds)(hne:ds≠[]):4294967296^(ds.length-1)<=dv ds:=by
 rcases oV ds with rfl|⟨l,d,rfl⟩
 .exact absurd J hne
 .rw[oW] at*
  have hd:d≠0:=fun e=>by subst e;simp[gi] at h
  rw[yF];simp only[aU,aN,eK,dv];have:4294967296^(l.length+(0+1)-1)=4294967296^l.length:=by congr 1
  rw[this];have h1:4294967296^l.length*1<=4294967296^l.length*(d+4294967296*0):=gX _ m5;omega
def zg{a b:List Nat}(ha:bF a)(hb:gi b)(h:a.length<b.length):dv a<dv b:=by
 have h1:=nq ha;have h2:=xK hb (fun e=>by subst e;simp at h);have h3:4294967296^a.length<=4294967296^(b.length-1):=bT m5 m5;omega
def O0: ∀{a b:List Nat},bF a->bF b->a.length=b.length->dv a=dv b->a=b
 |[],[],_,_,_,_=>rfl
 |d::t,e::u,ha,hb,hl,h=>by
  have h1:=ha.head;have h2:=hb.head;simp only[dv] at h;have:d=e:=by omega
  subst this;rw[O0 ha.tail hb.tail (by simpa using hl) m5]
def aEO{a b:List Nat}(ha:bF a)(hb:bF b)(na:gi a)(nb:gi b)(h:dv a=dv b):a=b:=by
 refine O0 ha hb ?_ h;rcases qK a.length b.length with h'|h'|h'
 .have:=zg ha nb h';omega
 .exact h'
 .have:=zg hb na h';omega
def Pt{a b:List Nat}(ha:bF a)(hb:bF b)(i:Nat)(hia:i<a.length)(hib:i<b.length)(hl:a.length=b.length)(hs:a.drop (i+1)=b.drop (i+1))(h:a.getD i 0<b.getD i 0):dv a<dv b:=by
 rw[Ck a (i+1),Ck b (i+1),hs,pE,pE];have h1:=nq (ha.take i);rw[bL,jZ m5] at h1;have h2:4294967296^i*(a.getD i 0+1)<=4294967296^i*b.getD i 0:=gX _ h;rw[fY] at h2;omega
def aFh{ds:List Nat}{k:Nat}(h:gi ds)(hk:dv ds<2^k):32*ds.length<=k+31:=by
 by_cases hne:ds=[]
 .subst hne;simp
 .have h1:=xK h hne
  have h2:(4294967296:Nat)^(ds.length-1)=2^(32*(ds.length-1)):=by
   rw[uX]
  rw[h2] at h1;have h3:2^(32*(ds.length-1))<2^k:=fQ h1 hk;have h4:=(oN (by omega:1<2)).1 h3;have:0<ds.length:=by cases ds with|nil=>exact absurd J hne|cons _ _=>simp
  omega
def dg(x:Nat):List Nat:=if h:x=0 then [] else(x%4294967296)::dg (x/4294967296)
termination_by x
decreasing_by omega
def gE(x:Nat):dv (dg x)=x/\bF (dg x)/\gi (dg x):=by
 induction x using Nat.strongRecOn with
 |_ x ih=>
  unfold dg;split
  .rename_i h;subst h;exact⟨rfl, .nil,by simp[gi]⟩
  .rename_i h
   obtain⟨h1,h2,h3⟩:=ih (x/4294967296) m5;refine⟨by rw[dv,h1];omega, .cons m5 h2,?_⟩;unfold gi at*;rw[List.getLast?_cons]
   cases hl:(dg (x/4294967296)).getLast? with
   |none=>
    have:dg (x/4294967296)=[]:=by simpa using hl
    rw[this] at h1;simp only[Option.getD_none,ne_eq,Option.some.injEq];simp only[dv] at h1;omega
   |some y=>rw[hl] at h3;simpa using h3
def aMZ{ds:List Nat}(h:bF ds)(n:gi ds):dg (dv ds)=ds:=aEO (gE _).2.1 h (gE _).2.2 n (gE _).1
def CE{ds:List Nat}(h:bF ds):dg (dv ds)=trimD ds:=by rw[<-Wa];exact aMZ h.trimD (gi.trimD _)
def xA: ∀(ws:List Nat) (j d:Nat),j<ws.length->dv (ws.set j d)+4294967296^j*ws.getD j 0=dv ws+4294967296^j*d
 |[],j,d,h=>by simp at h
 |w::t,0,d,h=>by simp[dv];omega
 |w::t,j+1,d,h=>by
  have ih:=xA t j d omv;simp only[List.set_cons_succ,dv,jS,iZ];have h1:4294967296^j*4294967296*t.getD j 0=4294967296*(4294967296^j*t.getD j 0):=by rw[cW (4294967296^j),cM]
  have h2:4294967296^j*4294967296*d=4294967296*(4294967296^j*d):=by rw[cW (4294967296^j),cM]
  rw[h1,h2];omega
def xI{ws:List Nat}{k d:Nat}(h:k<ws.length:=by omega):dv ((ws.set k d).take (k+1))=dv (ws.take k)+4294967296^k*d:=by
 rw[jY omv,List.take_set_of_le (bW _),yF];simp[dv,jZ (gU h)]
def Nr(p x:Nat):p*x=p*(x%4294967296)+p*4294967296*(x/4294967296):=by
 have h:p*x=p*(4294967296*(x/4294967296)+x%4294967296):=by rw[rS]
 rw[fY,<-cM] at h;omega
def Y5{p A E W c a b:Nat}(h:W+p*c=A+E):(W+p*((c+a+b)%4294967296))+(p*4294967296)*((c+a+b)/4294967296)=(A+p*a)+(E+p*b):=by
 have h1:=Nr p (c+a+b);rw[fY,fY] at h1;omega
def aKT{p A E W bo b a:Nat}(h:W+E=A+p*bo)(hle:bo+b<=a):(W+p*(a-(bo+b)))+(E+p*b)=(A+p*a)+p*4294967296*0:=by
 have h1:p*a=p*(a-(bo+b))+p*bo+p*b:=by
  rw[<-fY,<-fY];congr 1;omega
 omega
def Xt{p A E W bo b a:Nat}(h:W+E=A+p*bo)(hle:a<bo+b)(hb:bo+b<=a+4294967296):(W+p*(a+4294967296-(bo+b)))+(E+p*b)=(A+p*a)+p*4294967296*1:=by
 have h1:p*a+p*4294967296=p*(a+4294967296-(bo+b))+p*bo+p*b:=by
  rw[<-fY,<-fY,<-fY];congr 1;omega
 omega
def aA2{p W W' T c m w:Nat}(hs:W'+p*w=W+p*((c+m+w)%4294967296))(h:W+p*c=T):W'+(p*4294967296)*((c+m+w)/4294967296)=T+p*m:=by
 have h1:=Nr p (c+m+w);rw[fY,fY] at h1;omega
end Go.Sx
end
section
namespace Go.Sx
open Go
variable {A G:Gh}{s e by_ b:Nat}{es l:List Value}{P:Program}{C:aG}{fr:Fr}{own':List aA}{Φ:Act->World->Prop}{dst:Option Nat}{t t' ty':TypeId}{pos:String}{af:Array Edge}{y:Operand}{k k':IntKind}{i p q:Int}{ds:List Nat}
structure SV where
 a:Option Addr
 n:Nat
 c:Nat
variable {x z:SV}
def SV.v(x:SV):Value:= .slice x.a x.n x.c
structure gH (G:Gh) (s:Nat) (x:SV) (es:List Value):Prop where
 len:x.n=es.length
 cap:x.n<=x.c
 mem:es=[]\/ ∃b off cs,x.a=some ⟨b,off,none⟩/\G b=some cs/\ ∀i (h:i<es.length),dd cs (off+i*s) s=some (aH es[i])
def gH.up'(h:gH A s x es)(k:b9 A G):gH G s x es:=
 ⟨h.len,h.cap,h.mem.imp id (fun⟨b,off,cs,h1,h2,h3⟩=>⟨b,off,cs,h1,k _ _ h2,h3⟩)⟩
def gH.up(h:gH A s x es)[k:GL A G]:gH G s x es:=h.up' k.le
def gH.nil(G:Gh)(s:Nat):gH G s ⟨none,0,0⟩ []:=⟨J,bW _, .inl J⟩
def Es(a:Option Addr)(k:Nat):Option Addr:=a.map (·.add k)
section
variable {n:Nat}{own:List aA}
variable {gd:Option (Nat×Bool)}{x:Operand}
def Yq[hT:cD P t e s by_](hs:gH A s z es)(hx:aE fr x=some (.slice z.a z.n z.c))(hy:aE fr y=some (.int k i))(h0:0<=i)(h1:i<z.n):
  Yd P C fr own G ⟨dst, .indexAddr t x y,ty',pos,af,gd⟩ (.pointer (Es z.a (i.toNat*s))):=by
 rcases hs.mem with h|⟨b,off,cs,ha,hg,hc⟩
 .have:=hs.len;rw[h] at this;simp at this;omega
 .rw[ha] at hx
  have:=wK (P:=P) (C:=C) (own:=own) (G:=G) (t:=t) (dst:=dst) (ty':=ty') (pos:=pos) (af:=af) (gd:=gd) (by_:=by_) hx hy h0 h1;rw[ha];simpa[Es,rH] using this
def YN[hA:lD P t s]{i:Nat}(hs:gH A s z es)[hl:GL A G](hx:aE fr x=some (.pointer (Es z.a (i*s))))(h1:i<es.length)(he:es[i]? =some (.agg ⟨l⟩)):
  Yd P C fr own G ⟨dst, .load t x,ty',pos,af,gd⟩ (.agg ⟨l⟩):=by
 rcases hs.mem with h|⟨b,off,cs,ha,hg,hc⟩
 .rw[h] at h1;simp at h1
 .rw[ha] at hx
  have h2:=hc i h1;rw[aZ h1] at he;have he':es[i]= .agg ⟨l⟩:=by simpa using he
  rw[he'] at h2;exact DS (by simpa[Es,rH] using hx) (hl.le _ _ hg) h2
end
def dI(d:Nat):Value:= .int .u32 (d:Int)
structure ou (G:Gh) (x:SV) (ds:List Nat):Prop where
 ok:bF ds
 sl:gH G 1 x (ds.map dI)
def ou.len{G:Gh}{x:SV}{ds:List Nat}(h:ou G x ds):x.n=ds.length:=by simpa using h.sl.len
def ou.up{A G:Gh}{x:SV}{ds:List Nat}(h:ou A x ds)[k:GL A G]:ou G x ds:=⟨h.ok,h.sl.up⟩
def ou.nil(G:Gh):ou G ⟨none,0,0⟩ []:=⟨.nil, .nil G 1⟩
def ou.of_block{c k:Nat}{cs:List Value}(ok:bF ds)(hg:G b=some cs)(hk:k=ds.length)(hc:k<=c)(hcs:cs.take ds.length=ds.map dI):ou G ⟨some ⟨b,0,none⟩,k,c⟩ ds:=by
 refine⟨ok,by simpa using hk,hc, .inr ⟨b,0,cs,J,hg,fun i hi=>?_⟩⟩;have hi':i<ds.length:=by simpa using hi
 have hl:ds.length<=cs.length:=by
  have:=congrArg List.length hcs;simp at this;omega
 rw[l5 _ _ _ m5];congr 1;have h1:(cs.take ds.length)[i]? =(ds.map dI)[i]? :=by rw[hcs]
 rw[pS,if_pos hi',cZ,aZ hi',aZ m5] at h1;have h2:cs[i]=dI ds[i]:=by simpa using h1
 rw[eM,jT,bV m5,pX,uQ,h2,qL];rfl
structure Bv (k:Nat) (G:Gh) (x:SV) (v:Nat):Prop where
 d:ou G x (dg v)
 lt:v<2^k
def Bv.up{k:Nat}{A G:Gh}{x:SV}{v:Nat}(h:Bv k A x v)[GL A G]:Bv k G x v:=⟨h.d.up,h.lt⟩
section
variable {n:Nat}{own:List aA}
variable {gd:Option (Nat×Bool)}{x:Operand}
def aMG(h:ou A z ds)[hl:GL A G]:nI P C own G 1 z.n (.slice z.a z.n z.c) (ds.map dI):=by
 intro w hw;by_cases hne:ds=[]
 .rw[h.len]
  subst hne;exact wi w hw
 rcases h.sl.mem with h0|⟨b,off,cs,ha,hg,hc⟩
 .exact absurd (by simpa using h0) hne
 .rw[ha]
  have hn:=h.len;refine M6 (hl.le _ _ hg) ?_ w hw;rw[jT];have hel: ∀i,i<ds.length->cs[off+i]? =some (dI (ds.getD i 0)):=fun i hi=>by
   have h1:=hc i omI;obtain⟨_,h2⟩:=rE _ _ _ _ h1;have h3:=h2 0 m5;rw[jT,gQ] at h3;rw[h3,qL,aK,aZ hi];rfl
  by_cases h00:ds.length=0
  .exact absurd h00 (fun e=>hne (cJ e))
  .have hlast:=hel (ds.length-1) m5
   have hle:off+ds.length<=cs.length:=by
    have:=(aS.1 hlast).1;omega
   rw[hn,l5 _ _ _ hle];congr 1;apply kL;intro i;rw[pS];split
   .rename_i hi
    rw[mQ,hel i hi,cZ,aK,aZ hi];rfl
   .rename_i hi
    rw[dR omI]
def wq[hT:cD P t e s by_]{len cap:Nat}(hx:aE fr x=some (.slice (some ⟨b,0,none⟩) len cap))(hy:aE fr y=some (.int k i))(h0:0<=i:=by omega)(h1:i<len:=by omega):
  Yd P C fr own G ⟨dst, .indexAddr t x y,ty',pos,af,gd⟩ (.pointer (some ⟨b,i.toNat*s,none⟩)):=by
 have:=wK (P:=P) (C:=C) (own:=own) (G:=G) (t:=t) (dst:=dst) (ty':=ty') (pos:=pos) (af:=af) (gd:=gd) (by_:=by_) hx hy h0 h1;rwa [eM] at this
def xp(hx:aE fr x=some (.int .i64 p))(hy:aE fr y=some (.int .i64 q))(h0: -9223372036854775808<=p+q:=by omega)(h1:p+q<=9223372036854775807:=by omega):Yd P C fr own G ⟨dst, .binOp .add t x y t',ty',pos,af,gd⟩ (.int .i64 (p+q)):=T1 hx hy ⟨h0,h1⟩
def ZU(hx:aE fr x=some (.int .i64 p))(hy:aE fr y=some (.int .i64 q))(h0: -9223372036854775808<=p-q:=by omega)(h1:p-q<=9223372036854775807:=by omega):Yd P C fr own G ⟨dst, .binOp .sub t x y t',ty',pos,af,gd⟩ (.int .i64 (p-q)):=Qy hx hy ⟨h0,h1⟩
def aI4(hx:aE fr x=some (.int k p))(hy:aE fr y=some (.int k' q))(h0:0<=q):Yd P C fr own G ⟨dst, .binOp .shr t x y t',ty',pos,af,gd⟩ (.int k (p.fdiv (2^min q.toNat k.bits))):=by
 intro a w hf hh;simp only[execOp,bC hf hx,bC hf hy];have h1:(eqGuard .shr t x y (.int k p) (.int k' q)).run P w= .ok () w:=J;have h2:(binOp .shr t (.int k p) (.int k' q)).run P w= .ok (.int k (p.fdiv (2^min q.toNat k.bits))) w:=by
  simp[binOp,Op.shift,Int.not_lt.2 h0,run_pure]
 exact dq (by rw[bh h1];exact h2)
def aJn(hx:aE fr x=some (.int k p))(hy:aE fr y=some (.int k' q))(h0:0<=q):Yd P C fr own G ⟨dst, .binOp .shl t x y t',ty',pos,af,gd⟩ (.int k (k.wrap (p*2^min q.toNat k.bits))):=by
 intro a w hf hh;simp only[execOp,bC hf hx,bC hf hy];have h1:(eqGuard .shl t x y (.int k p) (.int k' q)).run P w= .ok () w:=J;have h2:(binOp .shl t (.int k p) (.int k' q)).run P w= .ok (.int k (k.wrap (p*2^min q.toNat k.bits))) w:=by
  simp[binOp,Op.shift,Int.not_lt.2 h0,run_pure]
 exact dq (by rw[bh h1];exact h2)
def u'(p:Int):IntKind.u32.wrap p=p%4294967296:=by simp[IntKind.wrap,IntKind.bits,IntKind.signed]
def sD(p:Int):IntKind.u64.wrap p=p%18446744073709551616:=by simp[IntKind.wrap,IntKind.bits,IntKind.signed]
def aB3[hs:xY P t k][hd:xY P t' .u32](hx:aE fr x=some (.int k p)):Yd P C fr own G ⟨dst, .convert t t' x,ty',pos,af,gd⟩ (.int .u32 (p%4294967296)):=by
 have:=El (P:=P) (C:=C) (own:=own) (G:=G) (dst:=dst) (ty':=ty') (pos:=pos) (af:=af) (gd:=gd) (t:=t) (t':=t') hx;rwa [u'] at this
def Xl(hx:aE fr x=some (.int k p))(hy:aE fr y=some (.int k q))(h0:0<=p)(h:q≠0):Yd P C fr own G ⟨dst, .binOp .rem t x y t',ty',pos,af,gd⟩ (.int k (p%q)):=by
 have:=UV (P:=P) (C:=C) (own:=own) (G:=G) (dst:=dst) (ty':=ty') (pos:=pos) (af:=af) (gd:=gd) (t:=t) (t':=t') hx hy h;rwa [Int.tmod_eq_emod_of_nonneg h0] at this
def aES(hx:aE fr x=some (.int .u64 p))(hy:aE fr y=some (.int .u64 q))(h0:0<=p)(h1:p<=18446744073709551615)(h:0<q):Yd P C fr own G ⟨dst, .binOp .quo t x y t',ty',pos,af,gd⟩ (.int .u64 (p/q)):=by
 have:=U8 (P:=P) (C:=C) (own:=own) (G:=G) (dst:=dst) (ty':=ty') (pos:=pos) (af:=af) (gd:=gd) (t:=t) (t':=t') hx hy m5;rw[Int.tdiv_eq_ediv_of_nonneg h0,sD,Int.emod_eq_of_lt (Int.ediv_nonneg h0 m5) (by have:=Int.ediv_le_self q h0;omega)] at this;exact this
def Pd{Q:Exit->Act->World->Prop}{p:Prop}{inst:Decidable p}{c:Operand}{x y:Code}(hc:aE fr c=some (.bool (@decide p inst)))(h2: ¬p->St C n fr own G (y.wp P Q))(h1:p->St C n fr own G (x.wp P Q)):
  St C n fr own G ((Code.cond c x y).wp P Q):=w5 hc h1 h2
end
end Go.Sx
end
section
namespace Go.Sx
open Go Go.Proofs Tryz
def aFC(ds:List Nat): ∀v∈ds.map dI,flat v=true:=fun v hv=>by
 obtain⟨d,_,rfl⟩:=aT.1 hv;rfl
def ax5{A G:Gh}{x:SV}{ds:List Nat}(hx:ou A x ds)[GL A G](hb:ds.length<=1125899906842):Fn prog 250 [x.v] G (fun v G'=> ∃z:SV,v=z.v/\ou G' z ds):=by
 have hlen:=hx.len;refine Fn.intro func250 J J ntmps250 J ?_;intro C _ _;refine sR<|sa J J<|zE<|gh<|sR<|sm J J<|sy (PA J J) J<|zE<|?_;refine aBq J (fun hc=>?_) (fun hc=>?_)
 .refine sR<|sa J J<|zE<|ml<|?_
  refine zD (.tmp J .nil) ⟨⟨none,0,0⟩,J,?_⟩;rcases hx.sl.mem with h|⟨b,off,cs,ha,_⟩
  .have:ds=[]:=by simpa using h
   subst this;exact .nil _
  .rw[ha] at hc;cases hc
 refine zK<|sR<|?_;refine sc (N2 J ?_);intro b1;refine sm J J<|?_;refine sc (RA (xs:=[]) (rest:=[]) (ys:=ds.map dI) J J (.hd ..) J J (bW _) (aMG hx) (by simp[hlen]) (aFC ds) pb m5 J J ?_);intro b cap rest h1 h2;refine sa J J<|zE<|Ay b (.hd ..) (fun G' _ hgb=>?_);refine ml<|?_;refine zD (.tmp J .nil) ⟨⟨some ⟨b,0,none⟩,x.n,cap⟩,by simp[p9,SV.v],?_⟩;exact .of_block hx.ok hgb.h hlen m5 vb
end Go.Sx
end
section
namespace Go.Proofs
open Go.Shelf
def Tryz.lays133_ren:Go.Shelf.Ren:=⟨fun|133=>251|128=>293|n=>n,fun|51=>225|3=>3|4=>4|46=>226|5=>5|9=>9|n=>n,fun|n=>n⟩
def Tryz.lays133:Go.Proofs.Lays.n133 Tryz.prog Tryz.lays133_ren:={
 mixed:=by kernel_rfl
 f128:=Tryz.func293.trans (congrArg some (by kernel_rfl))
 f133:=Tryz.func251.trans (congrArg some (by kernel_rfl))
 t3:=Tryz.underlying3
 a3:=Tryz.isAgg3
 z3:=Tryz.sizeOf3
 v3:=Tryz.zeroValue3
 t4:=Tryz.underlying4
 a4:=Tryz.isAgg4
 z4:=Tryz.sizeOf4
 v4:=Tryz.zeroValue4
 t5:=Tryz.underlying5
 a5:=Tryz.isAgg5
 z5:=Tryz.sizeOf5
 v5:=Tryz.zeroValue5
 t9:=Tryz.underlying9
 a9:=Tryz.isAgg9
 z9:=Tryz.sizeOf9
 v9:=Tryz.zeroValue9
 t46:=Tryz.underlying226
 a46:=Tryz.isAgg226
 z46:=Tryz.sizeOf226
 v46:=Tryz.zeroValue226
 t51:=Tryz.underlying225
 a51:=Tryz.isAgg225
 z51:=Tryz.sizeOf225
 v51:=Tryz.zeroValue225}
def Tryz.bits_LeadingZeros32(x:Int)(w:World)(h0:0<=x)(h1:x<=4294967295):
  Calls Tryz.prog 251 #[.int .u32 x] w fun e w'=>e= .returned (.int .i64 (32-(Lib.bitLen x.toNat:Int)))/\w'=w:=Any.bits_LeadingZeros32 Tryz.lays133 x w h0 h1
open Go.Lib in
open Go.Lib in
open Go.Lib in
open Go.Lib in
open Go.RowKit Go.Sort Go.Lib in
open Go.RowKit Go.Sort Go.Lib in
open Go.RowKit Go.Sort Go.Lib in
open Go.RowKit Go.Sort Go.Lib in
open Go.RowKit Go.Sort Go.Lib in
open Go.RowKit Go.Sort Go.Lib in
open Go.RowKit Go.Sort Go.Lib in
def Tryz.lays264_ren:Go.Shelf.Ren:=⟨fun|264=>178|n=>n,fun|53=>224|46=>226|n=>n,fun|n=>n⟩
def Tryz.lays264:Go.Proofs.Lays.n264 Tryz.prog Tryz.lays264_ren:={
 mixed:=by kernel_rfl
 f264:=Tryz.func178.trans (congrArg some (by kernel_rfl))
 t46:=Tryz.underlying226
 a46:=Tryz.isAgg226
 z46:=Tryz.sizeOf226
 v46:=Tryz.zeroValue226
 t53:=Tryz.underlying224
 a53:=Tryz.isAgg224
 z53:=Tryz.sizeOf224
 v53:=Tryz.zeroValue224}
open Go.RowKit Go.Lib in
def Tryz.bits_Mul64(x y:Nat)(hx:x<18446744073709551616)(hy:y<18446744073709551616)(w:World):
  Calls Tryz.prog 178 #[.int .u64 x, .int .u64 y] w fun e w'=>e= .returned (.tuple #[.int .u64 ((x*y/18446744073709551616:Nat):Int), .int .u64 ((x*y%18446744073709551616:Nat):Int)])/\w'=w:=Any.bits_Mul64 Tryz.lays264 x y hx hy w
end Go.Proofs
end
section
namespace Go.Sx
open Go Go.Proofs Tryz
variable {x k n:Nat}{P:Program}{G:Gh}{q:Int}
def bl(x:Nat):Nat:=if x=0 then 0 else Nat.log2 x+1
def Ew(x:Nat):x<2^bl x:=by
 unfold bl;split
 .rename_i h;subst h;decide
 .exact Nat.lt_log2_self
def qb{x k:Nat}:bl x<=k↔x<2^k:=by
 constructor
 .intro h;exact cN (Ew x) (bT m5 h)
 .intro h
  unfold bl;split
  .omega
  .rename_i h0
   have:=(Nat.log2_lt h0).2 h;omega
def ZZ(h:x≠0):bl x=1+bl (x/2):=by
 have h1: ∀k,bl x<=k+1↔bl (x/2)<=k:=fun k=>by
  rw[qb,qb,iZ];omega
 have h2:bl x≠0:=fun e=>by
  have:=Ew x;rw[e] at this;simp at this;exact h this
 have h3:=(h1 (bl (x/2))).2 (bW _);have h4:=(h1 (bl x-1)).1 m5;omega
def OM: ∀(f x:Nat),x<2^f->Lib.bitLenAux f x=bl x
 |0,x,h=>by
  have:x=0:=by simpa using h
  subst this;rfl
 |f+1,x,h=>by
  unfold Lib.bitLenAux;split
  .rename_i h0;subst h0;rfl
  .rename_i h0
   rw[OM f (x/2) (by rw[iZ] at h;omega),ZZ h0]
def ayt(h:x<2^64):Lib.bitLen x=bl x:=OM 64 x h
def aB0(d:Nat)(h:x<2^k)(hd:d≠0):bl (x+2^k*d)=k+bl d:=by
 have h1: ∀j,bl (x+2^k*d)<=k+j↔bl d<=j:=fun j=>by
  rw[qb,qb,fU];constructor
  .intro h'
   exact Nat.lt_of_mul_lt_mul_left (a:=2^k) m5
  .intro h'
   have:2^k*(d+1)<=2^k*2^j:=gX _ h';rw[fY] at this;omega
 have h2:k<bl (x+2^k*d):=by
  rcases jR k (bl (x+2^k*d)) with h'|h'
  .exact h'
  .have:=qb.1 h'
   have h3:2^k*1<=2^k*d:=gX _ m5;omega
 have h3:=(h1 (bl d)).2 (bW _);have h4:=(h1 (bl (x+2^k*d)-k)).1 m5;omega
def aL9{ds:List Nat}(h:bF ds)(hn:gi ds)(hne:ds≠[]):bl (dv ds)=32*(ds.length-1)+bl (ds.getD (ds.length-1) 0):=by
 rcases oV ds with rfl|⟨l,d,rfl⟩
 .exact absurd J hne
 .rw[oW] at*
  have hd:d≠0:=fun e=>by subst e;simp[gi] at hn
  have hl:bF l:=fun x hx=>h x (bJ _ hx);have h1:=nq hl;rw[yF];have h2:(4294967296:Nat)^l.length=2^(32*l.length):=by rw[uX]
  rw[h2] at h1⊢;have h3:dv [d]=d:=by simp[dv]
  rw[h3,aB0 d h1 hd];have h4:(l++[d]).length-1=l.length:=by simp
  rw[h4,aK,fN (bW _)];simp
def UE{f:FuncId}{fn:Func}{c:Code}(h:P.funcs[f]? =some fn)(hb:fn.body=some c)(hn:(fn.name== "runtime.NumGoroutine")=false):rC P f:=⟨fn,h,hn,by rw[hb];rfl⟩
def aw9(hx:x<4294967296):Fn prog 251 [.int .u32 (x:Int)] G (fun v _=>v= .int .i64 (32-(bl x:Int))):=by
 have h:=Fn.of_calls (G:=G) (UE func251 J J) (fun w=>Tryz.bits_LeadingZeros32 (x:Int) w m5 m5);rw[cX,ayt (tM hx pb)] at h;exact h
def jy(a b:Nat):Int:=if a<b then-1 else if a=b then 0 else 1


def rj(d k:Nat)(hk:k<64)(h:d*2^k<18446744073709551616)(hq:q.toNat=k:=by omega):IntKind.u64.wrap ((d:Int)*2^min q.toNat IntKind.u64.bits)=((d*2^k:Nat):Int):=by
 rw[hq,jZ (by show k<=64;omega),sD];have e2:(d:Int)*2^k=((d*2^k:Nat):Int):=by push_cast;rfl
 rw[e2];omega
def Vb(d k:Nat)(hk:k<64:=by omega)(hq:q.toNat=k:=by omega):(d:Int).fdiv (2^min q.toNat IntKind.u64.bits)=((d/2^k:Nat):Int):=by
 rw[hq,jZ (by show k<=64;omega),lQ _ (qM (Int.pow_pos pb))];push_cast;rfl
section
variable {C:aG}{fr:Fr}{own:List aA}{dst:Option Nat}{t t1 t2 ty':TypeId}{pos:String}{af:Array Edge}{gd:Option (Nat×Bool)}{x y:Operand}
end
end Go.Sx
end
section
namespace Go.Sx
def ya(i:Nat):(4294967296:Nat)^(i+1)=4294967296^i*4294967296:=iZ ..
def aEQ{U p V T S first third:Nat}(hU:U<(first*4294967296+third+1)*p)(h3:third<4294967296)(hV:(T*4294967296+S)*p<=V)(hT:0<T):
  U<(first/T+1)*V:=by
 have h1:first+1<=(first/T+1)*T:=by
  have:=Nat.lt_mul_div_succ first hT
  rw[cW];omega
 calc U<(first*4294967296+third+1)*p:=hU
  _<=((first+1)*4294967296)*p:=bS _ m5
  _<=(((first/T+1)*T)*4294967296)*p:=bS _ (bS _ h1)
  _=(first/T+1)*((T*4294967296)*p):=by rw[cM (first/T+1),cM (first/T+1)]
  _<=(first/T+1)*V:=gX _ (dZ (bS _ (pY _ _)) hV)
def aN3{U p V T S first third v0:Nat}(hU:(first*4294967296+third)*p<=U)(hV:V=(T*4294967296+S)*p+v0)(hv:v0<p)(hlt:U<V*4294967296):first<=T*4294967296+S:=by
 rcases jR (T*4294967296+S) first with h|h
 .exfalso
  have h1:(T*4294967296+S+1)*p<=first*p:=bS p h
  rw[dV _ 1,nM] at h1;rw[dV,oZ] at hU;have:0<=third*p:=bK _;omega
 .exact h
def JF{U p V T S first third g r:Nat}(hU:U<(first*4294967296+third+1)*p)(hV:(T*4294967296+S)*p<=V)(hg:first=g*T+r)(hc:r*4294967296+third<g*S:=by omega):U<g*V:=by
 refine cN hU (dZ (bS p (m:=g*(T*4294967296+S)) ?_) ?_)
 .rw[fY,<-cM,hg,dV];omega
 .rw[cM];exact gX _ hV
def Hn{U p V T S first third g r v0:Nat}(hU:(first*4294967296+third)*p<=U)(hV:V=(T*4294967296+S)*p+v0)(hv:v0<p)(hT:0<T)(hg:first=g*T+r)(hgB:g<4294967296)(hc:g*S<=r*4294967296+third):g*V<U+V:=by
 have h1:g*((T*4294967296+S)*p)<=U:=by
  rw[<-cM];refine dZ (bS p ?_) hU;rw[fY,<-cM,hg,dV];omega
 have h2:g*v0<=4294967295*v0:=bS _ m5;have h3:4294967296*p<=V:=by
  rw[hV];refine dZ (bS p ?_) (pY _ _);omega
 have h4:g*V=g*((T*4294967296+S)*p)+g*v0:=by rw[<-fY,<-hV]
 omega
def Zx{U V R g:Nat}(h:U<(g+1)*V)(hr:R+g*V=U):R<V:=by
 rw[dV,nM] at h;omega
def aEC{U V R R' g w M:Nat}(h2:g*V<U+V)(hr:R+g*V=U+M)(hb:R'+w*M=R+V)(hR:R<M)(hR':R'<M)(hw:w<=1)(hg:0<g):R'+(g-1)*V=U/\R'<V:=by
 have hgv:g*V=(g-1)*V+V:=by
  conv=>lhs;rw[show g=(g-1)+1 by omega,dV,nM]
 have:w=1:=by
  rcases jR w 1 with h|h
  .have:w=0:=by omega
   subst this;omega
  .omega
 subst this;omega
def zA(us:List Nat)(i:Nat):dv (us.drop i)=us.getD i 0+4294967296*dv (us.drop (i+1)):=by
 rcases jR i us.length with h|h
 .rw[bV h];simp[dv,List.getD,aZ h]
 .rw[iL h,iL m5]
  simp[dv,dR h,List.getD]
def yc(us:List Nat)(i:Nat):dv us=dv (us.take i)+4294967296^i*dv (us.drop i):=by
 rcases jR us.length i with h|h
 .rw[bM m5,iL m5];simp[dv]
 .exact Ck us i h
def C8{us:List Nat}(h:bF us)(i:Nat):dv (us.take i)<4294967296^i:=by
 refine cN (nq (h.take i)) (bT pb ?_);simp[bL];omega
def A1{us:List Nat}{i:Nat}(hd:dv us<4294967296^i):dv (us.drop i)=0:=by
 have h:=yc us i;rcases fW (dv (us.drop i)) with h0|h0
 .exact h0
 .have:=gX (4294967296^i) h0
  omega
def aGR{W W' U E p u x bo b c c1 g d:Nat}(hs:W'+p*u=W+p*x)(hw:W+E=U+(bo+c)*p)(hc:c1=c+g*d)(hx:x+(c1%4294967296+bo)=u+b*4294967296):
  W'+(E+g*d*p)=U+(b+c1/4294967296)*(p*4294967296):=by
 have h1:=congrArg (p* ·) hx;simp only[fY] at h1;have h2:p*c1=p*(c1%4294967296)+p*(c1/4294967296)*4294967296:=by
  rw[cM,<-fY,Nat.mod_add_div']
 have h3:p*c1=p*c+p*(g*d):=by rw[hc,fY]
 rw[dV,cW bo,cW c] at hw;rw[cW (g*d),dV,<-cM b,<-cM (c1/4294967296),cW b,cW (c1/4294967296)];rw[<-cM] at h1;omega
def Vx{W W' U E p u x bo b c:Nat}(hs:W'+p*u=W+p*x)(hw:W+E=U+(bo+c)*p)(hx:x+(c+bo)=u+b*4294967296):W'+E=U+b*(p*4294967296):=by
 have h1:=congrArg (p* ·) hx;simp only[fY] at h1;rw[dV,cW bo,cW c] at hw;rw[<-cM b,cW b];rw[<-cM] at h1;omega
def aGh{W W' R E p u d c:Nat}(hs:W'+p*u=W+p*((c+(u+d))%4294967296))(hw:W+c*p=R+E):W'+(c+(u+d))/4294967296*(p*4294967296)=R+(E+d*p):=by
 have h2:p*(c+(u+d))=p*((c+(u+d))%4294967296)+p*((c+(u+d))/4294967296)*4294967296:=by
  rw[cM,<-fY,Nat.mod_add_div']
 rw[fY p c,fY p u] at h2;rw[cW c] at hw;rw[cW d,<-cM,cW _ p];omega
def Wp{W W' R p u c:Nat}(hs:W'+p*u=W+p*((u+c)%4294967296))(hw:W+c*p=R):W'+(u+c)/4294967296*(p*4294967296)=R:=by
 have h2:p*(u+c)=p*((u+c)%4294967296)+p*((u+c)/4294967296)*4294967296:=by
  rw[cM,<-fY,Nat.mod_add_div']
 rw[fY p u] at h2;rw[cW c] at hw;rw[<-cM,cW _ p];omega
def aL2{us:List Nat}(h:bF us)(i:Nat)(hd:dv us<4294967296^(i+3)):
  dv us=((us.getD (i+2) 0*4294967296+us.getD (i+1) 0)*4294967296+us.getD i 0)*4294967296^i+dv (us.take i):=by
 have h0:=A1 hd;rw[yc us i,zA us i,zA us (i+1),zA us (i+2),h0,lK,cW];congr 2;omega
def aMM{us:List Nat}(h:bF us)(i:Nat)(hd:dv us<4294967296^(i+2)):
  dv us=(us.getD (i+1) 0*4294967296+us.getD i 0)*4294967296^i+dv (us.take i):=by
 have h0:=A1 hd;rw[yc us i,zA us i,zA us (i+1),h0,lK,cW];congr 2;omega
def FL{us:List Nat}{k i d:Nat}(h:bF us)(hd:d<4294967296)(hk:dv us<4294967296^k)(hi:i<k:=by omega):dv (us.set i d)<4294967296^k:=by
 rw[yc _ k,List.drop_set,if_pos hi,A1 hk,tL,gQ];exact C8 (h.set i hd) k
end Go.Sx
end
section
namespace Go.Sx
open Go Go.Proofs

end Go.Sx
end
section
namespace Go.Sx
open Go
section
variable {P:Program}{C:aG}{n:Nat}{fr:Fr}{own:List aA}{G:Gh}
def M':Exit->Bool
 | .goto _=>false
 |_=>true
end
end Go.Sx
end
section
namespace Go.Sx
open Go Go.Proofs Tryz
variable {V t s u k g e x y:Nat}
def aI7{n:Nat}(h1:4294967296^(n-1)<=V)(h2:V<4294967296^n)(hn:0<n):(dg V).length=n:=by
 obtain⟨e,hk,hr⟩:=gE V;have hne:dg V≠[]:=fun h=>by
  rw[h] at e;have:0<4294967296^(n-1):=gW pb;simp[dv] at e;omega
 have h3:=xK hr hne;have h4:=nq hk;rw[e] at h3 h4;have h5:=(oN (a:=4294967296) pb).1 (fQ h3 h2);have h6:=(oN (a:=4294967296) pb).1 (fQ h1 h4);omega
def ayl(h0:0<t)(ht:t<4294967296)(hs:s=32-bl t):s<32/\2147483648<=t*2^s/\(t+1)*2^s<=4294967296:=by
 have h1:bl t<=32:=qb.2 ht;have h2:bl t≠0:=fun h=>by
  have:=Ew t;rw[h] at this;omega
 have h3:=Ew t;have h4: ¬t<2^(bl t-1):=fun h=>by
  have:=qb.2 h;omega
 have e1:2^(bl t-1)*2^s=2147483648:=by rw[<-fU,show bl t-1+s=31 by omega]
 have e2:2^bl t*2^s=4294967296:=by rw[<-fU,show bl t+s=32 by omega]
 refine⟨m5,?_,?_⟩
 .rw[<-e1];exact bS _ m5
 .rw[<-e2];exact bS _ h3
def aLN{us:List Nat}(h:bF us)(i:Nat)(hd:us.length=i+1):dv us=us.getD i 0*4294967296^i+dv (us.take i):=by
 have h0:dv (us.drop (i+1))=0:=by rw[iL m5];rfl
 rw[yc us i,zA us i,h0,lK,cW];rfl
def NP{b:List Nat}(h:gi b)(i:Nat)(hi:b.length=i+1):0<b.getD i 0:=by
 rcases fW (b.getD i 0) with h0|h0
 .exfalso
  apply h;rw[oY,hi,show i+1-1=i from J];rw[List.getD,aZ m5] at h0;rw[aZ m5];simpa using h0
 .exact h0
def Y'(a:List Nat)(k:Nat):dv (a++List.replicate k 0)=dv a:=by rw[yF,zc];simp
def vD(u m bo:Nat):Nat:=if m+bo<=u then u-(m+bo) else u+18446744073709551616-(m+bo)
def Dt(u m bo:Nat)(hu:u<4294967296)(hm:m<4294967296)(hb:bo<=1):IntKind.u64.wrap (IntKind.u64.wrap ((u:Int)-(m:Int))-(bo:Int))=((vD u m bo:Nat):Int):=by
 rw[sD,sD];unfold vD;split<;>omega
def P3(u m bo:Nat)(hu:u<4294967296)(hm:m<4294967296)(hb:bo<=1):vD u m bo%4294967296+(m+bo)=u+vD u m bo/9223372036854775808*4294967296/\vD u m bo/9223372036854775808<=1/\vD u m bo<18446744073709551616:=by
 unfold vD;split<;>omega
def lx(h:u<2^k):32*(dg u).length<=k+31:=aFh (gE u).2.2 (by rw[(gE u).1];exact h)
structure IV where
 neg:Bool
 a:SV
def IV.v(z:IV):Value:= .agg ⟨[.bool z.neg, .slice z.a.a z.a.n z.a.c]⟩
def zv(neg:Bool)(u:Nat):Int:=if neg then-(u:Int) else u
def sC(neg:Bool)(u:Nat):(zv neg u).natAbs=u:=by cases neg<;>simp[zv]
def aIG(neg:Bool)(u:Nat):zv (!neg) u= -zv neg u:=by cases neg<;>simp[zv]
def T5(n m:Bool)(u w:Nat):zv (n !=m) (u*w)=zv n u*zv m w:=by cases n<;>cases m<;>simp[zv,Int.neg_mul,Int.mul_neg]
def Ml(neg:Bool)(u:Nat):decide (zv neg u<0)=(neg&&decide (0<u)):=by
 cases neg<;>simp[zv]
def mF(m:Int):zv (decide (m<0)) m.natAbs=m:=by
 unfold zv;by_cases h:m<0<;>simp[h]<;>omega
structure ru (k:Nat) (G:Gh) (z:IV) (m:Int):Prop where
 neg:z.neg=decide (m<0)
 abs:Bv k G z.a m.natAbs
def ru.up{k:Nat}{A G:Gh}{z:IV}{m:Int}(h:ru k A z m)[GL A G]:ru k G z m:=⟨h.neg,h.abs.up⟩
def W8(n:Bool)(u w:Nat):zv n (u+w)=zv n u+zv n w:=by cases n<;>simp[zv]<;>omega
def Gw(p:Int):IntKind.i64.wrap p=(p+9223372036854775808)%18446744073709551616-9223372036854775808:=by
 have e:IntKind.i64.wrap p=if(true&&decide (p%2^64>=2^(64-1)))=true then p%2^64-2^64 else p%2^64:=J
 rw[e,show(2:Int)^64=18446744073709551616 by decide,show(2:Int)^(64-1)=9223372036854775808 by decide,tX];by_cases h:p%18446744073709551616>=9223372036854775808
 .rw[decide_eq_true h,if_pos J];omega
 .rw[decide_eq_false h,if_neg pb];omega
structure RV where
 n:Int
 d:Int
 p:Option Addr
def RV.v(z:RV):Value:= .agg ⟨[.int .i64 z.n, .int .i64 z.d, .pointer z.p]⟩
def aHO{neg:Bool}(h:g∣u):zv neg (u/g)=zv neg u/(g:Int):=by
 cases neg
 .simp[zv]
 .simp only[zv,if_true]
  rw[Int.neg_ediv_of_dvd (sZ.2 h),sN]
def MH{m:Int}(he:0<e):(mkRat m e).num=m/((Nat.gcd m.natAbs e:Nat):Int)/\(mkRat m e).den=e/Nat.gcd m.natAbs e:=by
 rw[Rat.num_mkRat,Rat.den_mkRat,if_neg m5,if_neg m5,jL];exact⟨J,J⟩
def Z6:(((bl x:Nat):Int)<=62)↔x<4611686018427387904:=by
 have:bl x<=62↔x<2^62:=qb;omega

def aqO{G:Gh}(hx:x<18446744073709551616)(hy:y<18446744073709551616):Fn prog 178 [.int .u64 (x:Nat), .int .u64 (y:Nat)] G (fun v _=>v= .tuple #[.int .u64 ((x*y/18446744073709551616:Nat):Int), .int .u64 ((x*y%18446744073709551616:Nat):Int)]):=
 Fn.of_calls (G:=G) (UE func178 J J) (fun w=>Tryz.bits_Mul64 x y hx hy w)
def TW(a b:Int):a*b=if(a<0)↔(b<0) then((a.natAbs*b.natAbs:Nat):Int) else-((a.natAbs*b.natAbs:Nat):Int):=by
 rcases(by omega:a<0\/0<=a) with h|h<;>rcases(by omega:b<0\/0<=b) with h2|h2
 .rw[if_pos (by simp[h,h2]),jQ,mW (qM h),mW (qM h2),Int.neg_mul_neg]
 .rw[if_neg (by simp[h];omega),jQ,mW (qM h),oS h2,Int.neg_mul,Int.neg_neg]
 .rw[if_neg (by simp[h2];omega),jQ,oS h,mW (qM h2),Int.mul_neg,Int.neg_neg]
 .rw[if_pos (by constructor<;>intro<;>omega),jQ,oS h,oS h2]
def Y1{p:Int}(h:p.natAbs<9223372036854775808):IntKind.i64.wrap p=p:=by rw[Gw];omega

end Go.Sx
end
