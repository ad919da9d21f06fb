import Derived.Test.YtefoocgiaegobaaGreatDoorPi1
import Derived.Scope
set_option linter.all false
set_option maxRecDepth 100000
section
namespace Go.Sx
open Go
def PC{P:Program}{t:TypeId}{d:TypeDesc}(h:P.underlying t=some d)(w:World):(underlying t).run P w= .ok d w:=by
 simp[underlying,program,Sem.run_bind,Sem.run,h,run_pure]
class F0 (P:Program) (t:TypeId):Prop where u: ∀w,(underlying t).run P w= .ok .bool w
class Gm (P:Program) (t:TypeId):Prop where u: ∃e,∀w,(underlying t).run P w= .ok (.pointer e) w
class He (P:Program) (t:TypeId):Prop where u: ∃ms,∀w,(underlying t).run P w= .ok (.interface ms) w
class Fq (P:Program) (t:TypeId) (f:Nat) (off ft:outParam Nat):Prop where
 u: ∃fs fd,(∀w,(underlying t).run P w= .ok (.struct fs) w)/\fs[f]? =some fd/\fd.offset=off/\fd.type=ft
class jO (P:Program) (t:TypeId):Prop where
 un: ∃e,P.underlying t=some (.slice e)
section
variable {P:Program} {C:aD} {n:Nat} {fr:Fr} {own own':List ao} {G:Gh} {Φ:Act->World->Prop}
variable {dst:Option Nat} {t t' ty':TypeId} {pos:String} {af:Array Edge} {gd:Option (Nat×Bool)} {x y:Operand}
def qo{w:World}{p q:Value}{b:Bool}(h:(Op.equalIn (9999+1) t p q).run P w= .ok b w):(Op.equal t p q).run P w= .ok b w:=h
def VW[hT:F0 P t]{p q:Bool}(hx:aw fr x=some (.bool p))(hy:aw fr y=some (.bool q)):Yd P C fr own G ⟨dst, .binOp .eql t x y t',ty',pos,af,gd⟩ (.bool (p==q)):=by
 intro a w hf hh;simp only[execOp,bi hf hx,bi hf hy];have h1:(Op.equal t (.bool p) (.bool q)).run P w= .ok (p==q) w:=qo (by unfold Op.equalIn;rw[ba (hT.u w)];rfl);have h2:(eqGuard .eql t x y (.bool p) (.bool q)).run P w= .ok () w:=J;have h3:(binOp .eql t (.bool p) (.bool q)).run P w= .ok (.bool (p==q)) w:=by simp only[binOp];rw[ba h1];rfl
 exact cP (by rw[ba h2];exact h3)
def ZW[hT:F0 P t]{p q:Bool}(hx:aw fr x=some (.bool p))(hy:aw fr y=some (.bool q)):Yd P C fr own G ⟨dst, .binOp .neq t x y t',ty',pos,af,gd⟩ (.bool (!(p==q))):=by
 intro a w hf hh;simp only[execOp,bi hf hx,bi hf hy];have h1:(Op.equal t (.bool p) (.bool q)).run P w= .ok (p==q) w:=qo (by unfold Op.equalIn;rw[ba (hT.u w)];rfl);have h2:(eqGuard .neq t x y (.bool p) (.bool q)).run P w= .ok () w:=J;have h3:(binOp .neq t (.bool p) (.bool q)).run P w= .ok (.bool (!(p==q))) w:=by simp only[binOp];rw[ba h1];rfl
 exact cP (by rw[ba h2];exact h3)
def Dl[hT:Gm P t]{p:Option Addr}(hx:aw fr x=some (.pointer p))(hy:aw fr y=some (.pointer none)):Yd P C fr own G ⟨dst, .binOp .eql t x y t',ty',pos,af,gd⟩ (.bool p.isNone):=by
 obtain⟨e,he⟩:=hT.u;intro a w hf hh;simp only[execOp,bi hf hx,bi hf hy];have h1:(Op.equal t (.pointer p) (.pointer none)).run P w= .ok p.isNone w:=qo (by unfold Op.equalIn;rw[ba (he w)];cases p<;>rfl);have h2:(eqGuard .eql t x y (.pointer p) (.pointer none)).run P w= .ok () w:=by cases p<;>rfl
 have h3:(binOp .eql t (.pointer p) (.pointer none)).run P w= .ok (.bool p.isNone) w:=by cases p<;>(simp only[binOp];rw[ba h1];rfl)
 exact cP (by rw[ba h2];exact h3)
def BB[hT:Gm P t]{p:Option Addr}(hx:aw fr x=some (.pointer p))(hy:aw fr y=some (.pointer none)):Yd P C fr own G ⟨dst, .binOp .neq t x y t',ty',pos,af,gd⟩ (.bool (!p.isNone)):=by
 obtain⟨e,he⟩:=hT.u;intro a w hf hh;simp only[execOp,bi hf hx,bi hf hy];have h1:(Op.equal t (.pointer p) (.pointer none)).run P w= .ok p.isNone w:=qo (by unfold Op.equalIn;rw[ba (he w)];cases p<;>rfl);have h2:(eqGuard .neq t x y (.pointer p) (.pointer none)).run P w= .ok () w:=by cases p<;>rfl
 have h3:(binOp .neq t (.pointer p) (.pointer none)).run P w= .ok (.bool (!p.isNone)) w:=by cases p<;>(simp only[binOp];rw[ba h1];rfl)
 exact cP (by rw[ba h2];exact h3)
def PK{v:Value}[hT:He P t](hv:v= .nilIface\/ ∃k u,v= .iface k u)(hx:aw fr x=some v):
  Yd P C fr own G ⟨dst, .binOp .eql t x (.const .nilIface) t',ty',pos,af,gd⟩ (.bool (match v with| .nilIface=>true|_=>false)):=by
 obtain⟨e,he⟩:=hT.u;intro a w hf hh;simp only[execOp,bi hf hx,show a.eval (.const .nilIface)= .nilIface from J];rcases hv with rfl|⟨k,u,rfl⟩
 ·have h1:(Op.equal t .nilIface .nilIface).run P w= .ok true w:=qo (by unfold Op.equalIn;rw[ba (he w)];rfl)
  have h2:(eqGuard .eql t x (.const .nilIface) .nilIface .nilIface).run P w= .ok () w:=by cases x<;>rfl
  exact cP (by rw[ba h2];simp only[binOp];rw[ba h1];rfl)
 ·have h1:(Op.equal t (.iface k u) .nilIface).run P w= .ok false w:=qo (by unfold Op.equalIn;rw[ba (he w)];rfl)
  exact cP (by rw[ba (a:=()) (w':=w) J];simp only[binOp];rw[ba h1];rfl)
def QY{v:Value}[hT:He P t](hv:v= .nilIface\/ ∃k u,v= .iface k u)(hx:aw fr x=some v):
  Yd P C fr own G ⟨dst, .binOp .neq t x (.const .nilIface) t',ty',pos,af,gd⟩ (.bool (match v with| .nilIface=>false|_=>true)):=by
 obtain⟨e,he⟩:=hT.u;intro a w hf hh;simp only[execOp,bi hf hx,show a.eval (.const .nilIface)= .nilIface from J];rcases hv with rfl|⟨k,u,rfl⟩
 ·have h1:(Op.equal t .nilIface .nilIface).run P w= .ok true w:=qo (by unfold Op.equalIn;rw[ba (he w)];rfl)
  have h2:(eqGuard .neq t x (.const .nilIface) .nilIface .nilIface).run P w= .ok () w:=by cases x<;>rfl
  exact cP (by rw[ba h2];simp only[binOp];rw[ba h1];rfl)
 ·have h1:(Op.equal t (.iface k u) .nilIface).run P w= .ok false w:=qo (by unfold Op.equalIn;rw[ba (he w)];rfl)
  exact cP (by rw[ba (a:=()) (w':=w) J];simp only[binOp];rw[ba h1];rfl)
def Vy{cs l:List Value}{f off ft k:Nat}[hF:Fq P t f off ft][hA:kO P ft k](hx:aw fr x=some (.agg ⟨cs⟩))(hl:cF cs off k=some l):Yd P C fr own G ⟨dst, .field t x f,ty',pos,af,gd⟩ (.agg ⟨l⟩):=by
 obtain⟨fs,fd,h1,h2,h3,h4⟩:=hF.u;intro a w hf hh;simp only[execOp,bi hf hx];have:(Instr.field t (.agg ⟨cs⟩) f).run P w= .ok (.agg ⟨l⟩) w:=by
  unfold Instr.field;rw[ba (h1 w)];simp only[h2,h3,h4,asAgg];rw[ba (run_pure _ _ _)];unfold part;rw[ba (hA.agg w)];simp only[if_true];rw[ba (hA.siz w)];obtain⟨k1,k2⟩:=ql _ _ _ _ hl;have:(⟨cs⟩:Array Value).extract off (off+k)=⟨l⟩:=by
   apply Array.ext';rw[Array.toList_extract];apply lJ;intro i;rw[List.extract_eq_take_drop,rQ];split
   ·rw[mZ];exact k2 i (by omega)
   ·exact(dW (show l.length<=i by omega)).symm
  rw[this];rfl
 exact cP this
def asx{cs:List Value}{f off ft:Nat}{v:Value}[hF:Fq P t f off ft][hA:ig P ft](hx:aw fr x=some (.agg ⟨cs⟩))(hl:cs[off]? =some v):Yd P C fr own G ⟨dst, .field t x f,ty',pos,af,gd⟩ v:=by
 obtain⟨fs,fd,h1,h2,h3,h4⟩:=hF.u;intro a w hf hh;simp only[execOp,bi hf hx];have:(Instr.field t (.agg ⟨cs⟩) f).run P w= .ok v w:=by
  unfold Instr.field;rw[ba (h1 w)];simp only[h2,h3,h4,asAgg];rw[ba (run_pure _ _ _)];unfold part;rw[ba (hA.agg w)];have:(⟨cs⟩:Array Value)[off]? =some v:=by simpa using hl
  simp only[dZ,if_false,this];rfl
 exact cP this
class DY (P:Program) (t:TypeId) (offs:outParam (List (Nat×Nat))):Prop where
 u: ∃fs:Array Field,(∀w,(underlying t).run P w= .ok (.struct fs) w)/\(∀w,(fs.mapM (m:=Sem) fun f=>do pure (f.offset,<-sizeOf f.type)).run P w= .ok ⟨offs⟩ w)
def uX(fr:Fr)(offs:List (Nat×Nat)):List Value->List (Nat×Operand)->Option (List Value)
 |cs,[]=>some cs
 |cs,(i,x)::r=>match offs[i]?,aw fr x with
  |some (off,k),some v=>if(aE v).length=k/\off+k<=cs.length then uX fr offs (cB cs off (aE v)) r else none
  |_,_=>none
def BE: ∀(vs:List Value) (cs:Array Value) (off j:Nat),(vs.zipIdx j).foldl (fun cs (c,j)=>cs.setIfInBounds (off+j) c) cs=⟨cB cs.toList (off+j) vs⟩
 |[],cs,off,j=>rfl
 |v::vs,cs,off,j=>by
  simp only[List.zipIdx_cons,fN];rw[BE vs _ off (j+1)];simp[cB,kZ]
def GH{a:Act}(hf:lh fr a)(offs:List (Nat×Nat)): ∀(ps:List (Nat×Operand)) (cs out:List Value),uX fr offs cs ps=some out->
  Instr.fill ((⟨offs⟩:Array (Nat×Nat))[·]?) ⟨cs⟩ (ps.map fun(i,x)=>(i,a.eval x))=some ⟨out⟩
 |[],cs,out,h=>by simp only[uX] at h;cases h;rfl
 |(i,x)::ps,cs,out,h=>by
  simp only[uX] at h;split at h
  ·rename_i off k v ho hv
   split at h
   ·rename_i hc
    simp only[bS,Instr.fill];have:(⟨offs⟩:Array (Nat×Nat))[i]? =some (off,k):=by simpa using ho
    simp only[this,bi hf hv,nO];have h1: ¬((⟨aE v⟩:Array Value).size≠k):=by simp[hc.1]
    have h2: ¬(off+(⟨aE v⟩:Array Value).size>(⟨cs⟩:Array Value).size):=by simp only[nT,hc.1];omega
    rw[if_neg (by simp only[iU,decide_eq_true_eq,not_or];exact⟨by simpa using h1,by simpa using h2⟩)];have e:=BE (aE v) ⟨cs⟩ off 0;have e':(⟨aE v⟩:Array Value).zipIdx.foldl (fun cs (c,j)=>cs.setIfInBounds (off+j) c) (⟨cs⟩:Array Value)=⟨cB cs off (aE v)⟩:=by
     rw[<-rZ,sN];simpa using e
    rw[e'];exact GH hf offs ps _ _ h
   ·cases h
  ·cases h
def E7{parts:Array (Nat×Operand)}{offs:List (Nat×Nat)}{z:Value}{out:List Value}[hT:DY P t offs][hz:gj P t z](hb:uX fr offs (aE z) parts.toList=some out):Yd P C fr own G ⟨dst, .build t parts,ty',pos,af,gd⟩ (.agg ⟨out⟩):=by
 obtain⟨fs,h1,h2⟩:=hT.u;intro a w hf hh;simp only[execOp];have:(Instr.build t (parts.map fun(i,x)=>(i,a.eval x))).run P w= .ok (.agg ⟨out⟩) w:=by
  unfold Instr.build;rw[ba (hz.zero w),nO];rw[ba (h1 w)];simp only[];rw[ba (h2 w)];have:=GH hf offs parts.toList _ _ hb;simp only[oK,this];rfl
 exact cP this
end
def cO(z:Value)(k:Nat):List Value:=(List.replicate k (aE z)).flatten
def HV{α:Type}(l:List α): ∀(k i:Nat),i<k*l.length->(List.replicate k l).flatten[i]? =l[i%l.length]?
 |0,i,h=>by omega
 |k+1,i,h=>by
  rw[jK,lK];by_cases hi:i<l.length
  ·rw[eJ hi,fW hi]
  ·rw[gQ (by omega),HV l k (i-l.length) (by rw[cR] at h;omega)]
   rw[Nat.mod_eq_sub_mod (Nat.ge_of_not_lt hi)]
def m9(z:Value)(k:Nat):(cO z k).length=k*(aE z).length:=by simp[cO]
def Ao{z:Value}{k m:Nat}(h:m=k*(aE z).length):((Array.range m).map fun i=>(⟨aE z⟩:Array Value)[i%(⟨aE z⟩:Array Value).size]!)=⟨cO z k⟩:=by
 subst h;apply Array.ext';apply lJ;intro i;simp only[oK,Array.toList_range,fS,nT];by_cases hi:i<k*(aE z).length
 ·rw[pN hi]
  simp only[jR];have h1:=HV (aE z) k i hi;have hpos:0<(aE z).length:=by
   rcases fX (aE z).length with h|h
   ·rw[h,pW] at hi;omega
   ·exact h
  have hm:=dX i hpos;show _=(cO z k)[i]?;unfold cO;rw[h1];simp[hm]
 ·rw[dW (by simpa using hi)]
  rw[dW (by show(cO z k).length<=i;rw[m9];omega)];rfl
section
variable {P:Program} {C:aD} {n:Nat} {fr:Fr} {own own':List ao} {G:Gh} {Φ:Act->World->Prop}
variable {dst:Option Nat} {t t' ty':TypeId} {pos:String} {af:Array Edge} {gd:Option (Nat×Bool)} {x y:Operand} {e s by_:Nat}
def L8[hT:cj P t e s by_](w:World): ∃i:TypeInfo,(typeInfo e).run P w= .ok i w/\i.bytes=by_:=by
 obtain⟨i,h1,_,h2⟩:=hT.info;exact⟨i,by simp[typeInfo,program,Sem.run_bind,Sem.run,h1,run_pure],h2⟩
def r5[hT:cj P t e s by_]{z:Value}[hz:gj P e z]{k k':IntKind}{l:Int}(hx:aw fr x=some (.int k l))(hy:aw fr y=some (.int k' l))(h0:0<=l)(hb:by_*l<=2^47)(hl:l<=2^60)(hs:(aE z).length=s)(hd:b9 n dst=true)
  (h: ∀b,St C n (put fr dst (.slice (some ⟨b,0,none⟩) l.toNat l.toNat)) (⟨b,cO z l.toNat,e,true⟩::own) G Φ):
  Ch P C n fr own G ⟨dst, .makeSlice t x y,ty',pos,af,gd⟩ Φ:=by
 intro a w Q rl;have h1:(Instr.makeSlice t (a.eval x) (a.eval y)).run P w= .ok (.slice (some ⟨w.heap.size,0,none⟩) l.toNat l.toNat) (w.alloc (.cells ⟨cO z l.toNat⟩ e)):=by
  obtain⟨i,hi,hib⟩:=L8 (P:=P) (t:=t) (e:=e) (s:=s) (by_:=by_) w;rw[bi rl.fr hx,bi rl.fr hy];unfold Instr.makeSlice;rw[ba (hT.u w)];simp only[asInt,asIntOf];rw[ba (a:=l) (w':=w) J,ba (a:=l) (w':=w) J,ba hi,hib];have hw:IntKind.i64.wrap l=l:=sF (by simp[IntKind.min,IntKind.max,IntKind.signed,IntKind.bits];omega);simp only[hw];have c1: ¬((by_:Int)*l>2^48):=by
   have:(2:Int)^47<=2^48:=by decide
   omega
  have c2:(decide (l<0)||decide ((by_:Int)*l>2^48))=false:=by simp[c1];omega
  simp only[c2,Int.lt_irrefl,decide_false,sK,Bool.false_or];have c3:decide (l<0)=false:=by simp;omega
  simp only[c3,dZ,if_false,gt_iff_lt,Int.lt_irrefl,decide_false,sK];have hr: ¬(l.toNat*by_>roomBytes):=by
   unfold roomBytes;have:((l.toNat*by_:Nat):Int)=by_*l:=by rw[jW,qQ h0,Int.mul_comm]
   have h47:((2^47:Nat):Int)=2^47:=by decide
   omega
  unfold askRoom;simp only[hr,if_false];rw[ba (run_pure _ _ _),ba (hT.siz w)];have hn:l.toNat*s=l.toNat*(aE z).length:=by rw[hs]
  by_cases h00:l.toNat*s=0
  ·rw[if_pos h00,ba (run_pure _ _ _)]
   have e0:cO z l.toNat=[]:=bL (by rw[m9,hs];exact h00);rw[h00,e0,show(Array.range 0)= #[] from J,Array.map_empty];rfl
  ·rw[if_neg h00,ba (hz.zero w),nO]
   rw[ba (run_pure _ _ _),Ao hn];rfl
 refine(fun hk=>?_:Φ (a.put dst (.slice (some ⟨w.heap.size,0,none⟩) l.toNat l.toNat)) (w.alloc (.cells ⟨cO z l.toNat⟩ e))->_) (h w.heap.size _ _ ((rl.heap (rl.h.alloc _ _)).put _ hd));exact kg (v:= .slice (some ⟨w.heap.size,0,none⟩) l.toNat l.toNat) (cP h1) hk
def Pt: ∀(vs cs pre:List Value),vs.length=cs.length->cB (pre++cs) pre.length vs=pre++vs
 |[],cs,pre,h=>by have:cs=[]:=bL h.symm;subst this;rfl
 |v::vs,[],pre,h=>by simp at h
 |v::vs,c::cs,pre,h=>by
  simp only[cB,nW _ _ (aN _),tJ,List.set_cons_zero];have:=Pt vs cs (pre++[v]) (by simpa using h);simpa using this
def VZ[hT:cj P t e s by_]{z v:Value}[hz:gj P e z](hx:aw fr x=some v)(hs:(aE z).length=s)(hv:(aE v).length=s)(hsm:s<=1000)(hs0:0<s)(hd:b9 n dst=true)
  (h: ∀b,St C n (put fr dst (.slice (some ⟨b,0,none⟩) 1 1)) (⟨b,aE v,e,true⟩::own) G Φ):
  Ch P C n fr own G ⟨dst, .buildSlice t 1 #[(0,x)],ty',pos,af,gd⟩ Φ:=by
 intro a w Q rl;have h1:(Instr.buildSlice t 1 #[(0,v)]).run P w= .ok (.slice (some ⟨w.heap.size,0,none⟩) 1 1) (w.alloc (.cells ⟨aE v⟩ e)):=by
  unfold Instr.buildSlice;rw[ba (hT.u w)];simp only[];rw[ba (hT.siz w)];have c1: ¬(1*s>2^24):=by omega
  have c2: ¬(1*s=0):=by omega
  simp only[c1,if_false];rw[if_neg c2,ba (hz.zero w),nO,ba (run_pure _ _ _)];rw[Ao (k:=1) (by rw[hs])];have hzl:(cO z 1).length=s:=by rw[m9,hs,mS]
  have hf:Instr.fill (fun i=>some (i*s,s)) ⟨cO z 1⟩ [(0,v)]=some ⟨aE v⟩:=by
   simp only[Instr.fill,nO];rw[if_neg (by simp[hv,hzl])];have e1:=BE (aE v) ⟨cO z 1⟩ (0*s) 0;have e2:(⟨aE v⟩:Array Value).zipIdx.foldl (fun cs (c,j)=>cs.setIfInBounds (0*s+j) c) (⟨cO z 1⟩:Array Value)=⟨aE v⟩:=by
    rw[<-rZ,sN];have e3:=Pt (aE v) (cO z 1) [] (by rw[hv,hzl]);simp only[cV,jQ] at e3;rw[kU,dT] at e1;rw[e3] at e1;simpa using e1
   rw[e2]
  simp only[hf];rfl
 refine kg (v:= .slice (some ⟨w.heap.size,0,none⟩) 1 1) (w':=w.alloc (.cells ⟨aE v⟩ e)) ?_ (h w.heap.size _ _ ((rl.heap (rl.h.alloc _ _)).put _ hd));simp only[execOp,gS,bS,dR,bi rl.fr hx];exact cP h1
end
section
variable {P:Program} {C:aD} {n:Nat} {fr:Fr} {own own':List ao} {G:Gh} {Φ:Act->World->Prop}
variable {dst:Option Nat} {t t' ty':TypeId} {pos:String} {af:Array Edge} {gd:Option (Nat×Bool)} {x y:Operand} {e s by_:Nat}
def uj(fr:Fr)(s:Nat):List Value->List (Nat×Operand)->Option (List Value)
 |cs,[]=>some cs
 |cs,(i,x)::r=>match aw fr x with
  |some v=>if(aE v).length=s/\i*s+s<=cs.length then uj fr s (cB cs (i*s) (aE v)) r else none
  |none=>none
def QT{a:Act}(hf:lh fr a)(s:Nat): ∀(ps:List (Nat×Operand)) (cs out:List Value),uj fr s cs ps=some out->
  Instr.fill (fun i=>some (i*s,s)) ⟨cs⟩ (ps.map fun(i,x)=>(i,a.eval x))=some ⟨out⟩
 |[],cs,out,h=>by simp only[uj] at h;cases h;rfl
 |(i,x)::ps,cs,out,h=>by
  simp only[uj] at h;split at h
  ·rename_i v hv
   split at h
   ·rename_i hc
    simp only[bS,Instr.fill,bi hf hv,nO];have h1: ¬((⟨aE v⟩:Array Value).size≠s):=by simp[hc.1]
    have h2: ¬(i*s+(⟨aE v⟩:Array Value).size>(⟨cs⟩:Array Value).size):=by simp only[nT,hc.1];omega
    rw[if_neg (by simp only[iU,decide_eq_true_eq,not_or];exact⟨by simpa using h1,by simpa using h2⟩)];have e:=BE (aE v) ⟨cs⟩ (i*s) 0;have e':(⟨aE v⟩:Array Value).zipIdx.foldl (fun cs (c,j)=>cs.setIfInBounds (i*s+j) c) (⟨cs⟩:Array Value)=⟨cB cs (i*s) (aE v)⟩:=by
     rw[<-rZ,sN];simpa using e
    rw[e'];exact QT hf s ps _ _ h
   ·cases h
  ·cases h
def FC[hT:cj P t e s by_]{z:Value}[hz:gj P e z]{len:Nat}{parts:Array (Nat×Operand)}{out:List Value}(hs:(aE z).length=s)(hb:uj fr s (cO z len) parts.toList=some out)(hsm:Nat.ble (len*s) 1000=true)(hs0:Nat.blt 0 (len*s)=true)(hd:b9 n dst=true)
  (h: ∀b,St C n (put fr dst (.slice (some ⟨b,0,none⟩) len len)) (⟨b,out,e,true⟩::own) G Φ):
  Ch P C n fr own G ⟨dst, .buildSlice t len parts,ty',pos,af,gd⟩ Φ:=by
 intro a w Q rl;have hsm':len*s<=1000:=by simpa using hsm
 have hs0':0<len*s:=by simpa[mY] using hs0
 have h1:(Instr.buildSlice t len (parts.map fun(i,x)=>(i,a.eval x))).run P w= .ok (.slice (some ⟨w.heap.size,0,none⟩) len len) (w.alloc (.cells ⟨out⟩ e)):=by
  unfold Instr.buildSlice;rw[ba (hT.u w)];simp only[];rw[ba (hT.siz w)];have c1: ¬(len*s>2^24):=by omega
  have c2: ¬(len*s=0):=by omega
  simp only[c1,if_false];rw[if_neg c2,ba (hz.zero w),nO,ba (run_pure _ _ _)];rw[Ao (k:=len) (by rw[hs])];have hf:=QT rl.fr s parts.toList _ _ hb;simp only[oK,hf];rfl
 refine kg (v:= .slice (some ⟨w.heap.size,0,none⟩) len len) (w':=w.alloc (.cells ⟨out⟩ e)) ?_ (h w.heap.size _ _ ((rl.heap (rl.h.alloc _ _)).put _ hd));simp only[execOp];exact cP h1
def Qj[hT:cj P t e s by_](hd:b9 n dst=true)(h: ∀b,St C n (put fr dst (.slice (some ⟨b,0,none⟩) 0 0)) (⟨b,[],e,true⟩::own) G Φ):
  Ch P C n fr own G ⟨dst, .buildSlice t 0 #[],ty',pos,af,gd⟩ Φ:=by
 intro a w Q rl;have h1:(Instr.buildSlice t 0 #[]).run P w= .ok (.slice (some ⟨w.heap.size,0,none⟩) 0 0) (w.alloc (.cells ⟨[]⟩ e)):=by
  unfold Instr.buildSlice;rw[ba (hT.u w)];simp only[];rw[ba (hT.siz w)];simp only[kU,gt_iff_lt,Nat.not_lt_zero,if_false,if_true];rw[ba (run_pure _ _ _),show(Array.range 0)= #[] from J,Array.map_empty];rfl
 refine kg (v:= .slice (some ⟨w.heap.size,0,none⟩) 0 0) (w':=w.alloc (.cells ⟨[]⟩ e)) ?_ (h w.heap.size _ _ ((rl.heap (rl.h.alloc _ _)).put _ hd));simp only[execOp,gS,dR];exact cP h1
def Kk[hT:cj P t e s by_]{ad:Option Addr}{len cap l2 c2:Nat}(hx:aw fr x=some (.slice ad len cap))(hy:aw fr y=some (.slice none l2 c2)):Yd P C fr own G ⟨dst, .binOp .eql t x y t',ty',pos,af,gd⟩ (.bool ad.isNone):=by
 intro a w hf hh;simp only[execOp,bi hf hx,bi hf hy];have h1:(Op.equal t (.slice ad len cap) (.slice none l2 c2)).run P w= .ok ad.isNone w:=qo (by unfold Op.equalIn;rw[ba (hT.u w)];cases ad<;>rfl);have h2:(eqGuard .eql t x y (.slice ad len cap) (.slice none l2 c2)).run P w= .ok () w:=J;have h3:(binOp .eql t (.slice ad len cap) (.slice none l2 c2)).run P w= .ok (.bool ad.isNone) w:=by simp only[binOp];rw[ba h1];rfl
 exact cP (by rw[ba h2];exact h3)
def aCJ[hT:cj P t e s by_]{ad:Option Addr}{len cap l2 c2:Nat}(hx:aw fr x=some (.slice ad len cap))(hy:aw fr y=some (.slice none l2 c2)):Yd P C fr own G ⟨dst, .binOp .neq t x y t',ty',pos,af,gd⟩ (.bool (!ad.isNone)):=by
 intro a w hf hh;simp only[execOp,bi hf hx,bi hf hy];have h1:(Op.equal t (.slice ad len cap) (.slice none l2 c2)).run P w= .ok ad.isNone w:=qo (by unfold Op.equalIn;rw[ba (hT.u w)];cases ad<;>rfl);have h2:(eqGuard .neq t x y (.slice ad len cap) (.slice none l2 c2)).run P w= .ok () w:=J;have h3:(binOp .neq t (.slice ad len cap) (.slice none l2 c2)).run P w= .ok (.bool (!ad.isNone)) w:=by simp only[binOp];rw[ba h1];rfl
 exact cP (by rw[ba h2];exact h3)
end
def lC: ∀(cs:List Value) (off k:Nat),off+k<=cs.length->cF cs off k=some ((cs.drop off).take k)
 |cs,0,0,_=>by cases cs<;>rfl
 |[],0,k+1,h=>by simp at h
 |v::t,0,k+1,h=>by
  simp only[cF,lC t 0 k (by simp at h;omega)];simp
 |[],_+1,k,h=>by simp at h
 |_::t,off+1,k,h=>by
  simp only[cF,lC t off k (by simp at h;omega)];simp
section
variable {P:Program} {C:aD} {n:Nat} {fr:Fr} {own own' own1:List ao} {G:Gh} {Φ:Act->World->Prop}
variable {dst:Option Nat} {t t' ty':TypeId} {pos:String} {af:Array Edge} {gd:Option (Nat×Bool)} {x y:Operand} {e s by_:Nat}
def l7(P:Program)(C:aD)(own:List ao)(G:Gh)(s m:Nat)(v:Value)(ys:List Value):Prop:=
 ∀w,bp C own G w->(Builtin.firstCells s m v).run P w= .ok ⟨ys⟩ w
def Dm{w:World}{b off k:Nat}{cs l:List Value}{ty:TypeId}{fz:Nat×Nat}(h:w.heap[b]? =some (.cells ⟨cs⟩ ty fz))(hl:cF cs off k=some l):(loadCells ⟨b,off,none⟩ k).run P w= .ok ⟨l⟩ w:=by
 obtain⟨h1,h2⟩:=ql _ _ _ _ hl;unfold loadCells;rw[Ev (l:=l) k 0 #[] (fun j hj=>by rw[yK h];simpa using h2 j hj) (by omega)];simp[<-h1]
def xI{b off m len cap:Nat}{cs ys:List Value}{ty:TypeId}{lo:Bool}(ho:io own b cs ty lo)(hl:cF cs off (m*s)=some ys):l7 P C own G s m (.slice (some ⟨b,off,none⟩) len cap) ys:=
 fun w h=>Dm (h.hown _ ho.mem).1 hl
def Js{b off m len cap:Nat}{cs ys:List Value}(hg:G b=some cs)(hl:cF cs off (m*s)=some ys):l7 P C own G s m (.slice (some ⟨b,off,none⟩) len cap) ys:=
 fun w h=>by obtain⟨ty,fz,hb⟩:=h.sub _ _ hg;exact Dm hb hl
def uR{ad:Option Addr}{len cap:Nat}:l7 P C own G s 0 (.slice ad len cap) []:=fun w _=>by
 cases ad with
 |none=>rfl
 |some a=>unfold Builtin.firstCells loadCells;simp[loadCellsFrom,run_pure]
def Ju(z:Value)(k:Nat):Builtin.zeroCells ⟨aE z⟩ k=⟨cO z k⟩:=by
 unfold Builtin.zeroCells;exact Ao J
def GQ{w w':World}[hT:cj P t e s by_][hN:jO P t']{z:Value}[hz:gj P e z]{ad:Option Addr}{len cap m cap2:Nat}{ad2:Option Addr}{xs ys:List Value}
  (hsx:(Builtin.firstCells s len (.slice ad len cap)).run P w.drew= .ok ⟨xs⟩ w.drew)(hsy:(Builtin.firstCells s m (.slice ad2 m cap2)).run P w.drew= .ok ⟨ys⟩ w.drew)
  (hneed:cap<len+m)(hby:0<by_)(hb:(len+m)*by_<=140737488355328):
  (Builtin.append_ #[t,t'] ty' #[.slice ad len cap, .slice ad2 m cap2]).run P w=
   .ok (.slice (some ⟨w.heap.size,0,none⟩) (len+m) (grownCap w (len+m) cap e)) (w.drew.alloc (.cells ⟨xs++ys++cO z (grownCap w (len+m) cap e-(len+m))⟩ e)):=by
 obtain⟨d,hd1⟩:=hN.un;obtain⟨i,hi,his,hib⟩:=hT.info;obtain⟨i',hi',hiz⟩:=hz.info;rw[hi] at hi';cases hi';have hfit:=growslice_fits (old:=cap) (need:=len+m) (bytes:=by_) hneed hb;have hlen:len+m<=140737488355328:=cM (Nat.le_mul_of_pos_right _ hby) hb;have hn: ¬(len+m<=cap):=by omega
 have h63': ¬(9223372036854775807<((len:Int)+(m:Int))):=by omega
 have h48': ¬(281474976710656<Builtin.nextslicecap (len+m) cap*i.bytes):=by rw[hib];omega
 subst his;simp[Builtin.append_,run_underlying hT.un,run_underlying hd1,sizeOf,typeInfo,zeroValue,hi,hiz,Builtin.lenOf,hn,h63',h48',Question.forced,hsx,hsy,newRow,grownCap];congr 2;apply Array.ext';rw[nO,Ju];simp[dK]
def zS[hT:cj P t e s by_][hN:jO P t']{z:Value}[hz:gj P e z]{ad:Option Addr}{len cap m cap2:Nat}{ad2:Option Addr}{xs ys:List Value}
  (hx:aw fr x=some (.slice ad len cap))(hy:aw fr y=some (.slice ad2 m cap2))(hsx:l7 P C own G s len (.slice ad len cap) xs)(hsy:l7 P C own G s m (.slice ad2 m cap2) ys)
  (hneed:cap<len+m)(hby:0<by_)(hb:(len+m)*by_<=140737488355328)(hd:b9 n dst=true)
  (h: ∀b cap',len+m<=cap'->St C n (put fr dst (.slice (some ⟨b,0,none⟩) (len+m) cap')) (⟨b,xs++ys++cO z (cap'-(len+m)),e,true⟩::own) G Φ):
  Ch P C n fr own G ⟨dst, .call ⟨.builtin .append, #[x,y], #[t,t']⟩,ty',pos,af,gd⟩ Φ:=by
 intro a w Q rl;have hcap:len+m<=grownCap w (len+m) cap e:=by unfold grownCap;simp only[Question.cut];omega
 have hrun:=GQ (P:=P) (t:=t) (t':=t') (ty':=ty') (w:=w) (w':=w) (hsx _ rl.h.drew) (hsy _ rl.h.drew) hneed hby hb;refine kg (v:= .slice (some ⟨w.heap.size,0,none⟩) (len+m) (grownCap w (len+m) cap e)) (w':=w.drew.alloc (.cells ⟨xs++ys++cO z (grownCap w (len+m) cap e-(len+m))⟩ e)) ?_ ?_
 ·simp only[execOp,resolve,gS,bS,dR,bi rl.fr hx,bi rl.fr hy]
  exact cP hrun
 ·exact h w.heap.size _ hcap _ _ ((rl.heap ((rl.h.drew).alloc _ _)).put _ hd)
def jw.perm{o:ao}(h:jw own o own1):own.Perm (o::own1):=by
 induction h with
 |hd o t=>exact List.Perm.refl _
 |tl x t t' o h ih=>exact(List.Perm.cons x ih).trans (List.Perm.swap _ _ _)
def Hq{w:World}[hT:cj P t e s by_][hN:jO P t']{b len cap m cap2:Nat}{ad2:Option Addr}{cs ys:List Value}
  (hb:w.heap[b]? =some (.cells ⟨cs⟩ e (0,0)))(hcs:cs.length=cap*s)(hsy:(Builtin.firstCells s m (.slice ad2 m cap2)).run P w= .ok ⟨ys⟩ w)(hys:ys.length=m*s)(hf: ∀v∈ys,flat v=true)
  (hneed:len+m<=cap):
  (Builtin.append_ #[t,t'] ty' #[.slice (some ⟨b,0,none⟩) len cap, .slice ad2 m cap2]).run P w=
   .ok (.slice (some ⟨b,0,none⟩) (len+m) cap) (gk w b (.cells ⟨cB cs (len*s) ys⟩ e (0,0))):=by
 obtain⟨d,hd1⟩:=hN.un;obtain⟨i,hi,his,hib⟩:=hT.info;subst his;have hl:len*i.size+ys.length<=cs.length:=by rw[hys,hcs,<-cR];exact bT _ hneed
 have hst:=xV (P:=P) ys w (len*i.size) 0 cs hf hb (by omega);rw[eY] at hst;simp[Builtin.append_,run_underlying hT.un,run_underlying hd1,sizeOf,typeInfo,hi,Builtin.lenOf,hneed,hsy,oG,hst]
def Au: ∀(vs cs:List Value) (off:Nat),(cB cs off vs).length=cs.length
 |[],cs,off=>rfl
 |v::vs,cs,off=>by simp[cB,Au vs]
def o5: ∀(vs cs:List Value) (off:Nat),off+vs.length<=cs.length->cB cs off vs=cs.take off++vs++cs.drop (off+vs.length)
 |[],cs,off,h=>by simp[cB]
 |v::vs,cs,off,h=>by
  simp only[bW] at h;rw[cB,o5 vs _ _ (by simp;omega)];rw[List.take_set,qZ (by omega)];have h1:(cs.take (off+1)).set off v=cs.take off++[v]:=by
   rw[fJ (by omega),nW _ _ (by simp;omega)];simp[gV (by omega:off<=cs.length)]
  rw[h1];simp only[bW,dK,cW,cV];congr 4;omega
def RP[hT:cj P t e s by_][hN:jO P t']{z:Value}[hz:gj P e z]{b len cap m cap2:Nat}{ad2:Option Addr}{xs ys rest:List Value}
  (hx:aw fr x=some (.slice (some ⟨b,0,none⟩) len cap))(hy:aw fr y=some (.slice ad2 m cap2))(hr:jw own ⟨b,xs++rest,e,true⟩ own1)(hxs:xs.length=len*s)(hcap:xs.length+rest.length=cap*s)(hlc:len<=cap)
  (hsy:l7 P C own G s m (.slice ad2 m cap2) ys)(hys:ys.length=m*s)(hf: ∀v∈ys,flat v=true)
  (hby:0<by_)(hb:(len+m)*by_<=140737488355328)(hzs:(aE z).length=s)(hd:b9 n dst=true)
  (h: ∀b cap' rest',len+m<=cap'->rest'.length+(len+m)*s=cap'*s->St C n (put fr dst (.slice (some ⟨b,0,none⟩) (len+m) cap')) (⟨b,xs++ys++rest',e,true⟩::own1) G Φ):
  Ch P C n fr own G ⟨dst, .call ⟨.builtin .append, #[x,y], #[t,t']⟩,ty',pos,af,gd⟩ Φ:=by
 intro a w Q rl;have hp:=rl.h.perm hr.perm;have hblk:=(hp.hown _ aQ).1;simp only[] at hblk;by_cases hneed:len+m<=cap
 ·have hcs:(xs++rest).length=cap*s:=by simp;omega
  have hrun:=Hq (P:=P) (t:=t) (t':=t') (ty':=ty') (w:=w) (len:=len) hblk hcs (hsy w rl.h) hys hf hneed;have hle:len*s+m*s<=cap*s:=by rw[<-cR];exact bT _ hneed
  have hov:cB (xs++rest) (len*s) ys=xs++ys++rest.drop (m*s):=by
   rw[o5 _ _ _ (by rw[hys];omega),<-hxs];simp[hys,mM]
  refine kg (v:= .slice (some ⟨b,0,none⟩) (len+m) cap) (w':=gk w b (.cells ⟨cB (xs++rest) (len*s) ys⟩ e (0,0))) ?_ ?_
  ·simp only[execOp,resolve,gS,bS,dR,bi rl.fr hx,bi rl.fr hy]
   exact cP hrun
  ·rw[hov]
   refine h b cap (rest.drop (m*s)) hneed ?_ _ _ ((rl.heap (hp.store (.hd ..))).put _ hd);rw[gL,cR];omega
 ·have hx':l7 P C own G s len (.slice (some ⟨b,0,none⟩) len cap) xs:=fun w' hw'=>by
   have hb':=(((hw'.perm hr.perm).hown _ aQ).1);refine Dm hb' ?_;rw[lC _ _ _ (by simp;omega),<-hxs];simp
  have hcap':len+m<=grownCap w (len+m) cap e:=by unfold grownCap;simp only[Question.cut];omega
  have hrun:=GQ (P:=P) (t:=t) (t':=t') (ty':=ty') (w:=w) (w':=w) (hx' _ rl.h.drew) (hsy _ rl.h.drew) (by omega) hby hb;refine kg (v:= .slice (some ⟨w.heap.size,0,none⟩) (len+m) (grownCap w (len+m) cap e)) (w':=w.drew.alloc (.cells ⟨xs++ys++cO z (grownCap w (len+m) cap e-(len+m))⟩ e)) ?_ ?_
  ·simp only[execOp,resolve,gS,bS,dR,bi rl.fr hx,bi rl.fr hy]
   exact cP hrun
  ·refine h w.heap.size _ _ hcap' ?_ _ _ ((rl.heap (((hp.drew).drop (rU _ _)).alloc _ _)).put _ hd)
   rw[m9,hzs,<-cR];congr 1;omega
end
section
variable {P:Program} {ops:Array Oper} {Q:Exit->Act->World->Prop} {S:World->Prop} {fin:Nat->Bool}
def py(ops:Array Oper)(fin:Nat->Bool):List (Nat×Bool)->Array Bool->Bool
 |[],listed=>(Region.ready .any ops listed).isEmpty
 |(i,true)::r,listed=>xi ops fin listed i&&py ops fin r (listed.setIfInBounds i true)
 |(i,false)::r,listed=>(Region.ready .any ops listed==[i])&&py ops fin r (listed.setIfInBounds i true)
def gh(P:Program)(ops:Array Oper)(Q:Exit->Act->World->Prop)(S:World->Prop)(fin:Nat->Bool):List (Nat×Bool)->Act->World->Prop
 |[],a,w=>Q .normal a w
 |(i,true)::r,a,w=> ∃o v,ops[i]? =some o/\S w/\YieldsIf P ops S o v a/\gh P ops Q S fin r (a.put o.dst v) w
 |(i,false)::r,a,w=>wpOp P ops Q i (fun a' w'=>(fin i=true\/S w')/\gh P ops Q S fin r a' w') a w
def yW(hQ: ∀c a d v w,Q (.panic c) (Act.put a d v) w->Q (.panic c) a w): ∀(π:List (Nat×Bool)) (listed:Array Bool) (a:Act) (w:World),py ops fin π listed=true->gh P ops Q S fin π a w-> ∀fuel,π.length<=fuel->uI P ops Q S fin fuel listed a w
 |[],listed,a,w,ho,h,fuel,hf=>by
  have hr:Region.ready .any ops listed=[]:=by simpa[py] using ho
  cases fuel with
  |zero=>exact⟨hr,h⟩
  |succ k=>exact⟨fun _=>h,by rw[hr];simp⟩
 |(i,true)::r,listed,a,w,ho,h,0,hf=>by simp at hf
 |(i,false)::r,listed,a,w,ho,h,0,hf=>by simp at hf
 |(i,true)::r,listed,a,w,ho,h,fuel+1,hf=>by
  obtain⟨o,v,hoi,hS,hy,hk⟩:=h;simp only[py,xi,aL] at ho;obtain⟨⟨⟨⟨h1,h2⟩,h3⟩,h4⟩,h5⟩:=ho;obtain⟨h6,h7⟩:=Xx h4;exact an5 hoi (Region.noSelect_spec h1) (fun c a w=>hQ c a _ _ w) h6 h7 fuel listed a w (Region.free_spec hoi h2) (by simpa using h3) hy hS
   (yW hQ r _ _ _ h5 hk fuel (by simpa using hf))
 |(i,false)::r,listed,a,w,ho,h,fuel+1,hf=>by
  simp only[py,aL,beq_iff_eq] at ho;exact YM ho.1 (wpOp_mono (fun a' w' h'=>⟨h'.1,yW hQ r _ _ _ ho.2 h'.2 fuel (by simpa using hf)⟩) h)
end
section
variable {P:Program} {C:aD} {n:Nat} {fr:Fr} {own own0:List ao} {G G0:Gh} {ops:Array Oper} {Q:Exit->Act->World->Prop} {fin:Nat->Bool} {π:List (Nat×Bool)}
def dr(fin:Nat->Bool)(π:List (Nat×Bool)){id:Nat}(hm:P.follows .mixedOrders=true)(ho:(py ops fin π (Array.replicate ops.size false)&&Nat.ble π.length ops.size)=true)
  (h:St C n fr own G (gh P ops (f4 Q) (HS C own G) fin π)):St C n fr own G ((Code.region id ops true).wp P Q):=by
 simp only[aL] at ho;refine UC fin hm fun a w rl=>yW (fun _ _ _ _ _ h=>h) π _ a w ho.1 (h a w rl) _ (by simpa using ho.2)
def dy{i:Nat}{o:Oper}{v:Value}(ho:ops[i]? =some o)(hy: ∀G':Gh,[GE G0 G']->Yd P C fr own0 G' o v)(hg:o.guard=none)(hd:b9 n o.dst=true)[hs:jF own0 own][hl:GL G0 G]
  (h:St C n (put fr o.dst v) own G (gh P ops (f4 Q) (HS C own0 G0) fin π)):St C n fr own G (gh P ops (f4 Q) (HS C own0 G0) fin ((i,true)::π)):=
 fun a w rl=>⟨o,v,ho,⟨G,hl.le,rl.h.drop hs.s⟩, .inl ⟨by simp[Region.wanted,hg],fun w' ⟨G',hle,hr⟩=> @hy G' ⟨hle⟩ a w' rl.fr hr⟩,h _ _ (rl.put v hd)⟩
def dM{i:Nat}{dst:Option Nat}{ty':TypeId}{pos:String}{af:Array Edge}{x:Operand}{v:Value}(ho:ops[i]? =some ⟨dst, .move x,ty',pos,af,none⟩)(hx:aw fr x=some v)(hd:b9 n dst=true)[hs:jF own0 own][hl:GL G0 G]
  (h:St C n (put fr dst v) own G (gh P ops (f4 Q) (HS C own0 G0) fin π)):St C n fr own G (gh P ops (f4 Q) (HS C own0 G0) fin ((i,true)::π)):=dy ho (fun _ _=>fI hx) J hd h
def dA{i:Nat}{dst:Option Nat}{ty':TypeId}{pos:String}{af:Array Edge}{x:Operand}{v:Value}(ho:ops[i]? =some ⟨dst, .assign x,ty',pos,af,none⟩)(hx:aw fr x=some v)(hd:b9 n dst=true)[hs:jF own0 own][hl:GL G0 G]
  (h:St C n (put fr dst v) own G (gh P ops (f4 Q) (HS C own0 G0) fin π)):St C n fr own G (gh P ops (f4 Q) (HS C own0 G0) fin ((i,true)::π)):=dy ho (fun _ _=>Hb hx) J hd h
def dF{i b o f off:Nat}{dst:Option Nat}{ty':TypeId}{pos:String}{af:Array Edge}{x:Operand}{t:TypeId}[hF:kE P t f off](ho:ops[i]? =some ⟨dst, .fieldAddr t x f,ty',pos,af,none⟩)(hx:aw fr x=some (.pointer (some ⟨b,o,none⟩)))(hd:b9 n dst=true)[hs:jF own0 own][hl:GL G0 G]
  (h:St C n (put fr dst (.pointer (some ⟨b,o+off,none⟩))) own G (gh P ops (f4 Q) (HS C own0 G0) fin π)):St C n fr own G (gh P ops (f4 Q) (HS C own0 G0) fin ((i,true)::π)):=dy ho (fun _ _=>nF hx) J hd h
def dL{i b off k:Nat}{dst:Option Nat}{ty':TypeId}{pos:String}{af:Array Edge}{x:Operand}{t ty:TypeId}{cs l:List Value}{lo:Bool}(ho:ops[i]? =some ⟨dst, .load t x,ty',pos,af,none⟩)(hx:aw fr x=some (.pointer (some ⟨b,off,none⟩)))[hw:io own0 b cs ty lo][kO P t k](hv:cF cs off k=some l)(hd:b9 n dst=true)[hs:jF own0 own][hl:GL G0 G]
  (h:St C n (put fr dst (.agg ⟨l⟩)) own G (gh P ops (f4 Q) (HS C own0 G0) fin π)):St C n fr own G (gh P ops (f4 Q) (HS C own0 G0) fin ((i,true)::π)):=dy ho (fun _ _=>Bm hx hv) J hd h
def qD{i b off:Nat}{dst:Option Nat}{ty':TypeId}{pos:String}{af:Array Edge}{x:Operand}{t ty:TypeId}{cs:List Value}{v:Value}{lo:Bool}(ho:ops[i]? =some ⟨dst, .load t x,ty',pos,af,none⟩)(hx:aw fr x=some (.pointer (some ⟨b,off,none⟩)))[hw:io own0 b cs ty lo][ig P t](hv:cs[off]? =some v)(hd:b9 n dst=true)[hs:jF own0 own][hl:GL G0 G]
  (h:St C n (put fr dst v) own G (gh P ops (f4 Q) (HS C own0 G0) fin π)):St C n fr own G (gh P ops (f4 Q) (HS C own0 G0) fin ((i,true)::π)):=dy ho (fun _ _=>lg hx hv) J hd h
def uh{i:Nat}{o:Oper}{v:Value}(ho:ops[i]? =some o){j d:Nat}{b:Bool}(hg:o.guard=some (j,b))(hj:(ops[j]?).bind (·.dst)=some d)(hlk:im fr d=some (.bool b))(hy: ∀G':Gh,[GE G0 G']->Yd P C fr own0 G' o v)(hd:b9 n o.dst=true)[hs:jF own0 own][hl:GL G0 G]
  (h:St C n (put fr o.dst v) own G (gh P ops (f4 Q) (HS C own0 G0) fin π)):St C n fr own G (gh P ops (f4 Q) (HS C own0 G0) fin ((i,true)::π)):=
 fun a w rl=>⟨o,v,ho,⟨G,hl.le,rl.h.drop hs.s⟩, .inl ⟨by simp[Region.wanted,hg,Cn rl.fr hj hlk],fun w' ⟨G',hle,hr⟩=> @hy G' ⟨hle⟩ a w' rl.fr hr⟩,h _ _ (rl.put v hd)⟩
def tr{i:Nat}{o:Oper}(ho:ops[i]? =some o){j d:Nat}{b c:Bool}(hg:o.guard=some (j,b))(hj:(ops[j]?).bind (·.dst)=some d)(hlk:im fr d=some (.bool c))(hbc:(c==b)=false)(hd:b9 n o.dst=true)[hs:jF own0 own][hl:GL G0 G]
  (h:St C n (put fr o.dst undef) own G (gh P ops (f4 Q) (HS C own0 G0) fin π)):St C n fr own G (gh P ops (f4 Q) (HS C own0 G0) fin ((i,true)::π)):=
 fun a w rl=>⟨o,undef,ho,⟨G,hl.le,rl.h.drop hs.s⟩, .inr ⟨by simp[Region.wanted,hg,Cn rl.fr hj hlk,hbc],J⟩,h _ _ (rl.put undef hd)⟩
def dc{i:Nat}{o:Oper}(ho:ops[i]? =some o)(hg:o.guard=none)(hc:Ch P C n fr own G o (fun a w=>(fin i=true\/HS C own0 G0 w)/\gh P ops (f4 Q) (HS C own0 G0) fin π a w)):St C n fr own G (gh P ops (f4 Q) (HS C own0 G0) fin ((i,false)::π)):=by
 intro a w rl;show wpOp P ops (f4 Q) i _ a w;unfold wpOp;simp only[ho,Region.wanted,hg,if_true];exact .inl (hc a w _ rl)
def dn(h:St C n fr own G (Q .normal)):St C n fr own G (gh P ops (f4 Q) (HS C own0 G0) fin []):=h
def Eb{A G:Gh}{b:Nat}{cs:List Value}[h:wC A b cs][k:GL A G]:G b=some cs:=k.le _ _ h.h
variable {dst:Option Nat} {t t' ty':TypeId} {pos:String} {af:Array Edge} {x y:Operand} {r:List Oper}
def sm{v:Value}(hx:aw fr x=some v)(hd:b9 n dst=true)(h:St C n (put fr dst v) own G (dw P ops Q r)):St C n fr own G (dw P ops Q (⟨dst, .move x,ty',pos,af,none⟩::r)):=qH (fI hx) J hd h
def sa{v:Value}(hx:aw fr x=some v)(hd:b9 n dst=true)(h:St C n (put fr dst v) own G (dw P ops Q r)):St C n fr own G (dw P ops Q (⟨dst, .assign x,ty',pos,af,none⟩::r)):=qH (Hb hx) J hd h
def sn{ad:Addr}(hx:aw fr x=some (.pointer (some ad)))(hd:b9 n dst=true)(h:St C n (put fr dst (.pointer (some ad))) own G (dw P ops Q r)):St C n fr own G (dw P ops Q (⟨dst, .nilCheck x,ty',pos,af,none⟩::r)):=qH (kD hx) J hd h
def sf{b o f off:Nat}[hF:kE P t f off](hx:aw fr x=some (.pointer (some ⟨b,o,none⟩)))(hd:b9 n dst=true)(h:St C n (put fr dst (.pointer (some ⟨b,o+off,none⟩))) own G (dw P ops Q r)):St C n fr own G (dw P ops Q (⟨dst, .fieldAddr t x f,ty',pos,af,none⟩::r)):=qH (nF hx) J hd h
def Fh{b off k:Nat}{cs l:List Value}{lo:Bool}{ty:TypeId}(hx:aw fr x=some (.pointer (some ⟨b,off,none⟩)))[ho:io own b cs ty lo][kO P t k](hl:cF cs off k=some l)(hd:b9 n dst=true)
  (h:St C n (put fr dst (.agg ⟨l⟩)) own G (dw P ops Q r)):St C n fr own G (dw P ops Q (⟨dst, .load t x,ty',pos,af,none⟩::r)):=qH (Bm hx hl) J hd h
def pz{b off:Nat}{cs:List Value}{v:Value}{lo:Bool}{ty:TypeId}(hx:aw fr x=some (.pointer (some ⟨b,off,none⟩)))[ho:io own b cs ty lo][ig P t](hl:cs[off]? =some v)(hd:b9 n dst=true)
  (h:St C n (put fr dst v) own G (dw P ops Q r)):St C n fr own G (dw P ops Q (⟨dst, .load t x,ty',pos,af,none⟩::r)):=qH (lg hx hl) J hd h
def Vu{A:Gh}{b off:Nat}{cs:List Value}{v:Value}(hx:aw fr x=some (.pointer (some ⟨b,off,none⟩)))[hg:wC A b cs][hk:GL A G][ig P t](hl:cs[off]? =some v)(hd:b9 n dst=true)
  (h:St C n (put fr dst v) own G (dw P ops Q r)):St C n fr own G (dw P ops Q (⟨dst, .load t x,ty',pos,af,none⟩::r)):=qH (y5 hx (hk.le _ _ hg.h) hl) J hd h
def c7{e s by_:Nat}{ad:Option Addr}{len cap:Nat}[hT:cj P t e s by_](hx:aw fr x=some (.slice ad len cap))(hd:b9 n dst=true)
  (h:St C n (put fr dst (.int .i64 len)) own G (dw P ops Q r)):St C n fr own G (dw P ops Q (⟨dst, .call ⟨.builtin .len, #[x], #[t]⟩,ty',pos,af,none⟩::r)):=qH (nG hx) J hd h
def sx{vs:Array Value}{i:Nat}{v:Value}(hx:aw fr x=some (.tuple vs))(hv:vs[i]? =some v)(hd:b9 n dst=true)(h:St C n (put fr dst v) own G (dw P ops Q r)):St C n fr own G (dw P ops Q (⟨dst, .extract x i,ty',pos,af,none⟩::r)):=qH (IE hx hv) J hd h
def eG{C:aD}{n:Nat}{fr:Fr}{own:List ao}{G:Gh}{K:Act->World->Prop}{Q:Exit->Act->World->Prop}{id:Nat}(h:St C n fr own G (Q (.exit id))):St C n fr own G (Exit.then K Q (.exit id)):=h
def bO{op:Op}{v:Value}{j d:Nat}{b:Bool}(hj:(ops[j]?).bind (·.dst)=some d)(hl:im fr d=some (.bool b))(hy:Yd P C fr own G ⟨dst,op,ty',pos,af,some (j,b)⟩ v)(hd:b9 n dst=true)(h:St C n (put fr dst v) own G (dw P ops Q r)):St C n fr own G (dw P ops Q (⟨dst,op,ty',pos,af,some (j,b)⟩::r)):=Uj J hj hl hy hd h
def ss{op:Op}{j d:Nat}{b c:Bool}(hj:(ops[j]?).bind (·.dst)=some d)(hl:im fr d=some (.bool c))(hbc:(c==b)=false)(hd:b9 n dst=true)(h:St C n (put fr dst undef) own G (dw P ops Q r)):St C n fr own G (dw P ops Q (⟨dst,op,ty',pos,af,some (j,b)⟩::r)):=aA7 J hj hl hbc hd h
def sy{op:Op}{v:Value}(hy:Yd P C fr own G ⟨dst,op,ty',pos,af,none⟩ v)(hd:b9 n dst=true)(h:St C n (put fr dst v) own G (dw P ops Q r)):St C n fr own G (dw P ops Q (⟨dst,op,ty',pos,af,none⟩::r)):=qH hy J hd h
def sc{op:Op}(hc:Ch P C n fr own G ⟨dst,op,ty',pos,af,none⟩ (dw P ops Q r)):St C n fr own G (dw P ops Q (⟨dst,op,ty',pos,af,none⟩::r)):=SQ J hc
end
def Fn.of_calls{P:Program}{f:FuncId}{vs:List Value}{G:Gh}{v:Value}(ha:o8 P f)(h: ∀w,Calls P f ⟨vs⟩ w fun e w'=>e= .returned v/\w'=w):Fn P f vs G (fun u _=>u=v):=
 ⟨ha,fun w hw=>(h w).mono fun e w' ⟨he,hww⟩=>⟨v,G,he,by
  subst hww;exact⟨J,J,J,aN _,fun _ _ _=>J,hw,bz.refl _,fun _ _=>J,fun o ho=>(by cases ho), .nil,aN _,fun p hp=>by cases hp⟩,J⟩⟩
end Go.Sx
end
section
namespace Go.Sx
def dv:List Nat->Nat
 |[]=>0
 |d::t=>d+4294967296*dv t
def bm(ds:List Nat):Prop:= ∀d∈ds,d<4294967296
def eh(ds:List Nat):Prop:=ds.getLast? ≠some 0
instance (ds:List Nat):Decidable (eh ds):=inferInstanceAs (Decidable (ds.getLast? ≠some 0))
def bm.nil:bm []:=fun _ h=>by cases h
def bm.cons{d:Nat}{ds:List Nat}(h:d<4294967296)(k:bm ds):bm (d::ds):=fun x hx=>by
 rcases aY.1 hx with rfl|h'
 ·exact h
 ·exact k _ h'
def bm.head{d:Nat}{ds:List Nat}(h:bm (d::ds)):d<4294967296:=h d aQ
def bm.tail{d:Nat}{ds:List Nat}(h:bm (d::ds)):bm ds:=fun x hx=>h x (aZ _ hx)
def bm.append{a b:List Nat}(h:bm a)(k:bm b):bm (a++b):=fun x hx=>by
 rcases bV.1 hx with h'|h'
 ·exact h _ h'
 ·exact k _ h'
def bm.take{a:List Nat}(h:bm a)(n:Nat):bm (a.take n):=fun x hx=>h x (fK hx)
def bm.drop{a:List Nat}(h:bm a)(n:Nat):bm (a.drop n):=fun x hx=>h x (iY hx)
def bm.get{a:List Nat}(h:bm a)(i:Nat):a.getD i 0<4294967296:=by
 rw[aK]
 cases hi:a[i]? with
 |none=>simp
 |some d=>exact h d (bX hi)
def bm.set{a:List Nat}(h:bm a)(i:Nat){d:Nat}(hd:d<4294967296):bm (a.set i d):=fun x hx=>by
 rcases pM hx with h'|rfl
 ·exact h _ h'
 ·exact hd
def bm.replicate(n:Nat):bm (List.replicate n 0):=fun x hx=>by
 rw[mJ hx];omega
def xb(a b:List Nat):dv (a++b)=dv a+4294967296^a.length*dv b:=by
 induction a with
 |nil=>simp[dv]
 |cons d t ih=>
  simp only[cW,dv,ih,bW,gX];rw[dV,<-kZ,<-cJ,cX 4294967296 (4294967296^t.length)]
def ju{ds:List Nat}(h:bm ds):dv ds<4294967296^ds.length:=by
 induction ds with
 |nil=>simp[dv]
 |cons d t ih=>
  have h1:=h.head;have h2:=ih h.tail;simp only[dv,bW,gX];omega
def xG(n:Nat):dv (List.replicate n 0)=0:=by
 induction n with
 |zero=>rfl
 |succ n ih=>simp[jK,dv,ih]
def jl(ds:List Nat)(i:Nat):dv (ds.take (i+1))=dv (ds.take i)+4294967296^i*ds.getD i 0:=by
 by_cases h:i<ds.length
 ·rw[fJ h,xb]
  simp[dv,gV (oT h),aK,h]
 ·have:ds.getD i 0=0:=by rw[aK,dW (by omega)];rfl
  rw[this,bZ (by omega),bZ (by omega)];simp
def AT(ds:List Nat)(i:Nat)(h:i<=ds.length):dv ds=dv (ds.take i)+4294967296^i*dv (ds.drop i):=by
 have:=xb (ds.take i) (ds.drop i);rw[kW] at this;rw[this];simp[gV h]
def trimD:List Nat->List Nat
 |[]=>[]
 |d::t=>match trimD t with
  |[]=>if d=0 then [] else [d]
  |t'=>d::t'
def vT(d:Nat)(t:List Nat):trimD (d::t)=if trimD t=[]/\d=0 then [] else d::trimD t:=by
 simp only[trimD]
 cases h:trimD t with
 |nil=>by_cases hd:d=0<;>simp[hd]
 |cons a b=>simp
def jG(ds:List Nat):dv (trimD ds)=dv ds:=by
 induction ds with
 |nil=>rfl
 |cons d t ih=>
  rw[vT];split
  ·rename_i h
   rw[h.1] at ih;simp[dv,<-ih,h.2]
  ·simp[dv,ih]
def Ox(ds:List Nat):trimD (ds++[0])=trimD ds:=by
 induction ds with
 |nil=>rfl
 |cons d t ih=>rw[cW,vT,vT,ih]
def Fd{ds:List Nat}{d:Nat}(h:d≠0):trimD (ds++[d])=ds++[d]:=by
 induction ds with
 |nil=>simp[trimD,h]
 |cons e t ih=>rw[cW,vT,ih];simp
def eh.trimD(ds:List Nat):eh (trimD ds):=by
 induction ds with
 |nil=>simp[eh,Sx.trimD]
 |cons d t ih=>
  rw[vT];split
  ·simp[eh]
  ·rename_i h
   unfold eh at*;rw[List.getLast?_cons]
   cases ht:(Sx.trimD t).getLast? with
   |none=>
    have:Sx.trimD t=[]:=by simpa using ht
    simp only[Option.getD_none,ne_eq,Option.some.injEq];exact fun hd=>h ⟨this,hd⟩
   |some x=>rw[ht] at ih;simpa using ih
def ni(ds:List Nat):(trimD ds).length<=ds.length:=by
 induction ds with
 |nil=>simp[trimD]
 |cons d t ih=>
  rw[vT];split
  ·simp
  ·simp;omega
def Mo(ds:List Nat):trimD ds=ds.take (trimD ds).length:=by
 induction ds with
 |nil=>rfl
 |cons d t ih=>
  rw[vT];split
  ·rfl
  ·simp only[bW,oX];rw[<-ih]
def bm.trimD{ds:List Nat}(h:bm ds):bm (trimD ds):=by rw[Mo];exact h.take _
def OZ{ds:List Nat}(h:eh ds):trimD ds=ds:=by
 rcases rL ds with rfl|⟨l,d,rfl⟩
 ·rfl
 ·rw[rM] at*
  exact Fd (fun e=>by subst e;simp[eh] at h)
def qI{ds:List Nat}(h:eh ds)(hne:ds≠[]):4294967296^(ds.length-1)<=dv ds:=by
 rcases rL ds with rfl|⟨l,d,rfl⟩
 ·exact absurd J hne
 ·rw[rM] at*
  have hd:d≠0:=fun e=>by subst e;simp[eh] at h
  rw[xb];simp only[aS,bW,jQ,dv];have:4294967296^(l.length+(0+1)-1)=4294967296^l.length:=by congr 1
  rw[this];have h1:4294967296^l.length*1<=4294967296^l.length*(d+4294967296*0):=fL _ (by omega);omega
def Wm{ds:List Nat}(h:eh ds):dv ds=0↔ds=[]:=by
 constructor
 ·intro h0
  by_cases hne:ds=[]
  ·exact hne
  ·have:=qI h hne
   have hp:0<4294967296^(ds.length-1):=fV (by omega);omega
 ·rintro rfl;rfl
def ta{a b:List Nat}(ha:bm a)(hb:eh b)(h:a.length<b.length):dv a<dv b:=by
 have h1:=ju ha;have h2:=qI hb (fun e=>by subst e;simp at h);have h3:4294967296^a.length<=4294967296^(b.length-1):=bR (by omega) (by omega);omega
def Jd: ∀{a b:List Nat},bm a->bm b->a.length=b.length->dv a=dv b->a=b
 |[],[],_,_,_,_=>rfl
 |d::t,e::u,ha,hb,hl,h=>by
  have h1:=ha.head;have h2:=hb.head;simp only[dv] at h;have:d=e:=by omega
  subst this;rw[Jd ha.tail hb.tail (by simpa using hl) (by omega)]
def Zg{a b:List Nat}(ha:bm a)(hb:bm b)(na:eh a)(nb:eh b)(h:dv a=dv b):a=b:=by
 refine Jd ha hb ?_ h;rcases rT a.length b.length with h'|h'|h'
 ·have:=ta ha nb h';omega
 ·exact h'
 ·have:=ta hb na h';omega
def AY{a b:List Nat}(ha:bm a)(hb:bm b)(i:Nat)(hia:i<a.length)(hib:i<b.length)(hl:a.length=b.length)(hs:a.drop (i+1)=b.drop (i+1))(h:a.getD i 0<b.getD i 0):dv a<dv b:=by
 rw[AT a (i+1) (by omega),AT b (i+1) (by omega),hs,jl,jl];have h1:=ju (ha.take i);rw[cK,gV (by omega)] at h1;have h2:4294967296^i*(a.getD i 0+1)<=4294967296^i*b.getD i 0:=fL _ h;rw[dV] at h2;omega
def RH{ds:List Nat}{k:Nat}(h:eh ds)(hk:dv ds<2^k):32*ds.length<=k+31:=by
 by_cases hne:ds=[]
 ·subst hne;simp
 ·have h1:=qI h hne
  have h2:(4294967296:Nat)^(ds.length-1)=2^(32*(ds.length-1)):=by
   rw[pK]
  rw[h2] at h1;have h3:2^(32*(ds.length-1))<2^k:=gJ h1 hk;have h4:=(nN (by omega:1<2)).1 h3;have:0<ds.length:=by cases ds with|nil=>exact absurd J hne|cons _ _=>simp
  omega
def dg(x:Nat):List Nat:=if h:x=0 then [] else(x%4294967296)::dg (x/4294967296)
termination_by x
decreasing_by omega
def eo(x:Nat):dv (dg x)=x/\bm (dg x)/\eh (dg x):=by
 induction x using Nat.strongRecOn with
 |_ x ih=>
  unfold dg;split
  ·rename_i h;subst h;exact⟨rfl, .nil,by simp[eh]⟩
  ·rename_i h
   obtain⟨h1,h2,h3⟩:=ih (x/4294967296) (by omega);refine⟨by rw[dv,h1];omega, .cons (by omega) h2,?_⟩;unfold eh at*;rw[List.getLast?_cons]
   cases hl:(dg (x/4294967296)).getLast? with
   |none=>
    have:dg (x/4294967296)=[]:=by simpa using hl
    rw[this] at h1;simp only[Option.getD_none,ne_eq,Option.some.injEq];simp only[dv] at h1;omega
   |some y=>rw[hl] at h3;simpa using h3
def yc{ds:List Nat}(h:bm ds)(n:eh ds):dg (dv ds)=ds:=Zg (eo _).2.1 h (eo _).2.2 n (eo _).1
def pI{ds:List Nat}(h:bm ds):dg (dv ds)=trimD ds:=by rw[<-jG];exact yc h.trimD (eh.trimD _)
def px: ∀(ws:List Nat) (j d:Nat),j<ws.length->dv (ws.set j d)+4294967296^j*ws.getD j 0=dv ws+4294967296^j*d
 |[],j,d,h=>by simp at h
 |w::t,0,d,h=>by simp[dv];omega
 |w::t,j+1,d,h=>by
  have ih:=px t j d (by simpa using h);simp only[List.set_cons_succ,dv,lS,gX];have h1:4294967296^j*4294967296*t.getD j 0=4294967296*(4294967296^j*t.getD j 0):=by rw[cX (4294967296^j),cJ]
  have h2:4294967296^j*4294967296*d=4294967296*(4294967296^j*d):=by rw[cX (4294967296^j),cJ]
  rw[h1,h2];omega
def qf{ws:List Nat}{k d:Nat}(h:k<ws.length):dv ((ws.set k d).take (k+1))=dv (ws.take k)+4294967296^k*d:=by
 rw[fJ (by simpa using h),List.take_set_of_le (aN _),xb];simp[dv,gV (oT h)]
def Gc(p x:Nat):p*x=p*(x%4294967296)+p*4294967296*(x/4294967296):=by
 have h:p*x=p*(4294967296*(x/4294967296)+x%4294967296):=by rw[qS]
 rw[dV,<-cJ] at h;omega
def Pi{p A E W c a b:Nat}(h:W+p*c=A+E):(W+p*((c+a+b)%4294967296))+(p*4294967296)*((c+a+b)/4294967296)=(A+p*a)+(E+p*b):=by
 have h1:=Gc p (c+a+b);rw[dV,dV] at h1;omega
def Nc{p A E W bo b a:Nat}(h:W+E=A+p*bo)(hle:bo+b<=a):(W+p*(a-(bo+b)))+(E+p*b)=(A+p*a)+p*4294967296*0:=by
 have h1:p*a=p*(a-(bo+b))+p*bo+p*b:=by
  rw[<-dV,<-dV];congr 1;omega
 omega
def NY{p A E W bo b a:Nat}(h:W+E=A+p*bo)(hle:a<bo+b)(hb:bo+b<=a+4294967296):(W+p*(a+4294967296-(bo+b)))+(E+p*b)=(A+p*a)+p*4294967296*1:=by
 have h1:p*a+p*4294967296=p*(a+4294967296-(bo+b))+p*bo+p*b:=by
  rw[<-dV,<-dV,<-dV];congr 1;omega
 omega
def O1{p W W' T c m w:Nat}(hs:W'+p*w=W+p*((c+m+w)%4294967296))(h:W+p*c=T):W'+(p*4294967296)*((c+m+w)/4294967296)=T+p*m:=by
 have h1:=Gc p (c+m+w);rw[dV,dV] at h1;omega
end Go.Sx
end
section
namespace Go.Sx
open Go
section
variable {P:Program} {C:aD} {n:Nat} {fr:Fr} {own:List ao} {G:Gh}
def YU{c:Code}{Q:Exit->Act->World->Prop}(h:St C n fr own G (c.wp P (Exit.noGoto Q))):St C n fr own G ((Code.scope c).wp P Q):=
 fun a w rl=>wp_scope_straight (h a w rl)
def SA{l:Nat}{Q:Exit->Act->World->Prop}(h:St C n fr own G (Q .normal)):St C n fr own G ((Code.label l).wp P Q):=
 fun a w rl=>wp_label (h a w rl)
def Ns:Exit->Bool
 | .goto _=>false
 |_=>true
end
section
variable {P:Program} {ops:Array Oper} {Q:Exit->Act->World->Prop} {S:World->Prop} {fin:Nat->Bool} {k:Nat} {π₂:List (Nat×Bool)}
def LG(ops:Array Oper)(fin:Nat->Bool)(k:Nat)(π₂:List (Nat×Bool)):List (Nat×Bool)->Array Bool->Bool
 |[],listed=>(Region.ready .any ops listed==[k])&&py ops fin π₂ (listed.setIfInBounds k true)
 |(i,true)::r,listed=>!(Nat.beq i k)&&xi ops fin listed i&&xi ops fin (listed.setIfInBounds k true) i&&LG ops fin k π₂ r (listed.setIfInBounds i true)
 |(i,false)::r,listed=>!(Nat.beq i k)&&(Region.ready .any ops listed).all (fun j=>Nat.beq j i||Nat.beq j k)&&(Region.ready .any ops listed).contains i&&(Region.ready .any ops (listed.setIfInBounds k true)==[i])&&LG ops fin k π₂ r (listed.setIfInBounds i true)
def GA(P:Program)(ops:Array Oper)(Q:Exit->Act->World->Prop)(S:World->Prop)(fin:Nat->Bool)(k:Nat)(π₂:List (Nat×Bool)):List (Nat×Bool)->Act->World->Prop
 |[],a,w=>wpOp P ops Q k (fun a' w'=>(fin k=true\/S w')/\gh P ops Q S fin π₂ a' w') a w
 |(i,true)::r,a,w=> ∃o v,ops[i]? =some o/\S w/\YieldsIf P ops S o v a/\GA P ops Q S fin k π₂ r (a.put o.dst v) w
 |(i,false)::r,a,w=>wpOp P ops Q i (fun a' w'=>(fin i=true\/S w')/\GA P ops Q S fin k π₂ r a' w') a w/\
   wpOp P ops Q k (fun a' w'=>(fin k=true\/S w')/\gh P ops Q S fin ((i,false)::r++π₂) a' w') a w
end
section
variable {P:Program} {C:aD} {n:Nat} {fr:Fr} {own own0:List ao} {G G0:Gh} {ops:Array Oper} {Q:Exit->Act->World->Prop} {fin:Nat->Bool} {k:Nat} {π π₂:List (Nat×Bool)}
def fF(d:Nat):Option Nat->Fr
 |none=>[]
 |some b=>[(d, .pointer (some ⟨b,0,none⟩))]
def fO(t:TypeId)(z:Value):Option Nat->List ao
 |none=>[]
 |some b=>[⟨b,aE z,t,true⟩]
def dwE(P:Program)(ops:Array Oper)(Q:Exit->Act->World->Prop)(S:World->Prop)(fin:Nat->Bool)(k:Nat)(π₂:List (Nat×Bool))(fl:Option Nat)(π:List (Nat×Bool)):Act->World->Prop:=
 match fl with
 |none=>GA P ops Q S fin k π₂ π
 |some _=>gh P ops Q S fin (π++π₂)
end
def relo(fl:Nat->Bool)(o:ao):ao:={o with lo:=fl o.b}
structure iA (P:Program) (f:FuncId) (vs:List Value) (M:List ao) (G:Gh) (K:Value->List ao->Gh->Prop):Prop where
 able:o8 P f
 run: ∀w,bp ⟨w,G,M.map (·.b),[],[],none,fun _=>none⟩ (asB M) G w->
  Calls P f ⟨vs⟩ w fun e w'=> ∃v own' G',e= .returned v/\bp ⟨w,G,M.map (·.b),[],[],none,fun _=>none⟩ own' G' w'/\K v own' G'
def e7(M:List ao)(b:Nat):Bool:=M.all fun m=>!Nat.beq m.b b||m.lo
def bp.calledO{C:aD}{M rest own':List ao}{G G':Gh}{w w':World}(h:bp C (M++rest) G w)(k:bp ⟨w,G,M.map (·.b),[],[],none,fun _=>none⟩ own' G' w'):
  bp C (own'.map (relo (e7 M))++rest) G' w':=by
 have hsz:w.heap.size<=w'.heap.size:=k.size;have hnd:=h.nd;have inM: ∀b,b∈M.map (·.b)-> ∀o∈rest,o.b≠b:=fun b hb o ho e=>by
  obtain⟨m,hm,rfl⟩:=bJ.1 hb;exact(fM.1 hnd).2.2 m hm o ho e.symm
 have bnd: ∀o∈own',o.b∉M.map (·.b)->w.heap.size<=o.b:=fun o ho hb=>by
  obtain⟨_,_,h3,h4⟩:=k.hown o ho
  cases hlo:o.lo with
  |true=>exact h3 hlo
  |false=>exact absurd (h4 hlo) hb
 refine⟨k.os.trans h.os,k.tape.trans h.tape,k.output.trans h.output,cM h.size hsz,?_,k.sub,h.gle.trans k.gle,?_,?_,?_,cM h.dr k.dr,fun p hp=>⟨(h.ext p hp).1,by rw[k.keep _ (gE (h.ext p hp).2) (h.extM hp)];exact(h.ext p hp).2⟩⟩
 ·intro b hb hm
  have hs:=h.size;have hnM:b∉M.map (·.b):=fun hb'=>by
   obtain⟨m,hmM,rfl⟩:=bJ.1 hb';obtain⟨_,_,h3,h4⟩:=h.hown m (bK _ hmM)
   cases hlo:m.lo with
   |true=>have:=h3 hlo;omega
   |false=>exact hm (h4 hlo)
  rw[k.keep b (by show b<w.heap.size;omega) hnM];exact h.keep b hb hm
 ·intro b hb;have:=h.size;rw[k.gold b (by show b<w.heap.size;omega)];exact h.gold b hb
 ·intro o ho
  have hs:=h.size;rcases bV.1 ho with ho|ho
  ·obtain⟨o',ho',rfl⟩:=bJ.1 ho
   obtain⟨k1,k2,k3,k4⟩:=k.hown _ ho';refine⟨k1,k2,fun hl=>?_,fun hl=>?_⟩
   ·show C.w0.heap.size<=o'.b
    by_cases hb:o'.b∈M.map (·.b)
    ·obtain⟨m,hm,hmb⟩:=bJ.1 hb
     have hl':e7 M o'.b=true:=hl;have:=fZ.1 hl' m hm;simp only[hmb,iU,iJ,lV] at this;obtain⟨_,_,h3,_⟩:=h.hown m (bK _ hm);rw[<-hmb];exact h3 (by rcases this with h|h;(cases h);(exact h))
    ·have:=bnd o' ho' hb;omega
   ·show o'.b∈C.mb
    have hl':e7 M o'.b=false:=hl;obtain⟨m,hm,hmb⟩:=List.all_eq_false.1 hl';simp only[iU,iJ,not_or] at hmb;obtain⟨h1,h2⟩:=hmb;have e:m.b=o'.b:=by
     cases hq:Nat.beq m.b o'.b with
     |true=>exact aU hq
     |false=>exact absurd hq h1
    obtain⟨_,_,_,h4⟩:=h.hown m (bK _ hm);rw[<-e];exact h4 (by cases hq:m.lo with
     |true=>exact absurd hq h2
     |false=>rfl)
  ·obtain⟨h1,h2,h3⟩:=h.hown o (bM _ ho)
   have hnM:o.b∉M.map (·.b):=fun hb=>inM _ hb o ho J;exact⟨by rw[k.keep _ (gE h1) hnM];exact h1,by rw[k.gold _ (gE h1)];exact h2,h3⟩
 ·refine fM.2 ⟨?_,(fM.1 hnd).2.1,?_⟩
  ·rw[rY];exact k.nd
  ·intro x hx y hy
   obtain⟨o',ho',rfl⟩:=bJ.1 hx;show o'.b≠y.b;by_cases hb:o'.b∈M.map (·.b)
   ·exact fun e=>inM _ hb y hy e.symm
   ·have h1:=bnd o' ho' hb
    have h2:=gE (h.hown y (bM _ hy)).1;omega
def qq(C:aD)(K:Value->List ao->Gh->Prop):Ending->World->Prop:=fun e w'=> ∃v own' G',e= .returned v/\bp C own' G' w'/\K v own' G'
def iA.introR{P:Program}{G:Gh}{f:FuncId}{fn:Func}{c:Code}{vs:List Value}{m:Nat}{M:List ao}{K:Value->List ao->Gh->Prop}(hf:P.funcs[f]? =some fn)(hb:fn.body=some c)(hn:(fn.name== "runtime.NumGoroutine")=false)(hm:fn.ntmps=m)(hlen:Nat.ble vs.length m=true)
  (h: ∀C:aD,C.G0=G->C.mb=M.map (·.b)->C.rd=none->(C.fx=fun _=>none)->St C m (mF 0 vs) (asB M) G (c.wp P (fp C P fn (qq C K)))):iA P f vs M G K:=by
 refine⟨⟨fn,hf,hn,by simp[hb]⟩,fun w hw=>?_⟩;have hlen':vs.length<=m:=by simpa using hlen
 have:=calls_of_wp (P:=P) (f:=f) (args:=⟨vs⟩) (w:=w) (R:=qq ⟨w,G,M.map (·.b),[],[],none,fun _=>none⟩ K) hf hb (wp_mono (h ⟨w,G,M.map (·.b),[],[],none,fun _=>none⟩ J J J J _ w
  ⟨hw,by simp;omega,fun k v hk=>by
   obtain⟨j,rfl,hj⟩:=uN vs 0 k v hk;have hj':=(aR.1 hj).1;rw[jY (by simpa using hj')];simpa using hj,J⟩) fun _ _ _ k=>k J)
 exact this
def iA.intro{P:Program}{G:Gh}{f:FuncId}{fn:Func}{c:Code}{vs:List Value}{m:Nat}{M:List ao}{K:Value->List ao->Gh->Prop}(hf:P.funcs[f]? =some fn)(hb:fn.body=some c)(hn:(fn.name== "runtime.NumGoroutine")=false)(hm:fn.ntmps=m)(hlen:Nat.ble vs.length m=true)
  (h: ∀C:aD,C.G0=G->C.mb=M.map (·.b)->St C m (mF 0 vs) (asB M) G (c.wp P (fp C P fn (qq C K)))):iA P f vs M G K:=
 iA.introR hf hb hn hm hlen fun C a b _ _=>h C a b
section
variable {P:Program} {C:aD} {n:Nat} {fr:Fr} {own own':List ao} {G:Gh} {Φ:Act->World->Prop}
variable {dst:Option Nat} {t t' ty':TypeId} {pos:String} {af:Array Edge} {gd:Option (Nat×Bool)} {x y:Operand}
def yy{fn:Func}{K:Value->List ao->Gh->Prop}{vs:List Value}(hr:ku P fr own fn.results.toList vs)(own2 own3:List ao)(hp:own.Perm own2)(hs:own3.Sublist own2)(hk:K (gH vs) own3 G):St C n fr own G (fp C P fn (qq C K) .ret):=
 fun a w rl hmk=>⟨rl.df.trans hmk,_,te hr rl.fr rl.h,_,own3,G,J,(rl.h.perm hp).drop hs,hk⟩
def JF{f:FuncId}{fo:Operand}{args:Array Operand}{tys:Array TypeId}{vs c1 c2:List Value}{M rest:List ao}{K:Value->List ao->Gh->Prop}(ho:aw fr fo=some (.func (.func f) ⟨c1⟩ ⟨c2⟩))(hv:fy fr args.toList=some vs)
  (hp:own.Perm (M++rest))(hF:iA P f (c1++vs++c2) M G K)(hd:b9 n dst=true)(h: ∀v own1 (G':Gh),[GE G G']->K v own1 G'->St C n (put fr dst v) (own1.map (relo (e7 M))++rest) G' Φ):
  Ch P C n fr own G ⟨dst, .call ⟨.value fo,args,tys⟩,ty',pos,af,gd⟩ Φ:=by
 intro a w Q rl;have h2:=CZ (P:=P) (dst:=dst) (ty':=ty') (pos:=pos) (af:=af) (gd:=gd) (tys:=tys) (w:=w) hF.able rl.fr ho hv;simp only[Oper.wp,h2,Oper.upon];have hh0:=rl.h.perm hp;refine(hF.run w hh0.lend).mono ?_;rintro e w' ⟨v,own1,G',rfl,hh,hK⟩;exact @h v own1 G' ⟨hh.gle⟩ hK _ _ ((rl.heap (hh0.calledO hh)).put _ hd)
def sA{f:FuncId}{fo:Operand}{args:Array Operand}{tys:Array TypeId}{vs:List Value}{M rest:List ao}{K:Value->List ao->Gh->Prop}(ho:aw fr fo=some (.func (.func f) #[] #[]))(hv:fy fr args.toList=some vs)
  (hp:own.Perm (M++rest))(hF:iA P f vs M G K)(hd:b9 n dst=true)(h: ∀v own1 (G':Gh),[GE G G']->K v own1 G'->St C n (put fr dst v) (own1.map (relo (e7 M))++rest) G' Φ):
  Ch P C n fr own G ⟨dst, .call ⟨.value fo,args,tys⟩,ty',pos,af,gd⟩ Φ:=
 JF (c1:=[]) (c2:=[]) ho hv hp (by simpa using hF) hd h
def aDn{b:Nat}{cs:List Value}{ty:TypeId}{lo:Bool}(hC:C.mb=[])(h:St C n fr (⟨b,cs,ty,true⟩::own) G Φ):St C n fr (⟨b,cs,ty,lo⟩::own) G Φ:=by
 intro a w rl
 cases lo with
 |true=>exact h a w rl
 |false=>
  have:=(rl.h.hown _ aQ).2.2.2 J;rw[hC] at this;cases this
end
structure SV where
 a:Option Addr
 n:Nat
 c:Nat
def SV.v(x:SV):Value:= .slice x.a x.n x.c
structure eB (G:Gh) (s:Nat) (x:SV) (es:List Value):Prop where
 len:x.n=es.length
 cap:x.n<=x.c
 mem:es=[]\/ ∃b off cs,x.a=some ⟨b,off,none⟩/\G b=some cs/\ ∀i (h:i<es.length),cF cs (off+i*s) s=some (aE es[i])
def eB.up'{A G:Gh}{s:Nat}{x:SV}{es:List Value}(h:eB A s x es)(k:bz A G):eB G s x es:=
 ⟨h.len,h.cap,h.mem.imp id (fun⟨b,off,cs,h1,h2,h3⟩=>⟨b,off,cs,h1,k _ _ h2,h3⟩)⟩
def eB.up{A G:Gh}{s:Nat}{x:SV}{es:List Value}(h:eB A s x es)[k:GL A G]:eB G s x es:=h.up' k.le
def eB.nil(G:Gh)(s:Nat):eB G s ⟨none,0,0⟩ []:=⟨J,aN _, .inl J⟩
def eB.take{G:Gh}{s:Nat}{x:SV}{es:List Value}(h:eB G s x es)(k:Nat)(hk:k<=es.length):eB G s ⟨x.a,k,x.c⟩ (es.take k):=by
 refine⟨by simp[hk],by show k<=x.c;have:=h.len;have:=h.cap;omega,?_⟩;rcases h.mem with h0|⟨b,off,cs,h1,h2,h3⟩
 ·left;simp[h0]
 ·right;exact⟨b,off,cs,h1,h2,fun i hi=>by
   simp only[cK] at hi;rw[h3 i (by omega)];simp⟩
def uW(a:Option Addr)(k:Nat):Option Addr:=a.map (·.add k)
section
variable {P:Program} {C:aD} {n:Nat} {fr:Fr} {own own':List ao} {G:Gh} {Φ:Act->World->Prop}
variable {dst:Option Nat} {t t' ty':TypeId} {pos:String} {af:Array Edge} {gd:Option (Nat×Bool)} {x y:Operand} {e s by_:Nat}
def Es{A:Gh}[hT:cj P t e s by_]{k:IntKind}{z:SV}{es:List Value}{i:Int}(hs:eB A s z es)(hx:aw fr x=some (.slice z.a z.n z.c))(hy:aw fr y=some (.int k i))(h0:0<=i)(h1:i<z.n):
  Yd P C fr own G ⟨dst, .indexAddr t x y,ty',pos,af,gd⟩ (.pointer (uW z.a (i.toNat*s))):=by
 rcases hs.mem with h|⟨b,off,cs,ha,hg,hc⟩
 ·have:=hs.len;rw[h] at this;simp at this;omega
 ·rw[ha] at hx
  have:=AG (P:=P) (C:=C) (own:=own) (G:=G) (t:=t) (dst:=dst) (ty':=ty') (pos:=pos) (af:=af) (gd:=gd) (by_:=by_) hx hy h0 h1;rw[ha];simpa[uW,oG] using this
def KO{A:Gh}[hA:kO P t s]{z:SV}{es:List Value}{i:Nat}{l:List Value}(hs:eB A s z es)[hl:GL A G](hx:aw fr x=some (.pointer (uW z.a (i*s))))(h1:i<es.length)(he:es[i]? =some (.agg ⟨l⟩)):
  Yd P C fr own G ⟨dst, .load t x,ty',pos,af,gd⟩ (.agg ⟨l⟩):=by
 rcases hs.mem with h|⟨b,off,cs,ha,hg,hc⟩
 ·rw[h] at h1;simp at h1
 ·rw[ha] at hx
  have h2:=hc i h1;rw[aX h1] at he;have he':es[i]= .agg ⟨l⟩:=by simpa using he
  rw[he'] at h2;exact F2 (by simpa[uW,oG] using hx) (hl.le _ _ hg) h2
def ZN{A:Gh}[hA:ig P t]{z:SV}{es:List Value}{i:Nat}{v:Value}(hs:eB A 1 z es)[hl:GL A G](hx:aw fr x=some (.pointer (uW z.a (i*1))))(he:es[i]? =some v)(hv:flat v=true):
  Yd P C fr own G ⟨dst, .load t x,ty',pos,af,gd⟩ v:=by
 obtain⟨h1,he'⟩:=aR.1 he;rcases hs.mem with h|⟨b,off,cs,ha,hg,hc⟩
 ·rw[h] at h1;simp at h1
 ·rw[ha] at hx
  have h2:=hc i h1;rw[he'] at h2;have hcv:aE v=[v]:=by cases v<;>first|rfl|(simp[flat] at hv)
  rw[hcv] at h2;obtain⟨_,h3⟩:=ql _ _ _ _ h2;have h4:=h3 0 (by omega);exact y5 (off:=off+i*1) (by simpa[uW,oG] using hx) (hl.le _ _ hg) (by simpa using h4)
end
def dI(d:Nat):Value:= .int .u32 (d:Int)
structure cx (G:Gh) (x:SV) (ds:List Nat):Prop where
 ok:bm ds
 sl:eB G 1 x (ds.map dI)
def cx.len{G:Gh}{x:SV}{ds:List Nat}(h:cx G x ds):x.n=ds.length:=by simpa using h.sl.len
def cx.up{A G:Gh}{x:SV}{ds:List Nat}(h:cx A x ds)[k:GL A G]:cx G x ds:=⟨h.ok,h.sl.up⟩
def cx.nil(G:Gh):cx G ⟨none,0,0⟩ []:=⟨.nil, .nil G 1⟩
def cx.take{G:Gh}{x:SV}{ds:List Nat}(h:cx G x ds)(k:Nat)(hk:k<=ds.length):cx G ⟨x.a,k,x.c⟩ (ds.take k):=
 ⟨h.ok.take k,by rw[lX];exact h.sl.take k (by simpa using hk)⟩
def cx.trim{G:Gh}{x:SV}{ds:List Nat}(h:cx G x ds):cx G ⟨x.a,(trimD ds).length,x.c⟩ (trimD ds):=by
 have:=h.take _ (ni ds);rwa [<-Mo] at this
def cx.of_block{G:Gh}{b c k:Nat}{cs:List Value}{ds:List Nat}(ok:bm ds)(hg:G b=some cs)(hk:k=ds.length)(hc:k<=c)(hcs:cs.take ds.length=ds.map dI):cx G ⟨some ⟨b,0,none⟩,k,c⟩ ds:=by
 refine⟨ok,by simpa using hk,hc, .inr ⟨b,0,cs,J,hg,fun i hi=>?_⟩⟩;have hi':i<ds.length:=by simpa using hi
 have hl:ds.length<=cs.length:=by
  have:=congrArg List.length hcs;simp at this;omega
 rw[lC _ _ _ (by omega)];congr 1;have h1:(cs.take ds.length)[i]? =(ds.map dI)[i]? :=by rw[hcs]
 rw[rQ,if_pos hi',fS,aX hi',aX (by omega)] at h1;have h2:cs[i]=dI ds[i]:=by simpa using h1
 rw[dT,iL,aM (by omega),oX,List.take_zero,h2,pY];rfl
structure fG (k:Nat) (G:Gh) (x:SV) (v:Nat):Prop where
 d:cx G x (dg v)
 lt:v<2^k
def fG.up{k:Nat}{A G:Gh}{x:SV}{v:Nat}(h:fG k A x v)[GL A G]:fG k G x v:=⟨h.d.up,h.lt⟩
def fG.len{k:Nat}{G:Gh}{x:SV}{v:Nat}(h:fG k G x v):x.n=(dg v).length:=h.d.len
def fG.mono{k k':Nat}{G:Gh}{x:SV}{v:Nat}(h:fG k G x v)(hk:v<2^k'):fG k' G x v:=⟨h.d,hk⟩
section
variable {P:Program} {C:aD} {n:Nat} {fr:Fr} {own own':List ao} {G:Gh} {Φ:Act->World->Prop}
variable {dst:Option Nat} {t t' ty':TypeId} {pos:String} {af:Array Edge} {gd:Option (Nat×Bool)} {x y:Operand} {e s by_:Nat}
def iB{A:Gh}[hT:cj P t e 1 by_]{k:IntKind}{z:SV}{ds:List Nat}{i:Int}(hs:cx A z ds)(hx:aw fr x=some (.slice z.a z.n z.c))(hy:aw fr y=some (.int k i))(h0:0<=i)(h1:i<z.n):
  Yd P C fr own G ⟨dst, .indexAddr t x y,ty',pos,af,gd⟩ (.pointer (uW z.a (i.toNat*1))):=Es hs.sl hx hy h0 h1
def iv{A:Gh}[hA:ig P t]{z:SV}{ds:List Nat}{i:Nat}(hs:cx A z ds)[hl:GL A G](hx:aw fr x=some (.pointer (uW z.a (i*1))))(h1:i<ds.length):
  Yd P C fr own G ⟨dst, .load t x,ty',pos,af,gd⟩ (.int .u32 ((ds.getD i 0:Nat):Int)):=
 ZN hs.sl hx (by rw[fS,aX h1,aK,aX h1];rfl) J
def Na{A:Gh}{z:SV}{ds:List Nat}(h:cx A z ds)[hl:GL A G]:l7 P C own G 1 z.n (.slice z.a z.n z.c) (ds.map dI):=by
 intro w hw;by_cases hne:ds=[]
 ·rw[h.len]
  subst hne;exact uR w hw
 rcases h.sl.mem with h0|⟨b,off,cs,ha,hg,hc⟩
 ·exact absurd (by simpa using h0) hne
 ·rw[ha]
  have hn:=h.len;refine Js (hl.le _ _ hg) ?_ w hw;rw[iL];have hel: ∀i,i<ds.length->cs[off+i]? =some (dI (ds.getD i 0)):=fun i hi=>by
   have h1:=hc i (by simpa using hi);obtain⟨_,h2⟩:=ql _ _ _ _ h1;have h3:=h2 0 (by omega);rw[iL,eY] at h3;rw[h3,pY,aK,aX hi];rfl
  by_cases h00:ds.length=0
  ·exact absurd h00 (fun e=>hne (bL e))
  ·have hlast:=hel (ds.length-1) (by omega)
   have hle:off+ds.length<=cs.length:=by
    have:=(aR.1 hlast).1;omega
   rw[hn,lC _ _ _ hle];congr 1;apply lJ;intro i;rw[rQ];split
   ·rename_i hi
    rw[mZ,hel i hi,fS,aK,aX hi];rfl
   ·rename_i hi
    rw[dW (by simpa using hi)]
def um(n:Nat):cO (.int .u32 0) n=(List.replicate n 0).map dI:=by
 unfold cO
 induction n with
 |zero=>rfl
 |succ n ih=>rw[jK,lK,ih];rfl
def fA[hT:cj P t e s by_]{k:IntKind}{b len cap:Nat}{i:Int}(hx:aw fr x=some (.slice (some ⟨b,0,none⟩) len cap))(hy:aw fr y=some (.int k i))(h0:0<=i)(h1:i<len):
  Yd P C fr own G ⟨dst, .indexAddr t x y,ty',pos,af,gd⟩ (.pointer (some ⟨b,i.toNat*s,none⟩)):=by
 have:=AG (P:=P) (C:=C) (own:=own) (G:=G) (t:=t) (dst:=dst) (ty':=ty') (pos:=pos) (af:=af) (gd:=gd) (by_:=by_) hx hy h0 h1;rwa [dT] at this
def qt[hA:ig P t]{b i:Nat}{ws:List Nat}{ty:TypeId}{lo:Bool}(hx:aw fr x=some (.pointer (some ⟨b,i*1,none⟩)))[ho:io own b (ws.map dI) ty lo](h1:i<ws.length):
  Yd P C fr own G ⟨dst, .load t x,ty',pos,af,gd⟩ (.int .u32 ((ws.getD i 0:Nat):Int)):=by
 rw[iL] at hx;refine lg hx ?_;rw[fS,aX h1,aK,aX h1];rfl
def lw{b i d:Nat}{ws:List Nat}{ty:TypeId}{lo:Bool}{v:Int}[hs:ig P t](hx:aw fr x=some (.pointer (some ⟨b,i*1,none⟩)))(hy:aw fr y=some (.int .u32 v))(hv:v=(d:Int))
  (hu:fH own b (ws.map dI) ty lo ((ws.set i d).map dI) own')(hi:i<ws.length)(hd:b9 n dst=true)(h:St C n (put fr dst undef) own' G Φ):
  Ch P C n fr own G ⟨dst, .store t x y,ty',pos,af,gd⟩ Φ:=by
 rw[iL] at hx;have hu':fH own b (ws.map dI) ty lo ((ws.map dI).set i (.int .u32 v)) own':=by
  rw[hv,<-show dI d= .int .u32 (d:Int) from J,<-oR];exact hu
 exact sv hx hy hu' (by simpa using hi) J hd h
def d5{p q:Int}(hx:aw fr x=some (.int .i64 p))(hy:aw fr y=some (.int .i64 q))(h0: -9223372036854775808<=p+q:=by omega)(h1:p+q<=9223372036854775807:=by omega):Yd P C fr own G ⟨dst, .binOp .add t x y t',ty',pos,af,gd⟩ (.int .i64 (p+q)):=Fg hx hy ⟨h0,h1⟩
def jP{p q:Int}(hx:aw fr x=some (.int .i64 p))(hy:aw fr y=some (.int .i64 q))(h0: -9223372036854775808<=p-q:=by omega)(h1:p-q<=9223372036854775807:=by omega):Yd P C fr own G ⟨dst, .binOp .sub t x y t',ty',pos,af,gd⟩ (.int .i64 (p-q)):=Ic hx hy ⟨h0,h1⟩
def Qh{p q:Int}(hx:aw fr x=some (.int .i64 p))(hy:aw fr y=some (.int .i64 q))(h0: -9223372036854775808<=p*q)(h1:p*q<=9223372036854775807):Yd P C fr own G ⟨dst, .binOp .mul t x y t',ty',pos,af,gd⟩ (.int .i64 (p*q)):=HQ hx hy ⟨h0,h1⟩
def qE{p q:Int}(hx:aw fr x=some (.int .u64 p))(hy:aw fr y=some (.int .u64 q))(h0:0<=p+q:=by omega)(h1:p+q<=18446744073709551615:=by omega):Yd P C fr own G ⟨dst, .binOp .add t x y t',ty',pos,af,gd⟩ (.int .u64 (p+q)):=Fg hx hy ⟨h0,h1⟩
def LJ{p q:Int}(hx:aw fr x=some (.int .u64 p))(hy:aw fr y=some (.int .u64 q))(h0:0<=p-q)(h1:p-q<=18446744073709551615):Yd P C fr own G ⟨dst, .binOp .sub t x y t',ty',pos,af,gd⟩ (.int .u64 (p-q)):=Ic hx hy ⟨h0,h1⟩
def Ig{p q:Int}(hx:aw fr x=some (.int .u64 p))(hy:aw fr y=some (.int .u64 q))(h0:0<=p*q)(h1:p*q<=18446744073709551615):Yd P C fr own G ⟨dst, .binOp .mul t x y t',ty',pos,af,gd⟩ (.int .u64 (p*q)):=HQ hx hy ⟨h0,h1⟩
def mn{k k':IntKind}{p q:Int}(hx:aw fr x=some (.int k p))(hy:aw fr y=some (.int k' q))(h0:0<=q):Yd P C fr own G ⟨dst, .binOp .shr t x y t',ty',pos,af,gd⟩ (.int k (p.fdiv (2^min q.toNat k.bits))):=by
 intro a w hf hh;simp only[execOp,bi hf hx,bi hf hy];have h1:(eqGuard .shr t x y (.int k p) (.int k' q)).run P w= .ok () w:=J;have h2:(binOp .shr t (.int k p) (.int k' q)).run P w= .ok (.int k (p.fdiv (2^min q.toNat k.bits))) w:=by
  simp[binOp,Op.shift,Int.not_lt.2 h0,run_pure]
 exact cP (by rw[ba h1];exact h2)
def vK{k k':IntKind}{p q:Int}(hx:aw fr x=some (.int k p))(hy:aw fr y=some (.int k' q))(h0:0<=q):Yd P C fr own G ⟨dst, .binOp .shl t x y t',ty',pos,af,gd⟩ (.int k (k.wrap (p*2^min q.toNat k.bits))):=by
 intro a w hf hh;simp only[execOp,bi hf hx,bi hf hy];have h1:(eqGuard .shl t x y (.int k p) (.int k' q)).run P w= .ok () w:=J;have h2:(binOp .shl t (.int k p) (.int k' q)).run P w= .ok (.int k (k.wrap (p*2^min q.toNat k.bits))) w:=by
  simp[binOp,Op.shift,Int.not_lt.2 h0,run_pure]
 exact cP (by rw[ba h1];exact h2)
def gz{k:IntKind}{p:Int}[hs:mf P t k][hd:mf P t' .u64](hx:aw fr x=some (.int k p))(h0:0<=p:=by omega)(h1:p<=18446744073709551615:=by omega):Yd P C fr own G ⟨dst, .convert t t' x,ty',pos,af,gd⟩ (.int .u64 p):=Hk hx ⟨h0,h1⟩
def Oy{k:IntKind}{p:Int}[hs:mf P t k][hd:mf P t' .i64](hx:aw fr x=some (.int k p))(h0: -9223372036854775808<=p:=by omega)(h1:p<=9223372036854775807:=by omega):Yd P C fr own G ⟨dst, .convert t t' x,ty',pos,af,gd⟩ (.int .i64 p):=Hk hx ⟨h0,h1⟩
def qh(p:Int):IntKind.u32.wrap p=p%4294967296:=by simp[IntKind.wrap,IntKind.bits,IntKind.signed]
def nv(p:Int):IntKind.u64.wrap p=p%18446744073709551616:=by simp[IntKind.wrap,IntKind.bits,IntKind.signed]
def ki{k:IntKind}{p:Int}[hs:mf P t k][hd:mf P t' .u32](hx:aw fr x=some (.int k p)):Yd P C fr own G ⟨dst, .convert t t' x,ty',pos,af,gd⟩ (.int .u32 (p%4294967296)):=by
 have:=CT (P:=P) (C:=C) (own:=own) (G:=G) (dst:=dst) (ty':=ty') (pos:=pos) (af:=af) (gd:=gd) (t:=t) (t':=t') hx;rwa [qh] at this
def xe{k:IntKind}{p q:Int}(hx:aw fr x=some (.int k p))(hy:aw fr y=some (.int k q))(h0:0<=p)(h:q≠0):Yd P C fr own G ⟨dst, .binOp .rem t x y t',ty',pos,af,gd⟩ (.int k (p%q)):=by
 have:=PG (P:=P) (C:=C) (own:=own) (G:=G) (dst:=dst) (ty':=ty') (pos:=pos) (af:=af) (gd:=gd) (t:=t) (t':=t') hx hy h;rwa [Int.tmod_eq_emod_of_nonneg h0] at this
def xm{p q:Int}(hx:aw fr x=some (.int .u64 p))(hy:aw fr y=some (.int .u64 q))(h0:0<=p)(h1:p<=18446744073709551615)(h:0<q):Yd P C fr own G ⟨dst, .binOp .quo t x y t',ty',pos,af,gd⟩ (.int .u64 (p/q)):=by
 have:=Ql (P:=P) (C:=C) (own:=own) (G:=G) (dst:=dst) (ty':=ty') (pos:=pos) (af:=af) (gd:=gd) (t:=t) (t':=t') hx hy (by omega);rw[Int.tdiv_eq_ediv_of_nonneg h0,nv,Int.emod_eq_of_lt (Int.ediv_nonneg h0 (by omega)) (by have:=Int.ediv_le_self q h0;omega)] at this;exact this
def lO{Q:Exit->Act->World->Prop}{p:Prop}{inst:Decidable p}{c:Operand}{x y:Code}(hc:aw fr c=some (.bool (@decide p inst)))(h2: ¬p->St C n fr own G (y.wp P Q))(h1:p->St C n fr own G (x.wp P Q)):
  St C n fr own G ((Code.cond c x y).wp P Q):=gg hc h1 h2
end
end Go.Sx
end
