import Derived.Test.YtefoocgiaegobaaGreatDoorPd1
import Derived.Scope
import Derived.Laws.Externs
import Derived.Lib.Overlaps
set_option linter.all false
set_option maxRecDepth 100000
section
namespace Go.Sx
open Go
def Zt{P:Program}{t:TypeId}{d:TypeDesc}(h:P.underlying t=some d)(w:World):(underlying t).run P w= .ok d w:=by
 simp[underlying,program,Sem.run_bind,Sem.run,h,run_pure]
class DX (P:Program) (t:TypeId):Prop where u: ∀w,(underlying t).run P w= .ok .bool w
class Ee (P:Program) (t:TypeId):Prop where u: ∃e,∀w,(underlying t).run P w= .ok (.pointer e) w
class HL (P:Program) (t:TypeId):Prop where u: ∃ms,∀w,(underlying t).run P w= .ok (.interface ms) w
class Gr (P:Program) (t:TypeId) (f:Nat) (off ft:outParam Nat):Prop where
 u: ∃fs fd,(∀w,(underlying t).run P w= .ok (.struct fs) w)/\fs[f]? =some fd/\fd.offset=off/\fd.type=ft
class jl (P:Program) (t:TypeId):Prop where
 un: ∃e,P.underlying t=some (.slice e)
section
variable {P:Program} {C:aC} {n:Nat} {fr:Fr} {own own':List ao} {G:Gh} {Φ:Act->World->Prop}
variable {dst:Option Nat} {t t' ty':TypeId} {pos:String} {af:Array Edge} {gd:Option (Nat×Bool)} {x y:Operand}
def qC{w:World}{p q:Value}{b:Bool}(h:(Op.equalIn (9999+1) t p q).run P w= .ok b w):(Op.equal t p q).run P w= .ok b w:=h
def Tx[hT:DX P t]{p q:Bool}(hx:aw fr x=some (.bool p))(hy:aw fr y=some (.bool q)):Yd P C fr own G ⟨dst, .binOp .eql t x y t',ty',pos,af,gd⟩ (.bool (p==q)):=by
 intro a w hf hh;simp only[execOp,bi hf hx,bi hf hy];have h1:(Op.equal t (.bool p) (.bool q)).run P w= .ok (p==q) w:=qC (by unfold Op.equalIn;rw[aP (hT.u w)];rfl);have h2:(eqGuard .eql t x y (.bool p) (.bool q)).run P w= .ok () w:=J;have h3:(binOp .eql t (.bool p) (.bool q)).run P w= .ok (.bool (p==q)) w:=by simp only[binOp];rw[aP h1];rfl
 exact cA (by rw[aP h2];exact h3)
def VO[hT:DX P t]{p q:Bool}(hx:aw fr x=some (.bool p))(hy:aw fr y=some (.bool q)):Yd P C fr own G ⟨dst, .binOp .neq t x y t',ty',pos,af,gd⟩ (.bool (!(p==q))):=by
 intro a w hf hh;simp only[execOp,bi hf hx,bi hf hy];have h1:(Op.equal t (.bool p) (.bool q)).run P w= .ok (p==q) w:=qC (by unfold Op.equalIn;rw[aP (hT.u w)];rfl);have h2:(eqGuard .neq t x y (.bool p) (.bool q)).run P w= .ok () w:=J;have h3:(binOp .neq t (.bool p) (.bool q)).run P w= .ok (.bool (!(p==q))) w:=by simp only[binOp];rw[aP h1];rfl
 exact cA (by rw[aP h2];exact h3)
def BS[hT:Ee P t]{p:Option Addr}(hx:aw fr x=some (.pointer p))(hy:aw fr y=some (.pointer none)):Yd P C fr own G ⟨dst, .binOp .eql t x y t',ty',pos,af,gd⟩ (.bool p.isNone):=by
 obtain⟨e,he⟩:=hT.u;intro a w hf hh;simp only[execOp,bi hf hx,bi hf hy];have h1:(Op.equal t (.pointer p) (.pointer none)).run P w= .ok p.isNone w:=qC (by unfold Op.equalIn;rw[aP (he w)];cases p<;>rfl);have h2:(eqGuard .eql t x y (.pointer p) (.pointer none)).run P w= .ok () w:=by cases p<;>rfl
 have h3:(binOp .eql t (.pointer p) (.pointer none)).run P w= .ok (.bool p.isNone) w:=by cases p<;>(simp only[binOp];rw[aP h1];rfl)
 exact cA (by rw[aP h2];exact h3)
def CI[hT:Ee P t]{p:Option Addr}(hx:aw fr x=some (.pointer p))(hy:aw fr y=some (.pointer none)):Yd P C fr own G ⟨dst, .binOp .neq t x y t',ty',pos,af,gd⟩ (.bool (!p.isNone)):=by
 obtain⟨e,he⟩:=hT.u;intro a w hf hh;simp only[execOp,bi hf hx,bi hf hy];have h1:(Op.equal t (.pointer p) (.pointer none)).run P w= .ok p.isNone w:=qC (by unfold Op.equalIn;rw[aP (he w)];cases p<;>rfl);have h2:(eqGuard .neq t x y (.pointer p) (.pointer none)).run P w= .ok () w:=by cases p<;>rfl
 have h3:(binOp .neq t (.pointer p) (.pointer none)).run P w= .ok (.bool (!p.isNone)) w:=by cases p<;>(simp only[binOp];rw[aP h1];rfl)
 exact cA (by rw[aP h2];exact h3)
def LD{v:Value}[hT:HL P t](hv:v= .nilIface\/ ∃k u,v= .iface k u)(hx:aw fr x=some v):
  Yd P C fr own G ⟨dst, .binOp .eql t x (.const .nilIface) t',ty',pos,af,gd⟩ (.bool (match v with| .nilIface=>true|_=>false)):=by
 obtain⟨e,he⟩:=hT.u;intro a w hf hh;simp only[execOp,bi hf hx,show a.eval (.const .nilIface)= .nilIface from J];rcases hv with rfl|⟨k,u,rfl⟩
 ·have h1:(Op.equal t .nilIface .nilIface).run P w= .ok true w:=qC (by unfold Op.equalIn;rw[aP (he w)];rfl)
  have h2:(eqGuard .eql t x (.const .nilIface) .nilIface .nilIface).run P w= .ok () w:=by cases x<;>rfl
  exact cA (by rw[aP h2];simp only[binOp];rw[aP h1];rfl)
 ·have h1:(Op.equal t (.iface k u) .nilIface).run P w= .ok false w:=qC (by unfold Op.equalIn;rw[aP (he w)];rfl)
  exact cA (by rw[aP (a:=()) (w':=w) J];simp only[binOp];rw[aP h1];rfl)
def MY{v:Value}[hT:HL P t](hv:v= .nilIface\/ ∃k u,v= .iface k u)(hx:aw fr x=some v):
  Yd P C fr own G ⟨dst, .binOp .neq t x (.const .nilIface) t',ty',pos,af,gd⟩ (.bool (match v with| .nilIface=>false|_=>true)):=by
 obtain⟨e,he⟩:=hT.u;intro a w hf hh;simp only[execOp,bi hf hx,show a.eval (.const .nilIface)= .nilIface from J];rcases hv with rfl|⟨k,u,rfl⟩
 ·have h1:(Op.equal t .nilIface .nilIface).run P w= .ok true w:=qC (by unfold Op.equalIn;rw[aP (he w)];rfl)
  have h2:(eqGuard .neq t x (.const .nilIface) .nilIface .nilIface).run P w= .ok () w:=by cases x<;>rfl
  exact cA (by rw[aP h2];simp only[binOp];rw[aP h1];rfl)
 ·have h1:(Op.equal t (.iface k u) .nilIface).run P w= .ok false w:=qC (by unfold Op.equalIn;rw[aP (he w)];rfl)
  exact cA (by rw[aP (a:=()) (w':=w) J];simp only[binOp];rw[aP h1];rfl)
def U'{cs l:List Value}{f off ft k:Nat}[hF:Gr P t f off ft][hA:mC P ft k](hx:aw fr x=some (.agg ⟨cs⟩))(hl:cw cs off k=some l):Yd P C fr own G ⟨dst, .field t x f,ty',pos,af,gd⟩ (.agg ⟨l⟩):=by
 obtain⟨fs,fd,h1,h2,h3,h4⟩:=hF.u;intro a w hf hh;simp only[execOp,bi hf hx];have:(Instr.field t (.agg ⟨cs⟩) f).run P w= .ok (.agg ⟨l⟩) w:=by
  unfold Instr.field;rw[aP (h1 w)];simp only[h2,h3,h4,asAgg];rw[aP (run_pure _ _ _)];unfold part;rw[aP (hA.agg w)];simp only[if_true];rw[aP (hA.siz w)];obtain⟨k1,k2⟩:=o8 _ _ _ _ hl;have:(⟨cs⟩:Array Value).extract off (off+k)=⟨l⟩:=by
   apply Array.ext';rw[Array.toList_extract];apply oU;intro i;rw[List.extract_eq_take_drop,qY];split
   ·rw[mR];exact k2 i (by omega)
   ·exact(eY (show l.length<=i by omega)).symm
  rw[this];rfl
 exact cA this
def WX{cs:List Value}{f off ft:Nat}{v:Value}[hF:Gr P t f off ft][hA:gv P ft](hx:aw fr x=some (.agg ⟨cs⟩))(hl:cs[off]? =some v):Yd P C fr own G ⟨dst, .field t x f,ty',pos,af,gd⟩ v:=by
 obtain⟨fs,fd,h1,h2,h3,h4⟩:=hF.u;intro a w hf hh;simp only[execOp,bi hf hx];have:(Instr.field t (.agg ⟨cs⟩) f).run P w= .ok v w:=by
  unfold Instr.field;rw[aP (h1 w)];simp only[h2,h3,h4,asAgg];rw[aP (run_pure _ _ _)];unfold part;rw[aP (hA.agg w)];have:(⟨cs⟩:Array Value)[off]? =some v:=by simpa using hl
  simp only[dZ,if_false,this];rfl
 exact cA this
class GN (P:Program) (t:TypeId) (offs:outParam (List (Nat×Nat))):Prop where
 u: ∃fs:Array Field,(∀w,(underlying t).run P w= .ok (.struct fs) w)/\(∀w,(fs.mapM (m:=Sem) fun f=>do pure (f.offset,<-sizeOf f.type)).run P w= .ok ⟨offs⟩ w)
def sD(fr:Fr)(offs:List (Nat×Nat)):List Value->List (Nat×Operand)->Option (List Value)
 |cs,[]=>some cs
 |cs,(i,x)::r=>match offs[i]?,aw fr x with
  |some (off,k),some v=>if(aD v).length=k/\off+k<=cs.length then sD fr offs (cj cs off (aD v)) r else none
  |_,_=>none
def Av: ∀(vs:List Value) (cs:Array Value) (off j:Nat),(vs.zipIdx j).foldl (fun cs (c,j)=>cs.setIfInBounds (off+j) c) cs=⟨cj cs.toList (off+j) vs⟩
 |[],cs,off,j=>rfl
 |v::vs,cs,off,j=>by
  simp only[List.zipIdx_cons,dT];rw[Av vs _ off (j+1)];simp[cj,jW]
def FR{a:Act}(hf:kj fr a)(offs:List (Nat×Nat)): ∀(ps:List (Nat×Operand)) (cs out:List Value),sD fr offs cs ps=some out->
  Instr.fill ((⟨offs⟩:Array (Nat×Nat))[·]?) ⟨cs⟩ (ps.map fun(i,x)=>(i,a.eval x))=some ⟨out⟩
 |[],cs,out,h=>by simp only[sD] at h;cases h;rfl
 |(i,x)::ps,cs,out,h=>by
  simp only[sD] at h;split at h
  ·rename_i off k v ho hv
   split at h
   ·rename_i hc
    simp only[bJ,Instr.fill];have:(⟨offs⟩:Array (Nat×Nat))[i]? =some (off,k):=by simpa using ho
    simp only[this,bi hf hv,nB];have h1: ¬((⟨aD v⟩:Array Value).size≠k):=by simp[hc.1]
    have h2: ¬(off+(⟨aD v⟩:Array Value).size>(⟨cs⟩:Array Value).size):=by simp only[oY,hc.1];omega
    rw[if_neg (by simp only[iJ,decide_eq_true_eq,not_or];exact⟨by simpa using h1,by simpa using h2⟩)];have e:=Av (aD v) ⟨cs⟩ off 0;have e':(⟨aD v⟩:Array Value).zipIdx.foldl (fun cs (c,j)=>cs.setIfInBounds (off+j) c) (⟨cs⟩:Array Value)=⟨cj cs off (aD v)⟩:=by
     rw[<-qU,sQ];simpa using e
    rw[e'];exact FR hf offs ps _ _ h
   ·cases h
  ·cases h
def Es{parts:Array (Nat×Operand)}{offs:List (Nat×Nat)}{z:Value}{out:List Value}[hT:GN P t offs][hz:gt P t z](hb:sD fr offs (aD z) parts.toList=some out):Yd P C fr own G ⟨dst, .build t parts,ty',pos,af,gd⟩ (.agg ⟨out⟩):=by
 obtain⟨fs,h1,h2⟩:=hT.u;intro a w hf hh;simp only[execOp];have:(Instr.build t (parts.map fun(i,x)=>(i,a.eval x))).run P w= .ok (.agg ⟨out⟩) w:=by
  unfold Instr.build;rw[aP (hz.zero w),nB];rw[aP (h1 w)];simp only[];rw[aP (h2 w)];have:=FR hf offs parts.toList _ _ hb;simp only[pQ,this];rfl
 exact cA this
end
def de(z:Value)(k:Nat):List Value:=(List.replicate k (aD z)).flatten
def Oe{α:Type}(l:List α): ∀(k i:Nat),i<k*l.length->(List.replicate k l).flatten[i]? =l[i%l.length]?
 |0,i,h=>by omega
 |k+1,i,h=>by
  rw[mV,oT];by_cases hi:i<l.length
  ·rw[eX hi,gQ hi]
  ·rw[iV (by omega),Oe l k (i-l.length) (by rw[dQ] at h;omega)]
   rw[Nat.mod_eq_sub_mod (Nat.ge_of_not_lt hi)]
def n0(z:Value)(k:Nat):(de z k).length=k*(aD z).length:=by simp[de]
def xp{z:Value}{k m:Nat}(h:m=k*(aD z).length):((Array.range m).map fun i=>(⟨aD z⟩:Array Value)[i%(⟨aD z⟩:Array Value).size]!)=⟨de z k⟩:=by
 subst h;apply Array.ext';apply oU;intro i;simp only[pQ,Array.toList_range,eJ,oY];by_cases hi:i<k*(aD z).length
 ·rw[List.getElem?_range hi]
  simp only[lV];have h1:=Oe (aD z) k i hi;have hpos:0<(aD z).length:=by
   rcases fL (aD z).length with h|h
   ·rw[h,pZ] at hi;omega
   ·exact h
  have hm:=dW i hpos;show _=(de z k)[i]?;unfold de;rw[h1];simp[hm]
 ·rw[eY (by simpa using hi)]
  rw[eY (by show(de z k).length<=i;rw[n0];omega)];rfl
section
variable {P:Program} {C:aC} {n:Nat} {fr:Fr} {own own':List ao} {G:Gh} {Φ:Act->World->Prop}
variable {dst:Option Nat} {t t' ty':TypeId} {pos:String} {af:Array Edge} {gd:Option (Nat×Bool)} {x y:Operand} {e s by_:Nat}
def Jo[hT:co P t e s by_](w:World): ∃i:TypeInfo,(typeInfo e).run P w= .ok i w/\i.bytes=by_:=by
 obtain⟨i,h1,_,h2⟩:=hT.info;exact⟨i,by simp[typeInfo,program,Sem.run_bind,Sem.run,h1,run_pure],h2⟩
def tw[hT:co P t e s by_]{z:Value}[hz:gt P e z]{k k':IntKind}{l:Int}(hx:aw fr x=some (.int k l))(hy:aw fr y=some (.int k' l))(h0:0<=l)(hb:by_*l<=2^47)(hl:l<=2^60)(hs:(aD z).length=s)(hd:b7 n dst=true)
  (h: ∀b,St C n (put fr dst (.slice (some ⟨b,0,none⟩) l.toNat l.toNat)) (⟨b,de z l.toNat,e,true⟩::own) G Φ):
  Ch P C n fr own G ⟨dst, .makeSlice t x y,ty',pos,af,gd⟩ Φ:=by
 intro a w Q rl;have h1:(Instr.makeSlice t (a.eval x) (a.eval y)).run P w= .ok (.slice (some ⟨w.heap.size,0,none⟩) l.toNat l.toNat) (w.alloc (.cells ⟨de z l.toNat⟩ e)):=by
  obtain⟨i,hi,hib⟩:=Jo (P:=P) (t:=t) (e:=e) (s:=s) (by_:=by_) w;rw[bi rl.fr hx,bi rl.fr hy];unfold Instr.makeSlice;rw[aP (hT.u w)];simp only[asInt,asIntOf];rw[aP (a:=l) (w':=w) J,aP (a:=l) (w':=w) J,aP hi,hib];have hw:IntKind.i64.wrap l=l:=r8 (by simp[IntKind.min,IntKind.max,IntKind.signed,IntKind.bits];omega);simp only[hw];have c1: ¬((by_:Int)*l>2^48):=by
   have:(2:Int)^47<=2^48:=by decide
   omega
  have c2:(decide (l<0)||decide ((by_:Int)*l>2^48))=false:=by simp[c1];omega
  simp only[c2,Int.lt_irrefl,decide_false,Bool.or_false,Bool.false_or];have c3:decide (l<0)=false:=by simp;omega
  simp only[c3,dZ,if_false,gt_iff_lt,Int.lt_irrefl,decide_false,Bool.or_false];have hr: ¬(l.toNat*by_>roomBytes):=by
   unfold roomBytes;have:((l.toNat*by_:Nat):Int)=by_*l:=by rw[iN,pR h0,sV]
   have h47:((2^47:Nat):Int)=2^47:=by decide
   omega
  unfold askRoom;simp only[hr,if_false];rw[aP (run_pure _ _ _),aP (hT.siz w)];have hn:l.toNat*s=l.toNat*(aD z).length:=by rw[hs]
  by_cases h00:l.toNat*s=0
  ·rw[if_pos h00,aP (run_pure _ _ _)]
   have e0:de z l.toNat=[]:=bK (by rw[n0,hs];exact h00);rw[h00,e0,show(Array.range 0)= #[] from J,Array.map_empty];rfl
  ·rw[if_neg h00,aP (hz.zero w),nB]
   rw[aP (run_pure _ _ _),xp hn];rfl
 refine(fun hk=>?_:Φ (a.put dst (.slice (some ⟨w.heap.size,0,none⟩) l.toNat l.toNat)) (w.alloc (.cells ⟨de z l.toNat⟩ e))->_) (h w.heap.size _ _ ((rl.heap (rl.h.alloc _ _)).put _ hd));exact km (v:= .slice (some ⟨w.heap.size,0,none⟩) l.toNat l.toNat) (cA h1) hk
def I': ∀(vs cs pre:List Value),vs.length=cs.length->cj (pre++cs) pre.length vs=pre++vs
 |[],cs,pre,h=>by have:cs=[]:=bK h.symm;subst this;rfl
 |v::vs,[],pre,h=>by simp at h
 |v::vs,c::cs,pre,h=>by
  simp only[cj,mM _ _ (aL _),pX,List.set_cons_zero];have:=I' vs cs (pre++[v]) (by simpa using h);simpa using this
def SA[hT:co P t e s by_]{z v:Value}[hz:gt P e z](hx:aw fr x=some v)(hs:(aD z).length=s)(hv:(aD v).length=s)(hsm:s<=1000)(hs0:0<s)(hd:b7 n dst=true)
  (h: ∀b,St C n (put fr dst (.slice (some ⟨b,0,none⟩) 1 1)) (⟨b,aD v,e,true⟩::own) G Φ):
  Ch P C n fr own G ⟨dst, .buildSlice t 1 #[(0,x)],ty',pos,af,gd⟩ Φ:=by
 intro a w Q rl;have h1:(Instr.buildSlice t 1 #[(0,v)]).run P w= .ok (.slice (some ⟨w.heap.size,0,none⟩) 1 1) (w.alloc (.cells ⟨aD v⟩ e)):=by
  unfold Instr.buildSlice;rw[aP (hT.u w)];simp only[];rw[aP (hT.siz w)];have c1: ¬(1*s>2^24):=by omega
  have c2: ¬(1*s=0):=by omega
  simp only[c1,if_false];rw[if_neg c2,aP (hz.zero w),nB,aP (run_pure _ _ _)];rw[xp (k:=1) (by rw[hs])];have hzl:(de z 1).length=s:=by rw[n0,hs,mY]
  have hf:Instr.fill (fun i=>some (i*s,s)) ⟨de z 1⟩ [(0,v)]=some ⟨aD v⟩:=by
   simp only[Instr.fill,nB];rw[if_neg (by simp[hv,hzl])];have e1:=Av (aD v) ⟨de z 1⟩ (0*s) 0;have e2:(⟨aD v⟩:Array Value).zipIdx.foldl (fun cs (c,j)=>cs.setIfInBounds (0*s+j) c) (⟨de z 1⟩:Array Value)=⟨aD v⟩:=by
    rw[<-qU,sQ];have e3:=I' (aD v) (de z 1) [] (by rw[hv,hzl]);simp only[cY,iR] at e3;rw[kV,dS] at e1;rw[e3] at e1;simpa using e1
   rw[e2]
  simp only[hf];rfl
 refine km (v:= .slice (some ⟨w.heap.size,0,none⟩) 1 1) (w':=w.alloc (.cells ⟨aD v⟩ e)) ?_ (h w.heap.size _ _ ((rl.heap (rl.h.alloc _ _)).put _ hd));simp only[execOp,gS,bJ,dR,bi rl.fr hx];exact cA h1
end
section
variable {P:Program} {C:aC} {n:Nat} {fr:Fr} {own own':List ao} {G:Gh} {Φ:Act->World->Prop}
variable {dst:Option Nat} {t t' ty':TypeId} {pos:String} {af:Array Edge} {gd:Option (Nat×Bool)} {x y:Operand} {e s by_:Nat}
def sL(fr:Fr)(s:Nat):List Value->List (Nat×Operand)->Option (List Value)
 |cs,[]=>some cs
 |cs,(i,x)::r=>match aw fr x with
  |some v=>if(aD v).length=s/\i*s+s<=cs.length then sL fr s (cj cs (i*s) (aD v)) r else none
  |none=>none
def PO{a:Act}(hf:kj fr a)(s:Nat): ∀(ps:List (Nat×Operand)) (cs out:List Value),sL fr s cs ps=some out->
  Instr.fill (fun i=>some (i*s,s)) ⟨cs⟩ (ps.map fun(i,x)=>(i,a.eval x))=some ⟨out⟩
 |[],cs,out,h=>by simp only[sL] at h;cases h;rfl
 |(i,x)::ps,cs,out,h=>by
  simp only[sL] at h;split at h
  ·rename_i v hv
   split at h
   ·rename_i hc
    simp only[bJ,Instr.fill,bi hf hv,nB];have h1: ¬((⟨aD v⟩:Array Value).size≠s):=by simp[hc.1]
    have h2: ¬(i*s+(⟨aD v⟩:Array Value).size>(⟨cs⟩:Array Value).size):=by simp only[oY,hc.1];omega
    rw[if_neg (by simp only[iJ,decide_eq_true_eq,not_or];exact⟨by simpa using h1,by simpa using h2⟩)];have e:=Av (aD v) ⟨cs⟩ (i*s) 0;have e':(⟨aD v⟩:Array Value).zipIdx.foldl (fun cs (c,j)=>cs.setIfInBounds (i*s+j) c) (⟨cs⟩:Array Value)=⟨cj cs (i*s) (aD v)⟩:=by
     rw[<-qU,sQ];simpa using e
    rw[e'];exact PO hf s ps _ _ h
   ·cases h
  ·cases h
def FH[hT:co P t e s by_]{z:Value}[hz:gt P e z]{len:Nat}{parts:Array (Nat×Operand)}{out:List Value}(hs:(aD z).length=s)(hb:sL fr s (de z len) parts.toList=some out)(hsm:Nat.ble (len*s) 1000=true)(hs0:Nat.blt 0 (len*s)=true)(hd:b7 n dst=true)
  (h: ∀b,St C n (put fr dst (.slice (some ⟨b,0,none⟩) len len)) (⟨b,out,e,true⟩::own) G Φ):
  Ch P C n fr own G ⟨dst, .buildSlice t len parts,ty',pos,af,gd⟩ Φ:=by
 intro a w Q rl;have hsm':len*s<=1000:=by simpa using hsm
 have hs0':0<len*s:=by simpa[mK] using hs0
 have h1:(Instr.buildSlice t len (parts.map fun(i,x)=>(i,a.eval x))).run P w= .ok (.slice (some ⟨w.heap.size,0,none⟩) len len) (w.alloc (.cells ⟨out⟩ e)):=by
  unfold Instr.buildSlice;rw[aP (hT.u w)];simp only[];rw[aP (hT.siz w)];have c1: ¬(len*s>2^24):=by omega
  have c2: ¬(len*s=0):=by omega
  simp only[c1,if_false];rw[if_neg c2,aP (hz.zero w),nB,aP (run_pure _ _ _)];rw[xp (k:=len) (by rw[hs])];have hf:=PO rl.fr s parts.toList _ _ hb;simp only[pQ,hf];rfl
 refine km (v:= .slice (some ⟨w.heap.size,0,none⟩) len len) (w':=w.alloc (.cells ⟨out⟩ e)) ?_ (h w.heap.size _ _ ((rl.heap (rl.h.alloc _ _)).put _ hd));simp only[execOp];exact cA h1
def KF[hT:co P t e s by_](hd:b7 n dst=true)(h: ∀b,St C n (put fr dst (.slice (some ⟨b,0,none⟩) 0 0)) (⟨b,[],e,true⟩::own) G Φ):
  Ch P C n fr own G ⟨dst, .buildSlice t 0 #[],ty',pos,af,gd⟩ Φ:=by
 intro a w Q rl;have h1:(Instr.buildSlice t 0 #[]).run P w= .ok (.slice (some ⟨w.heap.size,0,none⟩) 0 0) (w.alloc (.cells ⟨[]⟩ e)):=by
  unfold Instr.buildSlice;rw[aP (hT.u w)];simp only[];rw[aP (hT.siz w)];simp only[kV,gt_iff_lt,Nat.not_lt_zero,if_false,if_true];rw[aP (run_pure _ _ _),show(Array.range 0)= #[] from J,Array.map_empty];rfl
 refine km (v:= .slice (some ⟨w.heap.size,0,none⟩) 0 0) (w':=w.alloc (.cells ⟨[]⟩ e)) ?_ (h w.heap.size _ _ ((rl.heap (rl.h.alloc _ _)).put _ hd));simp only[execOp,gS,dR];exact cA h1
def NX[hT:co P t e s by_]{ad:Option Addr}{len cap l2 c2:Nat}(hx:aw fr x=some (.slice ad len cap))(hy:aw fr y=some (.slice none l2 c2)):Yd P C fr own G ⟨dst, .binOp .eql t x y t',ty',pos,af,gd⟩ (.bool ad.isNone):=by
 intro a w hf hh;simp only[execOp,bi hf hx,bi hf hy];have h1:(Op.equal t (.slice ad len cap) (.slice none l2 c2)).run P w= .ok ad.isNone w:=qC (by unfold Op.equalIn;rw[aP (hT.u w)];cases ad<;>rfl);have h2:(eqGuard .eql t x y (.slice ad len cap) (.slice none l2 c2)).run P w= .ok () w:=J;have h3:(binOp .eql t (.slice ad len cap) (.slice none l2 c2)).run P w= .ok (.bool ad.isNone) w:=by simp only[binOp];rw[aP h1];rfl
 exact cA (by rw[aP h2];exact h3)
def XY[hT:co P t e s by_]{ad:Option Addr}{len cap l2 c2:Nat}(hx:aw fr x=some (.slice ad len cap))(hy:aw fr y=some (.slice none l2 c2)):Yd P C fr own G ⟨dst, .binOp .neq t x y t',ty',pos,af,gd⟩ (.bool (!ad.isNone)):=by
 intro a w hf hh;simp only[execOp,bi hf hx,bi hf hy];have h1:(Op.equal t (.slice ad len cap) (.slice none l2 c2)).run P w= .ok ad.isNone w:=qC (by unfold Op.equalIn;rw[aP (hT.u w)];cases ad<;>rfl);have h2:(eqGuard .neq t x y (.slice ad len cap) (.slice none l2 c2)).run P w= .ok () w:=J;have h3:(binOp .neq t (.slice ad len cap) (.slice none l2 c2)).run P w= .ok (.bool (!ad.isNone)) w:=by simp only[binOp];rw[aP h1];rfl
 exact cA (by rw[aP h2];exact h3)
end
def lg: ∀(cs:List Value) (off k:Nat),off+k<=cs.length->cw cs off k=some ((cs.drop off).take k)
 |cs,0,0,_=>by cases cs<;>rfl
 |[],0,k+1,h=>by simp at h
 |v::t,0,k+1,h=>by
  simp only[cw,lg t 0 k (by simp at h;omega)];simp
 |[],_+1,k,h=>by simp at h
 |_::t,off+1,k,h=>by
  simp only[cw,lg t off k (by simp at h;omega)];simp
section
variable {P:Program} {C:aC} {n:Nat} {fr:Fr} {own own' own1:List ao} {G:Gh} {Φ:Act->World->Prop}
variable {dst:Option Nat} {t t' ty':TypeId} {pos:String} {af:Array Edge} {gd:Option (Nat×Bool)} {x y:Operand} {e s by_:Nat}
def lB(P:Program)(C:aC)(own:List ao)(G:Gh)(s m:Nat)(v:Value)(ys:List Value):Prop:=
 ∀w,bm C own G w->(Builtin.firstCells s m v).run P w= .ok ⟨ys⟩ w
def C9{w:World}{b off k:Nat}{cs l:List Value}{ty:TypeId}{fz:Nat×Nat}(h:w.heap[b]? =some (.cells ⟨cs⟩ ty fz))(hl:cw cs off k=some l):(loadCells ⟨b,off,none⟩ k).run P w= .ok ⟨l⟩ w:=by
 obtain⟨h1,h2⟩:=o8 _ _ _ _ hl;unfold loadCells;rw[GT (l:=l) k 0 #[] (fun j hj=>by rw[Bz h];simpa using h2 j hj) (by omega)];simp[<-h1]
def vT{b off m len cap:Nat}{cs ys:List Value}{ty:TypeId}{lo:Bool}(ho:gG own b cs ty lo)(hl:cw cs off (m*s)=some ys):lB P C own G s m (.slice (some ⟨b,off,none⟩) len cap) ys:=
 fun w h=>C9 (h.hown _ ho.mem).1 hl
def JS{b off m len cap:Nat}{cs ys:List Value}(hg:G b=some cs)(hl:cw cs off (m*s)=some ys):lB P C own G s m (.slice (some ⟨b,off,none⟩) len cap) ys:=
 fun w h=>by obtain⟨ty,fz,hb⟩:=h.sub _ _ hg;exact C9 hb hl
def se{ad:Option Addr}{len cap:Nat}:lB P C own G s 0 (.slice ad len cap) []:=fun w _=>by
 cases ad with
 |none=>rfl
 |some a=>unfold Builtin.firstCells loadCells;simp[loadCellsFrom,run_pure]
def alx(z:Value)(k:Nat):Builtin.zeroCells ⟨aD z⟩ k=⟨de z k⟩:=by
 unfold Builtin.zeroCells;exact xp J
def H2{w w':World}[hT:co P t e s by_][hN:jl P t']{z:Value}[hz:gt P e z]{ad:Option Addr}{len cap m cap2:Nat}{ad2:Option Addr}{xs ys:List Value}
  (hsx:(Builtin.firstCells s len (.slice ad len cap)).run P w.drew= .ok ⟨xs⟩ w.drew)(hsy:(Builtin.firstCells s m (.slice ad2 m cap2)).run P w.drew= .ok ⟨ys⟩ w.drew)
  (hneed:cap<len+m)(hby:0<by_)(hb:(len+m)*by_<=140737488355328):
  (Builtin.append_ #[t,t'] ty' #[.slice ad len cap, .slice ad2 m cap2]).run P w=
   .ok (.slice (some ⟨w.heap.size,0,none⟩) (len+m) (grownCap w (len+m) cap e)) (w.drew.alloc (.cells ⟨xs++ys++de z (grownCap w (len+m) cap e-(len+m))⟩ e)):=by
 obtain⟨d,hd1⟩:=hN.un;obtain⟨i,hi,his,hib⟩:=hT.info;obtain⟨i',hi',hiz⟩:=hz.info;rw[hi] at hi';cases hi';have hfit:=growslice_fits (old:=cap) (need:=len+m) (bytes:=by_) hneed hb;have hlen:len+m<=140737488355328:=cR (qR _ hby) hb;have hn: ¬(len+m<=cap):=by omega
 have h63': ¬(9223372036854775807<((len:Int)+(m:Int))):=by omega
 have h48': ¬(281474976710656<Builtin.nextslicecap (len+m) cap*i.bytes):=by rw[hib];omega
 subst his;simp[Builtin.append_,run_underlying hT.un,run_underlying hd1,sizeOf,typeInfo,zeroValue,hi,hiz,Builtin.lenOf,hn,h63',h48',Question.forced,hsx,hsy,newRow,grownCap];congr 2;apply Array.ext';rw[nB,alx];simp[dY]
def xi[hT:co P t e s by_][hN:jl P t']{z:Value}[hz:gt P e z]{ad:Option Addr}{len cap m cap2:Nat}{ad2:Option Addr}{xs ys:List Value}
  (hx:aw fr x=some (.slice ad len cap))(hy:aw fr y=some (.slice ad2 m cap2))(hsx:lB P C own G s len (.slice ad len cap) xs)(hsy:lB P C own G s m (.slice ad2 m cap2) ys)
  (hneed:cap<len+m)(hby:0<by_)(hb:(len+m)*by_<=140737488355328)(hd:b7 n dst=true)
  (h: ∀b cap',len+m<=cap'->St C n (put fr dst (.slice (some ⟨b,0,none⟩) (len+m) cap')) (⟨b,xs++ys++de z (cap'-(len+m)),e,true⟩::own) G Φ):
  Ch P C n fr own G ⟨dst, .call ⟨.builtin .append, #[x,y], #[t,t']⟩,ty',pos,af,gd⟩ Φ:=by
 intro a w Q rl;have hcap:len+m<=grownCap w (len+m) cap e:=by unfold grownCap;simp only[Question.cut];omega
 have hrun:=H2 (P:=P) (t:=t) (t':=t') (ty':=ty') (w:=w) (w':=w) (hsx _ rl.h.drew) (hsy _ rl.h.drew) hneed hby hb;refine km (v:= .slice (some ⟨w.heap.size,0,none⟩) (len+m) (grownCap w (len+m) cap e)) (w':=w.drew.alloc (.cells ⟨xs++ys++de z (grownCap w (len+m) cap e-(len+m))⟩ e)) ?_ ?_
 ·simp only[execOp,resolve,gS,bJ,dR,bi rl.fr hx,bi rl.fr hy]
  exact cA hrun
 ·exact h w.heap.size _ hcap _ _ ((rl.heap ((rl.h.drew).alloc _ _)).put _ hd)
def i9.perm{o:ao}(h:i9 own o own1):own.Perm (o::own1):=by
 induction h with
 |hd o t=>exact List.Perm.refl _
 |tl x t t' o h ih=>exact(List.Perm.cons x ih).trans (List.Perm.swap _ _ _)
def If{w:World}[hT:co P t e s by_][hN:jl P t']{b len cap m cap2:Nat}{ad2:Option Addr}{cs ys:List Value}
  (hb:w.heap[b]? =some (.cells ⟨cs⟩ e (0,0)))(hcs:cs.length=cap*s)(hsy:(Builtin.firstCells s m (.slice ad2 m cap2)).run P w= .ok ⟨ys⟩ w)(hys:ys.length=m*s)(hf: ∀v∈ys,flat v=true)
  (hneed:len+m<=cap):
  (Builtin.append_ #[t,t'] ty' #[.slice (some ⟨b,0,none⟩) len cap, .slice ad2 m cap2]).run P w=
   .ok (.slice (some ⟨b,0,none⟩) (len+m) cap) (gi w b (.cells ⟨cj cs (len*s) ys⟩ e (0,0))):=by
 obtain⟨d,hd1⟩:=hN.un;obtain⟨i,hi,his,hib⟩:=hT.info;subst his;have hl:len*i.size+ys.length<=cs.length:=by rw[hys,hcs,<-dQ];exact bV _ hneed
 have hst:=As (P:=P) ys w (len*i.size) 0 cs hf hb (by omega);rw[fJ] at hst;simp[Builtin.append_,run_underlying hT.un,run_underlying hd1,sizeOf,typeInfo,hi,Builtin.lenOf,hneed,hsy,p8,hst]
def w4: ∀(vs cs:List Value) (off:Nat),(cj cs off vs).length=cs.length
 |[],cs,off=>rfl
 |v::vs,cs,off=>by simp[cj,w4 vs]
def oF: ∀(vs cs:List Value) (off:Nat),off+vs.length<=cs.length->cj cs off vs=cs.take off++vs++cs.drop (off+vs.length)
 |[],cs,off,h=>by simp[cj]
 |v::vs,cs,off,h=>by
  simp only[bU] at h;rw[cj,oF vs _ _ (by simp;omega)];rw[List.take_set,sZ (by omega)];have h1:(cs.take (off+1)).set off v=cs.take off++[v]:=by
   rw[fM (by omega),mM _ _ (by simp;omega)];simp[iK (by omega:off<=cs.length)]
  rw[h1];simp only[bU,dY,cK,cY];congr 4;omega
def N9[hT:co P t e s by_][hN:jl P t']{z:Value}[hz:gt P e z]{b len cap m cap2:Nat}{ad2:Option Addr}{xs ys rest:List Value}
  (hx:aw fr x=some (.slice (some ⟨b,0,none⟩) len cap))(hy:aw fr y=some (.slice ad2 m cap2))(hr:i9 own ⟨b,xs++rest,e,true⟩ own1)(hxs:xs.length=len*s)(hcap:xs.length+rest.length=cap*s)(hlc:len<=cap)
  (hsy:lB P C own G s m (.slice ad2 m cap2) ys)(hys:ys.length=m*s)(hf: ∀v∈ys,flat v=true)
  (hby:0<by_)(hb:(len+m)*by_<=140737488355328)(hzs:(aD z).length=s)(hd:b7 n dst=true)
  (h: ∀b cap' rest',len+m<=cap'->rest'.length+(len+m)*s=cap'*s->St C n (put fr dst (.slice (some ⟨b,0,none⟩) (len+m) cap')) (⟨b,xs++ys++rest',e,true⟩::own1) G Φ):
  Ch P C n fr own G ⟨dst, .call ⟨.builtin .append, #[x,y], #[t,t']⟩,ty',pos,af,gd⟩ Φ:=by
 intro a w Q rl;have hp:=rl.h.perm hr.perm;have hblk:=(hp.hown _ aQ).1;simp only[] at hblk;by_cases hneed:len+m<=cap
 ·have hcs:(xs++rest).length=cap*s:=by simp;omega
  have hrun:=If (P:=P) (t:=t) (t':=t') (ty':=ty') (w:=w) (len:=len) hblk hcs (hsy w rl.h) hys hf hneed;have hle:len*s+m*s<=cap*s:=by rw[<-dQ];exact bV _ hneed
  have hov:cj (xs++rest) (len*s) ys=xs++ys++rest.drop (m*s):=by
   rw[oF _ _ _ (by rw[hys];omega),<-hxs];simp[hys,mU]
  refine km (v:= .slice (some ⟨b,0,none⟩) (len+m) cap) (w':=gi w b (.cells ⟨cj (xs++rest) (len*s) ys⟩ e (0,0))) ?_ ?_
  ·simp only[execOp,resolve,gS,bJ,dR,bi rl.fr hx,bi rl.fr hy]
   exact cA hrun
  ·rw[hov]
   refine h b cap (rest.drop (m*s)) hneed ?_ _ _ ((rl.heap (hp.store (.hd ..))).put _ hd);rw[gL,dQ];omega
 ·have hx':lB P C own G s len (.slice (some ⟨b,0,none⟩) len cap) xs:=fun w' hw'=>by
   have hb':=(((hw'.perm hr.perm).hown _ aQ).1);refine C9 hb' ?_;rw[lg _ _ _ (by simp;omega),<-hxs];simp
  have hcap':len+m<=grownCap w (len+m) cap e:=by unfold grownCap;simp only[Question.cut];omega
  have hrun:=H2 (P:=P) (t:=t) (t':=t') (ty':=ty') (w:=w) (w':=w) (hx' _ rl.h.drew) (hsy _ rl.h.drew) (by omega) hby hb;refine km (v:= .slice (some ⟨w.heap.size,0,none⟩) (len+m) (grownCap w (len+m) cap e)) (w':=w.drew.alloc (.cells ⟨xs++ys++de z (grownCap w (len+m) cap e-(len+m))⟩ e)) ?_ ?_
  ·simp only[execOp,resolve,gS,bJ,dR,bi rl.fr hx,bi rl.fr hy]
   exact cA hrun
  ·refine h w.heap.size _ _ hcap' ?_ _ _ ((rl.heap (((hp.drew).drop (qM _ _)).alloc _ _)).put _ hd)
   rw[n0,hzs,<-dQ];congr 1;omega
end
section
variable {P:Program} {ops:Array Oper} {Q:Exit->Act->World->Prop} {S:World->Prop} {fin:Nat->Bool}
def pu(ops:Array Oper)(fin:Nat->Bool):List (Nat×Bool)->Array Bool->Bool
 |[],listed=>(Region.ready .any ops listed).isEmpty
 |(i,true)::r,listed=>vA ops fin listed i&&pu ops fin r (listed.setIfInBounds i true)
 |(i,false)::r,listed=>(Region.ready .any ops listed==[i])&&pu ops fin r (listed.setIfInBounds i true)
def hH(P:Program)(ops:Array Oper)(Q:Exit->Act->World->Prop)(S:World->Prop)(fin:Nat->Bool):List (Nat×Bool)->Act->World->Prop
 |[],a,w=>Q .normal a w
 |(i,true)::r,a,w=> ∃o v,ops[i]? =some o/\S w/\YieldsIf P ops S o v a/\hH P ops Q S fin r (a.put o.dst v) w
 |(i,false)::r,a,w=>wpOp P ops Q i (fun a' w'=>(fin i=true\/S w')/\hH P ops Q S fin r a' w') a w
def yi(hQ: ∀c a d v w,Q (.panic c) (Act.put a d v) w->Q (.panic c) a w): ∀(π:List (Nat×Bool)) (listed:Array Bool) (a:Act) (w:World),pu ops fin π listed=true->hH P ops Q S fin π a w-> ∀fuel,π.length<=fuel->sH P ops Q S fin fuel listed a w
 |[],listed,a,w,ho,h,fuel,hf=>by
  have hr:Region.ready .any ops listed=[]:=by simpa[pu] using ho
  cases fuel with
  |zero=>exact⟨hr,h⟩
  |succ k=>exact⟨fun _=>h,by rw[hr];simp⟩
 |(i,true)::r,listed,a,w,ho,h,0,hf=>by simp at hf
 |(i,false)::r,listed,a,w,ho,h,0,hf=>by simp at hf
 |(i,true)::r,listed,a,w,ho,h,fuel+1,hf=>by
  obtain⟨o,v,hoi,hS,hy,hk⟩:=h;simp only[pu,vA,aN] at ho;obtain⟨⟨⟨⟨h1,h2⟩,h3⟩,h4⟩,h5⟩:=ho;obtain⟨h6,h7⟩:=Zj h4;exact Vc hoi (Region.noSelect_spec h1) (fun c a w=>hQ c a _ _ w) h6 h7 fuel listed a w (Region.free_spec hoi h2) (by simpa using h3) hy hS
   (yi hQ r _ _ _ h5 hk fuel (by simpa using hf))
 |(i,false)::r,listed,a,w,ho,h,fuel+1,hf=>by
  simp only[pu,aN,beq_iff_eq] at ho;exact aqK ho.1 (wpOp_mono (fun a' w' h'=>⟨h'.1,yi hQ r _ _ _ ho.2 h'.2 fuel (by simpa using hf)⟩) h)
end
section
variable {P:Program} {C:aC} {n:Nat} {fr:Fr} {own own0:List ao} {G G0:Gh} {ops:Array Oper} {Q:Exit->Act->World->Prop} {fin:Nat->Bool} {π:List (Nat×Bool)}
def dr(fin:Nat->Bool)(π:List (Nat×Bool)){id:Nat}(hm:P.follows .mixedOrders=true)(ho:(pu ops fin π (Array.replicate ops.size false)&&Nat.ble π.length ops.size)=true)
  (h:St C n fr own G (hH P ops (gr Q) (HS C own G) fin π)):St C n fr own G ((Code.region id ops true).wp P Q):=by
 simp only[aN] at ho;refine Wt fin hm fun a w rl=>yi (fun _ _ _ _ _ h=>h) π _ a w ho.1 (h a w rl) _ (by simpa using ho.2)
def dy{i:Nat}{o:Oper}{v:Value}(ho:ops[i]? =some o)(hy: ∀G':Gh,[GE G0 G']->Yd P C fr own0 G' o v)(hg:o.guard=none)(hd:b7 n o.dst=true)[hs:kA own0 own][hl:GL G0 G]
  (h:St C n (put fr o.dst v) own G (hH P ops (gr Q) (HS C own0 G0) fin π)):St C n fr own G (hH P ops (gr Q) (HS C own0 G0) fin ((i,true)::π)):=
 fun a w rl=>⟨o,v,ho,⟨G,hl.le,rl.h.drop hs.s⟩, .inl ⟨by simp[Region.wanted,hg],fun w' ⟨G',hle,hr⟩=> @hy G' ⟨hle⟩ a w' rl.fr hr⟩,h _ _ (rl.put v hd)⟩
def dM{i:Nat}{dst:Option Nat}{ty':TypeId}{pos:String}{af:Array Edge}{x:Operand}{v:Value}(ho:ops[i]? =some ⟨dst, .move x,ty',pos,af,none⟩)(hx:aw fr x=some v)(hd:b7 n dst=true)[hs:kA own0 own][hl:GL G0 G]
  (h:St C n (put fr dst v) own G (hH P ops (gr Q) (HS C own0 G0) fin π)):St C n fr own G (hH P ops (gr Q) (HS C own0 G0) fin ((i,true)::π)):=dy ho (fun _ _=>mp hx) J hd h
def dA{i:Nat}{dst:Option Nat}{ty':TypeId}{pos:String}{af:Array Edge}{x:Operand}{v:Value}(ho:ops[i]? =some ⟨dst, .assign x,ty',pos,af,none⟩)(hx:aw fr x=some v)(hd:b7 n dst=true)[hs:kA own0 own][hl:GL G0 G]
  (h:St C n (put fr dst v) own G (hH P ops (gr Q) (HS C own0 G0) fin π)):St C n fr own G (hH P ops (gr Q) (HS C own0 G0) fin ((i,true)::π)):=dy ho (fun _ _=>FY hx) J hd h
def dF{i b o f off:Nat}{dst:Option Nat}{ty':TypeId}{pos:String}{af:Array Edge}{x:Operand}{t:TypeId}[hF:n7 P t f off](ho:ops[i]? =some ⟨dst, .fieldAddr t x f,ty',pos,af,none⟩)(hx:aw fr x=some (.pointer (some ⟨b,o,none⟩)))(hd:b7 n dst=true)[hs:kA own0 own][hl:GL G0 G]
  (h:St C n (put fr dst (.pointer (some ⟨b,o+off,none⟩))) own G (hH P ops (gr Q) (HS C own0 G0) fin π)):St C n fr own G (hH P ops (gr Q) (HS C own0 G0) fin ((i,true)::π)):=dy ho (fun _ _=>w6 hx) J hd h
def z'{i b off:Nat}{dst:Option Nat}{ty':TypeId}{pos:String}{af:Array Edge}{x:Operand}{t ty:TypeId}{cs:List Value}{v:Value}{lo:Bool}(ho:ops[i]? =some ⟨dst, .load t x,ty',pos,af,none⟩)(hx:aw fr x=some (.pointer (some ⟨b,off,none⟩)))[hw:gG own0 b cs ty lo][gv P t](hv:cs[off]? =some v)(hd:b7 n dst=true)[hs:kA own0 own][hl:GL G0 G]
  (h:St C n (put fr dst v) own G (hH P ops (gr Q) (HS C own0 G0) fin π)):St C n fr own G (hH P ops (gr Q) (HS C own0 G0) fin ((i,true)::π)):=dy ho (fun _ _=>vx hx hv) J hd h
def dc{i:Nat}{o:Oper}(ho:ops[i]? =some o)(hg:o.guard=none)(hc:Ch P C n fr own G o (fun a w=>(fin i=true\/HS C own0 G0 w)/\hH P ops (gr Q) (HS C own0 G0) fin π a w)):St C n fr own G (hH P ops (gr Q) (HS C own0 G0) fin ((i,false)::π)):=by
 intro a w rl;show wpOp P ops (gr Q) i _ a w;unfold wpOp;simp only[ho,Region.wanted,hg,if_true];exact .inl (hc a w _ rl)
def dn(h:St C n fr own G (Q .normal)):St C n fr own G (hH P ops (gr Q) (HS C own0 G0) fin []):=h
def FB{A G:Gh}{b:Nat}{cs:List Value}[h:uI A b cs][k:GL A G]:G b=some cs:=k.le _ _ h.h
variable {dst:Option Nat} {t t' ty':TypeId} {pos:String} {af:Array Edge} {x y:Operand} {r:List Oper}
def sm{v:Value}(hx:aw fr x=some v)(hd:b7 n dst=true)(h:St C n (put fr dst v) own G (c7 P ops Q r)):St C n fr own G (c7 P ops Q (⟨dst, .move x,ty',pos,af,none⟩::r)):=qH (mp hx) J hd h
def sa{v:Value}(hx:aw fr x=some v)(hd:b7 n dst=true)(h:St C n (put fr dst v) own G (c7 P ops Q r)):St C n fr own G (c7 P ops Q (⟨dst, .assign x,ty',pos,af,none⟩::r)):=qH (FY hx) J hd h
def sn{ad:Addr}(hx:aw fr x=some (.pointer (some ad)))(hd:b7 n dst=true)(h:St C n (put fr dst (.pointer (some ad))) own G (c7 P ops Q r)):St C n fr own G (c7 P ops Q (⟨dst, .nilCheck x,ty',pos,af,none⟩::r)):=qH (sM hx) J hd h
def sf{b o f off:Nat}[hF:n7 P t f off](hx:aw fr x=some (.pointer (some ⟨b,o,none⟩)))(hd:b7 n dst=true)(h:St C n (put fr dst (.pointer (some ⟨b,o+off,none⟩))) own G (c7 P ops Q r)):St C n fr own G (c7 P ops Q (⟨dst, .fieldAddr t x f,ty',pos,af,none⟩::r)):=qH (w6 hx) J hd h
def Qq{b off k:Nat}{cs l:List Value}{lo:Bool}{ty:TypeId}(hx:aw fr x=some (.pointer (some ⟨b,off,none⟩)))[ho:gG own b cs ty lo][mC P t k](hl:cw cs off k=some l)(hd:b7 n dst=true)
  (h:St C n (put fr dst (.agg ⟨l⟩)) own G (c7 P ops Q r)):St C n fr own G (c7 P ops Q (⟨dst, .load t x,ty',pos,af,none⟩::r)):=qH (H3 hx hl) J hd h
def KW{b off:Nat}{cs:List Value}{v:Value}{lo:Bool}{ty:TypeId}(hx:aw fr x=some (.pointer (some ⟨b,off,none⟩)))[ho:gG own b cs ty lo][gv P t](hl:cs[off]? =some v)(hd:b7 n dst=true)
  (h:St C n (put fr dst v) own G (c7 P ops Q r)):St C n fr own G (c7 P ops Q (⟨dst, .load t x,ty',pos,af,none⟩::r)):=qH (vx hx hl) J hd h
def U4{A:Gh}{b off:Nat}{cs:List Value}{v:Value}(hx:aw fr x=some (.pointer (some ⟨b,off,none⟩)))[hg:uI A b cs][hk:GL A G][gv P t](hl:cs[off]? =some v)(hd:b7 n dst=true)
  (h:St C n (put fr dst v) own G (c7 P ops Q r)):St C n fr own G (c7 P ops Q (⟨dst, .load t x,ty',pos,af,none⟩::r)):=qH (Ah hx (hk.le _ _ hg.h) hl) J hd h
def cD{e s by_:Nat}{ad:Option Addr}{len cap:Nat}[hT:co P t e s by_](hx:aw fr x=some (.slice ad len cap))(hd:b7 n dst=true)
  (h:St C n (put fr dst (.int .i64 len)) own G (c7 P ops Q r)):St C n fr own G (c7 P ops Q (⟨dst, .call ⟨.builtin .len, #[x], #[t]⟩,ty',pos,af,none⟩::r)):=qH (uR hx) J hd h
def sx{vs:Array Value}{i:Nat}{v:Value}(hx:aw fr x=some (.tuple vs))(hv:vs[i]? =some v)(hd:b7 n dst=true)(h:St C n (put fr dst v) own G (c7 P ops Q r)):St C n fr own G (c7 P ops Q (⟨dst, .extract x i,ty',pos,af,none⟩::r)):=qH (DL hx hv) J hd h
def eh{C:aC}{n:Nat}{fr:Fr}{own:List ao}{G:Gh}{K:Act->World->Prop}{Q:Exit->Act->World->Prop}{id:Nat}(h:St C n fr own G (Q (.exit id))):St C n fr own G (Exit.then K Q (.exit id)):=h
def fg{op:Op}{v:Value}{j d:Nat}{b:Bool}(hj:(ops[j]?).bind (·.dst)=some d)(hl:gP fr d=some (.bool b))(hy:Yd P C fr own G ⟨dst,op,ty',pos,af,some (j,b)⟩ v)(hd:b7 n dst=true)(h:St C n (put fr dst v) own G (c7 P ops Q r)):St C n fr own G (c7 P ops Q (⟨dst,op,ty',pos,af,some (j,b)⟩::r)):=WY J hj hl hy hd h
def ss{op:Op}{j d:Nat}{b c:Bool}(hj:(ops[j]?).bind (·.dst)=some d)(hl:gP fr d=some (.bool c))(hbc:(c==b)=false)(hd:b7 n dst=true)(h:St C n (put fr dst undef) own G (c7 P ops Q r)):St C n fr own G (c7 P ops Q (⟨dst,op,ty',pos,af,some (j,b)⟩::r)):=Xg J hj hl hbc hd h
def sy{op:Op}{v:Value}(hy:Yd P C fr own G ⟨dst,op,ty',pos,af,none⟩ v)(hd:b7 n dst=true)(h:St C n (put fr dst v) own G (c7 P ops Q r)):St C n fr own G (c7 P ops Q (⟨dst,op,ty',pos,af,none⟩::r)):=qH hy J hd h
def sc{op:Op}(hc:Ch P C n fr own G ⟨dst,op,ty',pos,af,none⟩ (c7 P ops Q r)):St C n fr own G (c7 P ops Q (⟨dst,op,ty',pos,af,none⟩::r)):=W4 J hc
end
def Fn.of_calls{P:Program}{f:FuncId}{vs:List Value}{G:Gh}{v:Value}(ha:qo P f)(h: ∀w,Calls P f ⟨vs⟩ w fun e w'=>e= .returned v/\w'=w):Fn P f vs G (fun u _=>u=v):=
 ⟨ha,fun w hw=>(h w).mono fun e w' ⟨he,hww⟩=>⟨v,G,he,by
  subst hww;exact⟨J,J,J,aL _,fun _ _ _=>J,hw,bz.refl _,fun _ _=>J,fun o ho=>(by cases ho), .nil,aL _,fun p hp=>by cases hp⟩,J⟩⟩
end Go.Sx
end
section
namespace Go.Sx
def dv:List Nat->Nat
 |[]=>0
 |d::t=>d+4294967296*dv t
def bw(ds:List Nat):Prop:= ∀d∈ds,d<4294967296
def dC(ds:List Nat):Prop:=ds.getLast? ≠some 0
instance (ds:List Nat):Decidable (dC ds):=inferInstanceAs (Decidable (ds.getLast? ≠some 0))
def bw.nil:bw []:=fun _ h=>by cases h
def bw.cons{d:Nat}{ds:List Nat}(h:d<4294967296)(k:bw ds):bw (d::ds):=fun x hx=>by
 rcases aT.1 hx with rfl|h'
 ·exact h
 ·exact k _ h'
def bw.head{d:Nat}{ds:List Nat}(h:bw (d::ds)):d<4294967296:=h d aQ
def bw.tail{d:Nat}{ds:List Nat}(h:bw (d::ds)):bw ds:=fun x hx=>h x (aJ _ hx)
def bw.append{a b:List Nat}(h:bw a)(k:bw b):bw (a++b):=fun x hx=>by
 rcases cX.1 hx with h'|h'
 ·exact h _ h'
 ·exact k _ h'
def bw.take{a:List Nat}(h:bw a)(n:Nat):bw (a.take n):=fun x hx=>h x (fY hx)
def bw.drop{a:List Nat}(h:bw a)(n:Nat):bw (a.drop n):=fun x hx=>h x (iQ hx)
def bw.get{a:List Nat}(h:bw a)(i:Nat):a.getD i 0<4294967296:=by
 rw[aX]
 cases hi:a[i]? with
 |none=>simp
 |some d=>exact h d (bZ hi)
def bw.set{a:List Nat}(h:bw a)(i:Nat){d:Nat}(hd:d<4294967296):bw (a.set i d):=fun x hx=>by
 rcases List.mem_or_eq_of_mem_set hx with h'|rfl
 ·exact h _ h'
 ·exact hd
def bw.replicate(n:Nat):bw (List.replicate n 0):=fun x hx=>by
 rw[List.eq_of_mem_replicate hx];omega
def uY(a b:List Nat):dv (a++b)=dv a+4294967296^a.length*dv b:=by
 induction a with
 |nil=>simp[dv]
 |cons d t ih=>
  simp only[cK,dv,ih,bU,fK];rw[dX,<-jW,<-bL,bS 4294967296 (4294967296^t.length)]
def jw{ds:List Nat}(h:bw ds):dv ds<4294967296^ds.length:=by
 induction ds with
 |nil=>simp[dv]
 |cons d t ih=>
  have h1:=h.head;have h2:=ih h.tail;simp only[dv,bU,fK];omega
def wJ(n:Nat):dv (List.replicate n 0)=0:=by
 induction n with
 |zero=>rfl
 |succ n ih=>simp[mV,dv,ih]
def iG(ds:List Nat)(i:Nat):dv (ds.take (i+1))=dv (ds.take i)+4294967296^i*ds.getD i 0:=by
 by_cases h:i<ds.length
 ·rw[fM h,uY]
  simp[dv,iK (nL h),aX,h]
 ·have:ds.getD i 0=0:=by rw[aX,eY (by omega)];rfl
  rw[this,aU (by omega),aU (by omega)];simp
def CA(ds:List Nat)(i:Nat)(h:i<=ds.length):dv ds=dv (ds.take i)+4294967296^i*dv (ds.drop i):=by
 have:=uY (ds.take i) (ds.drop i);rw[lU] at this;rw[this];simp[iK h]
def trimD:List Nat->List Nat
 |[]=>[]
 |d::t=>match trimD t with
  |[]=>if d=0 then [] else [d]
  |t'=>d::t'
def uD(d:Nat)(t:List Nat):trimD (d::t)=if trimD t=[]/\d=0 then [] else d::trimD t:=by
 simp only[trimD]
 cases h:trimD t with
 |nil=>by_cases hd:d=0<;>simp[hd]
 |cons a b=>simp
def jp(ds:List Nat):dv (trimD ds)=dv ds:=by
 induction ds with
 |nil=>rfl
 |cons d t ih=>
  rw[uD];split
  ·rename_i h
   rw[h.1] at ih;simp[dv,<-ih,h.2]
  ·simp[dv,ih]
def NH(ds:List Nat):trimD (ds++[0])=trimD ds:=by
 induction ds with
 |nil=>rfl
 |cons d t ih=>rw[cK,uD,uD,ih]
def F4{ds:List Nat}{d:Nat}(h:d≠0):trimD (ds++[d])=ds++[d]:=by
 induction ds with
 |nil=>simp[trimD,h]
 |cons e t ih=>rw[cK,uD,ih];simp
def dC.trimD(ds:List Nat):dC (trimD ds):=by
 induction ds with
 |nil=>simp[dC,Sx.trimD]
 |cons d t ih=>
  rw[uD];split
  ·simp[dC]
  ·rename_i h
   unfold dC at*;rw[List.getLast?_cons]
   cases ht:(Sx.trimD t).getLast? with
   |none=>
    have:Sx.trimD t=[]:=by simpa using ht
    simp only[Option.getD_none,ne_eq,Option.some.injEq];exact fun hd=>h ⟨this,hd⟩
   |some x=>rw[ht] at ih;simpa using ih
def my(ds:List Nat):(trimD ds).length<=ds.length:=by
 induction ds with
 |nil=>simp[trimD]
 |cons d t ih=>
  rw[uD];split
  ·simp
  ·simp;omega
def Ld(ds:List Nat):trimD ds=ds.take (trimD ds).length:=by
 induction ds with
 |nil=>rfl
 |cons d t ih=>
  rw[uD];split
  ·rfl
  ·simp only[bU,nV];rw[<-ih]
def bw.trimD{ds:List Nat}(h:bw ds):bw (trimD ds):=by rw[Ld];exact h.take _
def I3{ds:List Nat}(h:dC ds):trimD ds=ds:=by
 rcases rJ ds with rfl|⟨l,d,rfl⟩
 ·rfl
 ·rw[rK] at*
  exact F4 (fun e=>by subst e;simp[dC] at h)
def qk{ds:List Nat}(h:dC ds)(hne:ds≠[]):4294967296^(ds.length-1)<=dv ds:=by
 rcases rJ ds with rfl|⟨l,d,rfl⟩
 ·exact absurd J hne
 ·rw[rK] at*
  have hd:d≠0:=fun e=>by subst e;simp[dC] at h
  rw[uY];simp only[aY,bU,iR,dv];have:4294967296^(l.length+(0+1)-1)=4294967296^l.length:=by congr 1
  rw[this];have h1:4294967296^l.length*1<=4294967296^l.length*(d+4294967296*0):=fV _ (by omega);omega
def Xi{ds:List Nat}(h:dC ds):dv ds=0↔ds=[]:=by
 constructor
 ·intro h0
  by_cases hne:ds=[]
  ·exact hne
  ·have:=qk h hne
   have hp:0<4294967296^(ds.length-1):=dL (by omega);omega
 ·rintro rfl;rfl
def r4{a b:List Nat}(ha:bw a)(hb:dC b)(h:a.length<b.length):dv a<dv b:=by
 have h1:=jw ha;have h2:=qk hb (fun e=>by subst e;simp at h);have h3:4294967296^a.length<=4294967296^(b.length-1):=bY (by omega) (by omega);omega
def NW: ∀{a b:List Nat},bw a->bw b->a.length=b.length->dv a=dv b->a=b
 |[],[],_,_,_,_=>rfl
 |d::t,e::u,ha,hb,hl,h=>by
  have h1:=ha.head;have h2:=hb.head;simp only[dv] at h;have:d=e:=by omega
  subst this;rw[NW ha.tail hb.tail (by simpa using hl) (by omega)]
def WA{a b:List Nat}(ha:bw a)(hb:bw b)(na:dC a)(nb:dC b)(h:dv a=dv b):a=b:=by
 refine NW ha hb ?_ h;rcases Nat.lt_trichotomy a.length b.length with h'|h'|h'
 ·have:=r4 ha nb h';omega
 ·exact h'
 ·have:=r4 hb na h';omega
def Cw{a b:List Nat}(ha:bw a)(hb:bw b)(i:Nat)(hia:i<a.length)(hib:i<b.length)(hl:a.length=b.length)(hs:a.drop (i+1)=b.drop (i+1))(h:a.getD i 0<b.getD i 0):dv a<dv b:=by
 rw[CA a (i+1) (by omega),CA b (i+1) (by omega),hs,iG,iG];have h1:=jw (ha.take i);rw[cJ,iK (by omega)] at h1;have h2:4294967296^i*(a.getD i 0+1)<=4294967296^i*b.getD i 0:=fV _ h;rw[dX] at h2;omega
def Lx{ds:List Nat}{k:Nat}(h:dC ds)(hk:dv ds<2^k):32*ds.length<=k+31:=by
 by_cases hne:ds=[]
 ·subst hne;simp
 ·have h1:=qk h hne
  have h2:(4294967296:Nat)^(ds.length-1)=2^(32*(ds.length-1)):=by
   rw[oM]
  rw[h2] at h1;have h3:2^(32*(ds.length-1))<2^k:=fN h1 hk;have h4:=(nK (by omega:1<2)).1 h3;have:0<ds.length:=by cases ds with|nil=>exact absurd J hne|cons _ _=>simp
  omega
def dg(x:Nat):List Nat:=if h:x=0 then [] else(x%4294967296)::dg (x/4294967296)
termination_by x
decreasing_by omega
def ek(x:Nat):dv (dg x)=x/\bw (dg x)/\dC (dg x):=by
 induction x using Nat.strongRecOn with
 |_ x ih=>
  unfold dg;split
  ·rename_i h;subst h;exact⟨rfl, .nil,by simp[dC]⟩
  ·rename_i h
   obtain⟨h1,h2,h3⟩:=ih (x/4294967296) (by omega);refine⟨by rw[dv,h1];omega, .cons (by omega) h2,?_⟩;unfold dC at*;rw[List.getLast?_cons]
   cases hl:(dg (x/4294967296)).getLast? with
   |none=>
    have:dg (x/4294967296)=[]:=by simpa using hl
    rw[this] at h1;simp only[Option.getD_none,ne_eq,Option.some.injEq];simp only[dv] at h1;omega
   |some y=>rw[hl] at h3;simpa using h3
def Pt{ds:List Nat}(h:bw ds)(n:dC ds):dg (dv ds)=ds:=WA (ek _).2.1 h (ek _).2.2 n (ek _).1
def nA{ds:List Nat}(h:bw ds):dg (dv ds)=trimD ds:=by rw[<-jp];exact Pt h.trimD (dC.trimD _)
def pn: ∀(ws:List Nat) (j d:Nat),j<ws.length->dv (ws.set j d)+4294967296^j*ws.getD j 0=dv ws+4294967296^j*d
 |[],j,d,h=>by simp at h
 |w::t,0,d,h=>by simp[dv];omega
 |w::t,j+1,d,h=>by
  have ih:=pn t j d (by simpa using h);simp only[List.set_cons_succ,dv,lK,fK];have h1:4294967296^j*4294967296*t.getD j 0=4294967296*(4294967296^j*t.getD j 0):=by rw[bS (4294967296^j),bL]
  have h2:4294967296^j*4294967296*d=4294967296*(4294967296^j*d):=by rw[bS (4294967296^j),bL]
  rw[h1,h2];omega
def pE{ws:List Nat}{k d:Nat}(h:k<ws.length):dv ((ws.set k d).take (k+1))=dv (ws.take k)+4294967296^k*d:=by
 rw[fM (by simpa using h),List.take_set_of_le (aL _),uY];simp[dv,iK (nL h)]
def GP(p x:Nat):p*x=p*(x%4294967296)+p*4294967296*(x/4294967296):=by
 have h:p*x=p*(4294967296*(x/4294967296)+x%4294967296):=by rw[qJ]
 rw[dX,<-bL] at h;omega
def Le{p A E W c a b:Nat}(h:W+p*c=A+E):(W+p*((c+a+b)%4294967296))+(p*4294967296)*((c+a+b)/4294967296)=(A+p*a)+(E+p*b):=by
 have h1:=GP p (c+a+b);rw[dX,dX] at h1;omega
def J0{p A E W bo b a:Nat}(h:W+E=A+p*bo)(hle:bo+b<=a):(W+p*(a-(bo+b)))+(E+p*b)=(A+p*a)+p*4294967296*0:=by
 have h1:p*a=p*(a-(bo+b))+p*bo+p*b:=by
  rw[<-dX,<-dX];congr 1;omega
 omega
def K8{p A E W bo b a:Nat}(h:W+E=A+p*bo)(hle:a<bo+b)(hb:bo+b<=a+4294967296):(W+p*(a+4294967296-(bo+b)))+(E+p*b)=(A+p*a)+p*4294967296*1:=by
 have h1:p*a+p*4294967296=p*(a+4294967296-(bo+b))+p*bo+p*b:=by
  rw[<-dX,<-dX,<-dX];congr 1;omega
 omega
def ML{p W W' T c m w:Nat}(hs:W'+p*w=W+p*((c+m+w)%4294967296))(h:W+p*c=T):W'+(p*4294967296)*((c+m+w)/4294967296)=T+p*m:=by
 have h1:=GP p (c+m+w);rw[dX,dX] at h1;omega
end Go.Sx
end
section
namespace Go.Sx
open Go
section
variable {P:Program} {C:aC} {n:Nat} {fr:Fr} {own:List ao} {G:Gh}
def Yp{c:Code}{Q:Exit->Act->World->Prop}(h:St C n fr own G (c.wp P (Exit.noGoto Q))):St C n fr own G ((Code.scope c).wp P Q):=
 fun a w rl=>wp_scope_straight (h a w rl)
def YA{l:Nat}{Q:Exit->Act->World->Prop}(h:St C n fr own G (Q .normal)):St C n fr own G ((Code.label l).wp P Q):=
 fun a w rl=>wp_label (h a w rl)
def Ly:Exit->Bool
 | .goto _=>false
 |_=>true
end
section
variable {P:Program} {ops:Array Oper} {Q:Exit->Act->World->Prop} {S:World->Prop} {fin:Nat->Bool} {k:Nat} {π₂:List (Nat×Bool)}
def Og(ops:Array Oper)(fin:Nat->Bool)(k:Nat)(π₂:List (Nat×Bool)):List (Nat×Bool)->Array Bool->Bool
 |[],listed=>(Region.ready .any ops listed==[k])&&pu ops fin π₂ (listed.setIfInBounds k true)
 |(i,true)::r,listed=>!(Nat.beq i k)&&vA ops fin listed i&&vA ops fin (listed.setIfInBounds k true) i&&Og ops fin k π₂ r (listed.setIfInBounds i true)
 |(i,false)::r,listed=>!(Nat.beq i k)&&(Region.ready .any ops listed).all (fun j=>Nat.beq j i||Nat.beq j k)&&(Region.ready .any ops listed).contains i&&(Region.ready .any ops (listed.setIfInBounds k true)==[i])&&Og ops fin k π₂ r (listed.setIfInBounds i true)
def Eo(P:Program)(ops:Array Oper)(Q:Exit->Act->World->Prop)(S:World->Prop)(fin:Nat->Bool)(k:Nat)(π₂:List (Nat×Bool)):List (Nat×Bool)->Act->World->Prop
 |[],a,w=>wpOp P ops Q k (fun a' w'=>(fin k=true\/S w')/\hH P ops Q S fin π₂ a' w') a w
 |(i,true)::r,a,w=> ∃o v,ops[i]? =some o/\S w/\YieldsIf P ops S o v a/\Eo P ops Q S fin k π₂ r (a.put o.dst v) w
 |(i,false)::r,a,w=>wpOp P ops Q i (fun a' w'=>(fin i=true\/S w')/\Eo P ops Q S fin k π₂ r a' w') a w/\
   wpOp P ops Q k (fun a' w'=>(fin k=true\/S w')/\hH P ops Q S fin ((i,false)::r++π₂) a' w') a w
end
section
variable {P:Program} {C:aC} {n:Nat} {fr:Fr} {own own0:List ao} {G G0:Gh} {ops:Array Oper} {Q:Exit->Act->World->Prop} {fin:Nat->Bool} {k:Nat} {π π₂:List (Nat×Bool)}
def fF(d:Nat):Option Nat->Fr
 |none=>[]
 |some b=>[(d, .pointer (some ⟨b,0,none⟩))]
def fO(t:TypeId)(z:Value):Option Nat->List ao
 |none=>[]
 |some b=>[⟨b,aD z,t,true⟩]
def dwE(P:Program)(ops:Array Oper)(Q:Exit->Act->World->Prop)(S:World->Prop)(fin:Nat->Bool)(k:Nat)(π₂:List (Nat×Bool))(fl:Option Nat)(π:List (Nat×Bool)):Act->World->Prop:=
 match fl with
 |none=>Eo P ops Q S fin k π₂ π
 |some _=>hH P ops Q S fin (π++π₂)
end
def relo(fl:Nat->Bool)(o:ao):ao:={o with lo:=fl o.b}
structure gO (P:Program) (f:FuncId) (vs:List Value) (M:List ao) (G:Gh) (K:Value->List ao->Gh->Prop):Prop where
 able:qo P f
 run: ∀w,bm ⟨w,G,M.map (·.b),[],[],none,fun _=>none⟩ (asB M) G w->
  Calls P f ⟨vs⟩ w fun e w'=> ∃v own' G',e= .returned v/\bm ⟨w,G,M.map (·.b),[],[],none,fun _=>none⟩ own' G' w'/\K v own' G'
def io(M:List ao)(b:Nat):Bool:=M.all fun m=>!Nat.beq m.b b||m.lo
def bm.calledO{C:aC}{M rest own':List ao}{G G':Gh}{w w':World}(h:bm C (M++rest) G w)(k:bm ⟨w,G,M.map (·.b),[],[],none,fun _=>none⟩ own' G' w'):
  bm C (own'.map (relo (io M))++rest) G' w':=by
 have hsz:w.heap.size<=w'.heap.size:=k.size;have hnd:=h.nd;have inM: ∀b,b∈M.map (·.b)-> ∀o∈rest,o.b≠b:=fun b hb o ho e=>by
  obtain⟨m,hm,rfl⟩:=bM.1 hb;exact(iL.1 hnd).2.2 m hm o ho e.symm
 have bnd: ∀o∈own',o.b∉M.map (·.b)->w.heap.size<=o.b:=fun o ho hb=>by
  obtain⟨_,_,h3,h4⟩:=k.hown o ho
  cases hlo:o.lo with
  |true=>exact h3 hlo
  |false=>exact absurd (h4 hlo) hb
 refine⟨k.os.trans h.os,k.tape.trans h.tape,k.output.trans h.output,cR h.size hsz,?_,k.sub,h.gle.trans k.gle,?_,?_,?_,cR h.dr k.dr,fun p hp=>⟨(h.ext p hp).1,by rw[k.keep _ (gE (h.ext p hp).2) (h.extM hp)];exact(h.ext p hp).2⟩⟩
 ·intro b hb hm
  have hs:=h.size;have hnM:b∉M.map (·.b):=fun hb'=>by
   obtain⟨m,hmM,rfl⟩:=bM.1 hb';obtain⟨_,_,h3,h4⟩:=h.hown m (cW _ hmM)
   cases hlo:m.lo with
   |true=>have:=h3 hlo;omega
   |false=>exact hm (h4 hlo)
  rw[k.keep b (by show b<w.heap.size;omega) hnM];exact h.keep b hb hm
 ·intro b hb;have:=h.size;rw[k.gold b (by show b<w.heap.size;omega)];exact h.gold b hb
 ·intro o ho
  have hs:=h.size;rcases cX.1 ho with ho|ho
  ·obtain⟨o',ho',rfl⟩:=bM.1 ho
   obtain⟨k1,k2,k3,k4⟩:=k.hown _ ho';refine⟨k1,k2,fun hl=>?_,fun hl=>?_⟩
   ·show C.w0.heap.size<=o'.b
    by_cases hb:o'.b∈M.map (·.b)
    ·obtain⟨m,hm,hmb⟩:=bM.1 hb
     have hl':io M o'.b=true:=hl;have:=eK.1 hl' m hm;simp only[hmb,iJ,iX,pJ] at this;obtain⟨_,_,h3,_⟩:=h.hown m (cW _ hm);rw[<-hmb];exact h3 (by rcases this with h|h;(cases h);(exact h))
    ·have:=bnd o' ho' hb;omega
   ·show o'.b∈C.mb
    have hl':io M o'.b=false:=hl;obtain⟨m,hm,hmb⟩:=List.all_eq_false.1 hl';simp only[iJ,iX,not_or] at hmb;obtain⟨h1,h2⟩:=hmb;have e:m.b=o'.b:=by
     cases hq:Nat.beq m.b o'.b with
     |true=>exact aR hq
     |false=>exact absurd hq h1
    obtain⟨_,_,_,h4⟩:=h.hown m (cW _ hm);rw[<-e];exact h4 (by cases hq:m.lo with
     |true=>exact absurd hq h2
     |false=>rfl)
  ·obtain⟨h1,h2,h3⟩:=h.hown o (cS _ ho)
   have hnM:o.b∉M.map (·.b):=fun hb=>inM _ hb o ho J;exact⟨by rw[k.keep _ (gE h1) hnM];exact h1,by rw[k.gold _ (gE h1)];exact h2,h3⟩
 ·refine iL.2 ⟨?_,(iL.1 hnd).2.1,?_⟩
  ·rw[List.pairwise_map];exact k.nd
  ·intro x hx y hy
   obtain⟨o',ho',rfl⟩:=bM.1 hx;show o'.b≠y.b;by_cases hb:o'.b∈M.map (·.b)
   ·exact fun e=>inM _ hb y hy e.symm
   ·have h1:=bnd o' ho' hb
    have h2:=gE (h.hown y (cS _ hy)).1;omega
def qp(C:aC)(K:Value->List ao->Gh->Prop):Ending->World->Prop:=fun e w'=> ∃v own' G',e= .returned v/\bm C own' G' w'/\K v own' G'
def gO.introR{P:Program}{G:Gh}{f:FuncId}{fn:Func}{c:Code}{vs:List Value}{m:Nat}{M:List ao}{K:Value->List ao->Gh->Prop}(hf:P.funcs[f]? =some fn)(hb:fn.body=some c)(hn:(fn.name== "runtime.NumGoroutine")=false)(hm:fn.ntmps=m)(hlen:Nat.ble vs.length m=true)
  (h: ∀C:aC,C.G0=G->C.mb=M.map (·.b)->C.rd=none->(C.fx=fun _=>none)->St C m (lP 0 vs) (asB M) G (c.wp P (fk C P fn (qp C K)))):gO P f vs M G K:=by
 refine⟨⟨fn,hf,hn,by simp[hb]⟩,fun w hw=>?_⟩;have hlen':vs.length<=m:=by simpa using hlen
 have:=calls_of_wp (P:=P) (f:=f) (args:=⟨vs⟩) (w:=w) (R:=qp ⟨w,G,M.map (·.b),[],[],none,fun _=>none⟩ K) hf hb (wp_mono (h ⟨w,G,M.map (·.b),[],[],none,fun _=>none⟩ J J J J _ w
  ⟨hw,by simp;omega,fun k v hk=>by
   obtain⟨j,rfl,hj⟩:=sI vs 0 k v hk;have hj':=(aM.1 hj).1;rw[jV (by simpa using hj')];simpa using hj,J⟩) fun _ _ _ k=>k J)
 exact this
def gO.intro{P:Program}{G:Gh}{f:FuncId}{fn:Func}{c:Code}{vs:List Value}{m:Nat}{M:List ao}{K:Value->List ao->Gh->Prop}(hf:P.funcs[f]? =some fn)(hb:fn.body=some c)(hn:(fn.name== "runtime.NumGoroutine")=false)(hm:fn.ntmps=m)(hlen:Nat.ble vs.length m=true)
  (h: ∀C:aC,C.G0=G->C.mb=M.map (·.b)->St C m (lP 0 vs) (asB M) G (c.wp P (fk C P fn (qp C K)))):gO P f vs M G K:=
 gO.introR hf hb hn hm hlen fun C a b _ _=>h C a b
section
variable {P:Program} {C:aC} {n:Nat} {fr:Fr} {own own':List ao} {G:Gh} {Φ:Act->World->Prop}
variable {dst:Option Nat} {t t' ty':TypeId} {pos:String} {af:Array Edge} {gd:Option (Nat×Bool)} {x y:Operand}
def yw{fn:Func}{K:Value->List ao->Gh->Prop}{vs:List Value}(hr:kd P fr own fn.results.toList vs)(own2 own3:List ao)(hp:own.Perm own2)(hs:own3.Sublist own2)(hk:K (gn vs) own3 G):St C n fr own G (fk C P fn (qp C K) .ret):=
 fun a w rl hmk=>⟨rl.df.trans hmk,_,rp hr rl.fr rl.h,_,own3,G,J,(rl.h.perm hp).drop hs,hk⟩
def Jw{f:FuncId}{fo:Operand}{args:Array Operand}{tys:Array TypeId}{vs c1 c2:List Value}{M rest:List ao}{K:Value->List ao->Gh->Prop}(ho:aw fr fo=some (.func (.func f) ⟨c1⟩ ⟨c2⟩))(hv:fq fr args.toList=some vs)
  (hp:own.Perm (M++rest))(hF:gO P f (c1++vs++c2) M G K)(hd:b7 n dst=true)(h: ∀v own1 (G':Gh),[GE G G']->K v own1 G'->St C n (put fr dst v) (own1.map (relo (io M))++rest) G' Φ):
  Ch P C n fr own G ⟨dst, .call ⟨.value fo,args,tys⟩,ty',pos,af,gd⟩ Φ:=by
 intro a w Q rl;have h2:=C8 (P:=P) (dst:=dst) (ty':=ty') (pos:=pos) (af:=af) (gd:=gd) (tys:=tys) (w:=w) hF.able rl.fr ho hv;simp only[Oper.wp,h2,Oper.upon];have hh0:=rl.h.perm hp;refine(hF.run w hh0.lend).mono ?_;rintro e w' ⟨v,own1,G',rfl,hh,hK⟩;exact @h v own1 G' ⟨hh.gle⟩ hK _ _ ((rl.heap (hh0.calledO hh)).put _ hd)
def wF{f:FuncId}{fo:Operand}{args:Array Operand}{tys:Array TypeId}{vs:List Value}{M rest:List ao}{K:Value->List ao->Gh->Prop}(ho:aw fr fo=some (.func (.func f) #[] #[]))(hv:fq fr args.toList=some vs)
  (hp:own.Perm (M++rest))(hF:gO P f vs M G K)(hd:b7 n dst=true)(h: ∀v own1 (G':Gh),[GE G G']->K v own1 G'->St C n (put fr dst v) (own1.map (relo (io M))++rest) G' Φ):
  Ch P C n fr own G ⟨dst, .call ⟨.value fo,args,tys⟩,ty',pos,af,gd⟩ Φ:=
 Jw (c1:=[]) (c2:=[]) ho hv hp (by simpa using hF) hd h
def ZE{b:Nat}{cs:List Value}{ty:TypeId}{lo:Bool}(hC:C.mb=[])(h:St C n fr (⟨b,cs,ty,true⟩::own) G Φ):St C n fr (⟨b,cs,ty,lo⟩::own) G Φ:=by
 intro a w rl
 cases lo with
 |true=>exact h a w rl
 |false=>
  have:=(rl.h.hown _ aQ).2.2.2 J;rw[hC] at this;cases this
end
structure SV where
 a:Option Addr
 n:Nat
 c:Nat
def SV.v(x:SV):Value:= .slice x.a x.n x.c
structure ee (G:Gh) (s:Nat) (x:SV) (es:List Value):Prop where
 len:x.n=es.length
 cap:x.n<=x.c
 mem:es=[]\/ ∃b off cs,x.a=some ⟨b,off,none⟩/\G b=some cs/\ ∀i (h:i<es.length),cw cs (off+i*s) s=some (aD es[i])
def ee.up'{A G:Gh}{s:Nat}{x:SV}{es:List Value}(h:ee A s x es)(k:bz A G):ee G s x es:=
 ⟨h.len,h.cap,h.mem.imp id (fun⟨b,off,cs,h1,h2,h3⟩=>⟨b,off,cs,h1,k _ _ h2,h3⟩)⟩
def ee.up{A G:Gh}{s:Nat}{x:SV}{es:List Value}(h:ee A s x es)[k:GL A G]:ee G s x es:=h.up' k.le
def ee.nil(G:Gh)(s:Nat):ee G s ⟨none,0,0⟩ []:=⟨J,aL _, .inl J⟩
def ee.take{G:Gh}{s:Nat}{x:SV}{es:List Value}(h:ee G s x es)(k:Nat)(hk:k<=es.length):ee G s ⟨x.a,k,x.c⟩ (es.take k):=by
 refine⟨by simp[hk],by show k<=x.c;have:=h.len;have:=h.cap;omega,?_⟩;rcases h.mem with h0|⟨b,off,cs,h1,h2,h3⟩
 ·left;simp[h0]
 ·right;exact⟨b,off,cs,h1,h2,fun i hi=>by
   simp only[cJ] at hi;rw[h3 i (by omega)];simp⟩
def wL(a:Option Addr)(k:Nat):Option Addr:=a.map (·.add k)
section
variable {P:Program} {C:aC} {n:Nat} {fr:Fr} {own own':List ao} {G:Gh} {Φ:Act->World->Prop}
variable {dst:Option Nat} {t t' ty':TypeId} {pos:String} {af:Array Edge} {gd:Option (Nat×Bool)} {x y:Operand} {e s by_:Nat}
def Ro{A:Gh}[hT:co P t e s by_]{k:IntKind}{z:SV}{es:List Value}{i:Int}(hs:ee A s z es)(hx:aw fr x=some (.slice z.a z.n z.c))(hy:aw fr y=some (.int k i))(h0:0<=i)(h1:i<z.n):
  Yd P C fr own G ⟨dst, .indexAddr t x y,ty',pos,af,gd⟩ (.pointer (wL z.a (i.toNat*s))):=by
 rcases hs.mem with h|⟨b,off,cs,ha,hg,hc⟩
 ·have:=hs.len;rw[h] at this;simp at this;omega
 ·rw[ha] at hx
  have:=Ay (P:=P) (C:=C) (own:=own) (G:=G) (t:=t) (dst:=dst) (ty':=ty') (pos:=pos) (af:=af) (gd:=gd) (by_:=by_) hx hy h0 h1;rw[ha];simpa[wL,p8] using this
def WH{A:Gh}[hA:gv P t]{z:SV}{es:List Value}{i:Nat}{v:Value}(hs:ee A 1 z es)[hl:GL A G](hx:aw fr x=some (.pointer (wL z.a (i*1))))(he:es[i]? =some v)(hv:flat v=true):
  Yd P C fr own G ⟨dst, .load t x,ty',pos,af,gd⟩ v:=by
 obtain⟨h1,he'⟩:=aM.1 he;rcases hs.mem with h|⟨b,off,cs,ha,hg,hc⟩
 ·rw[h] at h1;simp at h1
 ·rw[ha] at hx
  have h2:=hc i h1;rw[he'] at h2;have hcv:aD v=[v]:=by cases v<;>first|rfl|(simp[flat] at hv)
  rw[hcv] at h2;obtain⟨_,h3⟩:=o8 _ _ _ _ h2;have h4:=h3 0 (by omega);exact Ah (off:=off+i*1) (by simpa[wL,p8] using hx) (hl.le _ _ hg) (by simpa using h4)
end
def dI(d:Nat):Value:= .int .u32 (d:Int)
structure cd (G:Gh) (x:SV) (ds:List Nat):Prop where
 ok:bw ds
 sl:ee G 1 x (ds.map dI)
def cd.len{G:Gh}{x:SV}{ds:List Nat}(h:cd G x ds):x.n=ds.length:=by simpa using h.sl.len
def cd.up{A G:Gh}{x:SV}{ds:List Nat}(h:cd A x ds)[k:GL A G]:cd G x ds:=⟨h.ok,h.sl.up⟩
def cd.nil(G:Gh):cd G ⟨none,0,0⟩ []:=⟨.nil, .nil G 1⟩
def cd.take{G:Gh}{x:SV}{ds:List Nat}(h:cd G x ds)(k:Nat)(hk:k<=ds.length):cd G ⟨x.a,k,x.c⟩ (ds.take k):=
 ⟨h.ok.take k,by rw[jZ];exact h.sl.take k (by simpa using hk)⟩
def cd.trim{G:Gh}{x:SV}{ds:List Nat}(h:cd G x ds):cd G ⟨x.a,(trimD ds).length,x.c⟩ (trimD ds):=by
 have:=h.take _ (my ds);rwa [<-Ld] at this
def cd.of_block{G:Gh}{b c k:Nat}{cs:List Value}{ds:List Nat}(ok:bw ds)(hg:G b=some cs)(hk:k=ds.length)(hc:k<=c)(hcs:cs.take ds.length=ds.map dI):cd G ⟨some ⟨b,0,none⟩,k,c⟩ ds:=by
 refine⟨ok,by simpa using hk,hc, .inr ⟨b,0,cs,J,hg,fun i hi=>?_⟩⟩;have hi':i<ds.length:=by simpa using hi
 have hl:ds.length<=cs.length:=by
  have:=congrArg List.length hcs;simp at this;omega
 rw[lg _ _ _ (by omega)];congr 1;have h1:(cs.take ds.length)[i]? =(ds.map dI)[i]? :=by rw[hcs]
 rw[qY,if_pos hi',eJ,aZ hi',aZ (by omega)] at h1;have h2:cs[i]=dI ds[i]:=by simpa using h1
 rw[dS,kS,bX (by omega),nV,sW,h2,List.getElem_map];rfl
structure fj (k:Nat) (G:Gh) (x:SV) (v:Nat):Prop where
 d:cd G x (dg v)
 lt:v<2^k
def fj.up{k:Nat}{A G:Gh}{x:SV}{v:Nat}(h:fj k A x v)[GL A G]:fj k G x v:=⟨h.d.up,h.lt⟩
def fj.len{k:Nat}{G:Gh}{x:SV}{v:Nat}(h:fj k G x v):x.n=(dg v).length:=h.d.len
def fj.mono{k k':Nat}{G:Gh}{x:SV}{v:Nat}(h:fj k G x v)(hk:v<2^k'):fj k' G x v:=⟨h.d,hk⟩
section
variable {P:Program} {C:aC} {n:Nat} {fr:Fr} {own own':List ao} {G:Gh} {Φ:Act->World->Prop}
variable {dst:Option Nat} {t t' ty':TypeId} {pos:String} {af:Array Edge} {gd:Option (Nat×Bool)} {x y:Operand} {e s by_:Nat}
def gw{A:Gh}[hT:co P t e 1 by_]{k:IntKind}{z:SV}{ds:List Nat}{i:Int}(hs:cd A z ds)(hx:aw fr x=some (.slice z.a z.n z.c))(hy:aw fr y=some (.int k i))(h0:0<=i)(h1:i<z.n):
  Yd P C fr own G ⟨dst, .indexAddr t x y,ty',pos,af,gd⟩ (.pointer (wL z.a (i.toNat*1))):=Ro hs.sl hx hy h0 h1
def gI{A:Gh}[hA:gv P t]{z:SV}{ds:List Nat}{i:Nat}(hs:cd A z ds)[hl:GL A G](hx:aw fr x=some (.pointer (wL z.a (i*1))))(h1:i<ds.length):
  Yd P C fr own G ⟨dst, .load t x,ty',pos,af,gd⟩ (.int .u32 ((ds.getD i 0:Nat):Int)):=
 WH hs.sl hx (by rw[eJ,aZ h1,aX,aZ h1];rfl) J
def P'{A:Gh}{z:SV}{ds:List Nat}(h:cd A z ds)[hl:GL A G]:lB P C own G 1 z.n (.slice z.a z.n z.c) (ds.map dI):=by
 intro w hw;by_cases hne:ds=[]
 ·rw[h.len]
  subst hne;exact se w hw
 rcases h.sl.mem with h0|⟨b,off,cs,ha,hg,hc⟩
 ·exact absurd (by simpa using h0) hne
 ·rw[ha]
  have hn:=h.len;refine JS (hl.le _ _ hg) ?_ w hw;rw[kS];have hel: ∀i,i<ds.length->cs[off+i]? =some (dI (ds.getD i 0)):=fun i hi=>by
   have h1:=hc i (by simpa using hi);obtain⟨_,h2⟩:=o8 _ _ _ _ h1;have h3:=h2 0 (by omega);rw[kS,fJ] at h3;rw[h3,List.getElem_map,aX,aZ hi];rfl
  by_cases h00:ds.length=0
  ·exact absurd h00 (fun e=>hne (bK e))
  ·have hlast:=hel (ds.length-1) (by omega)
   have hle:off+ds.length<=cs.length:=by
    have:=(aM.1 hlast).1;omega
   rw[hn,lg _ _ _ hle];congr 1;apply oU;intro i;rw[qY];split
   ·rename_i hi
    rw[mR,hel i hi,eJ,aX,aZ hi];rfl
   ·rename_i hi
    rw[eY (by simpa using hi)]
def te(n:Nat):de (.int .u32 0) n=(List.replicate n 0).map dI:=by
 unfold de
 induction n with
 |zero=>rfl
 |succ n ih=>rw[mV,oT,ih];rfl
def f9[hT:co P t e s by_]{k:IntKind}{b len cap:Nat}{i:Int}(hx:aw fr x=some (.slice (some ⟨b,0,none⟩) len cap))(hy:aw fr y=some (.int k i))(h0:0<=i)(h1:i<len):
  Yd P C fr own G ⟨dst, .indexAddr t x y,ty',pos,af,gd⟩ (.pointer (some ⟨b,i.toNat*s,none⟩)):=by
 have:=Ay (P:=P) (C:=C) (own:=own) (G:=G) (t:=t) (dst:=dst) (ty':=ty') (pos:=pos) (af:=af) (gd:=gd) (by_:=by_) hx hy h0 h1;rwa [dS] at this
def qD[hA:gv P t]{b i:Nat}{ws:List Nat}{ty:TypeId}{lo:Bool}(hx:aw fr x=some (.pointer (some ⟨b,i*1,none⟩)))[ho:gG own b (ws.map dI) ty lo](h1:i<ws.length):
  Yd P C fr own G ⟨dst, .load t x,ty',pos,af,gd⟩ (.int .u32 ((ws.getD i 0:Nat):Int)):=by
 rw[kS] at hx;refine vx hx ?_;rw[eJ,aZ h1,aX,aZ h1];rfl
def kO{b i d:Nat}{ws:List Nat}{ty:TypeId}{lo:Bool}{v:Int}[hs:gv P t](hx:aw fr x=some (.pointer (some ⟨b,i*1,none⟩)))(hy:aw fr y=some (.int .u32 v))(hv:v=(d:Int))
  (hu:ig own b (ws.map dI) ty lo ((ws.set i d).map dI) own')(hi:i<ws.length)(hd:b7 n dst=true)(h:St C n (put fr dst undef) own' G Φ):
  Ch P C n fr own G ⟨dst, .store t x y,ty',pos,af,gd⟩ Φ:=by
 rw[kS] at hx;have hu':ig own b (ws.map dI) ty lo ((ws.map dI).set i (.int .u32 v)) own':=by
  rw[hv,<-show dI d= .int .u32 (d:Int) from J,<-jU];exact hu
 exact uO hx hy hu' (by simpa using hi) J hd h
def dH{p q:Int}(hx:aw fr x=some (.int .i64 p))(hy:aw fr y=some (.int .i64 q))(h0: -9223372036854775808<=p+q:=by omega)(h1:p+q<=9223372036854775807:=by omega):Yd P C fr own G ⟨dst, .binOp .add t x y t',ty',pos,af,gd⟩ (.int .i64 (p+q)):=Fk hx hy ⟨h0,h1⟩
def jx{p q:Int}(hx:aw fr x=some (.int .i64 p))(hy:aw fr y=some (.int .i64 q))(h0: -9223372036854775808<=p-q:=by omega)(h1:p-q<=9223372036854775807:=by omega):Yd P C fr own G ⟨dst, .binOp .sub t x y t',ty',pos,af,gd⟩ (.int .i64 (p-q)):=EC hx hy ⟨h0,h1⟩
def Na{p q:Int}(hx:aw fr x=some (.int .i64 p))(hy:aw fr y=some (.int .i64 q))(h0: -9223372036854775808<=p*q)(h1:p*q<=9223372036854775807):Yd P C fr own G ⟨dst, .binOp .mul t x y t',ty',pos,af,gd⟩ (.int .i64 (p*q)):=DJ hx hy ⟨h0,h1⟩
def qx{p q:Int}(hx:aw fr x=some (.int .u64 p))(hy:aw fr y=some (.int .u64 q))(h0:0<=p+q:=by omega)(h1:p+q<=18446744073709551615:=by omega):Yd P C fr own G ⟨dst, .binOp .add t x y t',ty',pos,af,gd⟩ (.int .u64 (p+q)):=Fk hx hy ⟨h0,h1⟩
def Nh{p q:Int}(hx:aw fr x=some (.int .u64 p))(hy:aw fr y=some (.int .u64 q))(h0:0<=p-q)(h1:p-q<=18446744073709551615):Yd P C fr own G ⟨dst, .binOp .sub t x y t',ty',pos,af,gd⟩ (.int .u64 (p-q)):=EC hx hy ⟨h0,h1⟩
def E4{p q:Int}(hx:aw fr x=some (.int .u64 p))(hy:aw fr y=some (.int .u64 q))(h0:0<=p*q)(h1:p*q<=18446744073709551615):Yd P C fr own G ⟨dst, .binOp .mul t x y t',ty',pos,af,gd⟩ (.int .u64 (p*q)):=DJ hx hy ⟨h0,h1⟩
def lD{k k':IntKind}{p q:Int}(hx:aw fr x=some (.int k p))(hy:aw fr y=some (.int k' q))(h0:0<=q):Yd P C fr own G ⟨dst, .binOp .shr t x y t',ty',pos,af,gd⟩ (.int k (p.fdiv (2^min q.toNat k.bits))):=by
 intro a w hf hh;simp only[execOp,bi hf hx,bi hf hy];have h1:(eqGuard .shr t x y (.int k p) (.int k' q)).run P w= .ok () w:=J;have h2:(binOp .shr t (.int k p) (.int k' q)).run P w= .ok (.int k (p.fdiv (2^min q.toNat k.bits))) w:=by
  simp[binOp,Op.shift,Int.not_lt.2 h0,run_pure]
 exact cA (by rw[aP h1];exact h2)
def uP{k k':IntKind}{p q:Int}(hx:aw fr x=some (.int k p))(hy:aw fr y=some (.int k' q))(h0:0<=q):Yd P C fr own G ⟨dst, .binOp .shl t x y t',ty',pos,af,gd⟩ (.int k (k.wrap (p*2^min q.toNat k.bits))):=by
 intro a w hf hh;simp only[execOp,bi hf hx,bi hf hy];have h1:(eqGuard .shl t x y (.int k p) (.int k' q)).run P w= .ok () w:=J;have h2:(binOp .shl t (.int k p) (.int k' q)).run P w= .ok (.int k (k.wrap (p*2^min q.toNat k.bits))) w:=by
  simp[binOp,Op.shift,Int.not_lt.2 h0,run_pure]
 exact cA (by rw[aP h1];exact h2)
def ge{k:IntKind}{p:Int}[hs:lA P t k][hd:lA P t' .u64](hx:aw fr x=some (.int k p))(h0:0<=p:=by omega)(h1:p<=18446744073709551615:=by omega):Yd P C fr own G ⟨dst, .convert t t' x,ty',pos,af,gd⟩ (.int .u64 p):=FF hx ⟨h0,h1⟩
def P0{k:IntKind}{p:Int}[hs:lA P t k][hd:lA P t' .i64](hx:aw fr x=some (.int k p))(h0: -9223372036854775808<=p:=by omega)(h1:p<=9223372036854775807:=by omega):Yd P C fr own G ⟨dst, .convert t t' x,ty',pos,af,gd⟩ (.int .i64 p):=FF hx ⟨h0,h1⟩
def pD(p:Int):IntKind.u32.wrap p=p%4294967296:=by simp[IntKind.wrap,IntKind.bits,IntKind.signed]
def l7(p:Int):IntKind.u64.wrap p=p%18446744073709551616:=by simp[IntKind.wrap,IntKind.bits,IntKind.signed]
def jC{k:IntKind}{p:Int}[hs:lA P t k][hd:lA P t' .u32](hx:aw fr x=some (.int k p)):Yd P C fr own G ⟨dst, .convert t t' x,ty',pos,af,gd⟩ (.int .u32 (p%4294967296)):=by
 have:=Dp (P:=P) (C:=C) (own:=own) (G:=G) (dst:=dst) (ty':=ty') (pos:=pos) (af:=af) (gd:=gd) (t:=t) (t':=t') hx;rwa [pD] at this
def vO{k:IntKind}{p q:Int}(hx:aw fr x=some (.int k p))(hy:aw fr y=some (.int k q))(h0:0<=p)(h:q≠0):Yd P C fr own G ⟨dst, .binOp .rem t x y t',ty',pos,af,gd⟩ (.int k (p%q)):=by
 have:=N2 (P:=P) (C:=C) (own:=own) (G:=G) (dst:=dst) (ty':=ty') (pos:=pos) (af:=af) (gd:=gd) (t:=t) (t':=t') hx hy h;rwa [Int.tmod_eq_emod_of_nonneg h0] at this
def vi{p q:Int}(hx:aw fr x=some (.int .u64 p))(hy:aw fr y=some (.int .u64 q))(h0:0<=p)(h1:p<=18446744073709551615)(h:0<q):Yd P C fr own G ⟨dst, .binOp .quo t x y t',ty',pos,af,gd⟩ (.int .u64 (p/q)):=by
 have:=OV (P:=P) (C:=C) (own:=own) (G:=G) (dst:=dst) (ty':=ty') (pos:=pos) (af:=af) (gd:=gd) (t:=t) (t':=t') hx hy (by omega);rw[Int.tdiv_eq_ediv_of_nonneg h0,l7,Int.emod_eq_of_lt (Int.ediv_nonneg h0 (by omega)) (by have:=Int.ediv_le_self q h0;omega)] at this;exact this
def kD{Q:Exit->Act->World->Prop}{p:Prop}{inst:Decidable p}{c:Operand}{x y:Code}(hc:aw fr c=some (.bool (@decide p inst)))(h2: ¬p->St C n fr own G (y.wp P Q))(h1:p->St C n fr own G (x.wp P Q)):
  St C n fr own G ((Code.cond c x y).wp P Q):=gH hc h1 h2
end
section
variable {P:Program} {C:aC} {n:Nat} {fr:Fr} {own own' own1:List ao} {G:Gh} {Φ:Act->World->Prop}
variable {dst:Option Nat} {t t' ty':TypeId} {pos:String} {af:Array Edge} {gd:Option (Nat×Bool)} {x y:Operand} {e s by_:Nat}
def XP{v:Value}{b off k:Nat}{cs cs':List Value}{ty:TypeId}{lo:Bool}(hx:aw fr x=some (.pointer (some ⟨b,off,none⟩)))(hy:aw fr y=some v)[hs:mC P t k][ho:gG own b cs ty lo]
  (hc:cj cs off (aD v)=cs')(hu:ig own b cs ty lo cs' own')(hk:(aD v).length=k)(hl:off+k<=cs.length)(hf:(aD v).all flat=true)(hd:b7 n dst=true)(h:St C n (put fr dst undef) own' G Φ):
  Ch P C n fr own G ⟨dst, .store t x y,ty',pos,af,gd⟩ Φ:=Cs hx hy (hc▸hu) hk hl hf hd h
def DY{v:Value}{b off:Nat}{cs cs':List Value}{ty:TypeId}{lo:Bool}(hx:aw fr x=some (.pointer (some ⟨b,off,none⟩)))(hy:aw fr y=some v)[hs:gv P t][ho:gG own b cs ty lo]
  (hc:cs.set off v=cs')(hu:ig own b cs ty lo cs' own')(hl:off<cs.length)(hf:flat v=true)(hd:b7 n dst=true)(h:St C n (put fr dst undef) own' G Φ):
  Ch P C n fr own G ⟨dst, .store t x y,ty',pos,af,gd⟩ Φ:=uO hx hy (hc▸hu) hl hf hd h
def aCx[hT:co P t e s by_]{ad:Option Addr}{len cap:Nat}(hx:aw fr x=some (.slice ad len cap)):
  Yd P C fr own G ⟨dst, .call ⟨.builtin .cap, #[x], #[t]⟩,ty',pos,af,gd⟩ (.int .i64 cap):=by
 intro a w hf hh;simp only[execOp,resolve,gS,bJ,dR,bi hf hx];have h1:(Builtin.cap_ #[t] ty' #[.slice ad len cap]).run P w= .ok (.int .i64 cap) w:=by
  simp only[Builtin.cap_];show(underlying t>>=_).run P w=_;rw[aP (hT.u w)];rfl
 exact cA h1
def Uw{w:World}[hT:co P t e s by_]{b off l c l2 c2 m:Nat}{ad2:Option Addr}{cs ys:List Value}{ty:TypeId}(hm:Nat.min l2 l=m)
  (hb:w.heap[b]? =some (.cells ⟨cs⟩ ty (0,0)))(hsy:(Builtin.firstCells s m (.slice ad2 l2 c2)).run P w= .ok ⟨ys⟩ w)(hf: ∀v∈ys,flat v=true)(hl:off+ys.length<=cs.length):
  (Builtin.copy_ #[t,t'] ty' #[.slice (some ⟨b,off,none⟩) l c, .slice ad2 l2 c2]).run P w=
   .ok (.int .i64 m) (gi w b (.cells ⟨cj cs off ys⟩ ty (0,0))):=by
 obtain⟨i,hi,his,hib⟩:=hT.info;subst his;have hst:=As (P:=P) ys w off 0 cs hf hb (by omega);rw[fJ] at hst;subst hm;simp[Builtin.copy_,run_underlying hT.un,sizeOf,typeInfo,hi,Builtin.lenOf,hsy,hst];rfl
def JX[hT:co P t e s by_]{b off l c l2 c2 m:Nat}{ad2:Option Addr}{cs ys:List Value}{ty:TypeId}{lo:Bool}(hx:aw fr x=some (.slice (some ⟨b,off,none⟩) l c))(hy:aw fr y=some (.slice ad2 l2 c2))
  (hm:Nat.min l2 l=m)(hsy:lB P C own G s m (.slice ad2 l2 c2) ys)(hf: ∀v∈ys,flat v=true)(hl:off+ys.length<=cs.length)(hu:ig own b cs ty lo (cj cs off ys) own')(hd:b7 n dst=true)
  (h:St C n (put fr dst (.int .i64 m)) own' G Φ):Ch P C n fr own G ⟨dst, .call ⟨.builtin .copy, #[x,y], #[t,t']⟩,ty',pos,af,gd⟩ Φ:=by
 intro a w Q rl;have hb:=(rl.h.hown _ (hu.spec rl.h.nd).1).1;refine km (v:= .int .i64 m) (w':=gi w b (.cells ⟨cj cs off ys⟩ ty (0,0))) ?_ (h _ _ ((rl.heap (rl.h.store hu)).put _ hd));simp only[execOp,resolve,gS,bJ,dR,bi rl.fr hx,bi rl.fr hy];exact cA (Uw hm hb (hsy w rl.h) hf hl)
def MC[hT:co P t e s by_][hN:jl P t']{b len cap m cap2:Nat}{ad2:Option Addr}{cs ys:List Value}{lo:Bool}
  (hx:aw fr x=some (.slice (some ⟨b,0,none⟩) len cap))(hy:aw fr y=some (.slice ad2 m cap2))(hu:ig own b cs e lo (cj cs (len*s) ys) own')(hcs:cs.length=cap*s)
  (hsy:lB P C own G s m (.slice ad2 m cap2) ys)(hys:ys.length=m*s)(hf: ∀v∈ys,flat v=true)(hneed:len+m<=cap)(hd:b7 n dst=true)
  (h:St C n (put fr dst (.slice (some ⟨b,0,none⟩) (len+m) cap)) own' G Φ):
  Ch P C n fr own G ⟨dst, .call ⟨.builtin .append, #[x,y], #[t,t']⟩,ty',pos,af,gd⟩ Φ:=by
 intro a w Q rl;have hb:=(rl.h.hown _ (hu.spec rl.h.nd).1).1;refine km (v:= .slice (some ⟨b,0,none⟩) (len+m) cap) (w':=gi w b (.cells ⟨cj cs (len*s) ys⟩ e (0,0))) ?_ (h _ _ ((rl.heap (rl.h.store hu)).put _ hd));simp only[execOp,resolve,gS,bJ,dR,bi rl.fr hx,bi rl.fr hy];exact cA (If hb hcs (hsy w rl.h) hys hf hneed)
def Lu[hT:co P t e s by_][hN:jl P t']{z:Value}[hz:gt P e z]{b len cap m cap2:Nat}{ad2:Option Addr}{xs ys rest:List Value}{lo:Bool}
  (hx:aw fr x=some (.slice (some ⟨b,0,none⟩) len cap))(hy:aw fr y=some (.slice ad2 m cap2))(hr:i9 own ⟨b,xs++rest,e,lo⟩ own1)(hxs:xs.length=len*s)(hcap:xs.length+rest.length=cap*s)(hlc:len<=cap)
  (hsy:lB P C own G s m (.slice ad2 m cap2) ys)(hys:ys.length=m*s)(hf: ∀v∈ys,flat v=true)
  (hby:0<by_)(hb:(len+m)*by_<=140737488355328)(hzs:(aD z).length=s)(hd:b7 n dst=true)
  (h: ∀b lo' cap' rest',len+m<=cap'->rest'.length+(len+m)*s=cap'*s->St C n (put fr dst (.slice (some ⟨b,0,none⟩) (len+m) cap')) (⟨b,xs++ys++rest',e,lo'⟩::own1) G Φ):
  Ch P C n fr own G ⟨dst, .call ⟨.builtin .append, #[x,y], #[t,t']⟩,ty',pos,af,gd⟩ Φ:=by
 intro a w Q rl;have hp:=rl.h.perm hr.perm;have hblk:=(hp.hown _ aQ).1;simp only[] at hblk;by_cases hneed:len+m<=cap
 ·have hcs:(xs++rest).length=cap*s:=by simp;omega
  have hrun:=If (P:=P) (t:=t) (t':=t') (ty':=ty') (w:=w) (len:=len) hblk hcs (hsy w rl.h) hys hf hneed;have hle:len*s+m*s<=cap*s:=by rw[<-dQ];exact bV _ hneed
  have hov:cj (xs++rest) (len*s) ys=xs++ys++rest.drop (m*s):=by
   rw[oF _ _ _ (by rw[hys];omega),<-hxs];simp[hys,mU]
  refine km (v:= .slice (some ⟨b,0,none⟩) (len+m) cap) (w':=gi w b (.cells ⟨cj (xs++rest) (len*s) ys⟩ e (0,0))) ?_ ?_
  ·simp only[execOp,resolve,gS,bJ,dR,bi rl.fr hx,bi rl.fr hy]
   exact cA hrun
  ·rw[hov]
   refine h b lo cap (rest.drop (m*s)) hneed ?_ _ _ ((rl.heap (hp.store (.hd ..))).put _ hd);rw[gL,dQ];omega
 ·have hx':lB P C own G s len (.slice (some ⟨b,0,none⟩) len cap) xs:=fun w' hw'=>by
   have hb':=(((hw'.perm hr.perm).hown _ aQ).1);refine C9 hb' ?_;rw[lg _ _ _ (by simp;omega),<-hxs];simp
  have hcap':len+m<=grownCap w (len+m) cap e:=by unfold grownCap;simp only[Question.cut];omega
  have hrun:=H2 (P:=P) (t:=t) (t':=t') (ty':=ty') (w:=w) (w':=w) (hx' _ rl.h.drew) (hsy _ rl.h.drew) (by omega) hby hb;refine km (v:= .slice (some ⟨w.heap.size,0,none⟩) (len+m) (grownCap w (len+m) cap e)) (w':=w.drew.alloc (.cells ⟨xs++ys++de z (grownCap w (len+m) cap e-(len+m))⟩ e)) ?_ ?_
  ·simp only[execOp,resolve,gS,bJ,dR,bi rl.fr hx,bi rl.fr hy]
   exact cA hrun
  ·refine h w.heap.size _ _ _ hcap' ?_ _ _ ((rl.heap (((hp.drew).drop (qM _ _)).alloc _ _)).put _ hd)
   rw[n0,hzs,<-dQ];congr 1;omega
def RT{f:FuncId}{fn:Func}{tS tR:TypeId}(hf:P.funcs[f]? =some fn)(hname:(fn.name== "runtime.NumGoroutine")=false)(hb:fn.body.isNone=true)(hn:Extern.findNext fn=none)
  (he:Extern.find fn=some (Extern.SlicesOverlaps.overlaps #[tS,tS] #[tR]))[hT:co P tS e s by_]{args:Array Operand}{tys:Array TypeId}{fo:Operand}
  {b1 b2 o1 o2 l1 l2 c1 c2:Nat}{cs1 cs2:List Value}{t1 t2:TypeId}{lo1 lo2:Bool}(ho:aw fr fo=some (.func (.func f) #[] #[]))
  (hv:fq fr args.toList=some [.slice (some ⟨b1,o1,none⟩) l1 c1, .slice (some ⟨b2,o2,none⟩) l2 c2])[h1:gG own b1 cs1 t1 lo1][h2:gG own b2 cs2 t2 lo2](hne:b1≠b2)(hc2:cs2≠[]):
  Yd P C fr own G ⟨dst, .call ⟨.value fo,args,tys⟩,ty',pos,af,gd⟩ (.bool false):=by
 intro a w hfr hh;have e1:=(hh.hown _ h1.mem).1;have e2:=(hh.hown _ h2.mem).1;have ev:args.map a.eval=⟨[.slice (some ⟨b1,o1,none⟩) l1 c1, .slice (some ⟨b2,o2,none⟩) l2 c2]⟩:=by apply Array.ext';simpa using yu hfr hv
 simp only[] at e1 e2;have hrun:=Lib.run_overlaps_apart (P:=P) w tS tR e hT.un s hT.siz ⟨b1,o1,none⟩ ⟨b2,o2,none⟩ l1 c1 l2 c2 hne t1 t2 cs1.length cs2.length
  (by simp[World.shape?,e1]) (by simp[World.shape?,e2]) (by simpa using hc2) (by simp[World.frozen?,e1]) (by simp[World.frozen?,e1])
 simp only[execOp,resolve,bi hfr ho,ev,Deferred.ofValue];show(invoke (.fn (.func f) #[]) _).run P w=_;simp only[invoke];have h3:=run_callFunc_extern (P:=P) hf hname hb hn he;rw[h3];simp[hrun,Result.andThen]
end
instance kA.cons2 (l m:List ao) (o:ao) [h:kA l m]:kA (o::l) (o::m):=⟨h.s.cons_cons o⟩
def T4{P:Program}{C:aC}{n:Nat}{fr:Fr}{own own0:List ao}{G:Gh}{ops:Array Oper}{Q:Exit->Act->World->Prop}{b:Nat}{cs:List Value}{ty:TypeId}{lo:Bool}(fin:Nat->Bool)(π:List (Nat×Bool)){id:Nat}(hm:P.follows .mixedOrders=true)(_hr:i9 own ⟨b,cs,ty,lo⟩ own0)(ho:(pu ops fin π (Array.replicate ops.size false)&&Nat.ble π.length ops.size)=true)
  (h:St C n fr own G (hH P ops (gr Q) (HS C own0 G) fin π)):St C n fr own G ((Code.region id ops true).wp P Q):=by
 simp only[aN] at ho;intro a w rl;exact wp_mono (wp_region_any hm (CX _ _ _ _ (yi (fun _ _ _ _ _ h=>h) π _ a _ ho.1 (h a _ (rl.heap rl.h.drew)) _ (by simpa using ho.2)))) gr.imp
def aF(vs:List Value):List Value:=(vs.map aD).flatten
def ew{s:Nat}: ∀(vs:List Value),(∀v∈vs,(aD v).length=s)->(aF vs).length=vs.length*s
 |[],_=>by simp[aF]
 |v::vs,h=>by
  have h1:=ew vs (fun u hu=>h u (aJ _ hu));have h2:=h v aQ;unfold aF at*;simp only[bJ,oT,aY,bU,h1,h2,gK];omega
def oz(us vs:List Value):aF (us++vs)=aF us++aF vs:=by simp[aF]
def ud(v:Value):aF [v]=aD v:=by simp[aF]
def DK{s:Nat}: ∀(vs:List Value) (i:Nat),(∀v∈vs,(aD v).length=s)->i<=vs.length->(aF vs).take (i*s)=aF (vs.take i)
 |vs,0,_,_=>by simp[aF]
 |[],i+1,_,h=>by simp at h
 |v::vs,i+1,h,hi=>by
  have h1:=DK vs i (fun u hu=>h u (aJ _ hu)) (by simpa using hi);have h2:=h v aQ;unfold aF at*;simp only[bJ,oT,nV];rw[List.take_append,h2,aU (by rw[h2,gK];omega),gK,lR,h1]
def Dk{s:Nat}: ∀(vs:List Value) (i:Nat),(∀v∈vs,(aD v).length=s)->i<=vs.length->(aF vs).drop (i*s)=aF (vs.drop i)
 |vs,0,_,_=>by simp
 |[],i+1,_,h=>by simp at h
 |v::vs,i+1,h,hi=>by
  have h1:=Dk vs i (fun u hu=>h u (aJ _ hu)) (by simpa using hi);have h2:=h v aQ;unfold aF at*;simp only[bJ,oT,sX];rw[mU,h2,jY (by rw[h2,gK];omega),gK,lR,h1,cY]
def GS{s:Nat}{vs rest:List Value}(h: ∀v∈vs,(aD v).length=s){i:Nat}(hi:i<vs.length):cw (aF vs++rest) (i*s) s=some (aD vs[i]):=by
 have hl:=ew vs h;have hle:i*s+s<=vs.length*s:=by rw[<-gK];exact bV _ hi
 rw[lg _ _ _ (by simp only[aY];omega)];congr 1;rw[jN (by omega),Dk vs i h (by omega),bX hi];have h2:=h vs[i] (cV hi);rw[show(vs[i]::vs.drop (i+1))=[vs[i]]++vs.drop (i+1) from J,oz,ud,dY,fS (by omega),aU (by omega)]
def ee.of_flat{G:Gh}{b c s:Nat}{vs rest:List Value}(h: ∀v∈vs,(aD v).length=s)(hg:G b=some (aF vs++rest))(hc:vs.length<=c):ee G s ⟨some ⟨b,0,none⟩,vs.length,c⟩ vs:=
 ⟨J,hc, .inr ⟨b,0,_,J,hg,fun i hi=>by rw[dS];exact GS h hi⟩⟩
section
variable {P:Program} {C:aC} {n:Nat} {fr:Fr} {own own':List ao} {G:Gh} {Φ:Act->World->Prop}
variable {dst:Option Nat} {ty':TypeId} {pos:String} {af:Array Edge} {gd:Option (Nat×Bool)} {x y:Operand} {tys:Array TypeId}
def Be{ops:Array Oper}{Q:Exit->Act->World->Prop}(own0:List ao)(fin:Nat->Bool)(π:List (Nat×Bool)){id:Nat}(hm:P.follows .mixedOrders=true)(ho:(pu ops fin π (Array.replicate ops.size false)&&Nat.ble π.length ops.size)=true)
  (h:St C n fr own G (hH P ops (gr Q) (HS C own0 G) fin π)):St C n fr own G ((Code.region id ops true).wp P Q):=by
 simp only[aN] at ho;intro a w rl;exact wp_mono (wp_region_any hm (CX _ _ _ _ (yi (fun _ _ _ _ _ h=>h) π _ a _ ho.1 (h a _ (rl.heap rl.h.drew)) _ (by simpa using ho.2)))) gr.imp
end
end Go.Sx
end
