import Derived.Test.YtochlbkonkgedaaGreatDoorQb1
import Derived.Scope
set_option linter.all false
set_option maxRecDepth 100000
section
namespace Go.Sx
open Go
def SC{P:Program}{t:TypeId}{d:TypeDesc}(h:P.underlying t=some d)(w:World):(underlying t).run P w= .ok d w:=by
 simp[underlying,program,Sem.run_bind,Sem.run,h,run_pure]
class JI (P:Program) (t:TypeId):Prop where u: ∀w,(underlying t).run P w= .ok .bool w
class JH (P:Program) (t:TypeId):Prop where u: ∃e,∀w,(underlying t).run P w= .ok (.pointer e) w
class HT (P:Program) (t:TypeId):Prop where u: ∃ms,∀w,(underlying t).run P w= .ok (.interface ms) w
class I4 (P:Program) (t:TypeId) (f:Nat) (off ft:outParam Nat):Prop where
 u: ∃fs fd,(∀w,(underlying t).run P w= .ok (.struct fs) w)/\fs[f]? =some fd/\fd.offset=off/\fd.type=ft
class kj (P:Program) (t:TypeId):Prop where
 un: ∃e,P.underlying t=some (.slice e)
section
variable {P:Program} {C:aD} {n:Nat} {fr:Fr} {own own':List ak} {G:Gh} {Φ:Act->World->Prop}
variable {dst:Option Nat} {t t' ty':TypeId} {pos:String} {af:Array Edge} {gd:Option (Nat×Bool)} {x y:Operand}
def rx{w:World}{p q:Value}{b:Bool}(h:(Op.equalIn (9999+1) t p q).run P w= .ok b w):(Op.equal t p q).run P w= .ok b w:=h
def Zw[hT:JI P t]{p q:Bool}(hx:aw fr x=some (.bool p))(hy:aw fr y=some (.bool q)):Yd P C fr own G ⟨dst, .binOp .eql t x y t',ty',pos,af,gd⟩ (.bool (p==q)):=by
 intro a w hf hh;simp only[execOp,bm hf hx,bm hf hy];have h1:(Op.equal t (.bool p) (.bool q)).run P w= .ok (p==q) w:=rx (by unfold Op.equalIn;rw[bc (hT.u w)];rfl);have h2:(eqGuard .eql t x y (.bool p) (.bool q)).run P w= .ok () w:=J;have h3:(binOp .eql t (.bool p) (.bool q)).run P w= .ok (.bool (p==q)) w:=by simp only[binOp];rw[bc h1];rfl
 exact c6 (by rw[bc h2];exact h3)
def YC[hT:JI P t]{p q:Bool}(hx:aw fr x=some (.bool p))(hy:aw fr y=some (.bool q)):Yd P C fr own G ⟨dst, .binOp .neq t x y t',ty',pos,af,gd⟩ (.bool (!(p==q))):=by
 intro a w hf hh;simp only[execOp,bm hf hx,bm hf hy];have h1:(Op.equal t (.bool p) (.bool q)).run P w= .ok (p==q) w:=rx (by unfold Op.equalIn;rw[bc (hT.u w)];rfl);have h2:(eqGuard .neq t x y (.bool p) (.bool q)).run P w= .ok () w:=J;have h3:(binOp .neq t (.bool p) (.bool q)).run P w= .ok (.bool (!(p==q))) w:=by simp only[binOp];rw[bc h1];rfl
 exact c6 (by rw[bc h2];exact h3)
def GK[hT:JH P t]{p:Option Addr}(hx:aw fr x=some (.pointer p))(hy:aw fr y=some (.pointer none)):Yd P C fr own G ⟨dst, .binOp .eql t x y t',ty',pos,af,gd⟩ (.bool p.isNone):=by
 obtain⟨e,he⟩:=hT.u;intro a w hf hh;simp only[execOp,bm hf hx,bm hf hy];have h1:(Op.equal t (.pointer p) (.pointer none)).run P w= .ok p.isNone w:=rx (by unfold Op.equalIn;rw[bc (he w)];cases p<;>rfl);have h2:(eqGuard .eql t x y (.pointer p) (.pointer none)).run P w= .ok () w:=by cases p<;>rfl
 have h3:(binOp .eql t (.pointer p) (.pointer none)).run P w= .ok (.bool p.isNone) w:=by cases p<;>(simp only[binOp];rw[bc h1];rfl)
 exact c6 (by rw[bc h2];exact h3)
def E7[hT:JH P t]{p:Option Addr}(hx:aw fr x=some (.pointer p))(hy:aw fr y=some (.pointer none)):Yd P C fr own G ⟨dst, .binOp .neq t x y t',ty',pos,af,gd⟩ (.bool (!p.isNone)):=by
 obtain⟨e,he⟩:=hT.u;intro a w hf hh;simp only[execOp,bm hf hx,bm hf hy];have h1:(Op.equal t (.pointer p) (.pointer none)).run P w= .ok p.isNone w:=rx (by unfold Op.equalIn;rw[bc (he w)];cases p<;>rfl);have h2:(eqGuard .neq t x y (.pointer p) (.pointer none)).run P w= .ok () w:=by cases p<;>rfl
 have h3:(binOp .neq t (.pointer p) (.pointer none)).run P w= .ok (.bool (!p.isNone)) w:=by cases p<;>(simp only[binOp];rw[bc h1];rfl)
 exact c6 (by rw[bc h2];exact h3)
def RO{v:Value}[hT:HT P t](hv:v= .nilIface\/ ∃k u,v= .iface k u)(hx:aw fr x=some v):
  Yd P C fr own G ⟨dst, .binOp .eql t x (.const .nilIface) t',ty',pos,af,gd⟩ (.bool (match v with| .nilIface=>true|_=>false)):=by
 obtain⟨e,he⟩:=hT.u;intro a w hf hh;simp only[execOp,bm hf hx,show a.eval (.const .nilIface)= .nilIface from J];rcases hv with rfl|⟨k,u,rfl⟩
 ·have h1:(Op.equal t .nilIface .nilIface).run P w= .ok true w:=rx (by unfold Op.equalIn;rw[bc (he w)];rfl)
  have h2:(eqGuard .eql t x (.const .nilIface) .nilIface .nilIface).run P w= .ok () w:=by cases x<;>rfl
  exact c6 (by rw[bc h2];simp only[binOp];rw[bc h1];rfl)
 ·have h1:(Op.equal t (.iface k u) .nilIface).run P w= .ok false w:=rx (by unfold Op.equalIn;rw[bc (he w)];rfl)
  exact c6 (by rw[bc (a:=()) (w':=w) J];simp only[binOp];rw[bc h1];rfl)
def MV{v:Value}[hT:HT P t](hv:v= .nilIface\/ ∃k u,v= .iface k u)(hx:aw fr x=some v):
  Yd P C fr own G ⟨dst, .binOp .neq t x (.const .nilIface) t',ty',pos,af,gd⟩ (.bool (match v with| .nilIface=>false|_=>true)):=by
 obtain⟨e,he⟩:=hT.u;intro a w hf hh;simp only[execOp,bm hf hx,show a.eval (.const .nilIface)= .nilIface from J];rcases hv with rfl|⟨k,u,rfl⟩
 ·have h1:(Op.equal t .nilIface .nilIface).run P w= .ok true w:=rx (by unfold Op.equalIn;rw[bc (he w)];rfl)
  have h2:(eqGuard .neq t x (.const .nilIface) .nilIface .nilIface).run P w= .ok () w:=by cases x<;>rfl
  exact c6 (by rw[bc h2];simp only[binOp];rw[bc h1];rfl)
 ·have h1:(Op.equal t (.iface k u) .nilIface).run P w= .ok false w:=rx (by unfold Op.equalIn;rw[bc (he w)];rfl)
  exact c6 (by rw[bc (a:=()) (w':=w) J];simp only[binOp];rw[bc h1];rfl)
def Xe{cs l:List Value}{f off ft k:Nat}[hF:I4 P t f off ft][hA:lA P ft k](hx:aw fr x=some (.agg ⟨cs⟩))(hl:cH cs off k=some l):Yd P C fr own G ⟨dst, .field t x f,ty',pos,af,gd⟩ (.agg ⟨l⟩):=by
 obtain⟨fs,fd,h1,h2,h3,h4⟩:=hF.u;intro a w hf hh;simp only[execOp,bm hf hx];have:(Instr.field t (.agg ⟨cs⟩) f).run P w= .ok (.agg ⟨l⟩) w:=by
  unfold Instr.field;rw[bc (h1 w)];simp only[h2,h3,h4,asAgg];rw[bc (run_pure _ _ _)];unfold part;rw[bc (hA.agg w)];simp only[if_true];rw[bc (hA.siz w)];obtain⟨k1,k2⟩:=qq _ _ _ _ hl;have:(⟨cs⟩:Array Value).extract off (off+k)=⟨l⟩:=by
   apply Array.ext';rw[Array.toList_extract];apply lQ;intro i;rw[List.extract_eq_take_drop,rK];split
   ·rw[mQ];exact k2 i (by omega)
   ·exact(eK (show l.length<=i by omega)).symm
  rw[this];rfl
 exact c6 this
def ZO{cs:List Value}{f off ft:Nat}{v:Value}[hF:I4 P t f off ft][hA:gG P ft](hx:aw fr x=some (.agg ⟨cs⟩))(hl:cs[off]? =some v):Yd P C fr own G ⟨dst, .field t x f,ty',pos,af,gd⟩ v:=by
 obtain⟨fs,fd,h1,h2,h3,h4⟩:=hF.u;intro a w hf hh;simp only[execOp,bm hf hx];have:(Instr.field t (.agg ⟨cs⟩) f).run P w= .ok v w:=by
  unfold Instr.field;rw[bc (h1 w)];simp only[h2,h3,h4,asAgg];rw[bc (run_pure _ _ _)];unfold part;rw[bc (hA.agg w)];have:(⟨cs⟩:Array Value)[off]? =some v:=by simpa using hl
  simp only[dJ,if_false,this];rfl
 exact c6 this
class EE (P:Program) (t:TypeId) (offs:outParam (List (Nat×Nat))):Prop where
 u: ∃fs:Array Field,(∀w,(underlying t).run P w= .ok (.struct fs) w)/\(∀w,(fs.mapM (m:=Sem) fun f=>do pure (f.offset,<-sizeOf f.type)).run P w= .ok ⟨offs⟩ w)
def uN(fr:Fr)(offs:List (Nat×Nat)):List Value->List (Nat×Operand)->Option (List Value)
 |cs,[]=>some cs
 |cs,(i,x)::r=>match offs[i]?,aw fr x with
  |some (off,k),some v=>if(aF v).length=k/\off+k<=cs.length then uN fr offs (cE cs off (aF v)) r else none
  |_,_=>none
def Gg: ∀(vs:List Value) (cs:Array Value) (off j:Nat),(vs.zipIdx j).foldl (fun cs (c,j)=>cs.setIfInBounds (off+j) c) cs=⟨cE cs.toList (off+j) vs⟩
 |[],cs,off,j=>rfl
 |v::vs,cs,off,j=>by
  simp only[List.zipIdx_cons,dT];rw[Gg vs _ off (j+1)];simp[cE,kN]
def Le{a:Act}(hf:l7 fr a)(offs:List (Nat×Nat)): ∀(ps:List (Nat×Operand)) (cs out:List Value),uN fr offs cs ps=some out->
  Instr.fill ((⟨offs⟩:Array (Nat×Nat))[·]?) ⟨cs⟩ (ps.map fun(i,x)=>(i,a.eval x))=some ⟨out⟩
 |[],cs,out,h=>by simp only[uN] at h;cases h;rfl
 |(i,x)::ps,cs,out,h=>by
  simp only[uN] at h;split at h
  ·rename_i off k v ho hv
   split at h
   ·rename_i hc
    simp only[bL,Instr.fill];have:(⟨offs⟩:Array (Nat×Nat))[i]? =some (off,k):=by simpa using ho
    simp only[this,bm hf hv,oI];have h1: ¬((⟨aF v⟩:Array Value).size≠k):=by simp[hc.1]
    have h2: ¬(off+(⟨aF v⟩:Array Value).size>(⟨cs⟩:Array Value).size):=by simp only[nN,hc.1];omega
    rw[if_neg (by simp only[iL,decide_eq_true_eq,not_or];exact⟨by simpa using h1,by simpa using h2⟩)];have e:=Gg (aF v) ⟨cs⟩ off 0;have e':(⟨aF v⟩:Array Value).zipIdx.foldl (fun cs (c,j)=>cs.setIfInBounds (off+j) c) (⟨cs⟩:Array Value)=⟨cE cs off (aF v)⟩:=by
     rw[<-rW,tX];simpa using e
    rw[e'];exact Le hf offs ps _ _ h
   ·cases h
  ·cases h
def F7{parts:Array (Nat×Operand)}{offs:List (Nat×Nat)}{z:Value}{out:List Value}[hT:EE P t offs][hz:gh P t z](hb:uN fr offs (aF z) parts.toList=some out):Yd P C fr own G ⟨dst, .build t parts,ty',pos,af,gd⟩ (.agg ⟨out⟩):=by
 obtain⟨fs,h1,h2⟩:=hT.u;intro a w hf hh;simp only[execOp];have:(Instr.build t (parts.map fun(i,x)=>(i,a.eval x))).run P w= .ok (.agg ⟨out⟩) w:=by
  unfold Instr.build;rw[bc (hz.zero w),oI];rw[bc (h1 w)];simp only[];rw[bc (h2 w)];have:=Le hf offs parts.toList _ _ hb;simp only[oT,this];rfl
 exact c6 this
end
def cP(z:Value)(k:Nat):List Value:=(List.replicate k (aF z)).flatten
def In{α:Type}(l:List α): ∀(k i:Nat),i<k*l.length->(List.replicate k l).flatten[i]? =l[i%l.length]?
 |0,i,h=>by omega
 |k+1,i,h=>by
  rw[jQ,lZ];by_cases hi:i<l.length
  ·rw[dK hi,fU hi]
  ·rw[gX (by omega),In l k (i-l.length) (by rw[dQ] at h;omega)]
   rw[Nat.mod_eq_sub_mod (Nat.ge_of_not_lt hi)]
def nG(z:Value)(k:Nat):(cP z k).length=k*(aF z).length:=by simp[cP]
def Ds{z:Value}{k m:Nat}(h:m=k*(aF z).length):((Array.range m).map fun i=>(⟨aF z⟩:Array Value)[i%(⟨aF z⟩:Array Value).size]!)=⟨cP z k⟩:=by
 subst h;apply Array.ext';apply lQ;intro i;simp only[oT,Array.toList_range,fS,nN];by_cases hi:i<k*(aF z).length
 ·rw[qV hi]
  simp only[jM];have h1:=In (aF z) k i hi;have hpos:0<(aF z).length:=by
   rcases fR (aF z).length with h|h
   ·rw[h,pN] at hi;omega
   ·exact h
  have hm:=dW i hpos;show _=(cP z k)[i]?;unfold cP;rw[h1];simp[hm]
 ·rw[eK (by simpa using hi)]
  rw[eK (by show(cP z k).length<=i;rw[nG];omega)];rfl
section
variable {P:Program} {C:aD} {n:Nat} {fr:Fr} {own own':List ak} {G:Gh} {Φ:Act->World->Prop}
variable {dst:Option Nat} {t t' ty':TypeId} {pos:String} {af:Array Edge} {gd:Option (Nat×Bool)} {x y:Operand} {e s by_:Nat}
def TS[hT:cv P t e s by_](w:World): ∃i:TypeInfo,(typeInfo e).run P w= .ok i w/\i.bytes=by_:=by
 obtain⟨i,h1,_,h2⟩:=hT.info;exact⟨i,by simp[typeInfo,program,Sem.run_bind,Sem.run,h1,run_pure],h2⟩
def ud[hT:cv P t e s by_]{z:Value}[hz:gh P e z]{k k':IntKind}{l:Int}(hx:aw fr x=some (.int k l))(hy:aw fr y=some (.int k' l))(h0:0<=l)(hb:by_*l<=2^47)(hl:l<=2^60)(hs:(aF z).length=s)(hd:cd n dst=true)
  (h: ∀b,St C n (put fr dst (.slice (some ⟨b,0,none⟩) l.toNat l.toNat)) (⟨b,cP z l.toNat,e,true⟩::own) G Φ):
  Ch P C n fr own G ⟨dst, .makeSlice t x y,ty',pos,af,gd⟩ Φ:=by
 intro a w Q rl;have h1:(Instr.makeSlice t (a.eval x) (a.eval y)).run P w= .ok (.slice (some ⟨w.heap.size,0,none⟩) l.toNat l.toNat) (w.alloc (.cells ⟨cP z l.toNat⟩ e)):=by
  obtain⟨i,hi,hib⟩:=TS (P:=P) (t:=t) (e:=e) (s:=s) (by_:=by_) w;rw[bm rl.fr hx,bm rl.fr hy];unfold Instr.makeSlice;rw[bc (hT.u w)];simp only[asInt,asIntOf];rw[bc (a:=l) (w':=w) J,bc (a:=l) (w':=w) J,bc hi,hib];have hw:IntKind.i64.wrap l=l:=ul (by simp[IntKind.min,IntKind.max,IntKind.signed,IntKind.bits];omega);simp only[hw];have c1: ¬((by_:Int)*l>2^48):=by
   have:(2:Int)^47<=2^48:=by decide
   omega
  have c2:(decide (l<0)||decide ((by_:Int)*l>2^48))=false:=by simp[c1];omega
  simp only[c2,Int.lt_irrefl,decide_false,sT,sU];have c3:decide (l<0)=false:=by simp;omega
  simp only[c3,dJ,if_false,gt_iff_lt,Int.lt_irrefl,decide_false,sT];have hr: ¬(l.toNat*by_>roomBytes):=by
   unfold roomBytes;have:((l.toNat*by_:Nat):Int)=by_*l:=by rw[jX,qW h0,tV]
   have h47:((2^47:Nat):Int)=2^47:=by decide
   omega
  unfold askRoom;simp only[hr,if_false];rw[bc (run_pure _ _ _),bc (hT.siz w)];have hn:l.toNat*s=l.toNat*(aF z).length:=by rw[hs]
  by_cases h00:l.toNat*s=0
  ·rw[if_pos h00,bc (run_pure _ _ _)]
   have e0:cP z l.toNat=[]:=bU (by rw[nG,hs];exact h00);rw[h00,e0,show(Array.range 0)= #[] from J,Array.map_empty];rfl
  ·rw[if_neg h00,bc (hz.zero w),oI]
   rw[bc (run_pure _ _ _),Ds hn];rfl
 refine(fun hk=>?_:Φ (a.put dst (.slice (some ⟨w.heap.size,0,none⟩) l.toNat l.toNat)) (w.alloc (.cells ⟨cP z l.toNat⟩ e))->_) (h w.heap.size _ _ ((rl.heap (rl.h.alloc _ _)).put _ hd));exact ke (v:= .slice (some ⟨w.heap.size,0,none⟩) l.toNat l.toNat) (c6 h1) hk
def Pc: ∀(vs cs pre:List Value),vs.length=cs.length->cE (pre++cs) pre.length vs=pre++vs
 |[],cs,pre,h=>by have:cs=[]:=bU h.symm;subst this;rfl
 |v::vs,[],pre,h=>by simp at h
 |v::vs,c::cs,pre,h=>by
  simp only[cE,nY _ _ (bQ _),rS,List.set_cons_zero];have:=Pc vs cs (pre++[v]) (by simpa using h);simpa using this
def Vx[hT:cv P t e s by_]{z v:Value}[hz:gh P e z](hx:aw fr x=some v)(hs:(aF z).length=s)(hv:(aF v).length=s)(hsm:s<=1000)(hs0:0<s)(hd:cd n dst=true)
  (h: ∀b,St C n (put fr dst (.slice (some ⟨b,0,none⟩) 1 1)) (⟨b,aF v,e,true⟩::own) G Φ):
  Ch P C n fr own G ⟨dst, .buildSlice t 1 #[(0,x)],ty',pos,af,gd⟩ Φ:=by
 intro a w Q rl;have h1:(Instr.buildSlice t 1 #[(0,v)]).run P w= .ok (.slice (some ⟨w.heap.size,0,none⟩) 1 1) (w.alloc (.cells ⟨aF v⟩ e)):=by
  unfold Instr.buildSlice;rw[bc (hT.u w)];simp only[];rw[bc (hT.siz w)];have c1: ¬(1*s>2^24):=by omega
  have c2: ¬(1*s=0):=by omega
  simp only[c1,if_false];rw[if_neg c2,bc (hz.zero w),oI,bc (run_pure _ _ _)];rw[Ds (k:=1) (by rw[hs])];have hzl:(cP z 1).length=s:=by rw[nG,hs,mN]
  have hf:Instr.fill (fun i=>some (i*s,s)) ⟨cP z 1⟩ [(0,v)]=some ⟨aF v⟩:=by
   simp only[Instr.fill,oI];rw[if_neg (by simp[hv,hzl])];have e1:=Gg (aF v) ⟨cP z 1⟩ (0*s) 0;have e2:(⟨aF v⟩:Array Value).zipIdx.foldl (fun cs (c,j)=>cs.setIfInBounds (0*s+j) c) (⟨cP z 1⟩:Array Value)=⟨aF v⟩:=by
    rw[<-rW,tX];have e3:=Pc (aF v) (cP z 1) [] (by rw[hv,hzl]);simp only[cY,gM] at e3;rw[kY,fQ] at e1;rw[e3] at e1;simpa using e1
   rw[e2]
  simp only[hf];rfl
 refine ke (v:= .slice (some ⟨w.heap.size,0,none⟩) 1 1) (w':=w.alloc (.cells ⟨aF v⟩ e)) ?_ (h w.heap.size _ _ ((rl.heap (rl.h.alloc _ _)).put _ hd));simp only[execOp,gL,bL,fK,bm rl.fr hx];exact c6 h1
end
section
variable {P:Program} {C:aD} {n:Nat} {fr:Fr} {own own':List ak} {G:Gh} {Φ:Act->World->Prop}
variable {dst:Option Nat} {t t' ty':TypeId} {pos:String} {af:Array Edge} {gd:Option (Nat×Bool)} {x y:Operand} {e s by_:Nat}
def vR(fr:Fr)(s:Nat):List Value->List (Nat×Operand)->Option (List Value)
 |cs,[]=>some cs
 |cs,(i,x)::r=>match aw fr x with
  |some v=>if(aF v).length=s/\i*s+s<=cs.length then vR fr s (cE cs (i*s) (aF v)) r else none
  |none=>none
def Mg{a:Act}(hf:l7 fr a)(s:Nat): ∀(ps:List (Nat×Operand)) (cs out:List Value),vR fr s cs ps=some out->
  Instr.fill (fun i=>some (i*s,s)) ⟨cs⟩ (ps.map fun(i,x)=>(i,a.eval x))=some ⟨out⟩
 |[],cs,out,h=>by simp only[vR] at h;cases h;rfl
 |(i,x)::ps,cs,out,h=>by
  simp only[vR] at h;split at h
  ·rename_i v hv
   split at h
   ·rename_i hc
    simp only[bL,Instr.fill,bm hf hv,oI];have h1: ¬((⟨aF v⟩:Array Value).size≠s):=by simp[hc.1]
    have h2: ¬(i*s+(⟨aF v⟩:Array Value).size>(⟨cs⟩:Array Value).size):=by simp only[nN,hc.1];omega
    rw[if_neg (by simp only[iL,decide_eq_true_eq,not_or];exact⟨by simpa using h1,by simpa using h2⟩)];have e:=Gg (aF v) ⟨cs⟩ (i*s) 0;have e':(⟨aF v⟩:Array Value).zipIdx.foldl (fun cs (c,j)=>cs.setIfInBounds (i*s+j) c) (⟨cs⟩:Array Value)=⟨cE cs (i*s) (aF v)⟩:=by
     rw[<-rW,tX];simpa using e
    rw[e'];exact Mg hf s ps _ _ h
   ·cases h
  ·cases h
def Io[hT:cv P t e s by_]{z:Value}[hz:gh P e z]{len:Nat}{parts:Array (Nat×Operand)}{out:List Value}(hs:(aF z).length=s)(hb:vR fr s (cP z len) parts.toList=some out)(hsm:Nat.ble (len*s) 1000=true)(hs0:Nat.blt 0 (len*s)=true)(hd:cd n dst=true)
  (h: ∀b,St C n (put fr dst (.slice (some ⟨b,0,none⟩) len len)) (⟨b,out,e,true⟩::own) G Φ):
  Ch P C n fr own G ⟨dst, .buildSlice t len parts,ty',pos,af,gd⟩ Φ:=by
 intro a w Q rl;have hsm':len*s<=1000:=by simpa using hsm
 have hs0':0<len*s:=by simpa[mT] using hs0
 have h1:(Instr.buildSlice t len (parts.map fun(i,x)=>(i,a.eval x))).run P w= .ok (.slice (some ⟨w.heap.size,0,none⟩) len len) (w.alloc (.cells ⟨out⟩ e)):=by
  unfold Instr.buildSlice;rw[bc (hT.u w)];simp only[];rw[bc (hT.siz w)];have c1: ¬(len*s>2^24):=by omega
  have c2: ¬(len*s=0):=by omega
  simp only[c1,if_false];rw[if_neg c2,bc (hz.zero w),oI,bc (run_pure _ _ _)];rw[Ds (k:=len) (by rw[hs])];have hf:=Mg rl.fr s parts.toList _ _ hb;simp only[oT,hf];rfl
 refine ke (v:= .slice (some ⟨w.heap.size,0,none⟩) len len) (w':=w.alloc (.cells ⟨out⟩ e)) ?_ (h w.heap.size _ _ ((rl.heap (rl.h.alloc _ _)).put _ hd));simp only[execOp];exact c6 h1
def L3[hT:cv P t e s by_](hd:cd n dst=true)(h: ∀b,St C n (put fr dst (.slice (some ⟨b,0,none⟩) 0 0)) (⟨b,[],e,true⟩::own) G Φ):
  Ch P C n fr own G ⟨dst, .buildSlice t 0 #[],ty',pos,af,gd⟩ Φ:=by
 intro a w Q rl;have h1:(Instr.buildSlice t 0 #[]).run P w= .ok (.slice (some ⟨w.heap.size,0,none⟩) 0 0) (w.alloc (.cells ⟨[]⟩ e)):=by
  unfold Instr.buildSlice;rw[bc (hT.u w)];simp only[];rw[bc (hT.siz w)];simp only[kY,gt_iff_lt,Nat.not_lt_zero,if_false,if_true];rw[bc (run_pure _ _ _),show(Array.range 0)= #[] from J,Array.map_empty];rfl
 refine ke (v:= .slice (some ⟨w.heap.size,0,none⟩) 0 0) (w':=w.alloc (.cells ⟨[]⟩ e)) ?_ (h w.heap.size _ _ ((rl.heap (rl.h.alloc _ _)).put _ hd));simp only[execOp,gL,fK];exact c6 h1
def SM[hT:cv P t e s by_]{ad:Option Addr}{len cap l2 c2:Nat}(hx:aw fr x=some (.slice ad len cap))(hy:aw fr y=some (.slice none l2 c2)):Yd P C fr own G ⟨dst, .binOp .eql t x y t',ty',pos,af,gd⟩ (.bool ad.isNone):=by
 intro a w hf hh;simp only[execOp,bm hf hx,bm hf hy];have h1:(Op.equal t (.slice ad len cap) (.slice none l2 c2)).run P w= .ok ad.isNone w:=rx (by unfold Op.equalIn;rw[bc (hT.u w)];cases ad<;>rfl);have h2:(eqGuard .eql t x y (.slice ad len cap) (.slice none l2 c2)).run P w= .ok () w:=J;have h3:(binOp .eql t (.slice ad len cap) (.slice none l2 c2)).run P w= .ok (.bool ad.isNone) w:=by simp only[binOp];rw[bc h1];rfl
 exact c6 (by rw[bc h2];exact h3)
def Us[hT:cv P t e s by_]{ad:Option Addr}{len cap l2 c2:Nat}(hx:aw fr x=some (.slice ad len cap))(hy:aw fr y=some (.slice none l2 c2)):Yd P C fr own G ⟨dst, .binOp .neq t x y t',ty',pos,af,gd⟩ (.bool (!ad.isNone)):=by
 intro a w hf hh;simp only[execOp,bm hf hx,bm hf hy];have h1:(Op.equal t (.slice ad len cap) (.slice none l2 c2)).run P w= .ok ad.isNone w:=rx (by unfold Op.equalIn;rw[bc (hT.u w)];cases ad<;>rfl);have h2:(eqGuard .neq t x y (.slice ad len cap) (.slice none l2 c2)).run P w= .ok () w:=J;have h3:(binOp .neq t (.slice ad len cap) (.slice none l2 c2)).run P w= .ok (.bool (!ad.isNone)) w:=by simp only[binOp];rw[bc h1];rfl
 exact c6 (by rw[bc h2];exact h3)
end
def ma: ∀(cs:List Value) (off k:Nat),off+k<=cs.length->cH cs off k=some ((cs.drop off).take k)
 |cs,0,0,_=>by cases cs<;>rfl
 |[],0,k+1,h=>by simp at h
 |v::t,0,k+1,h=>by
  simp only[cH,ma t 0 k (by simp at h;omega)];simp
 |[],_+1,k,h=>by simp at h
 |_::t,off+1,k,h=>by
  simp only[cH,ma t off k (by simp at h;omega)];simp
section
variable {P:Program} {C:aD} {n:Nat} {fr:Fr} {own own' own1:List ak} {G:Gh} {Φ:Act->World->Prop}
variable {dst:Option Nat} {t t' ty':TypeId} {pos:String} {af:Array Edge} {gd:Option (Nat×Bool)} {x y:Operand} {e s by_:Nat}
def mO(P:Program)(C:aD)(own:List ak)(G:Gh)(s m:Nat)(v:Value)(ys:List Value):Prop:=
 ∀w,bu C own G w->(Builtin.firstCells s m v).run P w= .ok ⟨ys⟩ w
def GI{w:World}{b off k:Nat}{cs l:List Value}{ty:TypeId}{fz:Nat×Nat}(h:w.heap[b]? =some (.cells ⟨cs⟩ ty fz))(hl:cH cs off k=some l):(loadCells ⟨b,off,none⟩ k).run P w= .ok ⟨l⟩ w:=by
 obtain⟨h1,h2⟩:=qq _ _ _ _ hl;unfold loadCells;rw[Km (l:=l) k 0 #[] (fun j hj=>by rw[CN h];simpa using h2 j hj) (by omega)];simp[<-h1]
def y7{b off m len cap:Nat}{cs ys:List Value}{ty:TypeId}{lo:Bool}(ho:im own b cs ty lo)(hl:cH cs off (m*s)=some ys):mO P C own G s m (.slice (some ⟨b,off,none⟩) len cap) ys:=
 fun w h=>GI (h.hown _ ho.mem).1 hl
def Tf{b off m len cap:Nat}{cs ys:List Value}(hg:G b=some cs)(hl:cH cs off (m*s)=some ys):mO P C own G s m (.slice (some ⟨b,off,none⟩) len cap) ys:=
 fun w h=>by obtain⟨ty,fz,hb⟩:=h.sub _ _ hg;exact GI hb hl
def vU{ad:Option Addr}{len cap:Nat}:mO P C own G s 0 (.slice ad len cap) []:=fun w _=>by
 cases ad with
 |none=>rfl
 |some a=>unfold Builtin.firstCells loadCells;simp[loadCellsFrom,run_pure]
def OH(z:Value)(k:Nat):Builtin.zeroCells ⟨aF z⟩ k=⟨cP z k⟩:=by
 unfold Builtin.zeroCells;exact Ds J
def Lo{w w':World}[hT:cv P t e s by_][hN:kj P t']{z:Value}[hz:gh P e z]{ad:Option Addr}{len cap m cap2:Nat}{ad2:Option Addr}{xs ys:List Value}
  (hsx:(Builtin.firstCells s len (.slice ad len cap)).run P w.drew= .ok ⟨xs⟩ w.drew)(hsy:(Builtin.firstCells s m (.slice ad2 m cap2)).run P w.drew= .ok ⟨ys⟩ w.drew)
  (hneed:cap<len+m)(hby:0<by_)(hb:(len+m)*by_<=140737488355328):
  (Builtin.append_ #[t,t'] ty' #[.slice ad len cap, .slice ad2 m cap2]).run P w=
   .ok (.slice (some ⟨w.heap.size,0,none⟩) (len+m) (grownCap w (len+m) cap e)) (w.drew.alloc (.cells ⟨xs++ys++cP z (grownCap w (len+m) cap e-(len+m))⟩ e)):=by
 obtain⟨d,hd1⟩:=hN.un;obtain⟨i,hi,his,hib⟩:=hT.info;obtain⟨i',hi',hiz⟩:=hz.info;rw[hi] at hi';cases hi';have hfit:=growslice_fits (old:=cap) (need:=len+m) (bytes:=by_) hneed hb;have hlen:len+m<=140737488355328:=eY (Nat.le_mul_of_pos_right _ hby) hb;have hn: ¬(len+m<=cap):=by omega
 have h63': ¬(9223372036854775807<((len:Int)+(m:Int))):=by omega
 have h48': ¬(281474976710656<Builtin.nextslicecap (len+m) cap*i.bytes):=by rw[hib];omega
 subst his;simp[Builtin.append_,run_underlying hT.un,run_underlying hd1,sizeOf,typeInfo,zeroValue,hi,hiz,Builtin.lenOf,hn,h63',h48',Question.forced,hsx,hsy,newRow,grownCap];congr 2;apply Array.ext';rw[oI,OH];simp[dX]
def BS[hT:cv P t e s by_][hN:kj P t']{z:Value}[hz:gh P e z]{ad:Option Addr}{len cap m cap2:Nat}{ad2:Option Addr}{xs ys:List Value}
  (hx:aw fr x=some (.slice ad len cap))(hy:aw fr y=some (.slice ad2 m cap2))(hsx:mO P C own G s len (.slice ad len cap) xs)(hsy:mO P C own G s m (.slice ad2 m cap2) ys)
  (hneed:cap<len+m)(hby:0<by_)(hb:(len+m)*by_<=140737488355328)(hd:cd n dst=true)
  (h: ∀b cap',len+m<=cap'->St C n (put fr dst (.slice (some ⟨b,0,none⟩) (len+m) cap')) (⟨b,xs++ys++cP z (cap'-(len+m)),e,true⟩::own) G Φ):
  Ch P C n fr own G ⟨dst, .call ⟨.builtin .append, #[x,y], #[t,t']⟩,ty',pos,af,gd⟩ Φ:=by
 intro a w Q rl;have hcap:len+m<=grownCap w (len+m) cap e:=by unfold grownCap;simp only[Question.cut];omega
 have hrun:=Lo (P:=P) (t:=t) (t':=t') (ty':=ty') (w:=w) (w':=w) (hsx _ rl.h.drew) (hsy _ rl.h.drew) hneed hby hb;refine ke (v:= .slice (some ⟨w.heap.size,0,none⟩) (len+m) (grownCap w (len+m) cap e)) (w':=w.drew.alloc (.cells ⟨xs++ys++cP z (grownCap w (len+m) cap e-(len+m))⟩ e)) ?_ ?_
 ·simp only[execOp,resolve,gL,bL,fK,bm rl.fr hx,bm rl.fr hy]
  exact c6 hrun
 ·exact h w.heap.size _ hcap _ _ ((rl.heap ((rl.h.drew).alloc _ _)).put _ hd)
def jy.perm{o:ak}(h:jy own o own1):own.Perm (o::own1):=by
 induction h with
 |hd o t=>exact List.Perm.refl _
 |tl x t t' o h ih=>exact(List.Perm.cons x ih).trans (List.Perm.swap _ _ _)
def JZ{w:World}[hT:cv P t e s by_][hN:kj P t']{b len cap m cap2:Nat}{ad2:Option Addr}{cs ys:List Value}
  (hb:w.heap[b]? =some (.cells ⟨cs⟩ e (0,0)))(hcs:cs.length=cap*s)(hsy:(Builtin.firstCells s m (.slice ad2 m cap2)).run P w= .ok ⟨ys⟩ w)(hys:ys.length=m*s)(hf: ∀v∈ys,flat v=true)
  (hneed:len+m<=cap):
  (Builtin.append_ #[t,t'] ty' #[.slice (some ⟨b,0,none⟩) len cap, .slice ad2 m cap2]).run P w=
   .ok (.slice (some ⟨b,0,none⟩) (len+m) cap) (gk w b (.cells ⟨cE cs (len*s) ys⟩ e (0,0))):=by
 obtain⟨d,hd1⟩:=hN.un;obtain⟨i,hi,his,hib⟩:=hT.info;subst his;have hl:len*i.size+ys.length<=cs.length:=by rw[hys,hcs,<-dQ];exact bR _ hneed
 have hst:=As (P:=P) ys w (len*i.size) 0 cs hf hb (by omega);rw[fJ] at hst;simp[Builtin.append_,run_underlying hT.un,run_underlying hd1,sizeOf,typeInfo,hi,Builtin.lenOf,hneed,hsy,pB,hst]
def Dq: ∀(vs cs:List Value) (off:Nat),(cE cs off vs).length=cs.length
 |[],cs,off=>rfl
 |v::vs,cs,off=>by simp[cE,Dq vs]
def pD: ∀(vs cs:List Value) (off:Nat),off+vs.length<=cs.length->cE cs off vs=cs.take off++vs++cs.drop (off+vs.length)
 |[],cs,off,h=>by simp[cE]
 |v::vs,cs,off,h=>by
  simp only[bV] at h;rw[cE,pD vs _ _ (by simp;omega)];rw[List.take_set,qY (by omega)];have h1:(cs.take (off+1)).set off v=cs.take off++[v]:=by
   rw[iV (by omega),nY _ _ (by simp;omega)];simp[gT (by omega:off<=cs.length)]
  rw[h1];simp only[bV,dX,cR,cY];congr 4;omega
def Ug[hT:cv P t e s by_][hN:kj P t']{z:Value}[hz:gh P e z]{b len cap m cap2:Nat}{ad2:Option Addr}{xs ys rest:List Value}
  (hx:aw fr x=some (.slice (some ⟨b,0,none⟩) len cap))(hy:aw fr y=some (.slice ad2 m cap2))(hr:jy own ⟨b,xs++rest,e,true⟩ own1)(hxs:xs.length=len*s)(hcap:xs.length+rest.length=cap*s)(hlc:len<=cap)
  (hsy:mO P C own G s m (.slice ad2 m cap2) ys)(hys:ys.length=m*s)(hf: ∀v∈ys,flat v=true)
  (hby:0<by_)(hb:(len+m)*by_<=140737488355328)(hzs:(aF z).length=s)(hd:cd n dst=true)
  (h: ∀b cap' rest',len+m<=cap'->rest'.length+(len+m)*s=cap'*s->St C n (put fr dst (.slice (some ⟨b,0,none⟩) (len+m) cap')) (⟨b,xs++ys++rest',e,true⟩::own1) G Φ):
  Ch P C n fr own G ⟨dst, .call ⟨.builtin .append, #[x,y], #[t,t']⟩,ty',pos,af,gd⟩ Φ:=by
 intro a w Q rl;have hp:=rl.h.perm hr.perm;have hblk:=(hp.hown _ aQ).1;simp only[] at hblk;by_cases hneed:len+m<=cap
 ·have hcs:(xs++rest).length=cap*s:=by simp;omega
  have hrun:=JZ (P:=P) (t:=t) (t':=t') (ty':=ty') (w:=w) (len:=len) hblk hcs (hsy w rl.h) hys hf hneed;have hle:len*s+m*s<=cap*s:=by rw[<-dQ];exact bR _ hneed
  have hov:cE (xs++rest) (len*s) ys=xs++ys++rest.drop (m*s):=by
   rw[pD _ _ _ (by rw[hys];omega),<-hxs];simp[hys,nZ]
  refine ke (v:= .slice (some ⟨b,0,none⟩) (len+m) cap) (w':=gk w b (.cells ⟨cE (xs++rest) (len*s) ys⟩ e (0,0))) ?_ ?_
  ·simp only[execOp,resolve,gL,bL,fK,bm rl.fr hx,bm rl.fr hy]
   exact c6 hrun
  ·rw[hov]
   refine h b cap (rest.drop (m*s)) hneed ?_ _ _ ((rl.heap (hp.store (.hd ..))).put _ hd);rw[iW,dQ];omega
 ·have hx':mO P C own G s len (.slice (some ⟨b,0,none⟩) len cap) xs:=fun w' hw'=>by
   have hb':=(((hw'.perm hr.perm).hown _ aQ).1);refine GI hb' ?_;rw[ma _ _ _ (by simp;omega),<-hxs];simp
  have hcap':len+m<=grownCap w (len+m) cap e:=by unfold grownCap;simp only[Question.cut];omega
  have hrun:=Lo (P:=P) (t:=t) (t':=t') (ty':=ty') (w:=w) (w':=w) (hx' _ rl.h.drew) (hsy _ rl.h.drew) (by omega) hby hb;refine ke (v:= .slice (some ⟨w.heap.size,0,none⟩) (len+m) (grownCap w (len+m) cap e)) (w':=w.drew.alloc (.cells ⟨xs++ys++cP z (grownCap w (len+m) cap e-(len+m))⟩ e)) ?_ ?_
  ·simp only[execOp,resolve,gL,bL,fK,bm rl.fr hx,bm rl.fr hy]
   exact c6 hrun
  ·refine h w.heap.size _ _ hcap' ?_ _ _ ((rl.heap (((hp.drew).drop (rL _ _)).alloc _ _)).put _ hd)
   rw[nG,hzs,<-dQ];congr 1;omega
end
section
variable {P:Program} {ops:Array Oper} {Q:Exit->Act->World->Prop} {S:World->Prop} {fin:Nat->Bool}
def qx(ops:Array Oper)(fin:Nat->Bool):List (Nat×Bool)->Array Bool->Bool
 |[],listed=>(Region.ready .any ops listed).isEmpty
 |(i,true)::r,listed=>AT ops fin listed i&&qx ops fin r (listed.setIfInBounds i true)
 |(i,false)::r,listed=>(Region.ready .any ops listed==[i])&&qx ops fin r (listed.setIfInBounds i true)
def f9(P:Program)(ops:Array Oper)(Q:Exit->Act->World->Prop)(S:World->Prop)(fin:Nat->Bool):List (Nat×Bool)->Act->World->Prop
 |[],a,w=>Q .normal a w
 |(i,true)::r,a,w=> ∃o v,ops[i]? =some o/\S w/\YieldsIf P ops S o v a/\f9 P ops Q S fin r (a.put o.dst v) w
 |(i,false)::r,a,w=>wpOp P ops Q i (fun a' w'=>(fin i=true\/S w')/\f9 P ops Q S fin r a' w') a w
def CK(hQ: ∀c a d v w,Q (.panic c) (Act.put a d v) w->Q (.panic c) a w): ∀(π:List (Nat×Bool)) (listed:Array Bool) (a:Act) (w:World),qx ops fin π listed=true->f9 P ops Q S fin π a w-> ∀fuel,π.length<=fuel->uG P ops Q S fin fuel listed a w
 |[],listed,a,w,ho,h,fuel,hf=>by
  have hr:Region.ready .any ops listed=[]:=by simpa[qx] using ho
  cases fuel with
  |zero=>exact⟨hr,h⟩
  |succ k=>exact⟨fun _=>h,by rw[hr];simp⟩
 |(i,true)::r,listed,a,w,ho,h,0,hf=>by simp at hf
 |(i,false)::r,listed,a,w,ho,h,0,hf=>by simp at hf
 |(i,true)::r,listed,a,w,ho,h,fuel+1,hf=>by
  obtain⟨o,v,hoi,hS,hy,hk⟩:=h;simp only[qx,AT,aL] at ho;obtain⟨⟨⟨⟨h1,h2⟩,h3⟩,h4⟩,h5⟩:=ho;obtain⟨h6,h7⟩:=Zf h4;exact Ur hoi (Region.noSelect_spec h1) (fun c a w=>hQ c a _ _ w) h6 h7 fuel listed a w (Region.free_spec hoi h2) (by simpa using h3) hy hS
   (CK hQ r _ _ _ h5 hk fuel (by simpa using hf))
 |(i,false)::r,listed,a,w,ho,h,fuel+1,hf=>by
  simp only[qx,aL,beq_iff_eq] at ho;exact ar6 ho.1 (wpOp_mono (fun a' w' h'=>⟨h'.1,CK hQ r _ _ _ ho.2 h'.2 fuel (by simpa using hf)⟩) h)
end
section
variable {P:Program} {C:aD} {n:Nat} {fr:Fr} {own own0:List ak} {G G0:Gh} {ops:Array Oper} {Q:Exit->Act->World->Prop} {fin:Nat->Bool} {π:List (Nat×Bool)}
def dr(fin:Nat->Bool)(π:List (Nat×Bool)){id:Nat}(hm:P.follows .mixedOrders=true)(ho:(qx ops fin π (Array.replicate ops.size false)&&Nat.ble π.length ops.size)=true)
  (h:St C n fr own G (f9 P ops (fH Q) (HS C own G) fin π)):St C n fr own G ((Code.region id ops true).wp P Q):=by
 simp only[aL] at ho;refine W4 fin hm fun a w rl=>CK (fun _ _ _ _ _ h=>h) π _ a w ho.1 (h a w rl) _ (by simpa using ho.2)
def dy{i:Nat}{o:Oper}{v:Value}(ho:ops[i]? =some o)(hy: ∀G':Gh,[GE G0 G']->Yd P C fr own0 G' o v)(hg:o.guard=none)(hd:cd n o.dst=true)[hs:km own0 own][hl:GL G0 G]
  (h:St C n (put fr o.dst v) own G (f9 P ops (fH Q) (HS C own0 G0) fin π)):St C n fr own G (f9 P ops (fH Q) (HS C own0 G0) fin ((i,true)::π)):=
 fun a w rl=>⟨o,v,ho,⟨G,hl.le,rl.h.drop hs.s⟩, .inl ⟨by simp[Region.wanted,hg],fun w' ⟨G',hle,hr⟩=> @hy G' ⟨hle⟩ a w' rl.fr hr⟩,h _ _ (rl.put v hd)⟩
def dM{i:Nat}{dst:Option Nat}{ty':TypeId}{pos:String}{af:Array Edge}{x:Operand}{v:Value}(ho:ops[i]? =some ⟨dst, .move x,ty',pos,af,none⟩)(hx:aw fr x=some v)(hd:cd n dst=true)[hs:km own0 own][hl:GL G0 G]
  (h:St C n (put fr dst v) own G (f9 P ops (fH Q) (HS C own0 G0) fin π)):St C n fr own G (f9 P ops (fH Q) (HS C own0 G0) fin ((i,true)::π)):=dy ho (fun _ _=>fD hx) J hd h
def dA{i:Nat}{dst:Option Nat}{ty':TypeId}{pos:String}{af:Array Edge}{x:Operand}{v:Value}(ho:ops[i]? =some ⟨dst, .assign x,ty',pos,af,none⟩)(hx:aw fr x=some v)(hd:cd n dst=true)[hs:km own0 own][hl:GL G0 G]
  (h:St C n (put fr dst v) own G (f9 P ops (fH Q) (HS C own0 G0) fin π)):St C n fr own G (f9 P ops (fH Q) (HS C own0 G0) fin ((i,true)::π)):=dy ho (fun _ _=>Ju hx) J hd h
def dF{i b o f off:Nat}{dst:Option Nat}{ty':TypeId}{pos:String}{af:Array Edge}{x:Operand}{t:TypeId}[hF:ly P t f off](ho:ops[i]? =some ⟨dst, .fieldAddr t x f,ty',pos,af,none⟩)(hx:aw fr x=some (.pointer (some ⟨b,o,none⟩)))(hd:cd n dst=true)[hs:km own0 own][hl:GL G0 G]
  (h:St C n (put fr dst (.pointer (some ⟨b,o+off,none⟩))) own G (f9 P ops (fH Q) (HS C own0 G0) fin π)):St C n fr own G (f9 P ops (fH Q) (HS C own0 G0) fin ((i,true)::π)):=dy ho (fun _ _=>oF hx) J hd h
def dL{i b off k:Nat}{dst:Option Nat}{ty':TypeId}{pos:String}{af:Array Edge}{x:Operand}{t ty:TypeId}{cs l:List Value}{lo:Bool}(ho:ops[i]? =some ⟨dst, .load t x,ty',pos,af,none⟩)(hx:aw fr x=some (.pointer (some ⟨b,off,none⟩)))[hw:im own0 b cs ty lo][lA P t k](hv:cH cs off k=some l)(hd:cd n dst=true)[hs:km own0 own][hl:GL G0 G]
  (h:St C n (put fr dst (.agg ⟨l⟩)) own G (f9 P ops (fH Q) (HS C own0 G0) fin π)):St C n fr own G (f9 P ops (fH Q) (HS C own0 G0) fin ((i,true)::π)):=dy ho (fun _ _=>Eo hx hv) J hd h
def te{i b off:Nat}{dst:Option Nat}{ty':TypeId}{pos:String}{af:Array Edge}{x:Operand}{t ty:TypeId}{cs:List Value}{v:Value}{lo:Bool}(ho:ops[i]? =some ⟨dst, .load t x,ty',pos,af,none⟩)(hx:aw fr x=some (.pointer (some ⟨b,off,none⟩)))[hw:im own0 b cs ty lo][gG P t](hv:cs[off]? =some v)(hd:cd n dst=true)[hs:km own0 own][hl:GL G0 G]
  (h:St C n (put fr dst v) own G (f9 P ops (fH Q) (HS C own0 G0) fin π)):St C n fr own G (f9 P ops (fH Q) (HS C own0 G0) fin ((i,true)::π)):=dy ho (fun _ _=>lE hx hv) J hd h
def uF{i:Nat}{o:Oper}{v:Value}(ho:ops[i]? =some o){j d:Nat}{b:Bool}(hg:o.guard=some (j,b))(hj:(ops[j]?).bind (·.dst)=some d)(hlk:io fr d=some (.bool b))(hy: ∀G':Gh,[GE G0 G']->Yd P C fr own0 G' o v)(hd:cd n o.dst=true)[hs:km own0 own][hl:GL G0 G]
  (h:St C n (put fr o.dst v) own G (f9 P ops (fH Q) (HS C own0 G0) fin π)):St C n fr own G (f9 P ops (fH Q) (HS C own0 G0) fin ((i,true)::π)):=
 fun a w rl=>⟨o,v,ho,⟨G,hl.le,rl.h.drop hs.s⟩, .inl ⟨by simp[Region.wanted,hg,DS rl.fr hj hlk],fun w' ⟨G',hle,hr⟩=> @hy G' ⟨hle⟩ a w' rl.fr hr⟩,h _ _ (rl.put v hd)⟩
def vt{i:Nat}{o:Oper}(ho:ops[i]? =some o){j d:Nat}{b c:Bool}(hg:o.guard=some (j,b))(hj:(ops[j]?).bind (·.dst)=some d)(hlk:io fr d=some (.bool c))(hbc:(c==b)=false)(hd:cd n o.dst=true)[hs:km own0 own][hl:GL G0 G]
  (h:St C n (put fr o.dst undef) own G (f9 P ops (fH Q) (HS C own0 G0) fin π)):St C n fr own G (f9 P ops (fH Q) (HS C own0 G0) fin ((i,true)::π)):=
 fun a w rl=>⟨o,undef,ho,⟨G,hl.le,rl.h.drop hs.s⟩, .inr ⟨by simp[Region.wanted,hg,DS rl.fr hj hlk,hbc],J⟩,h _ _ (rl.put undef hd)⟩
def dc{i:Nat}{o:Oper}(ho:ops[i]? =some o)(hg:o.guard=none)(hc:Ch P C n fr own G o (fun a w=>(fin i=true\/HS C own0 G0 w)/\f9 P ops (fH Q) (HS C own0 G0) fin π a w)):St C n fr own G (f9 P ops (fH Q) (HS C own0 G0) fin ((i,false)::π)):=by
 intro a w rl;show wpOp P ops (fH Q) i _ a w;unfold wpOp;simp only[ho,Region.wanted,hg,if_true];exact .inl (hc a w _ rl)
def dn(h:St C n fr own G (Q .normal)):St C n fr own G (f9 P ops (fH Q) (HS C own0 G0) fin []):=h
def KS{A G:Gh}{b:Nat}{cs:List Value}[h:yt A b cs][k:GL A G]:G b=some cs:=k.le _ _ h.h
variable {dst:Option Nat} {t t' ty':TypeId} {pos:String} {af:Array Edge} {x y:Operand} {r:List Oper}
def sm{v:Value}(hx:aw fr x=some v)(hd:cd n dst=true)(h:St C n (put fr dst v) own G (dG P ops Q r)):St C n fr own G (dG P ops Q (⟨dst, .move x,ty',pos,af,none⟩::r)):=s6 (fD hx) J hd h
def sa{v:Value}(hx:aw fr x=some v)(hd:cd n dst=true)(h:St C n (put fr dst v) own G (dG P ops Q r)):St C n fr own G (dG P ops Q (⟨dst, .assign x,ty',pos,af,none⟩::r)):=s6 (Ju hx) J hd h
def sn{ad:Addr}(hx:aw fr x=some (.pointer (some ad)))(hd:cd n dst=true)(h:St C n (put fr dst (.pointer (some ad))) own G (dG P ops Q r)):St C n fr own G (dG P ops Q (⟨dst, .nilCheck x,ty',pos,af,none⟩::r)):=s6 (lw hx) J hd h
def sf{b o f off:Nat}[hF:ly P t f off](hx:aw fr x=some (.pointer (some ⟨b,o,none⟩)))(hd:cd n dst=true)(h:St C n (put fr dst (.pointer (some ⟨b,o+off,none⟩))) own G (dG P ops Q r)):St C n fr own G (dG P ops Q (⟨dst, .fieldAddr t x f,ty',pos,af,none⟩::r)):=s6 (oF hx) J hd h
def pI{b off k:Nat}{cs l:List Value}{lo:Bool}{ty:TypeId}(hx:aw fr x=some (.pointer (some ⟨b,off,none⟩)))[ho:im own b cs ty lo][lA P t k](hl:cH cs off k=some l)(hd:cd n dst=true)
  (h:St C n (put fr dst (.agg ⟨l⟩)) own G (dG P ops Q r)):St C n fr own G (dG P ops Q (⟨dst, .load t x,ty',pos,af,none⟩::r)):=s6 (Eo hx hl) J hd h
def qI{b off:Nat}{cs:List Value}{v:Value}{lo:Bool}{ty:TypeId}(hx:aw fr x=some (.pointer (some ⟨b,off,none⟩)))[ho:im own b cs ty lo][gG P t](hl:cs[off]? =some v)(hd:cd n dst=true)
  (h:St C n (put fr dst v) own G (dG P ops Q r)):St C n fr own G (dG P ops Q (⟨dst, .load t x,ty',pos,af,none⟩::r)):=s6 (lE hx hl) J hd h
def aIT{A:Gh}{b off:Nat}{cs:List Value}{v:Value}(hx:aw fr x=some (.pointer (some ⟨b,off,none⟩)))[hg:yt A b cs][hk:GL A G][gG P t](hl:cs[off]? =some v)(hd:cd n dst=true)
  (h:St C n (put fr dst v) own G (dG P ops Q r)):St C n fr own G (dG P ops Q (⟨dst, .load t x,ty',pos,af,none⟩::r)):=s6 (AB hx (hk.le _ _ hg.h) hl) J hd h
def c8{e s by_:Nat}{ad:Option Addr}{len cap:Nat}[hT:cv P t e s by_](hx:aw fr x=some (.slice ad len cap))(hd:cd n dst=true)
  (h:St C n (put fr dst (.int .i64 len)) own G (dG P ops Q r)):St C n fr own G (dG P ops Q (⟨dst, .call ⟨.builtin .len, #[x], #[t]⟩,ty',pos,af,none⟩::r)):=s6 (o8 hx) J hd h
def sx{vs:Array Value}{i:Nat}{v:Value}(hx:aw fr x=some (.tuple vs))(hv:vs[i]? =some v)(hd:cd n dst=true)(h:St C n (put fr dst v) own G (dG P ops Q r)):St C n fr own G (dG P ops Q (⟨dst, .extract x i,ty',pos,af,none⟩::r)):=s6 (H9 hx hv) J hd h
def e8{C:aD}{n:Nat}{fr:Fr}{own:List ak}{G:Gh}{K:Act->World->Prop}{Q:Exit->Act->World->Prop}{id:Nat}(h:St C n fr own G (Q (.exit id))):St C n fr own G (Exit.then K Q (.exit id)):=h
def b7{op:Op}{v:Value}{j d:Nat}{b:Bool}(hj:(ops[j]?).bind (·.dst)=some d)(hl:io fr d=some (.bool b))(hy:Yd P C fr own G ⟨dst,op,ty',pos,af,some (j,b)⟩ v)(hd:cd n dst=true)(h:St C n (put fr dst v) own G (dG P ops Q r)):St C n fr own G (dG P ops Q (⟨dst,op,ty',pos,af,some (j,b)⟩::r)):=aHq J hj hl hy hd h
def ss{op:Op}{j d:Nat}{b c:Bool}(hj:(ops[j]?).bind (·.dst)=some d)(hl:io fr d=some (.bool c))(hbc:(c==b)=false)(hd:cd n dst=true)(h:St C n (put fr dst undef) own G (dG P ops Q r)):St C n fr own G (dG P ops Q (⟨dst,op,ty',pos,af,some (j,b)⟩::r)):=VL J hj hl hbc hd h
def sy{op:Op}{v:Value}(hy:Yd P C fr own G ⟨dst,op,ty',pos,af,none⟩ v)(hd:cd n dst=true)(h:St C n (put fr dst v) own G (dG P ops Q r)):St C n fr own G (dG P ops Q (⟨dst,op,ty',pos,af,none⟩::r)):=s6 hy J hd h
def sc{op:Op}(hc:Ch P C n fr own G ⟨dst,op,ty',pos,af,none⟩ (dG P ops Q r)):St C n fr own G (dG P ops Q (⟨dst,op,ty',pos,af,none⟩::r)):=VF J hc
end
def Fn.of_calls{P:Program}{f:FuncId}{vs:List Value}{G:Gh}{v:Value}(ha:pO P f)(h: ∀w,Calls P f ⟨vs⟩ w fun e w'=>e= .returned v/\w'=w):Fn P f vs G (fun u _=>u=v):=
 ⟨ha,fun w hw=>(h w).mono fun e w' ⟨he,hww⟩=>⟨v,G,he,by
  subst hww;exact⟨J,J,J,bQ _,fun _ _ _=>J,hw,bD.refl _,fun _ _=>J,fun o ho=>(by cases ho), .nil,bQ _,fun p hp=>by cases hp⟩,J⟩⟩
end Go.Sx
end
section
namespace Go.Sx
def dv:List Nat->Nat
 |[]=>0
 |d::t=>d+4294967296*dv t
def bw(ds:List Nat):Prop:= ∀d∈ds,d<4294967296
def er(ds:List Nat):Prop:=ds.getLast? ≠some 0
instance (ds:List Nat):Decidable (er ds):=inferInstanceAs (Decidable (ds.getLast? ≠some 0))
def bw.nil:bw []:=fun _ h=>by cases h
def bw.cons{d:Nat}{ds:List Nat}(h:d<4294967296)(k:bw ds):bw (d::ds):=fun x hx=>by
 rcases aW.1 hx with rfl|h'
 ·exact h
 ·exact k _ h'
def bw.head{d:Nat}{ds:List Nat}(h:bw (d::ds)):d<4294967296:=h d aQ
def bw.tail{d:Nat}{ds:List Nat}(h:bw (d::ds)):bw ds:=fun x hx=>h x (aZ _ hx)
def bw.append{a b:List Nat}(h:bw a)(k:bw b):bw (a++b):=fun x hx=>by
 rcases bW.1 hx with h'|h'
 ·exact h _ h'
 ·exact k _ h'
def bw.take{a:List Nat}(h:bw a)(n:Nat):bw (a.take n):=fun x hx=>h x (fL hx)
def bw.drop{a:List Nat}(h:bw a)(n:Nat):bw (a.drop n):=fun x hx=>h x (jT hx)
def bw.get{a:List Nat}(h:bw a)(i:Nat):a.getD i 0<4294967296:=by
 rw[aK]
 cases hi:a[i]? with
 |none=>simp
 |some d=>exact h d (aM hi)
def bw.set{a:List Nat}(h:bw a)(i:Nat){d:Nat}(hd:d<4294967296):bw (a.set i d):=fun x hx=>by
 rcases List.mem_or_eq_of_mem_set hx with h'|rfl
 ·exact h _ h'
 ·exact hd
def bw.replicate(n:Nat):bw (List.replicate n 0):=fun x hx=>by
 rw[mV hx];omega
def A1(a b:List Nat):dv (a++b)=dv a+4294967296^a.length*dv b:=by
 induction a with
 |nil=>simp[dv]
 |cons d t ih=>
  simp only[cR,dv,ih,bV,gW];rw[eX,<-kN,<-cW,cV 4294967296 (4294967296^t.length)]
def jz{ds:List Nat}(h:bw ds):dv ds<4294967296^ds.length:=by
 induction ds with
 |nil=>simp[dv]
 |cons d t ih=>
  have h1:=h.head;have h2:=ih h.tail;simp only[dv,bV,gW];omega
def AE(n:Nat):dv (List.replicate n 0)=0:=by
 induction n with
 |zero=>rfl
 |succ n ih=>simp[jQ,dv,ih]
def jj(ds:List Nat)(i:Nat):dv (ds.take (i+1))=dv (ds.take i)+4294967296^i*ds.getD i 0:=by
 by_cases h:i<ds.length
 ·rw[iV h,A1]
  simp[dv,gT (pZ h),aK,h]
 ·have:ds.getD i 0=0:=by rw[aK,eK (by omega)];rfl
  rw[this,bX (by omega),bX (by omega)];simp
def ES(ds:List Nat)(i:Nat)(h:i<=ds.length):dv ds=dv (ds.take i)+4294967296^i*dv (ds.drop i):=by
 have:=A1 (ds.take i) (ds.drop i);rw[lM] at this;rw[this];simp[gT h]
def trimD:List Nat->List Nat
 |[]=>[]
 |d::t=>match trimD t with
  |[]=>if d=0 then [] else [d]
  |t'=>d::t'
def xd(d:Nat)(t:List Nat):trimD (d::t)=if trimD t=[]/\d=0 then [] else d::trimD t:=by
 simp only[trimD]
 cases h:trimD t with
 |nil=>by_cases hd:d=0<;>simp[hd]
 |cons a b=>simp
def jP(ds:List Nat):dv (trimD ds)=dv ds:=by
 induction ds with
 |nil=>rfl
 |cons d t ih=>
  rw[xd];split
  ·rename_i h
   rw[h.1] at ih;simp[dv,<-ih,h.2]
  ·simp[dv,ih]
def NV(ds:List Nat):trimD (ds++[0])=trimD ds:=by
 induction ds with
 |nil=>rfl
 |cons d t ih=>rw[cR,xd,xd,ih]
def Ll{ds:List Nat}{d:Nat}(h:d≠0):trimD (ds++[d])=ds++[d]:=by
 induction ds with
 |nil=>simp[trimD,h]
 |cons e t ih=>rw[cR,xd,ih];simp
def er.trimD(ds:List Nat):er (trimD ds):=by
 induction ds with
 |nil=>simp[er,Sx.trimD]
 |cons d t ih=>
  rw[xd];split
  ·simp[er]
  ·rename_i h
   unfold er at*;rw[List.getLast?_cons]
   cases ht:(Sx.trimD t).getLast? with
   |none=>
    have:Sx.trimD t=[]:=by simpa using ht
    simp only[Option.getD_none,ne_eq,Option.some.injEq];exact fun hd=>h ⟨this,hd⟩
   |some x=>rw[ht] at ih;simpa using ih
def og(ds:List Nat):(trimD ds).length<=ds.length:=by
 induction ds with
 |nil=>simp[trimD]
 |cons d t ih=>
  rw[xd];split
  ·simp
  ·simp;omega
def N1(ds:List Nat):trimD ds=ds.take (trimD ds).length:=by
 induction ds with
 |nil=>rfl
 |cons d t ih=>
  rw[xd];split
  ·rfl
  ·simp only[bV,oW];rw[<-ih]
def bw.trimD{ds:List Nat}(h:bw ds):bw (trimD ds):=by rw[N1];exact h.take _
def Qa{ds:List Nat}(h:er ds):trimD ds=ds:=by
 rcases sZ ds with rfl|⟨l,d,rfl⟩
 ·rfl
 ·rw[sX] at*
  exact Ll (fun e=>by subst e;simp[er] at h)
def ri{ds:List Nat}(h:er ds)(hne:ds≠[]):4294967296^(ds.length-1)<=dv ds:=by
 rcases sZ ds with rfl|⟨l,d,rfl⟩
 ·exact absurd J hne
 ·rw[sX] at*
  have hd:d≠0:=fun e=>by subst e;simp[er] at h
  rw[A1];simp only[aR,bV,gM,dv];have:4294967296^(l.length+(0+1)-1)=4294967296^l.length:=by congr 1
  rw[this];have h1:4294967296^l.length*1<=4294967296^l.length*(d+4294967296*0):=gK _ (by omega);omega
def XM{ds:List Nat}(h:er ds):dv ds=0↔ds=[]:=by
 constructor
 ·intro h0
  by_cases hne:ds=[]
  ·exact hne
  ·have:=ri h hne
   have hp:0<4294967296^(ds.length-1):=fM (by omega);omega
 ·rintro rfl;rfl
def ug{a b:List Nat}(ha:bw a)(hb:er b)(h:a.length<b.length):dv a<dv b:=by
 have h1:=jz ha;have h2:=ri hb (fun e=>by subst e;simp at h);have h3:4294967296^a.length<=4294967296^(b.length-1):=bS (by omega) (by omega);omega
def Oc: ∀{a b:List Nat},bw a->bw b->a.length=b.length->dv a=dv b->a=b
 |[],[],_,_,_,_=>rfl
 |d::t,e::u,ha,hb,hl,h=>by
  have h1:=ha.head;have h2:=hb.head;simp only[dv] at h;have:d=e:=by omega
  subst this;rw[Oc ha.tail hb.tail (by simpa using hl) (by omega)]
def Wa{a b:List Nat}(ha:bw a)(hb:bw b)(na:er a)(nb:er b)(h:dv a=dv b):a=b:=by
 refine Oc ha hb ?_ h;rcases pU a.length b.length with h'|h'|h'
 ·have:=ug ha nb h';omega
 ·exact h'
 ·have:=ug hb na h';omega
def FA{a b:List Nat}(ha:bw a)(hb:bw b)(i:Nat)(hia:i<a.length)(hib:i<b.length)(hl:a.length=b.length)(hs:a.drop (i+1)=b.drop (i+1))(h:a.getD i 0<b.getD i 0):dv a<dv b:=by
 rw[ES a (i+1) (by omega),ES b (i+1) (by omega),hs,jj,jj];have h1:=jz (ha.take i);rw[cK,gT (by omega)] at h1;have h2:4294967296^i*(a.getD i 0+1)<=4294967296^i*b.getD i 0:=gK _ h;rw[eX] at h2;omega
def R3{ds:List Nat}{k:Nat}(h:er ds)(hk:dv ds<2^k):32*ds.length<=k+31:=by
 by_cases hne:ds=[]
 ·subst hne;simp
 ·have h1:=ri h hne
  have h2:(4294967296:Nat)^(ds.length-1)=2^(32*(ds.length-1)):=by
   rw[pR]
  rw[h2] at h1;have h3:2^(32*(ds.length-1))<2^k:=gU h1 hk;have h4:=(oK (by omega:1<2)).1 h3;have:0<ds.length:=by cases ds with|nil=>exact absurd J hne|cons _ _=>simp
  omega
def dg(x:Nat):List Nat:=if h:x=0 then [] else(x%4294967296)::dg (x/4294967296)
termination_by x
decreasing_by omega
def eG(x:Nat):dv (dg x)=x/\bw (dg x)/\er (dg x):=by
 induction x using Nat.strongRecOn with
 |_ x ih=>
  unfold dg;split
  ·rename_i h;subst h;exact⟨rfl, .nil,by simp[er]⟩
  ·rename_i h
   obtain⟨h1,h2,h3⟩:=ih (x/4294967296) (by omega);refine⟨by rw[dv,h1];omega, .cons (by omega) h2,?_⟩;unfold er at*;rw[List.getLast?_cons]
   cases hl:(dg (x/4294967296)).getLast? with
   |none=>
    have:dg (x/4294967296)=[]:=by simpa using hl
    rw[this] at h1;simp only[Option.getD_none,ne_eq,Option.some.injEq];simp only[dv] at h1;omega
   |some y=>rw[hl] at h3;simpa using h3
def Aj{ds:List Nat}(h:bw ds)(n:er ds):dg (dv ds)=ds:=Wa (eG _).2.1 h (eG _).2.2 n (eG _).1
def qe{ds:List Nat}(h:bw ds):dg (dv ds)=trimD ds:=by rw[<-jP];exact Aj h.trimD (er.trimD _)
def qv: ∀(ws:List Nat) (j d:Nat),j<ws.length->dv (ws.set j d)+4294967296^j*ws.getD j 0=dv ws+4294967296^j*d
 |[],j,d,h=>by simp at h
 |w::t,0,d,h=>by simp[dv];omega
 |w::t,j+1,d,h=>by
  have ih:=qv t j d (by simpa using h);simp only[List.set_cons_succ,dv,lS,gW];have h1:4294967296^j*4294967296*t.getD j 0=4294967296*(4294967296^j*t.getD j 0):=by rw[cV (4294967296^j),cW]
  have h2:4294967296^j*4294967296*d=4294967296*(4294967296^j*d):=by rw[cV (4294967296^j),cW]
  rw[h1,h2];omega
def qB{ws:List Nat}{k d:Nat}(h:k<ws.length):dv ((ws.set k d).take (k+1))=dv (ws.take k)+4294967296^k*d:=by
 rw[iV (by simpa using h),List.take_set_of_le (bQ _),A1];simp[dv,gT (pZ h)]
def Kj(p x:Nat):p*x=p*(x%4294967296)+p*4294967296*(x/4294967296):=by
 have h:p*x=p*(4294967296*(x/4294967296)+x%4294967296):=by rw[rZ]
 rw[eX,<-cW] at h;omega
def No{p A E W c a b:Nat}(h:W+p*c=A+E):(W+p*((c+a+b)%4294967296))+(p*4294967296)*((c+a+b)/4294967296)=(A+p*a)+(E+p*b):=by
 have h1:=Kj p (c+a+b);rw[eX,eX] at h1;omega
def Nd{p A E W bo b a:Nat}(h:W+E=A+p*bo)(hle:bo+b<=a):(W+p*(a-(bo+b)))+(E+p*b)=(A+p*a)+p*4294967296*0:=by
 have h1:p*a=p*(a-(bo+b))+p*bo+p*b:=by
  rw[<-eX,<-eX];congr 1;omega
 omega
def Tq{p A E W bo b a:Nat}(h:W+E=A+p*bo)(hle:a<bo+b)(hb:bo+b<=a+4294967296):(W+p*(a+4294967296-(bo+b)))+(E+p*b)=(A+p*a)+p*4294967296*1:=by
 have h1:p*a+p*4294967296=p*(a+4294967296-(bo+b))+p*bo+p*b:=by
  rw[<-eX,<-eX,<-eX];congr 1;omega
 omega
def Rk{p W W' T c m w:Nat}(hs:W'+p*w=W+p*((c+m+w)%4294967296))(h:W+p*c=T):W'+(p*4294967296)*((c+m+w)/4294967296)=T+p*m:=by
 have h1:=Kj p (c+m+w);rw[eX,eX] at h1;omega
end Go.Sx
end
section
namespace Go.Sx
open Go
section
variable {P:Program} {C:aD} {n:Nat} {fr:Fr} {own:List ak} {G:Gh}
def Zz{c:Code}{Q:Exit->Act->World->Prop}(h:St C n fr own G (c.wp P (Exit.noGoto Q))):St C n fr own G ((Code.scope c).wp P Q):=
 fun a w rl=>wp_scope_straight (h a w rl)
def UW{l:Nat}{Q:Exit->Act->World->Prop}(h:St C n fr own G (Q .normal)):St C n fr own G ((Code.label l).wp P Q):=
 fun a w rl=>wp_label (h a w rl)
def Sn:Exit->Bool
 | .goto _=>false
 |_=>true
end
section
variable {P:Program} {ops:Array Oper} {Q:Exit->Act->World->Prop} {S:World->Prop} {fin:Nat->Bool} {k:Nat} {π₂:List (Nat×Bool)}
def SH(ops:Array Oper)(fin:Nat->Bool)(k:Nat)(π₂:List (Nat×Bool)):List (Nat×Bool)->Array Bool->Bool
 |[],listed=>(Region.ready .any ops listed==[k])&&qx ops fin π₂ (listed.setIfInBounds k true)
 |(i,true)::r,listed=>!(Nat.beq i k)&&AT ops fin listed i&&AT ops fin (listed.setIfInBounds k true) i&&SH ops fin k π₂ r (listed.setIfInBounds i true)
 |(i,false)::r,listed=>!(Nat.beq i k)&&(Region.ready .any ops listed).all (fun j=>Nat.beq j i||Nat.beq j k)&&(Region.ready .any ops listed).contains i&&(Region.ready .any ops (listed.setIfInBounds k true)==[i])&&SH ops fin k π₂ r (listed.setIfInBounds i true)
def JV(P:Program)(ops:Array Oper)(Q:Exit->Act->World->Prop)(S:World->Prop)(fin:Nat->Bool)(k:Nat)(π₂:List (Nat×Bool)):List (Nat×Bool)->Act->World->Prop
 |[],a,w=>wpOp P ops Q k (fun a' w'=>(fin k=true\/S w')/\f9 P ops Q S fin π₂ a' w') a w
 |(i,true)::r,a,w=> ∃o v,ops[i]? =some o/\S w/\YieldsIf P ops S o v a/\JV P ops Q S fin k π₂ r (a.put o.dst v) w
 |(i,false)::r,a,w=>wpOp P ops Q i (fun a' w'=>(fin i=true\/S w')/\JV P ops Q S fin k π₂ r a' w') a w/\
   wpOp P ops Q k (fun a' w'=>(fin k=true\/S w')/\f9 P ops Q S fin ((i,false)::r++π₂) a' w') a w
end
section
variable {P:Program} {C:aD} {n:Nat} {fr:Fr} {own own0:List ak} {G G0:Gh} {ops:Array Oper} {Q:Exit->Act->World->Prop} {fin:Nat->Bool} {k:Nat} {π π₂:List (Nat×Bool)}
def fF(d:Nat):Option Nat->Fr
 |none=>[]
 |some b=>[(d, .pointer (some ⟨b,0,none⟩))]
def fO(t:TypeId)(z:Value):Option Nat->List ak
 |none=>[]
 |some b=>[⟨b,aF z,t,true⟩]
def dwE(P:Program)(ops:Array Oper)(Q:Exit->Act->World->Prop)(S:World->Prop)(fin:Nat->Bool)(k:Nat)(π₂:List (Nat×Bool))(fl:Option Nat)(π:List (Nat×Bool)):Act->World->Prop:=
 match fl with
 |none=>JV P ops Q S fin k π₂ π
 |some _=>f9 P ops Q S fin (π++π₂)
end
def relo(fl:Nat->Bool)(o:ak):ak:={o with lo:=fl o.b}
structure je (P:Program) (f:FuncId) (vs:List Value) (M:List ak) (G:Gh) (K:Value->List ak->Gh->Prop):Prop where
 able:pO P f
 run: ∀w,bu ⟨w,G,M.map (·.b),[],[],none,fun _=>none⟩ (asB M) G w->
  Calls P f ⟨vs⟩ w fun e w'=> ∃v own' G',e= .returned v/\bu ⟨w,G,M.map (·.b),[],[],none,fun _=>none⟩ own' G' w'/\K v own' G'
def jp(M:List ak)(b:Nat):Bool:=M.all fun m=>!Nat.beq m.b b||m.lo
def bu.calledO{C:aD}{M rest own':List ak}{G G':Gh}{w w':World}(h:bu C (M++rest) G w)(k:bu ⟨w,G,M.map (·.b),[],[],none,fun _=>none⟩ own' G' w'):
  bu C (own'.map (relo (jp M))++rest) G' w':=by
 have hsz:w.heap.size<=w'.heap.size:=k.size;have hnd:=h.nd;have inM: ∀b,b∈M.map (·.b)-> ∀o∈rest,o.b≠b:=fun b hb o ho e=>by
  obtain⟨m,hm,rfl⟩:=bJ.1 hb;exact(kZ.1 hnd).2.2 m hm o ho e.symm
 have bnd: ∀o∈own',o.b∉M.map (·.b)->w.heap.size<=o.b:=fun o ho hb=>by
  obtain⟨_,_,h3,h4⟩:=k.hown o ho
  cases hlo:o.lo with
  |true=>exact h3 hlo
  |false=>exact absurd (h4 hlo) hb
 refine⟨k.os.trans h.os,k.tape.trans h.tape,k.output.trans h.output,eY h.size hsz,?_,k.sub,h.gle.trans k.gle,?_,?_,?_,eY h.dr k.dr,fun p hp=>⟨(h.ext p hp).1,by rw[k.keep _ (ik (h.ext p hp).2) (h.extM hp)];exact(h.ext p hp).2⟩⟩
 ·intro b hb hm
  have hs:=h.size;have hnM:b∉M.map (·.b):=fun hb'=>by
   obtain⟨m,hmM,rfl⟩:=bJ.1 hb';obtain⟨_,_,h3,h4⟩:=h.hown m (bM _ hmM)
   cases hlo:m.lo with
   |true=>have:=h3 hlo;omega
   |false=>exact hm (h4 hlo)
  rw[k.keep b (by show b<w.heap.size;omega) hnM];exact h.keep b hb hm
 ·intro b hb;have:=h.size;rw[k.gold b (by show b<w.heap.size;omega)];exact h.gold b hb
 ·intro o ho
  have hs:=h.size;rcases bW.1 ho with ho|ho
  ·obtain⟨o',ho',rfl⟩:=bJ.1 ho
   obtain⟨k1,k2,k3,k4⟩:=k.hown _ ho';refine⟨k1,k2,fun hl=>?_,fun hl=>?_⟩
   ·show C.w0.heap.size<=o'.b
    by_cases hb:o'.b∈M.map (·.b)
    ·obtain⟨m,hm,hmb⟩:=bJ.1 hb
     have hl':jp M o'.b=true:=hl;have:=fW.1 hl' m hm;simp only[hmb,iL,iK,pX] at this;obtain⟨_,_,h3,_⟩:=h.hown m (bM _ hm);rw[<-hmb];exact h3 (by rcases this with h|h;(cases h);(exact h))
    ·have:=bnd o' ho' hb;omega
   ·show o'.b∈C.mb
    have hl':jp M o'.b=false:=hl;obtain⟨m,hm,hmb⟩:=List.all_eq_false.1 hl';simp only[iL,iK,not_or] at hmb;obtain⟨h1,h2⟩:=hmb;have e:m.b=o'.b:=by
     cases hq:Nat.beq m.b o'.b with
     |true=>exact aT hq
     |false=>exact absurd hq h1
    obtain⟨_,_,_,h4⟩:=h.hown m (bM _ hm);rw[<-e];exact h4 (by cases hq:m.lo with
     |true=>exact absurd hq h2
     |false=>rfl)
  ·obtain⟨h1,h2,h3⟩:=h.hown o (cJ _ ho)
   have hnM:o.b∉M.map (·.b):=fun hb=>inM _ hb o ho J;exact⟨by rw[k.keep _ (ik h1) hnM];exact h1,by rw[k.gold _ (ik h1)];exact h2,h3⟩
 ·refine kZ.2 ⟨?_,(kZ.1 hnd).2.1,?_⟩
  ·rw[rR];exact k.nd
  ·intro x hx y hy
   obtain⟨o',ho',rfl⟩:=bJ.1 hx;show o'.b≠y.b;by_cases hb:o'.b∈M.map (·.b)
   ·exact fun e=>inM _ hb y hy e.symm
   ·have h1:=bnd o' ho' hb
    have h2:=ik (h.hown y (cJ _ hy)).1;omega
def sd(C:aD)(K:Value->List ak->Gh->Prop):Ending->World->Prop:=fun e w'=> ∃v own' G',e= .returned v/\bu C own' G' w'/\K v own' G'
def je.introR{P:Program}{G:Gh}{f:FuncId}{fn:Func}{c:Code}{vs:List Value}{m:Nat}{M:List ak}{K:Value->List ak->Gh->Prop}(hf:P.funcs[f]? =some fn)(hb:fn.body=some c)(hn:(fn.name== "runtime.NumGoroutine")=false)(hm:fn.ntmps=m)(hlen:Nat.ble vs.length m=true)
  (h: ∀C:aD,C.G0=G->C.mb=M.map (·.b)->C.rd=none->(C.fx=fun _=>none)->St C m (nP 0 vs) (asB M) G (c.wp P (gv C P fn (sd C K)))):je P f vs M G K:=by
 refine⟨⟨fn,hf,hn,by simp[hb]⟩,fun w hw=>?_⟩;have hlen':vs.length<=m:=by simpa using hlen
 have:=calls_of_wp (P:=P) (f:=f) (args:=⟨vs⟩) (w:=w) (R:=sd ⟨w,G,M.map (·.b),[],[],none,fun _=>none⟩ K) hf hb (wp_mono (h ⟨w,G,M.map (·.b),[],[],none,fun _=>none⟩ J J J J _ w
  ⟨hw,by simp;omega,fun k v hk=>by
   obtain⟨j,rfl,hj⟩:=vm vs 0 k v hk;have hj':=(aS.1 hj).1;rw[jV (by simpa using hj')];simpa using hj,J⟩) fun _ _ _ k=>k J)
 exact this
def je.intro{P:Program}{G:Gh}{f:FuncId}{fn:Func}{c:Code}{vs:List Value}{m:Nat}{M:List ak}{K:Value->List ak->Gh->Prop}(hf:P.funcs[f]? =some fn)(hb:fn.body=some c)(hn:(fn.name== "runtime.NumGoroutine")=false)(hm:fn.ntmps=m)(hlen:Nat.ble vs.length m=true)
  (h: ∀C:aD,C.G0=G->C.mb=M.map (·.b)->St C m (nP 0 vs) (asB M) G (c.wp P (gv C P fn (sd C K)))):je P f vs M G K:=
 je.introR hf hb hn hm hlen fun C a b _ _=>h C a b
section
variable {P:Program} {C:aD} {n:Nat} {fr:Fr} {own own':List ak} {G:Gh} {Φ:Act->World->Prop}
variable {dst:Option Nat} {t t' ty':TypeId} {pos:String} {af:Array Edge} {gd:Option (Nat×Bool)} {x y:Operand}
def DB{fn:Func}{K:Value->List ak->Gh->Prop}{vs:List Value}(hr:kP P fr own fn.results.toList vs)(own2 own3:List ak)(hp:own.Perm own2)(hs:own3.Sublist own2)(hk:K (gI vs) own3 G):St C n fr own G (gv C P fn (sd C K) .ret):=
 fun a w rl hmk=>⟨rl.df.trans hmk,_,tD hr rl.fr rl.h,_,own3,G,J,(rl.h.perm hp).drop hs,hk⟩
def O0{f:FuncId}{fo:Operand}{args:Array Operand}{tys:Array TypeId}{vs c1 c2:List Value}{M rest:List ak}{K:Value->List ak->Gh->Prop}(ho:aw fr fo=some (.func (.func f) ⟨c1⟩ ⟨c2⟩))(hv:fI fr args.toList=some vs)
  (hp:own.Perm (M++rest))(hF:je P f (c1++vs++c2) M G K)(hd:cd n dst=true)(h: ∀v own1 (G':Gh),[GE G G']->K v own1 G'->St C n (put fr dst v) (own1.map (relo (jp M))++rest) G' Φ):
  Ch P C n fr own G ⟨dst, .call ⟨.value fo,args,tys⟩,ty',pos,af,gd⟩ Φ:=by
 intro a w Q rl;have h2:=Eg (P:=P) (dst:=dst) (ty':=ty') (pos:=pos) (af:=af) (gd:=gd) (tys:=tys) (w:=w) hF.able rl.fr ho hv;simp only[Oper.wp,h2,Oper.upon];have hh0:=rl.h.perm hp;refine(hF.run w hh0.lend).mono ?_;rintro e w' ⟨v,own1,G',rfl,hh,hK⟩;exact @h v own1 G' ⟨hh.gle⟩ hK _ _ ((rl.heap (hh0.calledO hh)).put _ hd)
def BC{f:FuncId}{fo:Operand}{args:Array Operand}{tys:Array TypeId}{vs:List Value}{M rest:List ak}{K:Value->List ak->Gh->Prop}(ho:aw fr fo=some (.func (.func f) #[] #[]))(hv:fI fr args.toList=some vs)
  (hp:own.Perm (M++rest))(hF:je P f vs M G K)(hd:cd n dst=true)(h: ∀v own1 (G':Gh),[GE G G']->K v own1 G'->St C n (put fr dst v) (own1.map (relo (jp M))++rest) G' Φ):
  Ch P C n fr own G ⟨dst, .call ⟨.value fo,args,tys⟩,ty',pos,af,gd⟩ Φ:=
 O0 (c1:=[]) (c2:=[]) ho hv hp (by simpa using hF) hd h
def XG{b:Nat}{cs:List Value}{ty:TypeId}{lo:Bool}(hC:C.mb=[])(h:St C n fr (⟨b,cs,ty,true⟩::own) G Φ):St C n fr (⟨b,cs,ty,lo⟩::own) G Φ:=by
 intro a w rl
 cases lo with
 |true=>exact h a w rl
 |false=>
  have:=(rl.h.hown _ aQ).2.2.2 J;rw[hC] at this;cases this
end
structure SV where
 a:Option Addr
 n:Nat
 c:Nat
def SV.v(x:SV):Value:= .slice x.a x.n x.c
structure eH (G:Gh) (s:Nat) (x:SV) (es:List Value):Prop where
 len:x.n=es.length
 cap:x.n<=x.c
 mem:es=[]\/ ∃b off cs,x.a=some ⟨b,off,none⟩/\G b=some cs/\ ∀i (h:i<es.length),cH cs (off+i*s) s=some (aF es[i])
def eH.up'{A G:Gh}{s:Nat}{x:SV}{es:List Value}(h:eH A s x es)(k:bD A G):eH G s x es:=
 ⟨h.len,h.cap,h.mem.imp id (fun⟨b,off,cs,h1,h2,h3⟩=>⟨b,off,cs,h1,k _ _ h2,h3⟩)⟩
def eH.up{A G:Gh}{s:Nat}{x:SV}{es:List Value}(h:eH A s x es)[k:GL A G]:eH G s x es:=h.up' k.le
def eH.nil(G:Gh)(s:Nat):eH G s ⟨none,0,0⟩ []:=⟨J,bQ _, .inl J⟩
def eH.take{G:Gh}{s:Nat}{x:SV}{es:List Value}(h:eH G s x es)(k:Nat)(hk:k<=es.length):eH G s ⟨x.a,k,x.c⟩ (es.take k):=by
 refine⟨by simp[hk],by show k<=x.c;have:=h.len;have:=h.cap;omega,?_⟩;rcases h.mem with h0|⟨b,off,cs,h1,h2,h3⟩
 ·left;simp[h0]
 ·right;exact⟨b,off,cs,h1,h2,fun i hi=>by
   simp only[cK] at hi;rw[h3 i (by omega)];simp⟩
def vT(a:Option Addr)(k:Nat):Option Addr:=a.map (·.add k)
section
variable {P:Program} {C:aD} {n:Nat} {fr:Fr} {own own':List ak} {G:Gh} {Φ:Act->World->Prop}
variable {dst:Option Nat} {t t' ty':TypeId} {pos:String} {af:Array Edge} {gd:Option (Nat×Bool)} {x y:Operand} {e s by_:Nat}
def JJ{A:Gh}[hT:cv P t e s by_]{k:IntKind}{z:SV}{es:List Value}{i:Int}(hs:eH A s z es)(hx:aw fr x=some (.slice z.a z.n z.c))(hy:aw fr y=some (.int k i))(h0:0<=i)(h1:i<z.n):
  Yd P C fr own G ⟨dst, .indexAddr t x y,ty',pos,af,gd⟩ (.pointer (vT z.a (i.toNat*s))):=by
 rcases hs.mem with h|⟨b,off,cs,ha,hg,hc⟩
 ·have:=hs.len;rw[h] at this;simp at this;omega
 ·rw[ha] at hx
  have:=Cd (P:=P) (C:=C) (own:=own) (G:=G) (t:=t) (dst:=dst) (ty':=ty') (pos:=pos) (af:=af) (gd:=gd) (by_:=by_) hx hy h0 h1;rw[ha];simpa[vT,pB] using this
def LO{A:Gh}[hA:lA P t s]{z:SV}{es:List Value}{i:Nat}{l:List Value}(hs:eH A s z es)[hl:GL A G](hx:aw fr x=some (.pointer (vT z.a (i*s))))(h1:i<es.length)(he:es[i]? =some (.agg ⟨l⟩)):
  Yd P C fr own G ⟨dst, .load t x,ty',pos,af,gd⟩ (.agg ⟨l⟩):=by
 rcases hs.mem with h|⟨b,off,cs,ha,hg,hc⟩
 ·rw[h] at h1;simp at h1
 ·rw[ha] at hx
  have h2:=hc i h1;rw[aX h1] at he;have he':es[i]= .agg ⟨l⟩:=by simpa using he
  rw[he'] at h2;exact Hx (by simpa[vT,pB] using hx) (hl.le _ _ hg) h2
def aDR{A:Gh}[hA:gG P t]{z:SV}{es:List Value}{i:Nat}{v:Value}(hs:eH A 1 z es)[hl:GL A G](hx:aw fr x=some (.pointer (vT z.a (i*1))))(he:es[i]? =some v)(hv:flat v=true):
  Yd P C fr own G ⟨dst, .load t x,ty',pos,af,gd⟩ v:=by
 obtain⟨h1,he'⟩:=aS.1 he;rcases hs.mem with h|⟨b,off,cs,ha,hg,hc⟩
 ·rw[h] at h1;simp at h1
 ·rw[ha] at hx
  have h2:=hc i h1;rw[he'] at h2;have hcv:aF v=[v]:=by cases v<;>first|rfl|(simp[flat] at hv)
  rw[hcv] at h2;obtain⟨_,h3⟩:=qq _ _ _ _ h2;have h4:=h3 0 (by omega);exact AB (off:=off+i*1) (by simpa[vT,pB] using hx) (hl.le _ _ hg) (by simpa using h4)
end
def dI(d:Nat):Value:= .int .u32 (d:Int)
structure cA (G:Gh) (x:SV) (ds:List Nat):Prop where
 ok:bw ds
 sl:eH G 1 x (ds.map dI)
def cA.len{G:Gh}{x:SV}{ds:List Nat}(h:cA G x ds):x.n=ds.length:=by simpa using h.sl.len
def cA.up{A G:Gh}{x:SV}{ds:List Nat}(h:cA A x ds)[k:GL A G]:cA G x ds:=⟨h.ok,h.sl.up⟩
def cA.nil(G:Gh):cA G ⟨none,0,0⟩ []:=⟨.nil, .nil G 1⟩
def cA.take{G:Gh}{x:SV}{ds:List Nat}(h:cA G x ds)(k:Nat)(hk:k<=ds.length):cA G ⟨x.a,k,x.c⟩ (ds.take k):=
 ⟨h.ok.take k,by rw[mW];exact h.sl.take k (by simpa using hk)⟩
def cA.trim{G:Gh}{x:SV}{ds:List Nat}(h:cA G x ds):cA G ⟨x.a,(trimD ds).length,x.c⟩ (trimD ds):=by
 have:=h.take _ (og ds);rwa [<-N1] at this
def cA.of_block{G:Gh}{b c k:Nat}{cs:List Value}{ds:List Nat}(ok:bw ds)(hg:G b=some cs)(hk:k=ds.length)(hc:k<=c)(hcs:cs.take ds.length=ds.map dI):cA G ⟨some ⟨b,0,none⟩,k,c⟩ ds:=by
 refine⟨ok,by simpa using hk,hc, .inr ⟨b,0,cs,J,hg,fun i hi=>?_⟩⟩;have hi':i<ds.length:=by simpa using hi
 have hl:ds.length<=cs.length:=by
  have:=congrArg List.length hcs;simp at this;omega
 rw[ma _ _ _ (by omega)];congr 1;have h1:(cs.take ds.length)[i]? =(ds.map dI)[i]? :=by rw[hcs]
 rw[rK,if_pos hi',fS,aX hi',aX (by omega)] at h1;have h2:cs[i]=dI ds[i]:=by simpa using h1
 rw[fQ,iR,cX (by omega),oW,List.take_zero,h2,List.getElem_map];rfl
structure fE (k:Nat) (G:Gh) (x:SV) (v:Nat):Prop where
 d:cA G x (dg v)
 lt:v<2^k
def fE.up{k:Nat}{A G:Gh}{x:SV}{v:Nat}(h:fE k A x v)[GL A G]:fE k G x v:=⟨h.d.up,h.lt⟩
def fE.len{k:Nat}{G:Gh}{x:SV}{v:Nat}(h:fE k G x v):x.n=(dg v).length:=h.d.len
def fE.mono{k k':Nat}{G:Gh}{x:SV}{v:Nat}(h:fE k G x v)(hk:v<2^k'):fE k' G x v:=⟨h.d,hk⟩
section
variable {P:Program} {C:aD} {n:Nat} {fr:Fr} {own own':List ak} {G:Gh} {Φ:Act->World->Prop}
variable {dst:Option Nat} {t t' ty':TypeId} {pos:String} {af:Array Edge} {gd:Option (Nat×Bool)} {x y:Operand} {e s by_:Nat}
def iA{A:Gh}[hT:cv P t e 1 by_]{k:IntKind}{z:SV}{ds:List Nat}{i:Int}(hs:cA A z ds)(hx:aw fr x=some (.slice z.a z.n z.c))(hy:aw fr y=some (.int k i))(h0:0<=i)(h1:i<z.n):
  Yd P C fr own G ⟨dst, .indexAddr t x y,ty',pos,af,gd⟩ (.pointer (vT z.a (i.toNat*1))):=JJ hs.sl hx hy h0 h1
def iB{A:Gh}[hA:gG P t]{z:SV}{ds:List Nat}{i:Nat}(hs:cA A z ds)[hl:GL A G](hx:aw fr x=some (.pointer (vT z.a (i*1))))(h1:i<ds.length):
  Yd P C fr own G ⟨dst, .load t x,ty',pos,af,gd⟩ (.int .u32 ((ds.getD i 0:Nat):Int)):=
 aDR hs.sl hx (by rw[fS,aX h1,aK,aX h1];rfl) J
def LJ{A:Gh}{z:SV}{ds:List Nat}(h:cA A z ds)[hl:GL A G]:mO P C own G 1 z.n (.slice z.a z.n z.c) (ds.map dI):=by
 intro w hw;by_cases hne:ds=[]
 ·rw[h.len]
  subst hne;exact vU w hw
 rcases h.sl.mem with h0|⟨b,off,cs,ha,hg,hc⟩
 ·exact absurd (by simpa using h0) hne
 ·rw[ha]
  have hn:=h.len;refine Tf (hl.le _ _ hg) ?_ w hw;rw[iR];have hel: ∀i,i<ds.length->cs[off+i]? =some (dI (ds.getD i 0)):=fun i hi=>by
   have h1:=hc i (by simpa using hi);obtain⟨_,h2⟩:=qq _ _ _ _ h1;have h3:=h2 0 (by omega);rw[iR,fJ] at h3;rw[h3,List.getElem_map,aK,aX hi];rfl
  by_cases h00:ds.length=0
  ·exact absurd h00 (fun e=>hne (bU e))
  ·have hlast:=hel (ds.length-1) (by omega)
   have hle:off+ds.length<=cs.length:=by
    have:=(aS.1 hlast).1;omega
   rw[hn,ma _ _ _ hle];congr 1;apply lQ;intro i;rw[rK];split
   ·rename_i hi
    rw[mQ,hel i hi,fS,aK,aX hi];rfl
   ·rename_i hi
    rw[eK (by simpa using hi)]
def uP(n:Nat):cP (.int .u32 0) n=(List.replicate n 0).map dI:=by
 unfold cP
 induction n with
 |zero=>rfl
 |succ n ih=>rw[jQ,lZ,ih];rfl
def fq[hT:cv P t e s by_]{k:IntKind}{b len cap:Nat}{i:Int}(hx:aw fr x=some (.slice (some ⟨b,0,none⟩) len cap))(hy:aw fr y=some (.int k i))(h0:0<=i)(h1:i<len):
  Yd P C fr own G ⟨dst, .indexAddr t x y,ty',pos,af,gd⟩ (.pointer (some ⟨b,i.toNat*s,none⟩)):=by
 have:=Cd (P:=P) (C:=C) (own:=own) (G:=G) (t:=t) (dst:=dst) (ty':=ty') (pos:=pos) (af:=af) (gd:=gd) (by_:=by_) hx hy h0 h1;rwa [fQ] at this
def r4[hA:gG P t]{b i:Nat}{ws:List Nat}{ty:TypeId}{lo:Bool}(hx:aw fr x=some (.pointer (some ⟨b,i*1,none⟩)))[ho:im own b (ws.map dI) ty lo](h1:i<ws.length):
  Yd P C fr own G ⟨dst, .load t x,ty',pos,af,gd⟩ (.int .u32 ((ws.getD i 0:Nat):Int)):=by
 rw[iR] at hx;refine lE hx ?_;rw[fS,aX h1,aK,aX h1];rfl
def mj{b i d:Nat}{ws:List Nat}{ty:TypeId}{lo:Bool}{v:Int}[hs:gG P t](hx:aw fr x=some (.pointer (some ⟨b,i*1,none⟩)))(hy:aw fr y=some (.int .u32 v))(hv:v=(d:Int))
  (hu:fG own b (ws.map dI) ty lo ((ws.set i d).map dI) own')(hi:i<ws.length)(hd:cd n dst=true)(h:St C n (put fr dst undef) own' G Φ):
  Ch P C n fr own G ⟨dst, .store t x y,ty',pos,af,gd⟩ Φ:=by
 rw[iR] at hx;have hu':fG own b (ws.map dI) ty lo ((ws.map dI).set i (.int .u32 v)) own':=by
  rw[hv,<-show dI d= .int .u32 (d:Int) from J,<-qQ];exact hu
 exact tM hx hy hu' (by simpa using hi) J hd h
def d6{p q:Int}(hx:aw fr x=some (.int .i64 p))(hy:aw fr y=some (.int .i64 q))(h0: -9223372036854775808<=p+q:=by omega)(h1:p+q<=9223372036854775807:=by omega):Yd P C fr own G ⟨dst, .binOp .add t x y t',ty',pos,af,gd⟩ (.int .i64 (p+q)):=KJ hx hy ⟨h0,h1⟩
def j'{p q:Int}(hx:aw fr x=some (.int .i64 p))(hy:aw fr y=some (.int .i64 q))(h0: -9223372036854775808<=p-q:=by omega)(h1:p-q<=9223372036854775807:=by omega):Yd P C fr own G ⟨dst, .binOp .sub t x y t',ty',pos,af,gd⟩ (.int .i64 (p-q)):=Hh hx hy ⟨h0,h1⟩
def Pk{p q:Int}(hx:aw fr x=some (.int .i64 p))(hy:aw fr y=some (.int .i64 q))(h0: -9223372036854775808<=p*q)(h1:p*q<=9223372036854775807):Yd P C fr own G ⟨dst, .binOp .mul t x y t',ty',pos,af,gd⟩ (.int .i64 (p*q)):=Jh hx hy ⟨h0,h1⟩
def rD{p q:Int}(hx:aw fr x=some (.int .u64 p))(hy:aw fr y=some (.int .u64 q))(h0:0<=p+q:=by omega)(h1:p+q<=18446744073709551615:=by omega):Yd P C fr own G ⟨dst, .binOp .add t x y t',ty',pos,af,gd⟩ (.int .u64 (p+q)):=KJ hx hy ⟨h0,h1⟩
def P7{p q:Int}(hx:aw fr x=some (.int .u64 p))(hy:aw fr y=some (.int .u64 q))(h0:0<=p-q)(h1:p-q<=18446744073709551615):Yd P C fr own G ⟨dst, .binOp .sub t x y t',ty',pos,af,gd⟩ (.int .u64 (p-q)):=Hh hx hy ⟨h0,h1⟩
def IH{p q:Int}(hx:aw fr x=some (.int .u64 p))(hy:aw fr y=some (.int .u64 q))(h0:0<=p*q)(h1:p*q<=18446744073709551615):Yd P C fr own G ⟨dst, .binOp .mul t x y t',ty',pos,af,gd⟩ (.int .u64 (p*q)):=Jh hx hy ⟨h0,h1⟩
def ng{k k':IntKind}{p q:Int}(hx:aw fr x=some (.int k p))(hy:aw fr y=some (.int k' q))(h0:0<=q):Yd P C fr own G ⟨dst, .binOp .shr t x y t',ty',pos,af,gd⟩ (.int k (p.fdiv (2^min q.toNat k.bits))):=by
 intro a w hf hh;simp only[execOp,bm hf hx,bm hf hy];have h1:(eqGuard .shr t x y (.int k p) (.int k' q)).run P w= .ok () w:=J;have h2:(binOp .shr t (.int k p) (.int k' q)).run P w= .ok (.int k (p.fdiv (2^min q.toNat k.bits))) w:=by
  simp[binOp,Op.shift,Int.not_lt.2 h0,run_pure]
 exact c6 (by rw[bc h1];exact h2)
def yk{k k':IntKind}{p q:Int}(hx:aw fr x=some (.int k p))(hy:aw fr y=some (.int k' q))(h0:0<=q):Yd P C fr own G ⟨dst, .binOp .shl t x y t',ty',pos,af,gd⟩ (.int k (k.wrap (p*2^min q.toNat k.bits))):=by
 intro a w hf hh;simp only[execOp,bm hf hx,bm hf hy];have h1:(eqGuard .shl t x y (.int k p) (.int k' q)).run P w= .ok () w:=J;have h2:(binOp .shl t (.int k p) (.int k' q)).run P w= .ok (.int k (k.wrap (p*2^min q.toNat k.bits))) w:=by
  simp[binOp,Op.shift,Int.not_lt.2 h0,run_pure]
 exact c6 (by rw[bc h1];exact h2)
def gF{k:IntKind}{p:Int}[hs:nk P t k][hd:nk P t' .u64](hx:aw fr x=some (.int k p))(h0:0<=p:=by omega)(h1:p<=18446744073709551615:=by omega):Yd P C fr own G ⟨dst, .convert t t' x,ty',pos,af,gd⟩ (.int .u64 p):=J1 hx ⟨h0,h1⟩
def Nv{k:IntKind}{p:Int}[hs:nk P t k][hd:nk P t' .i64](hx:aw fr x=some (.int k p))(h0: -9223372036854775808<=p:=by omega)(h1:p<=9223372036854775807:=by omega):Yd P C fr own G ⟨dst, .convert t t' x,ty',pos,af,gd⟩ (.int .i64 p):=J1 hx ⟨h0,h1⟩
def qG(p:Int):IntKind.u32.wrap p=p%4294967296:=by simp[IntKind.wrap,IntKind.bits,IntKind.signed]
def nO(p:Int):IntKind.u64.wrap p=p%18446744073709551616:=by simp[IntKind.wrap,IntKind.bits,IntKind.signed]
def lg{k:IntKind}{p:Int}[hs:nk P t k][hd:nk P t' .u32](hx:aw fr x=some (.int k p)):Yd P C fr own G ⟨dst, .convert t t' x,ty',pos,af,gd⟩ (.int .u32 (p%4294967296)):=by
 have:=Eb (P:=P) (C:=C) (own:=own) (G:=G) (dst:=dst) (ty':=ty') (pos:=pos) (af:=af) (gd:=gd) (t:=t) (t':=t') hx;rwa [qG] at this
def A4{k:IntKind}{p q:Int}(hx:aw fr x=some (.int k p))(hy:aw fr y=some (.int k q))(h0:0<=p)(h:q≠0):Yd P C fr own G ⟨dst, .binOp .rem t x y t',ty',pos,af,gd⟩ (.int k (p%q)):=by
 have:=QB (P:=P) (C:=C) (own:=own) (G:=G) (dst:=dst) (ty':=ty') (pos:=pos) (af:=af) (gd:=gd) (t:=t) (t':=t') hx hy h;rwa [Int.tmod_eq_emod_of_nonneg h0] at this
def AZ{p q:Int}(hx:aw fr x=some (.int .u64 p))(hy:aw fr y=some (.int .u64 q))(h0:0<=p)(h1:p<=18446744073709551615)(h:0<q):Yd P C fr own G ⟨dst, .binOp .quo t x y t',ty',pos,af,gd⟩ (.int .u64 (p/q)):=by
 have:=OF (P:=P) (C:=C) (own:=own) (G:=G) (dst:=dst) (ty':=ty') (pos:=pos) (af:=af) (gd:=gd) (t:=t) (t':=t') hx hy (by omega);rw[Int.tdiv_eq_ediv_of_nonneg h0,nO,Int.emod_eq_of_lt (Int.ediv_nonneg h0 (by omega)) (by have:=Int.ediv_le_self q h0;omega)] at this;exact this
def mz{Q:Exit->Act->World->Prop}{p:Prop}{inst:Decidable p}{c:Operand}{x y:Code}(hc:aw fr c=some (.bool (@decide p inst)))(h2: ¬p->St C n fr own G (y.wp P Q))(h1:p->St C n fr own G (x.wp P Q)):
  St C n fr own G ((Code.cond c x y).wp P Q):=f8 hc h1 h2
end
end Go.Sx
end
