import Derived.Test.YtliglnbeohlnnaaGreatDoorMq1
import Derived.Test.YtliglnbeohlnnaaGreatDoorProg
import Derived.Shelf.Small.Bits
import Derived.Shelf.Strconv.Itoa0
import Derived.Shelf.Strconv.Itoa1
import Derived.Shelf.LaysM
import Derived.Shelf.Strconv.Itoa2
import Derived.Shelf.Strconv.Itoa3
import Derived.Shelf.Bits.Mul64
import Derived.Scope
set_option linter.all false
set_option maxRecDepth 100000
section
namespace Go.Sx
open Go
variable {P:Program}{t t' ty' ty:TypeId}{d n b f off ft k m e s by_ len cap l2 c2 cap2 i j:Nat}{C:aF}{fr:Fr}{own' own1 own0:List aB}{G G0 A:Gh}{Φ K:Act->World->Prop}{dst:Option Nat}{pos:String}{af:Array Edge}{x y:Operand}{w:World}{p ad ad2:Option Addr}{q lo c:Bool}{v z:Value}{l out ys xs rest:List Value}{o:Oper}{ops:Array Oper}{Q:Exit->Act->World->Prop}{fin:Nat->Bool}{op:Op}
def HJ{d:TypeDesc}(h:P.underlying t=some d)(w:World):(underlying t).run P w= .ok d w:=by
 simp[underlying,program,Sem.run_bind,Sem.run,h,run_pure]
class JQ (P:Program) (t:TypeId):Prop where u: ∀w,(underlying t).run P w= .ok .bool w
class Hp (P:Program) (t:TypeId):Prop where u: ∃e,∀w,(underlying t).run P w= .ok (.pointer e) w
class KZ (P:Program) (t:TypeId):Prop where u: ∃ms,∀w,(underlying t).run P w= .ok (.interface ms) w
class K5 (P:Program) (t:TypeId) (f:Nat) (off ft:outParam Nat):Prop where
 u: ∃fs fd,(∀w,(underlying t).run P w= .ok (.struct fs) w)/\fs[f]? =some fd/\fd.offset=off/\fd.type=ft
class j0 (P:Program) (t:TypeId):Prop where
 un: ∃e,P.underlying t=some (.slice e)
section
variable {own:List aB}
variable {gd:Option (Nat×Bool)}
def ta{p q:Value}{b:Bool}(h:(Op.equalIn (9999+1) t p q).run P w= .ok b w):(Op.equal t p q).run P w= .ok b w:=h
theorem okm{p:Prop}(h:p:=by rw[aP h2];exact h3):p:=h
def aJl[hT:JQ P t]{p:Bool}(hx:aD fr x=some (.bool p))(hy:aD fr y=some (.bool q)):Yd P C fr own G ⟨dst, .binOp .eql t x y t',ty',pos,af,gd⟩ (.bool (p==q)):=by
 intro a w hf hh;simp only[execOp,bC hf hx,bC hf hy];have h1:(Op.equal t (.bool p) (.bool q)).run P w= .ok (p==q) w:=ta (by unfold Op.equalIn;rw[aP (hT.u w)];rfl);have h2:(eqGuard .eql t x y (.bool p) (.bool q)).run P w= .ok () w:=J;have h3:(binOp .eql t (.bool p) (.bool q)).run P w= .ok (.bool (p==q)) w:=by simp only[binOp];rw[aP h1];rfl
 exact c7 okm
def aIy[hT:JQ P t]{p:Bool}(hx:aD fr x=some (.bool p))(hy:aD fr y=some (.bool q)):Yd P C fr own G ⟨dst, .binOp .neq t x y t',ty',pos,af,gd⟩ (.bool (!(p==q))):=by
 intro a w hf hh;simp only[execOp,bC hf hx,bC hf hy];have h1:(Op.equal t (.bool p) (.bool q)).run P w= .ok (p==q) w:=ta (by unfold Op.equalIn;rw[aP (hT.u w)];rfl);have h2:(eqGuard .neq t x y (.bool p) (.bool q)).run P w= .ok () w:=J;have h3:(binOp .neq t (.bool p) (.bool q)).run P w= .ok (.bool (!(p==q))) w:=by simp only[binOp];rw[aP h1];rfl
 exact c7 okm
theorem ozH{p:Prop}(h:p:=by unfold Op.equalIn;rw[aP (he w)];cases p<;>rfl):p:=h
def EM[hT:Hp P t](hx:aD fr x=some (.pointer p))(hy:aD fr y=some (.pointer none)):Yd P C fr own G ⟨dst, .binOp .eql t x y t',ty',pos,af,gd⟩ (.bool p.isNone):=by
 obtain⟨e,he⟩:=hT.u;intro a w hf hh;simp only[execOp,bC hf hx,bC hf hy];have h1:(Op.equal t (.pointer p) (.pointer none)).run P w= .ok p.isNone w:=ta ozH;have h2:(eqGuard .eql t x y (.pointer p) (.pointer none)).run P w= .ok () w:=by cases p<;>rfl
 have h3:(binOp .eql t (.pointer p) (.pointer none)).run P w= .ok (.bool p.isNone) w:=by cases p<;>(simp only[binOp];rw[aP h1];rfl)
 exact c7 okm
def Ey[hT:Hp P t](hx:aD fr x=some (.pointer p))(hy:aD fr y=some (.pointer none)):Yd P C fr own G ⟨dst, .binOp .neq t x y t',ty',pos,af,gd⟩ (.bool (!p.isNone)):=by
 obtain⟨e,he⟩:=hT.u;intro a w hf hh;simp only[execOp,bC hf hx,bC hf hy];have h1:(Op.equal t (.pointer p) (.pointer none)).run P w= .ok p.isNone w:=ta ozH;have h2:(eqGuard .neq t x y (.pointer p) (.pointer none)).run P w= .ok () w:=by cases p<;>rfl
 have h3:(binOp .neq t (.pointer p) (.pointer none)).run P w= .ok (.bool (!p.isNone)) w:=by cases p<;>(simp only[binOp];rw[aP h1];rfl)
 exact c7 okm
theorem okg{p:Prop}(h:p:=by unfold Op.equalIn;rw[aP (he w)];rfl):p:=h
theorem ozg{p:Prop}(h:p:=by rw[aP (a:=()) (w':=w) J];simp only[binOp];rw[aP h1];rfl):p:=h
def Q6[hT:KZ P t](hv:v= .nilIface\/ ∃k u,v= .iface k u)(hx:aD fr x=some v):
  Yd P C fr own G ⟨dst, .binOp .eql t x (.const .nilIface) t',ty',pos,af,gd⟩ (.bool (match v with| .nilIface=>true|_=>false)):=by
 obtain⟨e,he⟩:=hT.u;intro a w hf hh;simp only[execOp,bC hf hx,show a.eval (.const .nilIface)= .nilIface from J];rcases hv with rfl|⟨k,u,rfl⟩
 .have h1:(Op.equal t .nilIface .nilIface).run P w= .ok true w:=ta okg
  have h2:(eqGuard .eql t x (.const .nilIface) .nilIface .nilIface).run P w= .ok () w:=by cases x<;>rfl
  exact c7 (by rw[aP h2];simp only[binOp];rw[aP h1];rfl)
 .have h1:(Op.equal t (.iface k u) .nilIface).run P w= .ok false w:=ta okg
  exact c7 ozg
def SH[hT:KZ P t](hv:v= .nilIface\/ ∃k u,v= .iface k u)(hx:aD fr x=some v):
  Yd P C fr own G ⟨dst, .binOp .neq t x (.const .nilIface) t',ty',pos,af,gd⟩ (.bool (match v with| .nilIface=>false|_=>true)):=by
 obtain⟨e,he⟩:=hT.u;intro a w hf hh;simp only[execOp,bC hf hx,show a.eval (.const .nilIface)= .nilIface from J];rcases hv with rfl|⟨k,u,rfl⟩
 .have h1:(Op.equal t .nilIface .nilIface).run P w= .ok true w:=ta okg
  have h2:(eqGuard .neq t x (.const .nilIface) .nilIface .nilIface).run P w= .ok () w:=by cases x<;>rfl
  exact c7 (by rw[aP h2];simp only[binOp];rw[aP h1];rfl)
 .have h1:(Op.equal t (.iface k u) .nilIface).run P w= .ok false w:=ta okg
  exact c7 ozg
def Wq{cs:List Value}[hF:K5 P t f off ft][hA:ll P ft k](hx:aD fr x=some (.agg ⟨cs⟩))(hl:cw cs off k=some l):Yd P C fr own G ⟨dst, .field t x f,ty',pos,af,gd⟩ (.agg ⟨l⟩):=by
 obtain⟨fs,fd,h1,h2,h3,h4⟩:=hF.u;intro a w hf hh;simp only[execOp,bC hf hx];have:(Instr.field t (.agg ⟨cs⟩) f).run P w= .ok (.agg ⟨l⟩) w:=by
  unfold Instr.field;rw[aP (h1 w)];simp only[h2,h3,h4,asAgg];rw[aP (run_pure _ _ _)];unfold part;rw[aP (hA.agg w)];simp only[if_true];rw[aP (hA.siz w)];obtain⟨k1,k2⟩:=rI _ _ _ _ hl;have:(⟨cs⟩:Array Value).extract off (off+k)=⟨l⟩:=by
   apply Array.ext';rw[Array.toList_extract];apply lR;intro i;rw[List.extract_eq_take_drop,pJ];split
   .rw[mQ];exact k2 i we
   .exact(dT (show l.length<=i by omega)).symm
  rw[this];rfl
 exact c7 this
def Vk{cs:List Value}[hF:K5 P t f off ft][hA:kC P ft](hx:aD fr x=some (.agg ⟨cs⟩))(hl:cs[off]? =some v):Yd P C fr own G ⟨dst, .field t x f,ty',pos,af,gd⟩ v:=by
 obtain⟨fs,fd,h1,h2,h3,h4⟩:=hF.u;intro a w hf hh;simp only[execOp,bC hf hx];have:(Instr.field t (.agg ⟨cs⟩) f).run P w= .ok v w:=by
  unfold Instr.field;rw[aP (h1 w)];simp only[h2,h3,h4,asAgg];rw[aP (run_pure _ _ _)];unfold part;rw[aP (hA.agg w)];have:(⟨cs⟩:Array Value)[off]? =some v:=by simpa using hl
  simp only[lQ,if_false,this];rfl
 exact c7 this
class Ap (P:Program) (t:TypeId) (offs:outParam (List (Nat×Nat))):Prop where
 u: ∃fs:Array Field,(∀w,(underlying t).run P w= .ok (.struct fs) w)/\(∀w,(fs.mapM (m:=Sem) fun f=>do pure (f.offset,<-sizeOf f.type)).run P w= .ok ⟨offs⟩ w)
def vr(fr:Fr)(offs:List (Nat×Nat)):List Value->List (Nat×Operand)->Option (List Value)
 |cs,[]=>some cs
 |cs,(i,x)::r=>match offs[i]?,aD fr x with
  |some (off,k),some v=>if(aG v).length=k/\off+k<=cs.length then vr fr offs (cH cs off (aG v)) r else none
  |_,_=>none
def Fo: ∀(vs:List Value) (cs:Array Value) (off j:Nat),(vs.zipIdx j).foldl (fun cs (c,j)=>cs.setIfInBounds (off+j) c) cs=⟨cH cs.toList (off+j) vs⟩
 |[],cs,off,j=>rfl
 |v::vs,cs,off,j=>by
  simp only[List.zipIdx_cons,iK];rw[Fo vs _ off (j+1)];simp[cH,lL]
theorem okB{p:Prop}(h:p:=by simp only[iV,decide_eq_true_eq,not_or];exact⟨by simpa using h1,by simpa using h2⟩):p:=h
def K2{a:Act}(hf:l6 fr a)(offs:List (Nat×Nat)): ∀(ps:List (Nat×Operand)) (cs out:List Value),vr fr offs cs ps=some out->
  Instr.fill ((⟨offs⟩:Array (Nat×Nat))[·]?) ⟨cs⟩ (ps.map fun(i,x)=>(i,a.eval x))=some ⟨out⟩
 |[],cs,out,h=>by simp only[vr] at h;cases h;rfl
 |(i,x)::ps,cs,out,h=>by
  simp only[vr] at h;split at h
  .rename_i off k v ho hv
   split at h
   .rename_i hc
    simp only[bV,Instr.fill];have:(⟨offs⟩:Array (Nat×Nat))[i]? =some (off,k):=by simpa using ho
    simp only[this,bC hf hv,pO];have h1: ¬((⟨aG v⟩:Array Value).size≠k):=by simp[hc.1]
    have h2: ¬(off+(⟨aG v⟩:Array Value).size>(⟨cs⟩:Array Value).size):=by simp only[pM,hc.1];omega
    rw[if_neg okB];have e:=Fo (aG v) ⟨cs⟩ off 0;have e':(⟨aG v⟩:Array Value).zipIdx.foldl (fun cs (c,j)=>cs.setIfInBounds (off+j) c) (⟨cs⟩:Array Value)=⟨cH cs off (aG v)⟩:=by
     rw[<-rV,tL];simpa using e
    rw[e'];exact K2 hf offs ps _ _ h
   .cases h
  .cases h
def xZ{parts:Array (Nat×Operand)}{offs:List (Nat×Nat)}[hT:Ap P t offs][hz:gv P t z](hb:vr fr offs (aG z) parts.toList=some out):Yd P C fr own G ⟨dst, .build t parts,ty',pos,af,gd⟩ (.agg ⟨out⟩):=by
 obtain⟨fs,h1,h2⟩:=hT.u;intro a w hf hh;simp only[execOp];have:(Instr.build t (parts.map fun(i,x)=>(i,a.eval x))).run P w= .ok (.agg ⟨out⟩) w:=by
  unfold Instr.build;rw[aP (hz.zero w),pO];rw[aP (h1 w)];simp only[];rw[aP (h2 w)];have:=K2 hf offs parts.toList _ _ hb;simp only[qX,this];rfl
 exact c7 this
end
def dH(z:Value)(k:Nat):List Value:=(List.replicate k (aG z)).flatten
def GF{α:Type}(l:List α): ∀(k i:Nat),i<k*l.length->(List.replicate k l).flatten[i]? =l[i%l.length]?
 |0,i,h=>by omega
 |k+1,i,h=>by
  rw[tM,rS];by_cases hi:i<l.length
  .rw[iQ hi,kQ hi]
  .rw[jZ we,GF l k (i-l.length) (by rw[dY] at h;omega)]
   rw[Nat.mod_eq_sub_mod (Nat.ge_of_not_lt hi)]
def pu(z:Value)(k:Nat):(dH z k).length=k*(aG z).length:=by simp[dH]
theorem omV{p:Prop}(h:p:=by simpa using hi):p:=h
def AZ(h:m=k*(aG z).length):((Array.range m).map fun i=>(⟨aG z⟩:Array Value)[i%(⟨aG z⟩:Array Value).size]!)=⟨dH z k⟩:=by
 subst h;apply Array.ext';apply lR;intro i;simp only[qX,Array.toList_range,bL,pM];by_cases hi:i<k*(aG z).length
 .rw[qU hi]
  simp only[lM];have h1:=GF (aG z) k i hi;have hpos:0<(aG z).length:=by
   rcases fL (aG z).length with h|h
   .rw[h,uK] at hi;omega
   .exact h
  have hm:=dK i hpos;show _=(dH z k)[i]?;unfold dH;rw[h1];simp[hm]
 .rw[dT omV]
  rw[dT (by show(dH z k).length<=i;rw[pu];omega)];rfl
section
variable {own:List aB}
variable {gd:Option (Nat×Bool)}
def SC[hT:cD P t e s by_](w:World): ∃i:TypeInfo,(typeInfo e).run P w= .ok i w/\i.bytes=by_:=by
 obtain⟨i,h1,_,h2⟩:=hT.info;exact⟨i,by simp[typeInfo,program,Sem.run_bind,Sem.run,h1,run_pure],h2⟩
theorem okS{p:Prop}(h:p:=by simp[IntKind.min,IntKind.max,IntKind.signed,IntKind.bits];omega):p:=h
def Jh[hT:cD P t e s by_]{z:Value}[hz:gv P e z]{k k':IntKind}{l:Int}(hx:aD fr x=some (.int k l))(hy:aD fr y=some (.int k' l))(h0:0<=l)(hb:by_*l<=2^47)(hl:l<=2^60)(hs:(aG z).length=s)(hd:cg n dst=true)
  (h: ∀b,St C n (put fr dst (.slice (some ⟨b,0,none⟩) l.toNat l.toNat)) (⟨b,dH z l.toNat,e,true⟩::own) G Φ):
  Ch P C n fr own G ⟨dst, .makeSlice t x y,ty',pos,af,gd⟩ Φ:=by
 intro a w Q rl;have h1:(Instr.makeSlice t (a.eval x) (a.eval y)).run P w= .ok (.slice (some ⟨w.heap.size,0,none⟩) l.toNat l.toNat) (w.alloc (.cells ⟨dH z l.toNat⟩ e)):=by
  obtain⟨i,hi,hib⟩:=SC (P:=P) (t:=t) (e:=e) (s:=s) (by_:=by_) w;rw[bC rl.fr hx,bC rl.fr hy];unfold Instr.makeSlice;rw[aP (hT.u w)];simp only[asInt,asIntOf];rw[aP (a:=l) (w':=w) J,aP (a:=l) (w':=w) J,aP hi,hib];have hw:IntKind.i64.wrap l=l:=uE okS;simp only[hw];have c1: ¬((by_:Int)*l>2^48):=by
   have:(2:Int)^47<=2^48:=by decide
   omega
  have c2:(decide (l<0)||decide ((by_:Int)*l>2^48))=false:=by simp[c1];omega
  simp only[c2,Int.lt_irrefl,decide_false,Bool.or_false,Bool.false_or];have c3:decide (l<0)=false:=by simp;omega
  simp only[c3,lQ,if_false,gt_iff_lt,Int.lt_irrefl,decide_false,Bool.or_false];have hr: ¬(l.toNat*by_>roomBytes):=by
   unfold roomBytes;have:((l.toNat*by_:Nat):Int)=by_*l:=by rw[jQ,qT h0,uV]
   have h47:((2^47:Nat):Int)=2^47:=by decide
   omega
  unfold askRoom;simp only[hr,if_false];rw[aP (run_pure _ _ _),aP (hT.siz w)];have hn:l.toNat*s=l.toNat*(aG z).length:=by rw[hs]
  by_cases h00:l.toNat*s=0
  .rw[if_pos h00,aP (run_pure _ _ _)]
   have e0:dH z l.toNat=[]:=cJ (by rw[pu,hs];exact h00);rw[h00,e0,show(Array.range 0)= #[] from J,Array.map_empty];rfl
  .rw[if_neg h00,aP (hz.zero w),pO]
   rw[aP (run_pure _ _ _),AZ hn];rfl
 refine(fun hk=>?_:Φ (a.put dst (.slice (some ⟨w.heap.size,0,none⟩) l.toNat l.toNat)) (w.alloc (.cells ⟨dH z l.toNat⟩ e))->_) (h w.heap.size _ _ ((rl.heap (rl.h.alloc _ _)).put _ hd));exact kO (v:= .slice (some ⟨w.heap.size,0,none⟩) l.toNat l.toNat) (c7 h1) hk
def Sm: ∀(vs cs pre:List Value),vs.length=cs.length->cH (pre++cs) pre.length vs=pre++vs
 |[],cs,pre,h=>by have:cs=[]:=cJ h.symm;subst this;rfl
 |v::vs,[],pre,h=>by simp at h
 |v::vs,c::cs,pre,h=>by
  simp only[cH,nM _ _ (bJ _),pK,List.set_cons_zero];have:=Sm vs cs (pre++[v]) omE;simpa using this
def QF[hT:cD P t e s by_][hz:gv P e z](hx:aD fr x=some v)(hs:(aG z).length=s)(hv:(aG v).length=s)(hsm:s<=1000)(hs0:0<s)(hd:cg n dst=true)
  (h: ∀b,St C n (put fr dst (.slice (some ⟨b,0,none⟩) 1 1)) (⟨b,aG v,e,true⟩::own) G Φ):
  Ch P C n fr own G ⟨dst, .buildSlice t 1 #[(0,x)],ty',pos,af,gd⟩ Φ:=by
 intro a w Q rl;have h1:(Instr.buildSlice t 1 #[(0,v)]).run P w= .ok (.slice (some ⟨w.heap.size,0,none⟩) 1 1) (w.alloc (.cells ⟨aG v⟩ e)):=by
  unfold Instr.buildSlice;rw[aP (hT.u w)];simp only[];rw[aP (hT.siz w)];have c1: ¬(1*s>2^24):=by omega
  have c2: ¬(1*s=0):=by omega
  simp only[c1,if_false];rw[if_neg c2,aP (hz.zero w),pO,aP (run_pure _ _ _)];rw[AZ (k:=1) (by rw[hs])];have hzl:(dH z 1).length=s:=by rw[pu,hs,nU]
  have hf:Instr.fill (fun i=>some (i*s,s)) ⟨dH z 1⟩ [(0,v)]=some ⟨aG v⟩:=by
   simp only[Instr.fill,pO];rw[if_neg (by simp[hv,hzl])];have e1:=Fo (aG v) ⟨dH z 1⟩ (0*s) 0;have e2:(⟨aG v⟩:Array Value).zipIdx.foldl (fun cs (c,j)=>cs.setIfInBounds (0*s+j) c) (⟨dH z 1⟩:Array Value)=⟨aG v⟩:=by
    rw[<-rV,tL];have e3:=Sm (aG v) (dH z 1) [] (by rw[hv,hzl]);simp only[kV,fX] at e3;rw[kS,eM] at e1;rw[e3] at e1;simpa using e1
   rw[e2]
  simp only[hf];rfl
 refine kO (v:= .slice (some ⟨w.heap.size,0,none⟩) 1 1) (w':=w.alloc (.cells ⟨aG v⟩ e)) ?_ (h w.heap.size _ _ ((rl.heap (rl.h.alloc _ _)).put _ hd));simp only[execOp,iN,bV,iU,bC rl.fr hx];exact c7 h1
end
section
variable {own:List aB}
variable {gd:Option (Nat×Bool)}
def vL(fr:Fr)(s:Nat):List Value->List (Nat×Operand)->Option (List Value)
 |cs,[]=>some cs
 |cs,(i,x)::r=>match aD fr x with
  |some v=>if(aG v).length=s/\i*s+s<=cs.length then vL fr s (cH cs (i*s) (aG v)) r else none
  |none=>none
def LX{a:Act}(hf:l6 fr a)(s:Nat): ∀(ps:List (Nat×Operand)) (cs out:List Value),vL fr s cs ps=some out->
  Instr.fill (fun i=>some (i*s,s)) ⟨cs⟩ (ps.map fun(i,x)=>(i,a.eval x))=some ⟨out⟩
 |[],cs,out,h=>by simp only[vL] at h;cases h;rfl
 |(i,x)::ps,cs,out,h=>by
  simp only[vL] at h;split at h
  .rename_i v hv
   split at h
   .rename_i hc
    simp only[bV,Instr.fill,bC hf hv,pO];have h1: ¬((⟨aG v⟩:Array Value).size≠s):=by simp[hc.1]
    have h2: ¬(i*s+(⟨aG v⟩:Array Value).size>(⟨cs⟩:Array Value).size):=by simp only[pM,hc.1];omega
    rw[if_neg okB];have e:=Fo (aG v) ⟨cs⟩ (i*s) 0;have e':(⟨aG v⟩:Array Value).zipIdx.foldl (fun cs (c,j)=>cs.setIfInBounds (i*s+j) c) (⟨cs⟩:Array Value)=⟨cH cs (i*s) (aG v)⟩:=by
     rw[<-rV,tL];simpa using e
    rw[e'];exact LX hf s ps _ _ h
   .cases h
  .cases h
def TM[hT:cD P t e s by_][hz:gv P e z]{parts:Array (Nat×Operand)}(hs:(aG z).length=s)(hb:vL fr s (dH z len) parts.toList=some out)(hsm:Nat.ble (len*s) 1000=true)(hs0:Nat.blt 0 (len*s)=true)(hd:cg n dst=true)
  (h: ∀b,St C n (put fr dst (.slice (some ⟨b,0,none⟩) len len)) (⟨b,out,e,true⟩::own) G Φ):
  Ch P C n fr own G ⟨dst, .buildSlice t len parts,ty',pos,af,gd⟩ Φ:=by
 intro a w Q rl;have hsm':len*s<=1000:=by simpa using hsm
 have hs0':0<len*s:=by simpa[lU] using hs0
 have h1:(Instr.buildSlice t len (parts.map fun(i,x)=>(i,a.eval x))).run P w= .ok (.slice (some ⟨w.heap.size,0,none⟩) len len) (w.alloc (.cells ⟨out⟩ e)):=by
  unfold Instr.buildSlice;rw[aP (hT.u w)];simp only[];rw[aP (hT.siz w)];have c1: ¬(len*s>2^24):=by omega
  have c2: ¬(len*s=0):=by omega
  simp only[c1,if_false];rw[if_neg c2,aP (hz.zero w),pO,aP (run_pure _ _ _)];rw[AZ (k:=len) (by rw[hs])];have hf:=LX rl.fr s parts.toList _ _ hb;simp only[qX,hf];rfl
 refine kO (v:= .slice (some ⟨w.heap.size,0,none⟩) len len) (w':=w.alloc (.cells ⟨out⟩ e)) ?_ (h w.heap.size _ _ ((rl.heap (rl.h.alloc _ _)).put _ hd));simp only[execOp];exact c7 h1
def MH[hT:cD P t e s by_](hd:cg n dst=true)(h: ∀b,St C n (put fr dst (.slice (some ⟨b,0,none⟩) 0 0)) (⟨b,[],e,true⟩::own) G Φ):
  Ch P C n fr own G ⟨dst, .buildSlice t 0 #[],ty',pos,af,gd⟩ Φ:=by
 intro a w Q rl;have h1:(Instr.buildSlice t 0 #[]).run P w= .ok (.slice (some ⟨w.heap.size,0,none⟩) 0 0) (w.alloc (.cells ⟨[]⟩ e)):=by
  unfold Instr.buildSlice;rw[aP (hT.u w)];simp only[];rw[aP (hT.siz w)];simp only[kS,gt_iff_lt,pU,if_false,if_true];rw[aP (run_pure _ _ _),show(Array.range 0)= #[] from J,Array.map_empty];rfl
 refine kO (v:= .slice (some ⟨w.heap.size,0,none⟩) 0 0) (w':=w.alloc (.cells ⟨[]⟩ e)) ?_ (h w.heap.size _ _ ((rl.heap (rl.h.alloc _ _)).put _ hd));simp only[execOp,iN,iU];exact c7 h1
theorem ozy{p:Prop}(h:p:=by unfold Op.equalIn;rw[aP (hT.u w)];cases ad<;>rfl):p:=h
def MB[hT:cD P t e s by_](hx:aD fr x=some (.slice ad len cap))(hy:aD fr y=some (.slice none l2 c2)):Yd P C fr own G ⟨dst, .binOp .eql t x y t',ty',pos,af,gd⟩ (.bool ad.isNone):=by
 intro a w hf hh;simp only[execOp,bC hf hx,bC hf hy];have h1:(Op.equal t (.slice ad len cap) (.slice none l2 c2)).run P w= .ok ad.isNone w:=ta ozy;have h2:(eqGuard .eql t x y (.slice ad len cap) (.slice none l2 c2)).run P w= .ok () w:=J;have h3:(binOp .eql t (.slice ad len cap) (.slice none l2 c2)).run P w= .ok (.bool ad.isNone) w:=by simp only[binOp];rw[aP h1];rfl
 exact c7 okm
def aH1[hT:cD P t e s by_](hx:aD fr x=some (.slice ad len cap))(hy:aD fr y=some (.slice none l2 c2)):Yd P C fr own G ⟨dst, .binOp .neq t x y t',ty',pos,af,gd⟩ (.bool (!ad.isNone)):=by
 intro a w hf hh;simp only[execOp,bC hf hx,bC hf hy];have h1:(Op.equal t (.slice ad len cap) (.slice none l2 c2)).run P w= .ok ad.isNone w:=ta ozy;have h2:(eqGuard .neq t x y (.slice ad len cap) (.slice none l2 c2)).run P w= .ok () w:=J;have h3:(binOp .neq t (.slice ad len cap) (.slice none l2 c2)).run P w= .ok (.bool (!ad.isNone)) w:=by simp only[binOp];rw[aP h1];rfl
 exact c7 okm
end
def ld: ∀(cs:List Value) (off k:Nat),off+k<=cs.length->cw cs off k=some ((cs.drop off).take k)
 |cs,0,0,_=>by cases cs<;>rfl
 |[],0,k+1,h=>by simp at h
 |v::t,0,k+1,h=>by
  simp only[cw,ld t 0 k (by simp at h;omega)];simp
 |[],_+1,k,h=>by simp at h
 |_::t,off+1,k,h=>by
  simp only[cw,ld t off k (by simp at h;omega)];simp
section
variable {own:List aB}
variable {gd:Option (Nat×Bool)}
def m8(P:Program)(C:aF)(own:List aB)(G:Gh)(s m:Nat)(v:Value)(ys:List Value):Prop:=
 ∀w,bH C own G w->(Builtin.firstCells s m v).run P w= .ok ⟨ys⟩ w
def Cp{cs:List Value}{fz:Nat×Nat}(h:w.heap[b]? =some (.cells ⟨cs⟩ ty fz))(hl:cw cs off k=some l):(loadCells ⟨b,off,none⟩ k).run P w= .ok ⟨l⟩ w:=by
 obtain⟨h1,h2⟩:=rI _ _ _ _ hl;unfold loadCells;rw[Gw (l:=l) k 0 #[] (fun j hj=>by rw[DG h];simpa using h2 j hj) we];simp[<-h1]
def zN{cs:List Value}(ho:i7 own b cs ty lo)(hl:cw cs off (m*s)=some ys):m8 P C own G s m (.slice (some ⟨b,off,none⟩) len cap) ys:=
 fun w h=>Cp (h.hown _ ho.mem).1 hl
def MQ{cs:List Value}(hg:G b=some cs)(hl:cw cs off (m*s)=some ys):m8 P C own G s m (.slice (some ⟨b,off,none⟩) len cap) ys:=
 fun w h=>by obtain⟨ty,fz,hb⟩:=h.sub _ _ hg;exact Cp hb hl
def vn:m8 P C own G s 0 (.slice ad len cap) []:=fun w _=>by
 cases ad with
 |none=>rfl
 |some a=>unfold Builtin.firstCells loadCells;simp[loadCellsFrom,run_pure]
def Wn(z:Value)(k:Nat):Builtin.zeroCells ⟨aG z⟩ k=⟨dH z k⟩:=by
 unfold Builtin.zeroCells;exact AZ J
def Hs{w':World}[hT:cD P t e s by_][hN:j0 P t'][hz:gv P e z]
  (hsx:(Builtin.firstCells s len (.slice ad len cap)).run P w.drew= .ok ⟨xs⟩ w.drew)(hsy:(Builtin.firstCells s m (.slice ad2 m cap2)).run P w.drew= .ok ⟨ys⟩ w.drew)
  (hneed:cap<len+m)(hby:0<by_)(hb:(len+m)*by_<=140737488355328):
  (Builtin.append_ #[t,t'] ty' #[.slice ad len cap, .slice ad2 m cap2]).run P w=
   .ok (.slice (some ⟨w.heap.size,0,none⟩) (len+m) (grownCap w (len+m) cap e)) (w.drew.alloc (.cells ⟨xs++ys++dH z (grownCap w (len+m) cap e-(len+m))⟩ e)):=by
 obtain⟨d,hd1⟩:=hN.un;obtain⟨i,hi,his,hib⟩:=hT.info;obtain⟨i',hi',hiz⟩:=hz.info;rw[hi] at hi';cases hi';have hfit:=growslice_fits (old:=cap) (need:=len+m) (bytes:=by_) hneed hb;have hlen:len+m<=140737488355328:=cN (mZ _ hby) hb;have hn: ¬(len+m<=cap):=by omega
 have h63': ¬(9223372036854775807<((len:Int)+(m:Int))):=by omega
 have h48': ¬(281474976710656<Builtin.nextslicecap (len+m) cap*i.bytes):=by rw[hib];omega
 subst his;simp[Builtin.append_,run_underlying hT.un,run_underlying hd1,sizeOf,typeInfo,zeroValue,hi,hiz,Builtin.lenOf,hn,h63',h48',Question.forced,hsx,hsy,newRow,grownCap];congr 2;apply Array.ext';rw[pO,Wn];simp[dV]
def Fd[hT:cD P t e s by_][hN:j0 P t'][hz:gv P e z]
  (hx:aD fr x=some (.slice ad len cap))(hy:aD fr y=some (.slice ad2 m cap2))(hsx:m8 P C own G s len (.slice ad len cap) xs)(hsy:m8 P C own G s m (.slice ad2 m cap2) ys)
  (hneed:cap<len+m)(hby:0<by_)(hb:(len+m)*by_<=140737488355328)(hd:cg n dst=true)
  (h: ∀b cap',len+m<=cap'->St C n (put fr dst (.slice (some ⟨b,0,none⟩) (len+m) cap')) (⟨b,xs++ys++dH z (cap'-(len+m)),e,true⟩::own) G Φ):
  Ch P C n fr own G ⟨dst, .call ⟨.builtin .append, #[x,y], #[t,t']⟩,ty',pos,af,gd⟩ Φ:=by
 intro a w Q rl;have hcap:len+m<=grownCap w (len+m) cap e:=by unfold grownCap;simp only[Question.cut];omega
 have hrun:=Hs (P:=P) (t:=t) (t':=t') (ty':=ty') (w:=w) (w':=w) (hsx _ rl.h.drew) (hsy _ rl.h.drew) hneed hby hb;refine kO (v:= .slice (some ⟨w.heap.size,0,none⟩) (len+m) (grownCap w (len+m) cap e)) (w':=w.drew.alloc (.cells ⟨xs++ys++dH z (grownCap w (len+m) cap e-(len+m))⟩ e)) ?_ ?_
 .simp only[execOp,resolve,iN,bV,iU,bC rl.fr hx,bC rl.fr hy]
  exact c7 hrun
 .exact h w.heap.size _ hcap _ _ ((rl.heap ((rl.h.drew).alloc _ _)).put _ hd)
def jE.perm{o:aB}(h:jE own o own1):own.Perm (o::own1):=by
 induction h with
 |hd o t=>exact List.Perm.refl _
 |tl x t t' o h ih=>exact(List.Perm.cons x ih).trans (List.Perm.swap _ _ _)
def Kn[hT:cD P t e s by_][hN:j0 P t']{cs:List Value}
  (hb:w.heap[b]? =some (.cells ⟨cs⟩ e (0,0)))(hcs:cs.length=cap*s)(hsy:(Builtin.firstCells s m (.slice ad2 m cap2)).run P w= .ok ⟨ys⟩ w)(hys:ys.length=m*s)(hf: ∀v∈ys,flat v=true)
  (hneed:len+m<=cap):
  (Builtin.append_ #[t,t'] ty' #[.slice (some ⟨b,0,none⟩) len cap, .slice ad2 m cap2]).run P w=
   .ok (.slice (some ⟨b,0,none⟩) (len+m) cap) (ig w b (.cells ⟨cH cs (len*s) ys⟩ e (0,0))):=by
 obtain⟨d,hd1⟩:=hN.un;obtain⟨i,hi,his,hib⟩:=hT.info;subst his;have hl:len*i.size+ys.length<=cs.length:=by rw[hys,hcs,<-dY];exact bR _ hneed
 have hst:=BF (P:=P) ys w (len*i.size) 0 cs hf hb we;rw[gK] at hst;simp[Builtin.append_,run_underlying hT.un,run_underlying hd1,sizeOf,typeInfo,hi,Builtin.lenOf,hneed,hsy,tk,hst]
def BC: ∀(vs cs:List Value) (off:Nat),(cH cs off vs).length=cs.length
 |[],cs,off=>rfl
 |v::vs,cs,off=>by simp[cH,BC vs]
def rE: ∀(vs cs:List Value) (off:Nat),off+vs.length<=cs.length->cH cs off vs=cs.take off++vs++cs.drop (off+vs.length)
 |[],cs,off,h=>by simp[cH]
 |v::vs,cs,off,h=>by
  simp only[bZ] at h;rw[cH,rE vs _ _ omp];rw[List.take_set,tN we];have h1:(cs.take (off+1)).set off v=cs.take off++[v]:=by
   rw[jY we,nM _ _ omp];simp[kW (by omega:off<=cs.length)]
  rw[h1];simp only[bZ,dV,iJ,kV];congr 4;omega
def Nz[hT:cD P t e s by_][hN:j0 P t'][hz:gv P e z]
  (hx:aD fr x=some (.slice (some ⟨b,0,none⟩) len cap))(hy:aD fr y=some (.slice ad2 m cap2))(hr:jE own ⟨b,xs++rest,e,true⟩ own1)(hxs:xs.length=len*s)(hcap:xs.length+rest.length=cap*s)(hlc:len<=cap)
  (hsy:m8 P C own G s m (.slice ad2 m cap2) ys)(hys:ys.length=m*s)(hf: ∀v∈ys,flat v=true)
  (hby:0<by_)(hb:(len+m)*by_<=140737488355328)(hzs:(aG z).length=s)(hd:cg n dst=true)
  (h: ∀b cap' rest',len+m<=cap'->rest'.length+(len+m)*s=cap'*s->St C n (put fr dst (.slice (some ⟨b,0,none⟩) (len+m) cap')) (⟨b,xs++ys++rest',e,true⟩::own1) G Φ):
  Ch P C n fr own G ⟨dst, .call ⟨.builtin .append, #[x,y], #[t,t']⟩,ty',pos,af,gd⟩ Φ:=by
 intro a w Q rl;have hp:=rl.h.perm hr.perm;have hblk:=(hp.hown _ aZ).1;simp only[] at hblk;by_cases hneed:len+m<=cap
 .have hcs:(xs++rest).length=cap*s:=by simp;omega
  have hrun:=Kn (P:=P) (t:=t) (t':=t') (ty':=ty') (w:=w) (len:=len) hblk hcs (hsy w rl.h) hys hf hneed;have hle:len*s+m*s<=cap*s:=by rw[<-dY];exact bR _ hneed
  have hov:cH (xs++rest) (len*s) ys=xs++ys++rest.drop (m*s):=by
   rw[rE _ _ _ (by rw[hys];omega),<-hxs];simp[hys,nT]
  refine kO (v:= .slice (some ⟨b,0,none⟩) (len+m) cap) (w':=ig w b (.cells ⟨cH (xs++rest) (len*s) ys⟩ e (0,0))) ?_ ?_
  .simp only[execOp,resolve,iN,bV,iU,bC rl.fr hx,bC rl.fr hy]
   exact c7 hrun
  .rw[hov]
   refine h b cap (rest.drop (m*s)) hneed ?_ _ _ ((rl.heap (hp.store (.hd ..))).put _ hd);rw[gW,dY];omega
 .have hx':m8 P C own G s len (.slice (some ⟨b,0,none⟩) len cap) xs:=fun w' hw'=>by
   have hb':=(((hw'.perm hr.perm).hown _ aZ).1);refine Cp hb' ?_;rw[ld _ _ _ omp,<-hxs];simp
  have hcap':len+m<=grownCap w (len+m) cap e:=by unfold grownCap;simp only[Question.cut];omega
  have hrun:=Hs (P:=P) (t:=t) (t':=t') (ty':=ty') (w:=w) (w':=w) (hx' _ rl.h.drew) (hsy _ rl.h.drew) we hby hb;refine kO (v:= .slice (some ⟨w.heap.size,0,none⟩) (len+m) (grownCap w (len+m) cap e)) (w':=w.drew.alloc (.cells ⟨xs++ys++dH z (grownCap w (len+m) cap e-(len+m))⟩ e)) ?_ ?_
  .simp only[execOp,resolve,iN,bV,iU,bC rl.fr hx,bC rl.fr hy]
   exact c7 hrun
  .refine h w.heap.size _ _ hcap' ?_ _ _ ((rl.heap (((hp.drew).drop (nK _ _)).alloc _ _)).put _ hd)
   rw[pu,hzs,<-dY];congr 1;omega
end
section
variable {S:World->Prop}
def u9(ops:Array Oper)(fin:Nat->Bool):List (Nat×Bool)->Array Bool->Bool
 |[],listed=>(Region.ready .any ops listed).isEmpty
 |(i,true)::r,listed=>OY ops fin listed i&&u9 ops fin r (listed.setIfInBounds i true)
 |(i,false)::r,listed=>(Region.ready .any ops listed==[i])&&u9 ops fin r (listed.setIfInBounds i true)
def i6(P:Program)(ops:Array Oper)(Q:Exit->Act->World->Prop)(S:World->Prop)(fin:Nat->Bool):List (Nat×Bool)->Act->World->Prop
 |[],a,w=>Q .normal a w
 |(i,true)::r,a,w=> ∃o v,ops[i]? =some o/\S w/\YieldsIf P ops S o v a/\i6 P ops Q S fin r (a.put o.dst v) w
 |(i,false)::r,a,w=>wpOp P ops Q i (fun a' w'=>(fin i=true\/S w')/\i6 P ops Q S fin r a' w') a w
def AT(hQ: ∀c a d v w,Q (.panic c) (Act.put a d v) w->Q (.panic c) a w): ∀(π:List (Nat×Bool)) (listed:Array Bool) (a:Act) (w:World),u9 ops fin π listed=true->i6 P ops Q S fin π a w-> ∀fuel,π.length<=fuel->vp P ops Q S fin fuel listed a w
 |[],listed,a,w,ho,h,fuel,hf=>by
  have hr:Region.ready .any ops listed=[]:=by simpa[u9] using ho
  cases fuel with
  |zero=>exact⟨hr,h⟩
  |succ k=>exact⟨fun _=>h,by rw[hr];simp⟩
 |(i,true)::r,listed,a,w,ho,h,0,hf=>by simp at hf
 |(i,false)::r,listed,a,w,ho,h,0,hf=>by simp at hf
 |(i,true)::r,listed,a,w,ho,h,fuel+1,hf=>by
  obtain⟨o,v,hoi,hS,hy,hk⟩:=h;simp only[u9,OY,bW] at ho;obtain⟨⟨⟨⟨h1,h2⟩,h3⟩,h4⟩,h5⟩:=ho;obtain⟨h6,h7⟩:=auy h4;exact apW hoi (Region.noSelect_spec h1) (fun c a w=>hQ c a _ _ w) h6 h7 fuel listed a w (Region.free_spec hoi h2) (by simpa using h3) hy hS
   (AT hQ r _ _ _ h5 hk fuel ozD)
 |(i,false)::r,listed,a,w,ho,h,fuel+1,hf=>by
  simp only[u9,bW,beq_iff_eq] at ho;exact Ya ho.1 (wpOp_mono (fun a' w' h'=>⟨h'.1,AT hQ r _ _ _ ho.2 h'.2 fuel ozD⟩) h)
end
section
variable {own:List aB}{π:List (Nat×Bool)}
def dr(fin:Nat->Bool)(π:List (Nat×Bool)){id:Nat}(hm:P.follows .mixedOrders=true)(ho:(u9 ops fin π (Array.replicate ops.size false)&&Nat.ble π.length ops.size)=true)
  (h:St C n fr own G (i6 P ops (gG Q) (HS C own G) fin π)):St C n fr own G ((Code.region id ops true).wp P Q):=by
 simp only[bW] at ho;refine Zw fin hm fun a w rl=>AT (fun _ _ _ _ _ h=>h) π _ a w ho.1 (h a w rl) _ (by simpa using ho.2)
def dy(ho:ops[i]? =some o)(hy: ∀G':Gh,[GE G0 G']->Yd P C fr own0 G' o v)(hg:o.guard=none)(hd:cg n o.dst=true)[hs:mz own0 own][hl:GL G0 G]
  (h:St C n (put fr o.dst v) own G (i6 P ops (gG Q) (HS C own0 G0) fin π)):St C n fr own G (i6 P ops (gG Q) (HS C own0 G0) fin ((i,true)::π)):=
 fun a w rl=>⟨o,v,ho,⟨G,hl.le,rl.h.drop hs.s⟩, .inl ⟨by simp[Region.wanted,hg],fun w' ⟨G',hle,hr⟩=> @hy G' ⟨hle⟩ a w' rl.fr hr⟩,h _ _ (rl.put v hd)⟩
def dM(ho:ops[i]? =some ⟨dst, .move x,ty',pos,af,none⟩)(hx:aD fr x=some v)(hd:cg n dst=true)[hs:mz own0 own][hl:GL G0 G]
  (h:St C n (put fr dst v) own G (i6 P ops (gG Q) (HS C own0 G0) fin π)):St C n fr own G (i6 P ops (gG Q) (HS C own0 G0) fin ((i,true)::π)):=dy ho (fun _ _=>mv hx) J hd h
def dA(ho:ops[i]? =some ⟨dst, .assign x,ty',pos,af,none⟩)(hx:aD fr x=some v)(hd:cg n dst=true)[hs:mz own0 own][hl:GL G0 G]
  (h:St C n (put fr dst v) own G (i6 P ops (gG Q) (HS C own0 G0) fin π)):St C n fr own G (i6 P ops (gG Q) (HS C own0 G0) fin ((i,true)::π)):=dy ho (fun _ _=>Lp hx) J hd h
def dF{o:Nat}[hF:lx P t f off](ho:ops[i]? =some ⟨dst, .fieldAddr t x f,ty',pos,af,none⟩)(hx:aD fr x=some (.pointer (some ⟨b,o,none⟩)))(hd:cg n dst=true)[hs:mz own0 own][hl:GL G0 G]
  (h:St C n (put fr dst (.pointer (some ⟨b,o+off,none⟩))) own G (i6 P ops (gG Q) (HS C own0 G0) fin π)):St C n fr own G (i6 P ops (gG Q) (HS C own0 G0) fin ((i,true)::π)):=dy ho (fun _ _=>tH hx) J hd h
def dL{cs:List Value}(ho:ops[i]? =some ⟨dst, .load t x,ty',pos,af,none⟩)(hx:aD fr x=some (.pointer (some ⟨b,off,none⟩)))[hw:i7 own0 b cs ty lo][ll P t k](hv:cw cs off k=some l)(hd:cg n dst=true)[hs:mz own0 own][hl:GL G0 G]
  (h:St C n (put fr dst (.agg ⟨l⟩)) own G (i6 P ops (gG Q) (HS C own0 G0) fin π)):St C n fr own G (i6 P ops (gG Q) (HS C own0 G0) fin ((i,true)::π)):=dy ho (fun _ _=>Dw hx hv) J hd h
def rO{cs:List Value}(ho:ops[i]? =some ⟨dst, .load t x,ty',pos,af,none⟩)(hx:aD fr x=some (.pointer (some ⟨b,off,none⟩)))[hw:i7 own0 b cs ty lo][kC P t](hv:cs[off]? =some v)(hd:cg n dst=true)[hs:mz own0 own][hl:GL G0 G]
  (h:St C n (put fr dst v) own G (i6 P ops (gG Q) (HS C own0 G0) fin π)):St C n fr own G (i6 P ops (gG Q) (HS C own0 G0) fin ((i,true)::π)):=dy ho (fun _ _=>pk hx hv) J hd h
def ww(ho:ops[i]? =some o){b:Bool}(hg:o.guard=some (j,b))(hj:(ops[j]?).bind (·.dst)=some d)(hlk:iI fr d=some (.bool b))(hy: ∀G':Gh,[GE G0 G']->Yd P C fr own0 G' o v)(hd:cg n o.dst=true)[hs:mz own0 own][hl:GL G0 G]
  (h:St C n (put fr o.dst v) own G (i6 P ops (gG Q) (HS C own0 G0) fin π)):St C n fr own G (i6 P ops (gG Q) (HS C own0 G0) fin ((i,true)::π)):=
 fun a w rl=>⟨o,v,ho,⟨G,hl.le,rl.h.drop hs.s⟩, .inl ⟨by simp[Region.wanted,hg,HD rl.fr hj hlk],fun w' ⟨G',hle,hr⟩=> @hy G' ⟨hle⟩ a w' rl.fr hr⟩,h _ _ (rl.put v hd)⟩
def dc(ho:ops[i]? =some o)(hg:o.guard=none)(hc:Ch P C n fr own G o (fun a w=>(fin i=true\/HS C own0 G0 w)/\i6 P ops (gG Q) (HS C own0 G0) fin π a w)):St C n fr own G (i6 P ops (gG Q) (HS C own0 G0) fin ((i,false)::π)):=by
 intro a w rl;show wpOp P ops (gG Q) i _ a w;unfold wpOp;simp only[ho,Region.wanted,hg,if_true];exact .inl (hc a w _ rl)
def dn(h:St C n fr own G (Q .normal)):St C n fr own G (i6 P ops (gG Q) (HS C own0 G0) fin []):=h
def vu{cs:List Value}[h:vd A b cs][k:GL A G]:G b=some cs:=k.le _ _ h.h
variable {r:List Oper}
def sm(hx:aD fr x=some v)(hd:cg n dst=true)(h:St C n (put fr dst v) own G (dq P ops Q r)):St C n fr own G (dq P ops Q (⟨dst, .move x,ty',pos,af,none⟩::r)):=rA (mv hx) J hd h
def sa(hx:aD fr x=some v)(hd:cg n dst=true)(h:St C n (put fr dst v) own G (dq P ops Q r)):St C n fr own G (dq P ops Q (⟨dst, .assign x,ty',pos,af,none⟩::r)):=rA (Lp hx) J hd h
def sn{ad:Addr}(hx:aD fr x=some (.pointer (some ad)))(hd:cg n dst=true)(h:St C n (put fr dst (.pointer (some ad))) own G (dq P ops Q r)):St C n fr own G (dq P ops Q (⟨dst, .nilCheck x,ty',pos,af,none⟩::r)):=rA (oc hx) J hd h
def sf{o:Nat}[hF:lx P t f off](hx:aD fr x=some (.pointer (some ⟨b,o,none⟩)))(hd:cg n dst=true)(h:St C n (put fr dst (.pointer (some ⟨b,o+off,none⟩))) own G (dq P ops Q r)):St C n fr own G (dq P ops Q (⟨dst, .fieldAddr t x f,ty',pos,af,none⟩::r)):=rA (tH hx) J hd h
def Ev{cs:List Value}(hx:aD fr x=some (.pointer (some ⟨b,off,none⟩)))[ho:i7 own b cs ty lo][ll P t k](hl:cw cs off k=some l)(hd:cg n dst=true)
  (h:St C n (put fr dst (.agg ⟨l⟩)) own G (dq P ops Q r)):St C n fr own G (dq P ops Q (⟨dst, .load t x,ty',pos,af,none⟩::r)):=rA (Dw hx hl) J hd h
def ol{cs:List Value}(hx:aD fr x=some (.pointer (some ⟨b,off,none⟩)))[ho:i7 own b cs ty lo][kC P t](hl:cs[off]? =some v)(hd:cg n dst=true)
  (h:St C n (put fr dst v) own G (dq P ops Q r)):St C n fr own G (dq P ops Q (⟨dst, .load t x,ty',pos,af,none⟩::r)):=rA (pk hx hl) J hd h
def slg{cs:List Value}(hx:aD fr x=some (.pointer (some ⟨b,off,none⟩)))[hg:vd A b cs][hk:GL A G][ll P t k](hl:cw cs off k=some l)(hd:cg n dst=true)
  (h:St C n (put fr dst (.agg ⟨l⟩)) own G (dq P ops Q r)):St C n fr own G (dq P ops Q (⟨dst, .load t x,ty',pos,af,none⟩::r)):=rA (CL hx (hk.le _ _ hg.h) hl) J hd h
def aNJ{cs:List Value}(hx:aD fr x=some (.pointer (some ⟨b,off,none⟩)))[hg:vd A b cs][hk:GL A G][kC P t](hl:cs[off]? =some v)(hd:cg n dst=true)
  (h:St C n (put fr dst v) own G (dq P ops Q r)):St C n fr own G (dq P ops Q (⟨dst, .load t x,ty',pos,af,none⟩::r)):=rA (si hx (hk.le _ _ hg.h) hl) J hd h
def uC[hT:cD P t e s by_](hx:aD fr x=some (.slice ad len cap))(hd:cg n dst=true)
  (h:St C n (put fr dst (.int .i64 len)) own G (dq P ops Q r)):St C n fr own G (dq P ops Q (⟨dst, .call ⟨.builtin .len, #[x], #[t]⟩,ty',pos,af,none⟩::r)):=rA (vQ hx) J hd h
def sx{vs:Array Value}(hx:aD fr x=some (.tuple vs))(hv:vs[i]? =some v)(hd:cg n dst=true)(h:St C n (put fr dst v) own G (dq P ops Q r)):St C n fr own G (dq P ops Q (⟨dst, .extract x i,ty',pos,af,none⟩::r)):=rA (xk hx hv) J hd h
def E6{own:List aB}{id:Nat}(h:St C n fr own G (Q (.exit id))):St C n fr own G (Exit.then K Q (.exit id)):=h
def gc{b:Bool}(hj:(ops[j]?).bind (·.dst)=some d)(hl:iI fr d=some (.bool b))(hy:Yd P C fr own G ⟨dst,op,ty',pos,af,some (j,b)⟩ v)(hd:cg n dst=true)(h:St C n (put fr dst v) own G (dq P ops Q r)):St C n fr own G (dq P ops Q (⟨dst,op,ty',pos,af,some (j,b)⟩::r)):=aLq J hj hl hy hd h
def ss{b:Bool}(hj:(ops[j]?).bind (·.dst)=some d)(hl:iI fr d=some (.bool c))(hbc:(c==b)=false)(hd:cg n dst=true)(h:St C n (put fr dst undef) own G (dq P ops Q r)):St C n fr own G (dq P ops Q (⟨dst,op,ty',pos,af,some (j,b)⟩::r)):=aD1 J hj hl hbc hd h
def sy(hy:Yd P C fr own G ⟨dst,op,ty',pos,af,none⟩ v)(hd:cg n dst=true)(h:St C n (put fr dst v) own G (dq P ops Q r)):St C n fr own G (dq P ops Q (⟨dst,op,ty',pos,af,none⟩::r)):=rA hy J hd h
def sc{op:Op}(hc:Ch P C n fr own G ⟨dst,op,ty',pos,af,none⟩ (dq P ops Q r)):St C n fr own G (dq P ops Q (⟨dst,op,ty',pos,af,none⟩::r)):=aMm J hc
end
def Fn.of_calls{f:FuncId}{vs:List Value}(ha:s6 P f)(h: ∀w,Calls P f ⟨vs⟩ w fun e w'=>e= .returned v/\w'=w):Fn P f vs G (fun u _=>u=v):=
 ⟨ha,fun w hw=>(h w).mono fun e w' ⟨he,hww⟩=>⟨v,G,he,by
  subst hww;exact⟨J,J,J,bJ _,fun _ _ _=>J,hw,bI.refl _,fun _ _=>J,fun o ho=>(by cases ho), .nil,bJ _,fun p hp=>by cases hp⟩,J⟩⟩
end Go.Sx
end
section
namespace Go.Sx
open Go Go.Proofs Tryz
instance:kC prog 3:=⟨fun _=>by kernel_rfl,fun _=>by kernel_rfl⟩
instance:gv prog 3 (.int .i64 0):=⟨omd⟩
instance:kC prog 4:=⟨fun _=>by kernel_rfl,fun _=>by kernel_rfl⟩
instance:gv prog 4 (.bool false):=⟨omd⟩
instance:kC prog 37:=⟨fun _=>by kernel_rfl,fun _=>by kernel_rfl⟩
instance:cD prog 37 164 8 112:=⟨omd,omd⟩
instance:j0 prog 37:=⟨164,omd⟩
instance:ll prog 39 2:=⟨fun _=>by kernel_rfl,fun _=>by kernel_rfl⟩
instance:gv prog 39 (.agg ⟨[.int .i64 0, .slice none 0 0]⟩):=⟨omd⟩
instance:lx prog 39 0 0:=⟨fun _ _ _=>by kernel_rfl⟩
instance:lx prog 39 1 1:=⟨fun _ _ _=>by kernel_rfl⟩
instance:cD prog 59 301 1 4:=⟨omd,omd⟩
instance:j0 prog 59:=⟨301,omd⟩
instance:ll prog 68 6:=⟨fun _=>by kernel_rfl,fun _=>by kernel_rfl⟩
instance:ll prog 99 6:=⟨fun _=>by kernel_rfl,fun _=>by kernel_rfl⟩
instance:gv prog 99 (.agg ⟨[.bool false, .slice none 0 0, .bool false, .slice none 0 0, .bool false, .slice none 0 0]⟩):=⟨omd⟩
instance:gv prog 103 (.agg ⟨[.bool false, .bool false, .bool false, .slice none 0 0, .bool false, .slice none 0 0, .bool false, .slice none 0 0, .pointer none, .pointer none]⟩):=⟨omd⟩
instance:Ap prog 103 [(0,1),(1,1),(2,6),(8,1),(9,1)]:=⟨_,fun _=>HJ underlying103 _,fun _=>by kernel_rfl⟩
instance:cD prog 111 179 17 128:=⟨omd,omd⟩
instance:j0 prog 111:=⟨179,omd⟩
instance:cD prog 112 179 17 128:=⟨omd,omd⟩
instance:kC prog 135:=⟨fun _=>by kernel_rfl,fun _=>by kernel_rfl⟩
instance:cD prog 135 4 1 1:=⟨omd,omd⟩
instance:kC prog 149:=⟨fun _=>by kernel_rfl,fun _=>by kernel_rfl⟩
instance:gv prog 149 (.pointer none):=⟨omd⟩
instance:cD prog 155 149 1 8:=⟨omd,omd⟩
instance:j0 prog 155:=⟨149,omd⟩
instance:ll prog 164 8:=⟨fun _=>by kernel_rfl,fun _=>by kernel_rfl⟩
instance:gv prog 164 (.agg ⟨[.bool false, .slice none 0 0, .bool false, .slice none 0 0, .bool false, .slice none 0 0, .int .i64 0, .int .i64 0]⟩):=⟨omd⟩
instance:lx prog 164 0 0:=⟨fun _ _ _=>by kernel_rfl⟩
instance:lx prog 164 1 6:=⟨fun _ _ _=>by kernel_rfl⟩
instance:lx prog 164 2 7:=⟨fun _ _ _=>by kernel_rfl⟩
instance:Ap prog 164 [(0,6),(6,1),(7,1)]:=⟨_,fun _=>HJ underlying164 _,fun _=>by kernel_rfl⟩
instance:ll prog 172 9:=⟨fun _=>by kernel_rfl,fun _=>by kernel_rfl⟩
instance:gv prog 172 (.agg ⟨[.int .i64 0, .int .i64 0, .pointer none, .int .i64 0, .int .i64 0, .pointer none, .int .i64 0, .int .i64 0, .pointer none]⟩):=⟨omd⟩
instance:gv prog 242 (.agg ⟨[.slice none 0 0, .slice none 0 0, .int .i64 0, .bool false]⟩):=⟨omd⟩
instance:lx prog 242 0 0:=⟨fun _ _ _=>by kernel_rfl⟩
instance:lx prog 242 1 1:=⟨fun _ _ _=>by kernel_rfl⟩
instance:lx prog 242 2 2:=⟨fun _ _ _=>by kernel_rfl⟩
instance:lx prog 242 3 3:=⟨fun _ _ _=>by kernel_rfl⟩
instance:Ap prog 242 [(0,1),(1,1),(2,1),(3,1)]:=⟨_,fun _=>HJ underlying242 _,fun _=>by kernel_rfl⟩
instance:kC prog 244:=⟨fun _=>by kernel_rfl,fun _=>by kernel_rfl⟩
instance:gv prog 244 (.nilFunc):=⟨omd⟩
instance:lx prog 246 0 0:=⟨fun _ _ _=>by kernel_rfl⟩
instance:lx prog 246 1 9:=⟨fun _ _ _=>by kernel_rfl⟩
instance:lx prog 246 2 10:=⟨fun _ _ _=>by kernel_rfl⟩
instance:lx prog 246 3 11:=⟨fun _ _ _=>by kernel_rfl⟩
instance:gv prog 301 (.int .u32 0):=⟨omd⟩
def follows:prog.follows .mixedOrders=true:=by kernel_rfl
end Go.Sx
end
section
namespace Go.Sx
def dv:List Nat->Nat
 |[]=>0
 |d::t=>d+4294967296*dv t
def bt(ds:List Nat):Prop:= ∀d∈ds,d<4294967296
def dG(ds:List Nat):Prop:=ds.getLast? ≠some 0
instance (ds:List Nat):Decidable (dG ds):=inferInstanceAs (Decidable (ds.getLast? ≠some 0))
def bt.nil:bt []:=fun _ h=>by cases h
def bt.cons{d:Nat}{ds:List Nat}(h:d<4294967296)(k:bt ds):bt (d::ds):=fun x hx=>by
 rcases aW.1 hx with rfl|h'
 .exact h
 .exact k _ h'
def bt.head{d:Nat}{ds:List Nat}(h:bt (d::ds)):d<4294967296:=h d aZ
def bt.tail{d:Nat}{ds:List Nat}(h:bt (d::ds)):bt ds:=fun x hx=>h x (aJ _ hx)
def bt.append{a b:List Nat}(h:bt a)(k:bt b):bt (a++b):=fun x hx=>by
 rcases bX.1 hx with h'|h'
 .exact h _ h'
 .exact k _ h'
def bt.take{a:List Nat}(h:bt a)(n:Nat):bt (a.take n):=fun x hx=>h x (fW hx)
def bt.drop{a:List Nat}(h:bt a)(n:Nat):bt (a.drop n):=fun x hx=>h x (gS hx)
def bt.get{a:List Nat}(h:bt a)(i:Nat):a.getD i 0<4294967296:=by
 rw[aV]
 cases hi:a[i]? with
 |none=>simp
 |some d=>exact h d (aK hi)
def bt.set{a:List Nat}(h:bt a)(i:Nat){d:Nat}(hd:d<4294967296):bt (a.set i d):=fun x hx=>by
 rcases List.mem_or_eq_of_mem_set hx with h'|rfl
 .exact h _ h'
 .exact hd
def bt.replicate(n:Nat):bt (List.replicate n 0):=fun x hx=>by
 rw[List.eq_of_mem_replicate hx];omega
def yf(a b:List Nat):dv (a++b)=dv a+4294967296^a.length*dv b:=by
 induction a with
 |nil=>simp[dv]
 |cons d t ih=>
  simp only[iJ,dv,ih,bZ,iL];rw[eX,<-lL,<-cY,cW 4294967296 (4294967296^t.length)]
def k8{ds:List Nat}(h:bt ds):dv ds<4294967296^ds.length:=by
 induction ds with
 |nil=>simp[dv]
 |cons d t ih=>
  have h1:=h.head;have h2:=ih h.tail;simp only[dv,bZ,iL];omega
def zp(n:Nat):dv (List.replicate n 0)=0:=by
 induction n with
 |zero=>rfl
 |succ n ih=>simp[tM,dv,ih]
def ph(ds:List Nat)(i:Nat):dv (ds.take (i+1))=dv (ds.take i)+4294967296^i*ds.getD i 0:=by
 by_cases h:i<ds.length
 .rw[jY h,yf]
  simp[dv,kW (fR h),aV,h]
 .have:ds.getD i 0=0:=by rw[aV,dT we];rfl
  rw[this,bS we,bS we];simp
def Ci(ds:List Nat)(i:Nat)(h:i<=ds.length:=by omega):dv ds=dv (ds.take i)+4294967296^i*dv (ds.drop i):=by
 have:=yf (ds.take i) (ds.drop i);rw[jR] at this;rw[this];simp[kW h]
def trimD:List Nat->List Nat
 |[]=>[]
 |d::t=>match trimD t with
  |[]=>if d=0 then [] else [d]
  |t'=>d::t'
def xf(d:Nat)(t:List Nat):trimD (d::t)=if trimD t=[]/\d=0 then [] else d::trimD t:=by
 simp only[trimD]
 cases h:trimD t with
 |nil=>by_cases hd:d=0<;>simp[hd]
 |cons a b=>simp
def VD(ds:List Nat):dv (trimD ds)=dv ds:=by
 induction ds with
 |nil=>rfl
 |cons d t ih=>
  rw[xf];split
  .rename_i h
   rw[h.1] at ih;simp[dv,<-ih,h.2]
  .simp[dv,ih]
def aqB(ds:List Nat):trimD (ds++[0])=trimD ds:=by
 induction ds with
 |nil=>rfl
 |cons d t ih=>rw[iJ,xf,xf,ih]
def LW{ds:List Nat}{d:Nat}(h:d≠0):trimD (ds++[d])=ds++[d]:=by
 induction ds with
 |nil=>simp[trimD,h]
 |cons e t ih=>rw[iJ,xf,ih];simp
def dG.trimD(ds:List Nat):dG (trimD ds):=by
 induction ds with
 |nil=>simp[dG,Sx.trimD]
 |cons d t ih=>
  rw[xf];split
  .simp[dG]
  .rename_i h
   unfold dG at*;rw[List.getLast?_cons]
   cases ht:(Sx.trimD t).getLast? with
   |none=>
    have:Sx.trimD t=[]:=by simpa using ht
    simp only[Option.getD_none,ne_eq,Option.some.injEq];exact fun hd=>h ⟨this,hd⟩
   |some x=>rw[ht] at ih;simpa using ih
def axx(ds:List Nat):(trimD ds).length<=ds.length:=by
 induction ds with
 |nil=>simp[trimD]
 |cons d t ih=>
  rw[xf];split
  .simp
  .simp;omega
def ZF(ds:List Nat):trimD ds=ds.take (trimD ds).length:=by
 induction ds with
 |nil=>rfl
 |cons d t ih=>
  rw[xf];split
  .rfl
  .simp only[bZ,oU];rw[<-ih]
def bt.trimD{ds:List Nat}(h:bt ds):bt (trimD ds):=by rw[ZF];exact h.take _
def axQ{ds:List Nat}(h:dG ds):trimD ds=ds:=by
 rcases nN ds with rfl|⟨l,d,rfl⟩
 .rfl
 .rw[oQ] at*
  exact LW (fun e=>by subst e;simp[dG] at h)
def wT{ds:List Nat}(h:dG ds)(hne:ds≠[]):4294967296^(ds.length-1)<=dv ds:=by
 rcases nN ds with rfl|⟨l,d,rfl⟩
 .exact absurd J hne
 .rw[oQ] at*
  have hd:d≠0:=fun e=>by subst e;simp[dG] at h
  rw[yf];simp only[aY,bZ,fX,dv];have:4294967296^(l.length+(0+1)-1)=4294967296^l.length:=by congr 1
  rw[this];have h1:4294967296^l.length*1<=4294967296^l.length*(d+4294967296*0):=gU _ we;omega
def y8{a b:List Nat}(ha:bt a)(hb:dG b)(h:a.length<b.length):dv a<dv b:=by
 have h1:=k8 ha;have h2:=wT hb (fun e=>by subst e;simp at h);have h3:4294967296^a.length<=4294967296^(b.length-1):=cZ we we;omega
def Ud: ∀{a b:List Nat},bt a->bt b->a.length=b.length->dv a=dv b->a=b
 |[],[],_,_,_,_=>rfl
 |d::t,e::u,ha,hb,hl,h=>by
  have h1:=ha.head;have h2:=hb.head;simp only[dv] at h;have:d=e:=by omega
  subst this;rw[Ud ha.tail hb.tail (by simpa using hl) we]
def aGX{a b:List Nat}(ha:bt a)(hb:bt b)(na:dG a)(nb:dG b)(h:dv a=dv b):a=b:=by
 refine Ud ha hb ?_ h;rcases rL a.length b.length with h'|h'|h'
 .have:=y8 ha nb h';omega
 .exact h'
 .have:=y8 hb na h';omega
def Pc{a b:List Nat}(ha:bt a)(hb:bt b)(i:Nat)(hia:i<a.length)(hib:i<b.length)(hl:a.length=b.length)(hs:a.drop (i+1)=b.drop (i+1))(h:a.getD i 0<b.getD i 0):dv a<dv b:=by
 rw[Ci a (i+1),Ci b (i+1),hs,ph,ph];have h1:=k8 (ha.take i);rw[bT,kW we] at h1;have h2:4294967296^i*(a.getD i 0+1)<=4294967296^i*b.getD i 0:=gU _ h;rw[eX] at h2;omega
def aEx{ds:List Nat}{k:Nat}(h:dG ds)(hk:dv ds<2^k):32*ds.length<=k+31:=by
 by_cases hne:ds=[]
 .subst hne;simp
 .have h1:=wT h hne
  have h2:(4294967296:Nat)^(ds.length-1)=2^(32*(ds.length-1)):=by
   rw[tJ]
  rw[h2] at h1;have h3:2^(32*(ds.length-1))<2^k:=dZ h1 hk;have h4:=(oV (by omega:1<2)).1 h3;have:0<ds.length:=by cases ds with|nil=>exact absurd J hne|cons _ _=>simp
  omega
def dg(x:Nat):List Nat:=if h:x=0 then [] else(x%4294967296)::dg (x/4294967296)
termination_by x
decreasing_by omega
def eE(x:Nat):dv (dg x)=x/\bt (dg x)/\dG (dg x):=by
 induction x using Nat.strongRecOn with
 |_ x ih=>
  unfold dg;split
  .rename_i h;subst h;exact⟨rfl, .nil,by simp[dG]⟩
  .rename_i h
   obtain⟨h1,h2,h3⟩:=ih (x/4294967296) we;refine⟨by rw[dv,h1];omega, .cons we h2,?_⟩;unfold dG at*;rw[List.getLast?_cons]
   cases hl:(dg (x/4294967296)).getLast? with
   |none=>
    have:dg (x/4294967296)=[]:=by simpa using hl
    rw[this] at h1;simp only[Option.getD_none,ne_eq,Option.some.injEq];simp only[dv] at h1;omega
   |some y=>rw[hl] at h3;simpa using h3
def qk{ds:List Nat}(h:bt ds)(n:dG ds):dg (dv ds)=ds:=aGX (eE _).2.1 h (eE _).2.2 n (eE _).1
def DM{ds:List Nat}(h:bt ds):dg (dv ds)=trimD ds:=by rw[<-VD];exact qk h.trimD (dG.trimD _)
def xj: ∀(ws:List Nat) (j d:Nat),j<ws.length->dv (ws.set j d)+4294967296^j*ws.getD j 0=dv ws+4294967296^j*d
 |[],j,d,h=>by simp at h
 |w::t,0,d,h=>by simp[dv];omega
 |w::t,j+1,d,h=>by
  have ih:=xj t j d omE;simp only[List.set_cons_succ,dv,oT,iL];have h1:4294967296^j*4294967296*t.getD j 0=4294967296*(4294967296^j*t.getD j 0):=by rw[cW (4294967296^j),cY]
  have h2:4294967296^j*4294967296*d=4294967296*(4294967296^j*d):=by rw[cW (4294967296^j),cY]
  rw[h1,h2];omega
def xN{ws:List Nat}{k d:Nat}(h:k<ws.length:=by omega):dv ((ws.set k d).take (k+1))=dv (ws.take k)+4294967296^k*d:=by
 rw[jY omE,List.take_set_of_le (bJ _),yf];simp[dv,kW (fR h)]
def TF(p x:Nat):p*x=p*(x%4294967296)+p*4294967296*(x/4294967296):=by
 have h:p*x=p*(4294967296*(x/4294967296)+x%4294967296):=by rw[rJ]
 rw[eX,<-cY] at h;omega
def Wi{p A E W c a b:Nat}(h:W+p*c=A+E):(W+p*((c+a+b)%4294967296))+(p*4294967296)*((c+a+b)/4294967296)=(A+p*a)+(E+p*b):=by
 have h1:=TF p (c+a+b);rw[eX,eX] at h1;omega
def aIg{p A E W bo b a:Nat}(h:W+E=A+p*bo)(hle:bo+b<=a):(W+p*(a-(bo+b)))+(E+p*b)=(A+p*a)+p*4294967296*0:=by
 have h1:p*a=p*(a-(bo+b))+p*bo+p*b:=by
  rw[<-eX,<-eX];congr 1;omega
 omega
def aGy{p A E W bo b a:Nat}(h:W+E=A+p*bo)(hle:a<bo+b)(hb:bo+b<=a+4294967296):(W+p*(a+4294967296-(bo+b)))+(E+p*b)=(A+p*a)+p*4294967296*1:=by
 have h1:p*a+p*4294967296=p*(a+4294967296-(bo+b))+p*bo+p*b:=by
  rw[<-eX,<-eX,<-eX];congr 1;omega
 omega
def aAN{p W W' T c m w:Nat}(hs:W'+p*w=W+p*((c+m+w)%4294967296))(h:W+p*c=T):W'+(p*4294967296)*((c+m+w)/4294967296)=T+p*m:=by
 have h1:=TF p (c+m+w);rw[eX,eX] at h1;omega
end Go.Sx
end
section
namespace Go.Sx
open Go
variable {A G:Gh}{s e by_ b:Nat}{es l:List Value}{P:Program}{C:aF}{fr:Fr}{own':List aB}{Φ:Act->World->Prop}{dst:Option Nat}{t t' ty':TypeId}{pos:String}{af:Array Edge}{y:Operand}{k k':IntKind}{i p q:Int}{ds:List Nat}
structure SV where
 a:Option Addr
 n:Nat
 c:Nat
variable {x z:SV}
def SV.v(x:SV):Value:= .slice x.a x.n x.c
structure gp (G:Gh) (s:Nat) (x:SV) (es:List Value):Prop where
 len:x.n=es.length
 cap:x.n<=x.c
 mem:es=[]\/ ∃b off cs,x.a=some ⟨b,off,none⟩/\G b=some cs/\ ∀i (h:i<es.length),cw cs (off+i*s) s=some (aG es[i])
def gp.up'(h:gp A s x es)(k:bI A G):gp G s x es:=
 ⟨h.len,h.cap,h.mem.imp id (fun⟨b,off,cs,h1,h2,h3⟩=>⟨b,off,cs,h1,k _ _ h2,h3⟩)⟩
def gp.up(h:gp A s x es)[k:GL A G]:gp G s x es:=h.up' k.le
def gp.nil(G:Gh)(s:Nat):gp G s ⟨none,0,0⟩ []:=⟨J,bJ _, .inl J⟩
def Db(a:Option Addr)(k:Nat):Option Addr:=a.map (·.add k)
section
variable {n:Nat}{own:List aB}
variable {gd:Option (Nat×Bool)}{x:Operand}
def aLW[hT:cD P t e s by_](hs:gp A s z es)(hx:aD fr x=some (.slice z.a z.n z.c))(hy:aD fr y=some (.int k i))(h0:0<=i)(h1:i<z.n):
  Yd P C fr own G ⟨dst, .indexAddr t x y,ty',pos,af,gd⟩ (.pointer (Db z.a (i.toNat*s))):=by
 rcases hs.mem with h|⟨b,off,cs,ha,hg,hc⟩
 .have:=hs.len;rw[h] at this;simp at this;omega
 .rw[ha] at hx
  have:=xW (P:=P) (C:=C) (own:=own) (G:=G) (t:=t) (dst:=dst) (ty':=ty') (pos:=pos) (af:=af) (gd:=gd) (by_:=by_) hx hy h0 h1;rw[ha];simpa[Db,tk] using this
def WZ[hA:ll P t s]{i:Nat}(hs:gp A s z es)[hl:GL A G](hx:aD fr x=some (.pointer (Db z.a (i*s))))(h1:i<es.length)(he:es[i]? =some (.agg ⟨l⟩)):
  Yd P C fr own G ⟨dst, .load t x,ty',pos,af,gd⟩ (.agg ⟨l⟩):=by
 rcases hs.mem with h|⟨b,off,cs,ha,hg,hc⟩
 .rw[h] at h1;simp at h1
 .rw[ha] at hx
  have h2:=hc i h1;rw[aQ h1] at he;have he':es[i]= .agg ⟨l⟩:=by simpa using he
  rw[he'] at h2;exact CL (by simpa[Db,tk] using hx) (hl.le _ _ hg) h2
end
def dI(d:Nat):Value:= .int .u32 (d:Int)
structure oe (G:Gh) (x:SV) (ds:List Nat):Prop where
 ok:bt ds
 sl:gp G 1 x (ds.map dI)
def oe.len{G:Gh}{x:SV}{ds:List Nat}(h:oe G x ds):x.n=ds.length:=by simpa using h.sl.len
def oe.up{A G:Gh}{x:SV}{ds:List Nat}(h:oe A x ds)[k:GL A G]:oe G x ds:=⟨h.ok,h.sl.up⟩
def oe.nil(G:Gh):oe G ⟨none,0,0⟩ []:=⟨.nil, .nil G 1⟩
def oe.of_block{c k:Nat}{cs:List Value}(ok:bt ds)(hg:G b=some cs)(hk:k=ds.length)(hc:k<=c)(hcs:cs.take ds.length=ds.map dI):oe G ⟨some ⟨b,0,none⟩,k,c⟩ ds:=by
 refine⟨ok,by simpa using hk,hc, .inr ⟨b,0,cs,J,hg,fun i hi=>?_⟩⟩;have hi':i<ds.length:=by simpa using hi
 have hl:ds.length<=cs.length:=by
  have:=congrArg List.length hcs;simp at this;omega
 rw[ld _ _ _ we];congr 1;have h1:(cs.take ds.length)[i]? =(ds.map dI)[i]? :=by rw[hcs]
 rw[pJ,if_pos hi',bL,aQ hi',aQ we] at h1;have h2:cs[i]=dI ds[i]:=by simpa using h1
 rw[eM,jS,bK we,oU,uT,h2,oL];rfl
structure AI (k:Nat) (G:Gh) (x:SV) (v:Nat):Prop where
 d:oe G x (dg v)
 lt:v<2^k
def AI.up{k:Nat}{A G:Gh}{x:SV}{v:Nat}(h:AI k A x v)[GL A G]:AI k G x v:=⟨h.d.up,h.lt⟩
section
variable {n:Nat}{own:List aB}
variable {gd:Option (Nat×Bool)}{x:Operand}
def aMb(h:oe A z ds)[hl:GL A G]:m8 P C own G 1 z.n (.slice z.a z.n z.c) (ds.map dI):=by
 intro w hw;by_cases hne:ds=[]
 .rw[h.len]
  subst hne;exact vn w hw
 rcases h.sl.mem with h0|⟨b,off,cs,ha,hg,hc⟩
 .exact absurd (by simpa using h0) hne
 .rw[ha]
  have hn:=h.len;refine MQ (hl.le _ _ hg) ?_ w hw;rw[jS];have hel: ∀i,i<ds.length->cs[off+i]? =some (dI (ds.getD i 0)):=fun i hi=>by
   have h1:=hc i omV;obtain⟨_,h2⟩:=rI _ _ _ _ h1;have h3:=h2 0 we;rw[jS,gK] at h3;rw[h3,oL,aV,aQ hi];rfl
  by_cases h00:ds.length=0
  .exact absurd h00 (fun e=>hne (cJ e))
  .have hlast:=hel (ds.length-1) we
   have hle:off+ds.length<=cs.length:=by
    have:=(aT.1 hlast).1;omega
   rw[hn,ld _ _ _ hle];congr 1;apply lR;intro i;rw[pJ];split
   .rename_i hi
    rw[mQ,hel i hi,bL,aV,aQ hi];rfl
   .rename_i hi
    rw[dT omV]
def wC[hT:cD P t e s by_]{len cap:Nat}(hx:aD fr x=some (.slice (some ⟨b,0,none⟩) len cap))(hy:aD fr y=some (.int k i))(h0:0<=i:=by omega)(h1:i<len:=by omega):
  Yd P C fr own G ⟨dst, .indexAddr t x y,ty',pos,af,gd⟩ (.pointer (some ⟨b,i.toNat*s,none⟩)):=by
 have:=xW (P:=P) (C:=C) (own:=own) (G:=G) (t:=t) (dst:=dst) (ty':=ty') (pos:=pos) (af:=af) (gd:=gd) (by_:=by_) hx hy h0 h1;rwa [eM] at this
def xG(hx:aD fr x=some (.int .i64 p))(hy:aD fr y=some (.int .i64 q))(h0: -9223372036854775808<=p+q:=by omega)(h1:p+q<=9223372036854775807:=by omega):Yd P C fr own G ⟨dst, .binOp .add t x y t',ty',pos,af,gd⟩ (.int .i64 (p+q)):=S4 hx hy ⟨h0,h1⟩
def XU(hx:aD fr x=some (.int .i64 p))(hy:aD fr y=some (.int .i64 q))(h0: -9223372036854775808<=p-q:=by omega)(h1:p-q<=9223372036854775807:=by omega):Yd P C fr own G ⟨dst, .binOp .sub t x y t',ty',pos,af,gd⟩ (.int .i64 (p-q)):=My hx hy ⟨h0,h1⟩
def aIq(hx:aD fr x=some (.int k p))(hy:aD fr y=some (.int k' q))(h0:0<=q):Yd P C fr own G ⟨dst, .binOp .shr t x y t',ty',pos,af,gd⟩ (.int k (p.fdiv (2^min q.toNat k.bits))):=by
 intro a w hf hh;simp only[execOp,bC hf hx,bC hf hy];have h1:(eqGuard .shr t x y (.int k p) (.int k' q)).run P w= .ok () w:=J;have h2:(binOp .shr t (.int k p) (.int k' q)).run P w= .ok (.int k (p.fdiv (2^min q.toNat k.bits))) w:=by
  simp[binOp,Op.shift,Int.not_lt.2 h0,run_pure]
 exact c7 (by rw[aP h1];exact h2)
def Xi(hx:aD fr x=some (.int k p))(hy:aD fr y=some (.int k' q))(h0:0<=q):Yd P C fr own G ⟨dst, .binOp .shl t x y t',ty',pos,af,gd⟩ (.int k (k.wrap (p*2^min q.toNat k.bits))):=by
 intro a w hf hh;simp only[execOp,bC hf hx,bC hf hy];have h1:(eqGuard .shl t x y (.int k p) (.int k' q)).run P w= .ok () w:=J;have h2:(binOp .shl t (.int k p) (.int k' q)).run P w= .ok (.int k (k.wrap (p*2^min q.toNat k.bits))) w:=by
  simp[binOp,Op.shift,Int.not_lt.2 h0,run_pure]
 exact c7 (by rw[aP h1];exact h2)
def vf(p:Int):IntKind.u32.wrap p=p%4294967296:=by simp[IntKind.wrap,IntKind.bits,IntKind.signed]
def sA(p:Int):IntKind.u64.wrap p=p%18446744073709551616:=by simp[IntKind.wrap,IntKind.bits,IntKind.signed]
def azO[hs:xC P t k][hd:xC P t' .u32](hx:aD fr x=some (.int k p)):Yd P C fr own G ⟨dst, .convert t t' x,ty',pos,af,gd⟩ (.int .u32 (p%4294967296)):=by
 have:=CG (P:=P) (C:=C) (own:=own) (G:=G) (dst:=dst) (ty':=ty') (pos:=pos) (af:=af) (gd:=gd) (t:=t) (t':=t') hx;rwa [vf] at this
def aFA(hx:aD fr x=some (.int k p))(hy:aD fr y=some (.int k q))(h0:0<=p)(h:q≠0):Yd P C fr own G ⟨dst, .binOp .rem t x y t',ty',pos,af,gd⟩ (.int k (p%q)):=by
 have:=U2 (P:=P) (C:=C) (own:=own) (G:=G) (dst:=dst) (ty':=ty') (pos:=pos) (af:=af) (gd:=gd) (t:=t) (t':=t') hx hy h;rwa [Int.tmod_eq_emod_of_nonneg h0] at this
def aGI(hx:aD fr x=some (.int .u64 p))(hy:aD fr y=some (.int .u64 q))(h0:0<=p)(h1:p<=18446744073709551615)(h:0<q):Yd P C fr own G ⟨dst, .binOp .quo t x y t',ty',pos,af,gd⟩ (.int .u64 (p/q)):=by
 have:=OW (P:=P) (C:=C) (own:=own) (G:=G) (dst:=dst) (ty':=ty') (pos:=pos) (af:=af) (gd:=gd) (t:=t) (t':=t') hx hy we;rw[Int.tdiv_eq_ediv_of_nonneg h0,sA,Int.emod_eq_of_lt (Int.ediv_nonneg h0 we) (by have:=Int.ediv_le_self q h0;omega)] at this;exact this
def PJ{Q:Exit->Act->World->Prop}{p:Prop}{inst:Decidable p}{c:Operand}{x y:Code}(hc:aD fr c=some (.bool (@decide p inst)))(h2: ¬p->St C n fr own G (y.wp P Q))(h1:p->St C n fr own G (x.wp P Q)):
  St C n fr own G ((Code.cond c x y).wp P Q):=vZ hc h1 h2
end
end Go.Sx
end
section
namespace Go.Sx
open Go Go.Proofs Tryz
def aGb(ds:List Nat): ∀v∈ds.map dI,flat v=true:=fun v hv=>by
 obtain⟨d,_,rfl⟩:=aU.1 hv;rfl
def YM{A G:Gh}{x:SV}{ds:List Nat}(hx:oe A x ds)[GL A G](hb:ds.length<=1125899906842):Fn prog 273 [x.v] G (fun v G'=> ∃z:SV,v=z.v/\oe G' z ds):=by
 have hlen:=hx.len;refine Fn.intro func273 J J ntmps273 J ?_;intro C _ _;refine sR<|sa J J<|zE<|fy<|sR<|sm J J<|sy (MB J J) J<|zE<|?_;refine Vp J (fun hc=>?_) (fun hc=>?_)
 .refine sR<|sa J J<|zE<|me<|?_
  refine zD (.tmp J .nil) ⟨⟨none,0,0⟩,J,?_⟩;rcases hx.sl.mem with h|⟨b,off,cs,ha,_⟩
  .have:ds=[]:=by simpa using h
   subst this;exact .nil _
  .rw[ha] at hc;cases hc
 refine zK<|sR<|?_;refine sc (MH J ?_);intro b1;refine sm J J<|?_;refine sc (Nz (xs:=[]) (rest:=[]) (ys:=ds.map dI) J J (.hd ..) J J (bJ _) (aMb hx) (by simp[hlen]) (aGb ds) oma we J J ?_);intro b cap rest h1 h2;refine sa J J<|zE<|Bm b (.hd ..) (fun G' _ hgb=>?_);refine me<|?_;refine zD (.tmp J .nil) ⟨⟨some ⟨b,0,none⟩,x.n,cap⟩,by simp[m9,SV.v],?_⟩;exact .of_block hx.ok hgb.h hlen we omc
end Go.Sx
end
section
namespace Go.Proofs
open Go.Shelf
def Tryz.lays133_ren:Go.Shelf.Ren:=⟨fun|133=>274|128=>291|n=>n,fun|51=>301|3=>3|4=>4|46=>312|5=>5|9=>9|n=>n,fun|n=>n⟩
def Tryz.lays133:Go.Proofs.Lays.n133 Tryz.prog Tryz.lays133_ren:={
 mixed:=by kernel_rfl
 f128:=Tryz.func291.trans (congrArg some (by kernel_rfl))
 f133:=Tryz.func274.trans (congrArg some (by kernel_rfl))
 t3:=Tryz.underlying3
 a3:=Tryz.isAgg3
 z3:=Tryz.sizeOf3
 v3:=Tryz.zeroValue3
 t4:=Tryz.underlying4
 a4:=Tryz.isAgg4
 z4:=Tryz.sizeOf4
 v4:=Tryz.zeroValue4
 t5:=Tryz.underlying5
 a5:=Tryz.isAgg5
 z5:=Tryz.sizeOf5
 v5:=Tryz.zeroValue5
 t9:=Tryz.underlying9
 a9:=Tryz.isAgg9
 z9:=Tryz.sizeOf9
 v9:=Tryz.zeroValue9
 t46:=Tryz.underlying312
 a46:=Tryz.isAgg312
 z46:=Tryz.sizeOf312
 v46:=Tryz.zeroValue312
 t51:=Tryz.underlying301
 a51:=Tryz.isAgg301
 z51:=Tryz.sizeOf301
 v51:=Tryz.zeroValue301}
def Tryz.bits_LeadingZeros32(x:Int)(w:World)(h0:0<=x)(h1:x<=4294967295):
  Calls Tryz.prog 274 #[.int .u32 x] w fun e w'=>e= .returned (.int .i64 (32-(Lib.bitLen x.toNat:Int)))/\w'=w:=Any.bits_LeadingZeros32 Tryz.lays133 x w h0 h1
open Go.Lib in
open Go.Lib in
open Go.Lib in
open Go.Lib in
open Go.RowKit Go.Sort Go.Lib in
open Go.RowKit Go.Sort Go.Lib in
open Go.RowKit Go.Sort Go.Lib in
open Go.RowKit Go.Sort Go.Lib in
open Go.RowKit Go.Sort Go.Lib in
open Go.RowKit Go.Sort Go.Lib in
def Tryz.lays171_ren:Go.Shelf.Ren:=⟨fun|171=>152|243=>215|246=>266|283=>285|284=>286|285=>287|286=>288|129=>296|317=>295|318=>297|319=>298|320=>299|337=>300|338=>301|n=>n,fun|3=>3|9=>9|2=>2|4=>4|171=>378|0=>0|53=>239|37=>381|5=>5|173=>382|212=>389|51=>301|20=>20|213=>390|46=>312|232=>393|233=>394|n=>n,fun|17=>5|18=>6|19=>7|n=>n⟩
def Tryz.lays171:Go.Proofs.Lays.n171 Tryz.prog Tryz.lays171_ren:={
 mixed:=by kernel_rfl
 f129:=Tryz.func296.trans (congrArg some (by kernel_rfl))
 f171:=Tryz.func152.trans (congrArg some (by kernel_rfl))
 f243:=Tryz.func215.trans (congrArg some (by kernel_rfl))
 f246:=Tryz.func266.trans (congrArg some (by kernel_rfl))
 f283:=Tryz.func285.trans (congrArg some (by kernel_rfl))
 f284:=Tryz.func286.trans (congrArg some (by kernel_rfl))
 f285:=Tryz.func287.trans (congrArg some (by kernel_rfl))
 f286:=Tryz.func288.trans (congrArg some (by kernel_rfl))
 f317:=Tryz.func295.trans (congrArg some (by kernel_rfl))
 f318:=Tryz.func297.trans (congrArg some (by kernel_rfl))
 f319:=Tryz.func298.trans (congrArg some (by kernel_rfl))
 f320:=Tryz.func299.trans (congrArg some (by kernel_rfl))
 f337:=Tryz.func300.trans (congrArg some (by kernel_rfl))
 f338:=Tryz.func301.trans (congrArg some (by kernel_rfl))
 t0:=Tryz.underlying0
 a0:=Tryz.isAgg0
 z0:=Tryz.sizeOf0
 v0:=Tryz.zeroValue0
 t2:=Tryz.underlying2
 a2:=Tryz.isAgg2
 z2:=Tryz.sizeOf2
 v2:=Tryz.zeroValue2
 t3:=Tryz.underlying3
 a3:=Tryz.isAgg3
 z3:=Tryz.sizeOf3
 v3:=Tryz.zeroValue3
 t4:=Tryz.underlying4
 a4:=Tryz.isAgg4
 z4:=Tryz.sizeOf4
 v4:=Tryz.zeroValue4
 t5:=Tryz.underlying5
 a5:=Tryz.isAgg5
 z5:=Tryz.sizeOf5
 v5:=Tryz.zeroValue5
 t9:=Tryz.underlying9
 a9:=Tryz.isAgg9
 z9:=Tryz.sizeOf9
 v9:=Tryz.zeroValue9
 t20:=Tryz.underlying20
 a20:=Tryz.isAgg20
 z20:=Tryz.sizeOf20
 v20:=Tryz.zeroValue20
 t37:=Tryz.underlying381
 a37:=Tryz.isAgg381
 z37:=Tryz.sizeOf381
 v37:=Tryz.zeroValue381
 t46:=Tryz.underlying312
 a46:=Tryz.isAgg312
 z46:=Tryz.sizeOf312
 v46:=Tryz.zeroValue312
 t51:=Tryz.underlying301
 a51:=Tryz.isAgg301
 z51:=Tryz.sizeOf301
 v51:=Tryz.zeroValue301
 t53:=Tryz.underlying239
 a53:=Tryz.isAgg239
 z53:=Tryz.sizeOf239
 v53:=Tryz.zeroValue239
 t171:=Tryz.underlying378
 a171:=Tryz.isAgg378
 z171:=Tryz.sizeOf378
 v171:=Tryz.zeroValue378
 t173:=Tryz.underlying382
 a173:=Tryz.isAgg382
 z173:=Tryz.sizeOf382
 v173:=Tryz.zeroValue382
 t212:=Tryz.underlying389
 a212:=Tryz.isAgg389
 z212:=Tryz.sizeOf389
 v212:=Tryz.zeroValue389
 t213:=Tryz.underlying390
 a213:=Tryz.isAgg390
 z213:=Tryz.sizeOf390
 t232:=Tryz.underlying393
 a232:=Tryz.isAgg393
 z232:=Tryz.sizeOf393
 v232:=Tryz.zeroValue393
 t233:=Tryz.underlying394
 a233:=Tryz.isAgg394
 z233:=Tryz.sizeOf394
 v233:=Tryz.zeroValue394
 g17:=by kernel_rfl
 g18:=by kernel_rfl
 g19:=by kernel_rfl}
open Go.RowKit Go.Sort Go.Lib in
def Tryz.strconv_Itoa_small(i:Nat)(hi:i<100)(w:World):
  Calls Tryz.prog 152 #[.int .i64 i] w fun e w'=>e= .returned (.string ⟨(Lib.decDigits i).toArray⟩)/\w'=w:=Any.strconv_Itoa_small Tryz.lays171 i hi w
def Tryz.lays264_ren:Go.Shelf.Ren:=⟨fun|264=>233|n=>n,fun|53=>239|46=>312|n=>n,fun|n=>n⟩
def Tryz.lays264:Go.Proofs.Lays.n264 Tryz.prog Tryz.lays264_ren:={
 mixed:=by kernel_rfl
 f264:=Tryz.func233.trans (congrArg some (by kernel_rfl))
 t46:=Tryz.underlying312
 a46:=Tryz.isAgg312
 z46:=Tryz.sizeOf312
 v46:=Tryz.zeroValue312
 t53:=Tryz.underlying239
 a53:=Tryz.isAgg239
 z53:=Tryz.sizeOf239
 v53:=Tryz.zeroValue239}
open Go.RowKit Go.Lib in
def Tryz.bits_Mul64(x y:Nat)(hx:x<18446744073709551616)(hy:y<18446744073709551616)(w:World):
  Calls Tryz.prog 233 #[.int .u64 x, .int .u64 y] w fun e w'=>e= .returned (.tuple #[.int .u64 ((x*y/18446744073709551616:Nat):Int), .int .u64 ((x*y%18446744073709551616:Nat):Int)])/\w'=w:=Any.bits_Mul64 Tryz.lays264 x y hx hy w
end Go.Proofs
end
section
namespace Go.Sx
open Go Go.Proofs Tryz
variable {x k n:Nat}{P:Program}{G:Gh}{q:Int}
def bl(x:Nat):Nat:=if x=0 then 0 else Nat.log2 x+1
def Ft(x:Nat):x<2^bl x:=by
 unfold bl;split
 .rename_i h;subst h;decide
 .exact Nat.lt_log2_self
def nf{x k:Nat}:bl x<=k↔x<2^k:=by
 constructor
 .intro h;exact cM (Ft x) (cZ we h)
 .intro h
  unfold bl;split
  .omega
  .rename_i h0
   have:=(Nat.log2_lt h0).2 h;omega
def aFl(h:x≠0):bl x=1+bl (x/2):=by
 have h1: ∀k,bl x<=k+1↔bl (x/2)<=k:=fun k=>by
  rw[nf,nf,iL];omega
 have h2:bl x≠0:=fun e=>by
  have:=Ft x;rw[e] at this;simp at this;exact h this
 have h3:=(h1 (bl (x/2))).2 (bJ _);have h4:=(h1 (bl x-1)).1 we;omega
def MJ: ∀(f x:Nat),x<2^f->Lib.bitLenAux f x=bl x
 |0,x,h=>by
  have:x=0:=by simpa using h
  subst this;rfl
 |f+1,x,h=>by
  unfold Lib.bitLenAux;split
  .rename_i h0;subst h0;rfl
  .rename_i h0
   rw[MJ f (x/2) (by rw[iL] at h;omega),aFl h0]
def ayu(h:x<2^64):Lib.bitLen x=bl x:=MJ 64 x h
def Y8(d:Nat)(h:x<2^k)(hd:d≠0):bl (x+2^k*d)=k+bl d:=by
 have h1: ∀j,bl (x+2^k*d)<=k+j↔bl d<=j:=fun j=>by
  rw[nf,nf,fT];constructor
  .intro h'
   exact Nat.lt_of_mul_lt_mul_left (a:=2^k) we
  .intro h'
   have:2^k*(d+1)<=2^k*2^j:=gU _ h';rw[eX] at this;omega
 have h2:k<bl (x+2^k*d):=by
  rcases gN k (bl (x+2^k*d)) with h'|h'
  .exact h'
  .have:=nf.1 h'
   have h3:2^k*1<=2^k*d:=gU _ we;omega
 have h3:=(h1 (bl d)).2 (bJ _);have h4:=(h1 (bl (x+2^k*d)-k)).1 we;omega
def aL6{ds:List Nat}(h:bt ds)(hn:dG ds)(hne:ds≠[]):bl (dv ds)=32*(ds.length-1)+bl (ds.getD (ds.length-1) 0):=by
 rcases nN ds with rfl|⟨l,d,rfl⟩
 .exact absurd J hne
 .rw[oQ] at*
  have hd:d≠0:=fun e=>by subst e;simp[dG] at hn
  have hl:bt l:=fun x hx=>h x (bM _ hx);have h1:=k8 hl;rw[yf];have h2:(4294967296:Nat)^l.length=2^(32*l.length):=by rw[tJ]
  rw[h2] at h1⊢;have h3:dv [d]=d:=by simp[dv]
  rw[h3,Y8 d h1 hd];have h4:(l++[d]).length-1=l.length:=by simp
  rw[h4,aV,jZ (bJ _)];simp
def Lf{f:FuncId}{fn:Func}{c:Code}(h:P.funcs[f]? =some fn)(hb:fn.body=some c)(hn:(fn.name== "runtime.NumGoroutine")=false):s6 P f:=⟨fn,h,hn,by rw[hb];rfl⟩
def aya(hx:x<4294967296):Fn prog 274 [.int .u32 (x:Int)] G (fun v _=>v= .int .i64 (32-(bl x:Int))):=by
 have h:=Fn.of_calls (G:=G) (Lf func274 J J) (fun w=>Tryz.bits_LeadingZeros32 (x:Int) w we we);rw[cK,ayu (uY hx oma)] at h;exact h
def i0(a b:Nat):Int:=if a<b then-1 else if a=b then 0 else 1


def rp(d k:Nat)(hk:k<64)(h:d*2^k<18446744073709551616)(hq:q.toNat=k:=by omega):IntKind.u64.wrap ((d:Int)*2^min q.toNat IntKind.u64.bits)=((d*2^k:Nat):Int):=by
 rw[hq,kW (by show k<=64;omega),sA];have e2:(d:Int)*2^k=((d*2^k:Nat):Int):=by push_cast;rfl
 rw[e2];omega
def N9(d k:Nat)(hk:k<64:=by omega)(hq:q.toNat=k:=by omega):(d:Int).fdiv (2^min q.toNat IntKind.u64.bits)=((d/2^k:Nat):Int):=by
 rw[hq,kW (by show k<=64;omega),lX _ (qJ (Int.pow_pos oma))];push_cast;rfl
section
variable {C:aF}{fr:Fr}{own:List aB}{dst:Option Nat}{t t1 t2 ty':TypeId}{pos:String}{af:Array Edge}{gd:Option (Nat×Bool)}{x y:Operand}
end
end Go.Sx
end
section
namespace Go.Sx
def w9(i:Nat):(4294967296:Nat)^(i+1)=4294967296^i*4294967296:=iL ..
def Vr{U p V T S first third:Nat}(hU:U<(first*4294967296+third+1)*p)(h3:third<4294967296)(hV:(T*4294967296+S)*p<=V)(hT:0<T):
  U<(first/T+1)*V:=by
 have h1:first+1<=(first/T+1)*T:=by
  have:=Nat.lt_mul_div_succ first hT
  rw[cW];omega
 calc U<(first*4294967296+third+1)*p:=hU
  _<=((first+1)*4294967296)*p:=bR _ we
  _<=(((first/T+1)*T)*4294967296)*p:=bR _ (bR _ h1)
  _=(first/T+1)*((T*4294967296)*p):=by rw[cY (first/T+1),cY (first/T+1)]
  _<=(first/T+1)*V:=gU _ (cN (bR _ (oM _ _)) hV)
def aNV{U p V T S first third v0:Nat}(hU:(first*4294967296+third)*p<=U)(hV:V=(T*4294967296+S)*p+v0)(hv:v0<p)(hlt:U<V*4294967296):first<=T*4294967296+S:=by
 rcases gN (T*4294967296+S) first with h|h
 .exfalso
  have h1:(T*4294967296+S+1)*p<=first*p:=bR p h
  rw[dY _ 1,nU] at h1;rw[dY,nR] at hU;have:0<=third*p:=aS _;omega
 .exact h
def H9{U p V T S first third g r:Nat}(hU:U<(first*4294967296+third+1)*p)(hV:(T*4294967296+S)*p<=V)(hg:first=g*T+r)(hc:r*4294967296+third<g*S:=by omega):U<g*V:=by
 refine cM hU (cN (bR p (m:=g*(T*4294967296+S)) ?_) ?_)
 .rw[eX,<-cY,hg,dY];omega
 .rw[cY];exact gU _ hV
def Lt{U p V T S first third g r v0:Nat}(hU:(first*4294967296+third)*p<=U)(hV:V=(T*4294967296+S)*p+v0)(hv:v0<p)(hT:0<T)(hg:first=g*T+r)(hgB:g<4294967296)(hc:g*S<=r*4294967296+third):g*V<U+V:=by
 have h1:g*((T*4294967296+S)*p)<=U:=by
  rw[<-cY];refine cN (bR p ?_) hU;rw[eX,<-cY,hg,dY];omega
 have h2:g*v0<=4294967295*v0:=bR _ we;have h3:4294967296*p<=V:=by
  rw[hV];refine cN (bR p ?_) (oM _ _);omega
 have h4:g*V=g*((T*4294967296+S)*p)+g*v0:=by rw[<-eX,<-hV]
 omega
def aDU{U V R g:Nat}(h:U<(g+1)*V)(hr:R+g*V=U):R<V:=by
 rw[dY,nU] at h;omega
def aEe{U V R R' g w M:Nat}(h2:g*V<U+V)(hr:R+g*V=U+M)(hb:R'+w*M=R+V)(hR:R<M)(hR':R'<M)(hw:w<=1)(hg:0<g):R'+(g-1)*V=U/\R'<V:=by
 have hgv:g*V=(g-1)*V+V:=by
  conv=>lhs;rw[show g=(g-1)+1 by omega,dY,nU]
 have:w=1:=by
  rcases gN w 1 with h|h
  .have:w=0:=by omega
   subst this;omega
  .omega
 subst this;omega
def zM(us:List Nat)(i:Nat):dv (us.drop i)=us.getD i 0+4294967296*dv (us.drop (i+1)):=by
 rcases gN i us.length with h|h
 .rw[bK h];simp[dv,List.getD,aQ h]
 .rw[iW h,iW we]
  simp[dv,dT h,List.getD]
def xI(us:List Nat)(i:Nat):dv us=dv (us.take i)+4294967296^i*dv (us.drop i):=by
 rcases gN us.length i with h|h
 .rw[bS we,iW we];simp[dv]
 .exact Ci us i h
def DW{us:List Nat}(h:bt us)(i:Nat):dv (us.take i)<4294967296^i:=by
 refine cM (k8 (h.take i)) (cZ oma ?_);simp[bT];omega
def Bg{us:List Nat}{i:Nat}(hd:dv us<4294967296^i):dv (us.drop i)=0:=by
 have h:=xI us i;rcases fL (dv (us.drop i)) with h0|h0
 .exact h0
 .have:=gU (4294967296^i) h0
  omega
def YI{W W' U E p u x bo b c c1 g d:Nat}(hs:W'+p*u=W+p*x)(hw:W+E=U+(bo+c)*p)(hc:c1=c+g*d)(hx:x+(c1%4294967296+bo)=u+b*4294967296):
  W'+(E+g*d*p)=U+(b+c1/4294967296)*(p*4294967296):=by
 have h1:=congrArg (p* ·) hx;simp only[eX] at h1;have h2:p*c1=p*(c1%4294967296)+p*(c1/4294967296)*4294967296:=by
  rw[cY,<-eX,Nat.mod_add_div']
 have h3:p*c1=p*c+p*(g*d):=by rw[hc,eX]
 rw[dY,cW bo,cW c] at hw;rw[cW (g*d),dY,<-cY b,<-cY (c1/4294967296),cW b,cW (c1/4294967296)];rw[<-cY] at h1;omega
def aGr{W W' U E p u x bo b c:Nat}(hs:W'+p*u=W+p*x)(hw:W+E=U+(bo+c)*p)(hx:x+(c+bo)=u+b*4294967296):W'+E=U+b*(p*4294967296):=by
 have h1:=congrArg (p* ·) hx;simp only[eX] at h1;rw[dY,cW bo,cW c] at hw;rw[<-cY b,cW b];rw[<-cY] at h1;omega
def aEp{W W' R E p u d c:Nat}(hs:W'+p*u=W+p*((c+(u+d))%4294967296))(hw:W+c*p=R+E):W'+(c+(u+d))/4294967296*(p*4294967296)=R+(E+d*p):=by
 have h2:p*(c+(u+d))=p*((c+(u+d))%4294967296)+p*((c+(u+d))/4294967296)*4294967296:=by
  rw[cY,<-eX,Nat.mod_add_div']
 rw[eX p c,eX p u] at h2;rw[cW c] at hw;rw[cW d,<-cY,cW _ p];omega
def aG0{W W' R p u c:Nat}(hs:W'+p*u=W+p*((u+c)%4294967296))(hw:W+c*p=R):W'+(u+c)/4294967296*(p*4294967296)=R:=by
 have h2:p*(u+c)=p*((u+c)%4294967296)+p*((u+c)/4294967296)*4294967296:=by
  rw[cY,<-eX,Nat.mod_add_div']
 rw[eX p u] at h2;rw[cW c] at hw;rw[<-cY,cW _ p];omega
def aMB{us:List Nat}(h:bt us)(i:Nat)(hd:dv us<4294967296^(i+3)):
  dv us=((us.getD (i+2) 0*4294967296+us.getD (i+1) 0)*4294967296+us.getD i 0)*4294967296^i+dv (us.take i):=by
 have h0:=Bg hd;rw[xI us i,zM us i,zM us (i+1),zM us (i+2),h0,lV,cW];congr 2;omega
def ZQ{us:List Nat}(h:bt us)(i:Nat)(hd:dv us<4294967296^(i+2)):
  dv us=(us.getD (i+1) 0*4294967296+us.getD i 0)*4294967296^i+dv (us.take i):=by
 have h0:=Bg hd;rw[xI us i,zM us i,zM us (i+1),h0,lV,cW];congr 2;omega
def F2{us:List Nat}{k i d:Nat}(h:bt us)(hd:d<4294967296)(hk:dv us<4294967296^k)(hi:i<k:=by omega):dv (us.set i d)<4294967296^k:=by
 rw[xI _ k,List.drop_set,if_pos hi,Bg hk,uK,gK];exact DW (h.set i hd) k
end Go.Sx
end
section
namespace Go.Sx
open Go Go.Proofs

end Go.Sx
end
section
namespace Go.Sx
open Go
section
variable {P:Program}{C:aF}{n:Nat}{fr:Fr}{own:List aB}{G:Gh}
def Pw:Exit->Bool
 | .goto _=>false
 |_=>true
end
end Go.Sx
end
section
namespace Go.Sx
open Go Go.Proofs
def Y3{V n:Nat}(h1:4294967296^(n-1)<=V)(h2:V<4294967296^n)(hn:0<n):(dg V).length=n:=by
 obtain⟨e,hk,hr⟩:=eE V;have hne:dg V≠[]:=fun h=>by
  rw[h] at e;have:0<4294967296^(n-1):=iX oma;simp[dv] at e;omega
 have h3:=wT hr hne;have h4:=k8 hk;rw[e] at h3 h4;have h5:=(oV (a:=4294967296) oma).1 (dZ h3 h2);have h6:=(oV (a:=4294967296) oma).1 (dZ h1 h4);omega
def Wg{t s:Nat}(h0:0<t)(ht:t<4294967296)(hs:s=32-bl t):s<32/\2147483648<=t*2^s/\(t+1)*2^s<=4294967296:=by
 have h1:bl t<=32:=nf.2 ht;have h2:bl t≠0:=fun h=>by
  have:=Ft t;rw[h] at this;omega
 have h3:=Ft t;have h4: ¬t<2^(bl t-1):=fun h=>by
  have:=nf.2 h;omega
 have e1:2^(bl t-1)*2^s=2147483648:=by rw[<-fT,show bl t-1+s=31 by omega]
 have e2:2^bl t*2^s=4294967296:=by rw[<-fT,show bl t+s=32 by omega]
 refine⟨we,?_,?_⟩
 .rw[<-e1];exact bR _ we
 .rw[<-e2];exact bR _ h3
def aMv{us:List Nat}(h:bt us)(i:Nat)(hd:us.length=i+1):dv us=us.getD i 0*4294967296^i+dv (us.take i):=by
 have h0:dv (us.drop (i+1))=0:=by rw[iW we];rfl
 rw[xI us i,zM us i,h0,lV,cW];rfl
def Qn{b:List Nat}(h:dG b)(i:Nat)(hi:b.length=i+1):0<b.getD i 0:=by
 rcases fL (b.getD i 0) with h0|h0
 .exfalso
  apply h;rw[lY,hi,show i+1-1=i from J];rw[List.getD,aQ we] at h0;rw[aQ we];simpa using h0
 .exact h0
def Zx(a:List Nat)(k:Nat):dv (a++List.replicate k 0)=dv a:=by rw[yf,zp];simp
def uk(u m bo:Nat):Nat:=if m+bo<=u then u-(m+bo) else u+18446744073709551616-(m+bo)
def Gi(u m bo:Nat)(hu:u<4294967296)(hm:m<4294967296)(hb:bo<=1):IntKind.u64.wrap (IntKind.u64.wrap ((u:Int)-(m:Int))-(bo:Int))=((uk u m bo:Nat):Int):=by
 rw[sA,sA];unfold uk;split<;>omega
def Rg(u m bo:Nat)(hu:u<4294967296)(hm:m<4294967296)(hb:bo<=1):uk u m bo%4294967296+(m+bo)=u+uk u m bo/9223372036854775808*4294967296/\uk u m bo/9223372036854775808<=1/\uk u m bo<18446744073709551616:=by
 unfold uk;split<;>omega
def ji{u k:Nat}(h:u<2^k):32*(dg u).length<=k+31:=aEx (eE u).2.2 (by rw[(eE u).1];exact h)
structure IV where
 neg:Bool
 a:SV
def IV.v(z:IV):Value:= .agg ⟨[.bool z.neg, .slice z.a.a z.a.n z.a.c]⟩
def zv(neg:Bool)(u:Nat):Int:=if neg then-(u:Int) else u
def m7(neg:Bool)(u:Nat):(zv neg u).natAbs=u:=by cases neg<;>simp[zv]
def aHD(neg:Bool)(u:Nat):zv (!neg) u= -zv neg u:=by cases neg<;>simp[zv]
def UA(n m:Bool)(u w:Nat):zv (n !=m) (u*w)=zv n u*zv m w:=by cases n<;>cases m<;>simp[zv,Int.neg_mul,Int.mul_neg]
def O8(neg:Bool)(u:Nat):decide (zv neg u<0)=(neg&&decide (0<u)):=by
 cases neg<;>simp[zv]
def l5(m:Int):zv (decide (m<0)) m.natAbs=m:=by
 unfold zv;by_cases h:m<0<;>simp[h]<;>omega
structure q9 (k:Nat) (G:Gh) (z:IV) (m:Int):Prop where
 neg:z.neg=decide (m<0)
 abs:AI k G z.a m.natAbs
def q9.up{k:Nat}{A G:Gh}{z:IV}{m:Int}(h:q9 k A z m)[GL A G]:q9 k G z m:=⟨h.neg,h.abs.up⟩
def ZW(n:Bool)(u w:Nat):zv n (u+w)=zv n u+zv n w:=by cases n<;>simp[zv]<;>omega
def Jd(p:Int):IntKind.i64.wrap p=(p+9223372036854775808)%18446744073709551616-9223372036854775808:=by
 have e:IntKind.i64.wrap p=if(true&&decide (p%2^64>=2^(64-1)))=true then p%2^64-2^64 else p%2^64:=J
 rw[e,show(2:Int)^64=18446744073709551616 by decide,show(2:Int)^(64-1)=9223372036854775808 by decide,pR];by_cases h:p%18446744073709551616>=9223372036854775808
 .rw[decide_eq_true h,if_pos J];omega
 .rw[decide_eq_false h,if_neg oma];omega
end Go.Sx
end
