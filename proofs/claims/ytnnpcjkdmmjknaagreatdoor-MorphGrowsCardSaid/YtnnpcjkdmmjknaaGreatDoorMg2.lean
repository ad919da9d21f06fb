import Derived.Test.YtnnpcjkdmmjknaaGreatDoorMg1
import Derived.Test.YtnnpcjkdmmjknaaGreatDoorProg
import Derived.Shelf.Small.Bits
import Derived.Shelf.Strconv.Itoa0
import Derived.Shelf.Bits.Mul64
set_option linter.all false
set_option maxRecDepth 100000
section
namespace Go.Sx
open Go
variable {P:Program}{t t' ty' ty:TypeId}{d n b f off ft k m e s by_ len cap l2 c2 cap2 i j:Nat}{C:aD}{fr:Fr}{own' own1 own0:List av}{G G0 A:Gh}{Φ K:Act->World->Prop}{dst:Option Nat}{pos:String}{af:Array Edge}{gd:Option (Nat×Bool)}{x y:Operand}{w:World}{p ad ad2:Option Addr}{q lo c:Bool}{v z:Value}{l out ys xs rest:List Value}{parts:Array (Nat×Operand)}{o:Oper}{ops:Array Oper}{Q:Exit->Act->World->Prop}{fin:Nat->Bool}{op:Op}
def Im{d:TypeDesc}(h:P.underlying t=some d)(w:World):(underlying t).run P w= .ok d w:=by
 simp[underlying,program,Sem.run_bind,Sem.run,h,run_pure]
class KQ (P:Program) (t:TypeId):Prop where u: ∀w,(underlying t).run P w= .ok .bool w
class Jt (P:Program) (t:TypeId):Prop where u: ∃e,∀w,(underlying t).run P w= .ok (.pointer e) w
class Hw (P:Program) (t:TypeId):Prop where u: ∃ms,∀w,(underlying t).run P w= .ok (.interface ms) w
class Hf (P:Program) (t:TypeId) (f:Nat) (off ft:outParam Nat):Prop where
 u: ∃fs fd,(∀w,(underlying t).run P w= .ok (.struct fs) w)/\fs[f]? =some fd/\fd.offset=off/\fd.type=ft
class ke (P:Program) (t:TypeId):Prop where
 un: ∃e,P.underlying t=some (.slice e)
section
variable {own:List av}
def td{p q:Value}{b:Bool}(h:(Op.equalIn (9999+1) t p q).run P w= .ok b w):(Op.equal t p q).run P w= .ok b w:=h
def Xn[hT:KQ P t]{p:Bool}(hx:aA fr x=some (.bool p))(hy:aA fr y=some (.bool q)):Yd P C fr own G ⟨dst, .binOp .eql t x y t',ty',pos,af,gd⟩ (.bool (p==q)):=by
 intro a w hf hh;simp only[execOp,bw hf hx,bw hf hy];have h1:(Op.equal t (.bool p) (.bool q)).run P w= .ok (p==q) w:=td (by unfold Op.equalIn;rw[aP (hT.u w)];rfl);have h2:(eqGuard .eql t x y (.bool p) (.bool q)).run P w= .ok () w:=J;have h3:(binOp .eql t (.bool p) (.bool q)).run P w= .ok (.bool (p==q)) w:=by simp only[binOp];rw[aP h1];rfl
 exact cE (by rw[aP h2];exact h3)
def WF[hT:KQ P t]{p:Bool}(hx:aA fr x=some (.bool p))(hy:aA fr y=some (.bool q)):Yd P C fr own G ⟨dst, .binOp .neq t x y t',ty',pos,af,gd⟩ (.bool (!(p==q))):=by
 intro a w hf hh;simp only[execOp,bw hf hx,bw hf hy];have h1:(Op.equal t (.bool p) (.bool q)).run P w= .ok (p==q) w:=td (by unfold Op.equalIn;rw[aP (hT.u w)];rfl);have h2:(eqGuard .neq t x y (.bool p) (.bool q)).run P w= .ok () w:=J;have h3:(binOp .neq t (.bool p) (.bool q)).run P w= .ok (.bool (!(p==q))) w:=by simp only[binOp];rw[aP h1];rfl
 exact cE (by rw[aP h2];exact h3)
def Ey[hT:Jt P t](hx:aA fr x=some (.pointer p))(hy:aA fr y=some (.pointer none)):Yd P C fr own G ⟨dst, .binOp .eql t x y t',ty',pos,af,gd⟩ (.bool p.isNone):=by
 obtain⟨e,he⟩:=hT.u;intro a w hf hh;simp only[execOp,bw hf hx,bw hf hy];have h1:(Op.equal t (.pointer p) (.pointer none)).run P w= .ok p.isNone w:=td (by unfold Op.equalIn;rw[aP (he w)];cases p<;>rfl);have h2:(eqGuard .eql t x y (.pointer p) (.pointer none)).run P w= .ok () w:=by cases p<;>rfl
 have h3:(binOp .eql t (.pointer p) (.pointer none)).run P w= .ok (.bool p.isNone) w:=by cases p<;>(simp only[binOp];rw[aP h1];rfl)
 exact cE (by rw[aP h2];exact h3)
def DF[hT:Jt P t](hx:aA fr x=some (.pointer p))(hy:aA fr y=some (.pointer none)):Yd P C fr own G ⟨dst, .binOp .neq t x y t',ty',pos,af,gd⟩ (.bool (!p.isNone)):=by
 obtain⟨e,he⟩:=hT.u;intro a w hf hh;simp only[execOp,bw hf hx,bw hf hy];have h1:(Op.equal t (.pointer p) (.pointer none)).run P w= .ok p.isNone w:=td (by unfold Op.equalIn;rw[aP (he w)];cases p<;>rfl);have h2:(eqGuard .neq t x y (.pointer p) (.pointer none)).run P w= .ok () w:=by cases p<;>rfl
 have h3:(binOp .neq t (.pointer p) (.pointer none)).run P w= .ok (.bool (!p.isNone)) w:=by cases p<;>(simp only[binOp];rw[aP h1];rfl)
 exact cE (by rw[aP h2];exact h3)
def Ot[hT:Hw P t](hv:v= .nilIface\/ ∃k u,v= .iface k u)(hx:aA fr x=some v):
  Yd P C fr own G ⟨dst, .binOp .eql t x (.const .nilIface) t',ty',pos,af,gd⟩ (.bool (match v with| .nilIface=>true|_=>false)):=by
 obtain⟨e,he⟩:=hT.u;intro a w hf hh;simp only[execOp,bw hf hx,show a.eval (.const .nilIface)= .nilIface from J];rcases hv with rfl|⟨k,u,rfl⟩
 .have h1:(Op.equal t .nilIface .nilIface).run P w= .ok true w:=td (by unfold Op.equalIn;rw[aP (he w)];rfl)
  have h2:(eqGuard .eql t x (.const .nilIface) .nilIface .nilIface).run P w= .ok () w:=by cases x<;>rfl
  exact cE (by rw[aP h2];simp only[binOp];rw[aP h1];rfl)
 .have h1:(Op.equal t (.iface k u) .nilIface).run P w= .ok false w:=td (by unfold Op.equalIn;rw[aP (he w)];rfl)
  exact cE (by rw[aP (a:=()) (w':=w) J];simp only[binOp];rw[aP h1];rfl)
def QU[hT:Hw P t](hv:v= .nilIface\/ ∃k u,v= .iface k u)(hx:aA fr x=some v):
  Yd P C fr own G ⟨dst, .binOp .neq t x (.const .nilIface) t',ty',pos,af,gd⟩ (.bool (match v with| .nilIface=>false|_=>true)):=by
 obtain⟨e,he⟩:=hT.u;intro a w hf hh;simp only[execOp,bw hf hx,show a.eval (.const .nilIface)= .nilIface from J];rcases hv with rfl|⟨k,u,rfl⟩
 .have h1:(Op.equal t .nilIface .nilIface).run P w= .ok true w:=td (by unfold Op.equalIn;rw[aP (he w)];rfl)
  have h2:(eqGuard .neq t x (.const .nilIface) .nilIface .nilIface).run P w= .ok () w:=by cases x<;>rfl
  exact cE (by rw[aP h2];simp only[binOp];rw[aP h1];rfl)
 .have h1:(Op.equal t (.iface k u) .nilIface).run P w= .ok false w:=td (by unfold Op.equalIn;rw[aP (he w)];rfl)
  exact cE (by rw[aP (a:=()) (w':=w) J];simp only[binOp];rw[aP h1];rfl)
def atE{cs:List Value}[hF:Hf P t f off ft][hA:lu P ft k](hx:aA fr x=some (.agg ⟨cs⟩))(hl:cw cs off k=some l):Yd P C fr own G ⟨dst, .field t x f,ty',pos,af,gd⟩ (.agg ⟨l⟩):=by
 obtain⟨fs,fd,h1,h2,h3,h4⟩:=hF.u;intro a w hf hh;simp only[execOp,bw hf hx];have:(Instr.field t (.agg ⟨cs⟩) f).run P w= .ok (.agg ⟨l⟩) w:=by
  unfold Instr.field;rw[aP (h1 w)];simp only[h2,h3,h4,asAgg];rw[aP (run_pure _ _ _)];unfold part;rw[aP (hA.agg w)];simp only[if_true];rw[aP (hA.siz w)];obtain⟨k1,k2⟩:=qa _ _ _ _ hl;have:(⟨cs⟩:Array Value).extract off (off+k)=⟨l⟩:=by
   apply Array.ext';rw[Array.toList_extract];apply lR;intro i;rw[List.extract_eq_take_drop,pK];split
   .rw[mX];exact k2 i (by omega)
   .exact(dY (show l.length<=i by omega)).symm
  rw[this];rfl
 exact cE this
def av4{cs:List Value}[hF:Hf P t f off ft][hA:iF P ft](hx:aA fr x=some (.agg ⟨cs⟩))(hl:cs[off]? =some v):Yd P C fr own G ⟨dst, .field t x f,ty',pos,af,gd⟩ v:=by
 obtain⟨fs,fd,h1,h2,h3,h4⟩:=hF.u;intro a w hf hh;simp only[execOp,bw hf hx];have:(Instr.field t (.agg ⟨cs⟩) f).run P w= .ok v w:=by
  unfold Instr.field;rw[aP (h1 w)];simp only[h2,h3,h4,asAgg];rw[aP (run_pure _ _ _)];unfold part;rw[aP (hA.agg w)];have:(⟨cs⟩:Array Value)[off]? =some v:=by simpa using hl
  simp only[kZ,if_false,this];rfl
 exact cE this
class Bi (P:Program) (t:TypeId) (offs:outParam (List (Nat×Nat))):Prop where
 u: ∃fs:Array Field,(∀w,(underlying t).run P w= .ok (.struct fs) w)/\(∀w,(fs.mapM (m:=Sem) fun f=>do pure (f.offset,<-sizeOf f.type)).run P w= .ok ⟨offs⟩ w)
def vr(fr:Fr)(offs:List (Nat×Nat)):List Value->List (Nat×Operand)->Option (List Value)
 |cs,[]=>some cs
 |cs,(i,x)::r=>match offs[i]?,aA fr x with
  |some (off,k),some v=>if(aE v).length=k/\off+k<=cs.length then vr fr offs (cA cs off (aE v)) r else none
  |_,_=>none
def EP: ∀(vs:List Value) (cs:Array Value) (off j:Nat),(vs.zipIdx j).foldl (fun cs (c,j)=>cs.setIfInBounds (off+j) c) cs=⟨cA cs.toList (off+j) vs⟩
 |[],cs,off,j=>rfl
 |v::vs,cs,off,j=>by
  simp only[List.zipIdx_cons,kK];rw[EP vs _ off (j+1)];simp[cA,kV]
def Gm{a:Act}(hf:mf fr a)(offs:List (Nat×Nat)): ∀(ps:List (Nat×Operand)) (cs out:List Value),vr fr offs cs ps=some out->
  Instr.fill ((⟨offs⟩:Array (Nat×Nat))[·]?) ⟨cs⟩ (ps.map fun(i,x)=>(i,a.eval x))=some ⟨out⟩
 |[],cs,out,h=>by simp only[vr] at h;cases h;rfl
 |(i,x)::ps,cs,out,h=>by
  simp only[vr] at h;split at h
  .rename_i off k v ho hv
   split at h
   .rename_i hc
    simp only[bT,Instr.fill];have:(⟨offs⟩:Array (Nat×Nat))[i]? =some (off,k):=by simpa using ho
    simp only[this,bw hf hv,pz];have h1: ¬((⟨aE v⟩:Array Value).size≠k):=by simp[hc.1]
    have h2: ¬(off+(⟨aE v⟩:Array Value).size>(⟨cs⟩:Array Value).size):=by simp only[qZ,hc.1];omega
    rw[if_neg (by simp only[iT,decide_eq_true_eq,not_or];exact⟨by simpa using h1,by simpa using h2⟩)];have e:=EP (aE v) ⟨cs⟩ off 0;have e':(⟨aE v⟩:Array Value).zipIdx.foldl (fun cs (c,j)=>cs.setIfInBounds (off+j) c) (⟨cs⟩:Array Value)=⟨cA cs off (aE v)⟩:=by
     rw[<-rS,tK];simpa using e
    rw[e'];exact Gm hf offs ps _ _ h
   .cases h
  .cases h
def wo{offs:List (Nat×Nat)}[hT:Bi P t offs][hz:gq P t z](hb:vr fr offs (aE z) parts.toList=some out):Yd P C fr own G ⟨dst, .build t parts,ty',pos,af,gd⟩ (.agg ⟨out⟩):=by
 obtain⟨fs,h1,h2⟩:=hT.u;intro a w hf hh;simp only[execOp];have:(Instr.build t (parts.map fun(i,x)=>(i,a.eval x))).run P w= .ok (.agg ⟨out⟩) w:=by
  unfold Instr.build;rw[aP (hz.zero w),pz];rw[aP (h1 w)];simp only[];rw[aP (h2 w)];have:=Gm hf offs parts.toList _ _ hb;simp only[qV,this];rfl
 exact cE this
end
def de(z:Value)(k:Nat):List Value:=(List.replicate k (aE z)).flatten
def Ig{α:Type}(l:List α): ∀(k i:Nat),i<k*l.length->(List.replicate k l).flatten[i]? =l[i%l.length]?
 |0,i,h=>by omega
 |k+1,i,h=>by
  rw[mN,qX];by_cases hi:i<l.length
  .rw[jX hi,gS hi]
  .rw[jT (by omega),Ig l k (i-l.length) (by rw[dJ] at h;omega)]
   rw[Nat.mod_eq_sub_mod (Nat.ge_of_not_lt hi)]
def pc(z:Value)(k:Nat):(de z k).length=k*(aE z).length:=by simp[de]
def A7(h:m=k*(aE z).length):((Array.range m).map fun i=>(⟨aE z⟩:Array Value)[i%(⟨aE z⟩:Array Value).size]!)=⟨de z k⟩:=by
 subst h;apply Array.ext';apply lR;intro i;simp only[qV,Array.toList_range,bS,qZ];by_cases hi:i<k*(aE z).length
 .rw[oT hi]
  simp only[kJ];have h1:=Ig (aE z) k i hi;have hpos:0<(aE z).length:=by
   rcases gU (aE z).length with h|h
   .rw[h,qW] at hi;omega
   .exact h
  have hm:=dV i hpos;show _=(de z k)[i]?;unfold de;rw[h1];simp[hm]
 .rw[dY (by simpa using hi)]
  rw[dY (by show(de z k).length<=i;rw[pc];omega)];rfl
section
variable {own:List av}
def SP[hT:cv P t e s by_](w:World): ∃i:TypeInfo,(typeInfo e).run P w= .ok i w/\i.bytes=by_:=by
 obtain⟨i,h1,_,h2⟩:=hT.info;exact⟨i,by simp[typeInfo,program,Sem.run_bind,Sem.run,h1,run_pure],h2⟩
def s9[hT:cv P t e s by_]{z:Value}[hz:gq P e z]{k k':IntKind}{l:Int}(hx:aA fr x=some (.int k l))(hy:aA fr y=some (.int k' l))(h0:0<=l)(hb:by_*l<=2^47)(hl:l<=2^60)(hs:(aE z).length=s)(hd:b7 n dst=true)
  (h: ∀b,St C n (put fr dst (.slice (some ⟨b,0,none⟩) l.toNat l.toNat)) (⟨b,de z l.toNat,e,true⟩::own) G Φ):
  Ch P C n fr own G ⟨dst, .makeSlice t x y,ty',pos,af,gd⟩ Φ:=by
 intro a w Q rl;have h1:(Instr.makeSlice t (a.eval x) (a.eval y)).run P w= .ok (.slice (some ⟨w.heap.size,0,none⟩) l.toNat l.toNat) (w.alloc (.cells ⟨de z l.toNat⟩ e)):=by
  obtain⟨i,hi,hib⟩:=SP (P:=P) (t:=t) (e:=e) (s:=s) (by_:=by_) w;rw[bw rl.fr hx,bw rl.fr hy];unfold Instr.makeSlice;rw[aP (hT.u w)];simp only[asInt,asIntOf];rw[aP (a:=l) (w':=w) J,aP (a:=l) (w':=w) J,aP hi,hib];have hw:IntKind.i64.wrap l=l:=tk (by simp[IntKind.min,IntKind.max,IntKind.signed,IntKind.bits];omega);simp only[hw];have c1: ¬((by_:Int)*l>2^48):=by
   have:(2:Int)^47<=2^48:=by decide
   omega
  have c2:(decide (l<0)||decide ((by_:Int)*l>2^48))=false:=by simp[c1];omega
  simp only[c2,Int.lt_irrefl,decide_false,Bool.or_false,Bool.false_or];have c3:decide (l<0)=false:=by simp;omega
  simp only[c3,kZ,if_false,gt_iff_lt,Int.lt_irrefl,decide_false,Bool.or_false];have hr: ¬(l.toNat*by_>roomBytes):=by
   unfold roomBytes;have:((l.toNat*by_:Nat):Int)=by_*l:=by rw[jU,qN h0,sZ]
   have h47:((2^47:Nat):Int)=2^47:=by decide
   omega
  unfold askRoom;simp only[hr,if_false];rw[aP (run_pure _ _ _),aP (hT.siz w)];have hn:l.toNat*s=l.toNat*(aE z).length:=by rw[hs]
  by_cases h00:l.toNat*s=0
  .rw[if_pos h00,aP (run_pure _ _ _)]
   have e0:de z l.toNat=[]:=bM (by rw[pc,hs];exact h00);rw[h00,e0,show(Array.range 0)= #[] from J,Array.map_empty];rfl
  .rw[if_neg h00,aP (hz.zero w),pz]
   rw[aP (run_pure _ _ _),A7 hn];rfl
 refine(fun hk=>?_:Φ (a.put dst (.slice (some ⟨w.heap.size,0,none⟩) l.toNat l.toNat)) (w.alloc (.cells ⟨de z l.toNat⟩ e))->_) (h w.heap.size _ _ ((rl.heap (rl.h.alloc _ _)).put _ hd));exact mi (v:= .slice (some ⟨w.heap.size,0,none⟩) l.toNat l.toNat) (cE h1) hk
def Rv: ∀(vs cs pre:List Value),vs.length=cs.length->cA (pre++cs) pre.length vs=pre++vs
 |[],cs,pre,h=>by have:cs=[]:=bM h.symm;subst this;rfl
 |v::vs,[],pre,h=>by simp at h
 |v::vs,c::cs,pre,h=>by
  simp only[cA,nT _ _ (bX _),sX,List.set_cons_zero];have:=Rv vs cs (pre++[v]) (by simpa using h);simpa using this
def SJ[hT:cv P t e s by_][hz:gq P e z](hx:aA fr x=some v)(hs:(aE z).length=s)(hv:(aE v).length=s)(hsm:s<=1000)(hs0:0<s)(hd:b7 n dst=true)
  (h: ∀b,St C n (put fr dst (.slice (some ⟨b,0,none⟩) 1 1)) (⟨b,aE v,e,true⟩::own) G Φ):
  Ch P C n fr own G ⟨dst, .buildSlice t 1 #[(0,x)],ty',pos,af,gd⟩ Φ:=by
 intro a w Q rl;have h1:(Instr.buildSlice t 1 #[(0,v)]).run P w= .ok (.slice (some ⟨w.heap.size,0,none⟩) 1 1) (w.alloc (.cells ⟨aE v⟩ e)):=by
  unfold Instr.buildSlice;rw[aP (hT.u w)];simp only[];rw[aP (hT.siz w)];have c1: ¬(1*s>2^24):=by omega
  have c2: ¬(1*s=0):=by omega
  simp only[c1,if_false];rw[if_neg c2,aP (hz.zero w),pz,aP (run_pure _ _ _)];rw[A7 (k:=1) (by rw[hs])];have hzl:(de z 1).length=s:=by rw[pc,hs,nX]
  have hf:Instr.fill (fun i=>some (i*s,s)) ⟨de z 1⟩ [(0,v)]=some ⟨aE v⟩:=by
   simp only[Instr.fill,pz];rw[if_neg (by simp[hv,hzl])];have e1:=EP (aE v) ⟨de z 1⟩ (0*s) 0;have e2:(⟨aE v⟩:Array Value).zipIdx.foldl (fun cs (c,j)=>cs.setIfInBounds (0*s+j) c) (⟨de z 1⟩:Array Value)=⟨aE v⟩:=by
    rw[<-rS,tK];have e3:=Rv (aE v) (de z 1) [] (by rw[hv,hzl]);simp only[jN,eX] at e3;rw[lJ,eJ] at e1;rw[e3] at e1;simpa using e1
   rw[e2]
  simp only[hf];rfl
 refine mi (v:= .slice (some ⟨w.heap.size,0,none⟩) 1 1) (w':=w.alloc (.cells ⟨aE v⟩ e)) ?_ (h w.heap.size _ _ ((rl.heap (rl.h.alloc _ _)).put _ hd));simp only[execOp,iY,bT,iZ,bw rl.fr hx];exact cE h1
end
section
variable {own:List av}
def uQ(fr:Fr)(s:Nat):List Value->List (Nat×Operand)->Option (List Value)
 |cs,[]=>some cs
 |cs,(i,x)::r=>match aA fr x with
  |some v=>if(aE v).length=s/\i*s+s<=cs.length then uQ fr s (cA cs (i*s) (aE v)) r else none
  |none=>none
def K0{a:Act}(hf:mf fr a)(s:Nat): ∀(ps:List (Nat×Operand)) (cs out:List Value),uQ fr s cs ps=some out->
  Instr.fill (fun i=>some (i*s,s)) ⟨cs⟩ (ps.map fun(i,x)=>(i,a.eval x))=some ⟨out⟩
 |[],cs,out,h=>by simp only[uQ] at h;cases h;rfl
 |(i,x)::ps,cs,out,h=>by
  simp only[uQ] at h;split at h
  .rename_i v hv
   split at h
   .rename_i hc
    simp only[bT,Instr.fill,bw hf hv,pz];have h1: ¬((⟨aE v⟩:Array Value).size≠s):=by simp[hc.1]
    have h2: ¬(i*s+(⟨aE v⟩:Array Value).size>(⟨cs⟩:Array Value).size):=by simp only[qZ,hc.1];omega
    rw[if_neg (by simp only[iT,decide_eq_true_eq,not_or];exact⟨by simpa using h1,by simpa using h2⟩)];have e:=EP (aE v) ⟨cs⟩ (i*s) 0;have e':(⟨aE v⟩:Array Value).zipIdx.foldl (fun cs (c,j)=>cs.setIfInBounds (i*s+j) c) (⟨cs⟩:Array Value)=⟨cA cs (i*s) (aE v)⟩:=by
     rw[<-rS,tK];simpa using e
    rw[e'];exact K0 hf s ps _ _ h
   .cases h
  .cases h
def DB[hT:cv P t e s by_][hz:gq P e z](hs:(aE z).length=s)(hb:uQ fr s (de z len) parts.toList=some out)(hsm:Nat.ble (len*s) 1000=true)(hs0:Nat.blt 0 (len*s)=true)(hd:b7 n dst=true)
  (h: ∀b,St C n (put fr dst (.slice (some ⟨b,0,none⟩) len len)) (⟨b,out,e,true⟩::own) G Φ):
  Ch P C n fr own G ⟨dst, .buildSlice t len parts,ty',pos,af,gd⟩ Φ:=by
 intro a w Q rl;have hsm':len*s<=1000:=by simpa using hsm
 have hs0':0<len*s:=by simpa[mM] using hs0
 have h1:(Instr.buildSlice t len (parts.map fun(i,x)=>(i,a.eval x))).run P w= .ok (.slice (some ⟨w.heap.size,0,none⟩) len len) (w.alloc (.cells ⟨out⟩ e)):=by
  unfold Instr.buildSlice;rw[aP (hT.u w)];simp only[];rw[aP (hT.siz w)];have c1: ¬(len*s>2^24):=by omega
  have c2: ¬(len*s=0):=by omega
  simp only[c1,if_false];rw[if_neg c2,aP (hz.zero w),pz,aP (run_pure _ _ _)];rw[A7 (k:=len) (by rw[hs])];have hf:=K0 rl.fr s parts.toList _ _ hb;simp only[qV,hf];rfl
 refine mi (v:= .slice (some ⟨w.heap.size,0,none⟩) len len) (w':=w.alloc (.cells ⟨out⟩ e)) ?_ (h w.heap.size _ _ ((rl.heap (rl.h.alloc _ _)).put _ hd));simp only[execOp];exact cE h1
def Ms[hT:cv P t e s by_](hd:b7 n dst=true)(h: ∀b,St C n (put fr dst (.slice (some ⟨b,0,none⟩) 0 0)) (⟨b,[],e,true⟩::own) G Φ):
  Ch P C n fr own G ⟨dst, .buildSlice t 0 #[],ty',pos,af,gd⟩ Φ:=by
 intro a w Q rl;have h1:(Instr.buildSlice t 0 #[]).run P w= .ok (.slice (some ⟨w.heap.size,0,none⟩) 0 0) (w.alloc (.cells ⟨[]⟩ e)):=by
  unfold Instr.buildSlice;rw[aP (hT.u w)];simp only[];rw[aP (hT.siz w)];simp only[lJ,gt_iff_lt,pT,if_false,if_true];rw[aP (run_pure _ _ _),show(Array.range 0)= #[] from J,Array.map_empty];rfl
 refine mi (v:= .slice (some ⟨w.heap.size,0,none⟩) 0 0) (w':=w.alloc (.cells ⟨[]⟩ e)) ?_ (h w.heap.size _ _ ((rl.heap (rl.h.alloc _ _)).put _ hd));simp only[execOp,iY,iZ];exact cE h1
def Rn[hT:cv P t e s by_](hx:aA fr x=some (.slice ad len cap))(hy:aA fr y=some (.slice none l2 c2)):Yd P C fr own G ⟨dst, .binOp .eql t x y t',ty',pos,af,gd⟩ (.bool ad.isNone):=by
 intro a w hf hh;simp only[execOp,bw hf hx,bw hf hy];have h1:(Op.equal t (.slice ad len cap) (.slice none l2 c2)).run P w= .ok ad.isNone w:=td (by unfold Op.equalIn;rw[aP (hT.u w)];cases ad<;>rfl);have h2:(eqGuard .eql t x y (.slice ad len cap) (.slice none l2 c2)).run P w= .ok () w:=J;have h3:(binOp .eql t (.slice ad len cap) (.slice none l2 c2)).run P w= .ok (.bool ad.isNone) w:=by simp only[binOp];rw[aP h1];rfl
 exact cE (by rw[aP h2];exact h3)
def XU[hT:cv P t e s by_](hx:aA fr x=some (.slice ad len cap))(hy:aA fr y=some (.slice none l2 c2)):Yd P C fr own G ⟨dst, .binOp .neq t x y t',ty',pos,af,gd⟩ (.bool (!ad.isNone)):=by
 intro a w hf hh;simp only[execOp,bw hf hx,bw hf hy];have h1:(Op.equal t (.slice ad len cap) (.slice none l2 c2)).run P w= .ok ad.isNone w:=td (by unfold Op.equalIn;rw[aP (hT.u w)];cases ad<;>rfl);have h2:(eqGuard .neq t x y (.slice ad len cap) (.slice none l2 c2)).run P w= .ok () w:=J;have h3:(binOp .neq t (.slice ad len cap) (.slice none l2 c2)).run P w= .ok (.bool (!ad.isNone)) w:=by simp only[binOp];rw[aP h1];rfl
 exact cE (by rw[aP h2];exact h3)
end
def l8: ∀(cs:List Value) (off k:Nat),off+k<=cs.length->cw cs off k=some ((cs.drop off).take k)
 |cs,0,0,_=>by cases cs<;>rfl
 |[],0,k+1,h=>by simp at h
 |v::t,0,k+1,h=>by
  simp only[cw,l8 t 0 k (by simp at h;omega)];simp
 |[],_+1,k,h=>by simp at h
 |_::t,off+1,k,h=>by
  simp only[cw,l8 t off k (by simp at h;omega)];simp
section
variable {own:List av}
def nv(P:Program)(C:aD)(own:List av)(G:Gh)(s m:Nat)(v:Value)(ys:List Value):Prop:=
 ∀w,bF C own G w->(Builtin.firstCells s m v).run P w= .ok ⟨ys⟩ w
def Fi{cs:List Value}{fz:Nat×Nat}(h:w.heap[b]? =some (.cells ⟨cs⟩ ty fz))(hl:cw cs off k=some l):(loadCells ⟨b,off,none⟩ k).run P w= .ok ⟨l⟩ w:=by
 obtain⟨h1,h2⟩:=qa _ _ _ _ hl;unfold loadCells;rw[Ja (l:=l) k 0 #[] (fun j hj=>by rw[D4 h];simpa using h2 j hj) (by omega)];simp[<-h1]
def xk{cs:List Value}(ho:i6 own b cs ty lo)(hl:cw cs off (m*s)=some ys):nv P C own G s m (.slice (some ⟨b,off,none⟩) len cap) ys:=
 fun w h=>Fi (h.hown _ ho.mem).1 hl
def OR{cs:List Value}(hg:G b=some cs)(hl:cw cs off (m*s)=some ys):nv P C own G s m (.slice (some ⟨b,off,none⟩) len cap) ys:=
 fun w h=>by obtain⟨ty,fz,hb⟩:=h.sub _ _ hg;exact Fi hb hl
def vt:nv P C own G s 0 (.slice ad len cap) []:=fun w _=>by
 cases ad with
 |none=>rfl
 |some a=>unfold Builtin.firstCells loadCells;simp[loadCellsFrom,run_pure]
def Us(z:Value)(k:Nat):Builtin.zeroCells ⟨aE z⟩ k=⟨de z k⟩:=by
 unfold Builtin.zeroCells;exact A7 J
def Ib{w':World}[hT:cv P t e s by_][hN:ke P t'][hz:gq P e z]
  (hsx:(Builtin.firstCells s len (.slice ad len cap)).run P w.drew= .ok ⟨xs⟩ w.drew)(hsy:(Builtin.firstCells s m (.slice ad2 m cap2)).run P w.drew= .ok ⟨ys⟩ w.drew)
  (hneed:cap<len+m)(hby:0<by_)(hb:(len+m)*by_<=140737488355328):
  (Builtin.append_ #[t,t'] ty' #[.slice ad len cap, .slice ad2 m cap2]).run P w=
   .ok (.slice (some ⟨w.heap.size,0,none⟩) (len+m) (grownCap w (len+m) cap e)) (w.drew.alloc (.cells ⟨xs++ys++de z (grownCap w (len+m) cap e-(len+m))⟩ e)):=by
 obtain⟨d,hd1⟩:=hN.un;obtain⟨i,hi,his,hib⟩:=hT.info;obtain⟨i',hi',hiz⟩:=hz.info;rw[hi] at hi';cases hi';have hfit:=growslice_fits (old:=cap) (need:=len+m) (bytes:=by_) hneed hb;have hlen:len+m<=140737488355328:=cS (mR _ hby) hb;have hn: ¬(len+m<=cap):=by omega
 have h63': ¬(9223372036854775807<((len:Int)+(m:Int))):=by omega
 have h48': ¬(281474976710656<Builtin.nextslicecap (len+m) cap*i.bytes):=by rw[hib];omega
 subst his;simp[Builtin.append_,run_underlying hT.un,run_underlying hd1,sizeOf,typeInfo,zeroValue,hi,hiz,Builtin.lenOf,hn,h63',h48',Question.forced,hsx,hsy,newRow,grownCap];congr 2;apply Array.ext';rw[pz,Us];simp[dW]
def A5[hT:cv P t e s by_][hN:ke P t'][hz:gq P e z]
  (hx:aA fr x=some (.slice ad len cap))(hy:aA fr y=some (.slice ad2 m cap2))(hsx:nv P C own G s len (.slice ad len cap) xs)(hsy:nv P C own G s m (.slice ad2 m cap2) ys)
  (hneed:cap<len+m)(hby:0<by_)(hb:(len+m)*by_<=140737488355328)(hd:b7 n dst=true)
  (h: ∀b cap',len+m<=cap'->St C n (put fr dst (.slice (some ⟨b,0,none⟩) (len+m) cap')) (⟨b,xs++ys++de z (cap'-(len+m)),e,true⟩::own) G Φ):
  Ch P C n fr own G ⟨dst, .call ⟨.builtin .append, #[x,y], #[t,t']⟩,ty',pos,af,gd⟩ Φ:=by
 intro a w Q rl;have hcap:len+m<=grownCap w (len+m) cap e:=by unfold grownCap;simp only[Question.cut];omega
 have hrun:=Ib (P:=P) (t:=t) (t':=t') (ty':=ty') (w:=w) (w':=w) (hsx _ rl.h.drew) (hsy _ rl.h.drew) hneed hby hb;refine mi (v:= .slice (some ⟨w.heap.size,0,none⟩) (len+m) (grownCap w (len+m) cap e)) (w':=w.drew.alloc (.cells ⟨xs++ys++de z (grownCap w (len+m) cap e-(len+m))⟩ e)) ?_ ?_
 .simp only[execOp,resolve,iY,bT,iZ,bw rl.fr hx,bw rl.fr hy]
  exact cE hrun
 .exact h w.heap.size _ hcap _ _ ((rl.heap ((rl.h.drew).alloc _ _)).put _ hd)
def kh.perm{o:av}(h:kh own o own1):own.Perm (o::own1):=by
 induction h with
 |hd o t=>exact List.Perm.refl _
 |tl x t t' o h ih=>exact(List.Perm.cons x ih).trans (List.Perm.swap _ _ _)
def KL[hT:cv P t e s by_][hN:ke P t']{cs:List Value}
  (hb:w.heap[b]? =some (.cells ⟨cs⟩ e (0,0)))(hcs:cs.length=cap*s)(hsy:(Builtin.firstCells s m (.slice ad2 m cap2)).run P w= .ok ⟨ys⟩ w)(hys:ys.length=m*s)(hf: ∀v∈ys,flat v=true)
  (hneed:len+m<=cap):
  (Builtin.append_ #[t,t'] ty' #[.slice (some ⟨b,0,none⟩) len cap, .slice ad2 m cap2]).run P w=
   .ok (.slice (some ⟨b,0,none⟩) (len+m) cap) (ig w b (.cells ⟨cA cs (len*s) ys⟩ e (0,0))):=by
 obtain⟨d,hd1⟩:=hN.un;obtain⟨i,hi,his,hib⟩:=hT.info;subst his;have hl:len*i.size+ys.length<=cs.length:=by rw[hys,hcs,<-dJ];exact bL _ hneed
 have hst:=Bs (P:=P) ys w (len*i.size) 0 cs hf hb (by omega);rw[fK] at hst;simp[Builtin.append_,run_underlying hT.un,run_underlying hd1,sizeOf,typeInfo,hi,Builtin.lenOf,hneed,hsy,qD,hst]
def Bw: ∀(vs cs:List Value) (off:Nat),(cA cs off vs).length=cs.length
 |[],cs,off=>rfl
 |v::vs,cs,off=>by simp[cA,Bw vs]
def q9: ∀(vs cs:List Value) (off:Nat),off+vs.length<=cs.length->cA cs off vs=cs.take off++vs++cs.drop (off+vs.length)
 |[],cs,off,h=>by simp[cA]
 |v::vs,cs,off,h=>by
  simp only[bJ] at h;rw[cA,q9 vs _ _ (by simp;omega)];rw[List.take_set,tV (by omega)];have h1:(cs.take (off+1)).set off v=cs.take off++[v]:=by
   rw[gT (by omega),nT _ _ (by simp;omega)];simp[iN (by omega:off<=cs.length)]
  rw[h1];simp only[bJ,dW,iJ,jN];congr 4;omega
def Sk[hT:cv P t e s by_][hN:ke P t'][hz:gq P e z]
  (hx:aA fr x=some (.slice (some ⟨b,0,none⟩) len cap))(hy:aA fr y=some (.slice ad2 m cap2))(hr:kh own ⟨b,xs++rest,e,true⟩ own1)(hxs:xs.length=len*s)(hcap:xs.length+rest.length=cap*s)(hlc:len<=cap)
  (hsy:nv P C own G s m (.slice ad2 m cap2) ys)(hys:ys.length=m*s)(hf: ∀v∈ys,flat v=true)
  (hby:0<by_)(hb:(len+m)*by_<=140737488355328)(hzs:(aE z).length=s)(hd:b7 n dst=true)
  (h: ∀b cap' rest',len+m<=cap'->rest'.length+(len+m)*s=cap'*s->St C n (put fr dst (.slice (some ⟨b,0,none⟩) (len+m) cap')) (⟨b,xs++ys++rest',e,true⟩::own1) G Φ):
  Ch P C n fr own G ⟨dst, .call ⟨.builtin .append, #[x,y], #[t,t']⟩,ty',pos,af,gd⟩ Φ:=by
 intro a w Q rl;have hp:=rl.h.perm hr.perm;have hblk:=(hp.hown _ aQ).1;simp only[] at hblk;by_cases hneed:len+m<=cap
 .have hcs:(xs++rest).length=cap*s:=by simp;omega
  have hrun:=KL (P:=P) (t:=t) (t':=t') (ty':=ty') (w:=w) (len:=len) hblk hcs (hsy w rl.h) hys hf hneed;have hle:len*s+m*s<=cap*s:=by rw[<-dJ];exact bL _ hneed
  have hov:cA (xs++rest) (len*s) ys=xs++ys++rest.drop (m*s):=by
   rw[q9 _ _ _ (by rw[hys];omega),<-hxs];simp[hys,nJ]
  refine mi (v:= .slice (some ⟨b,0,none⟩) (len+m) cap) (w':=ig w b (.cells ⟨cA (xs++rest) (len*s) ys⟩ e (0,0))) ?_ ?_
  .simp only[execOp,resolve,iY,bT,iZ,bw rl.fr hx,bw rl.fr hy]
   exact cE hrun
  .rw[hov]
   refine h b cap (rest.drop (m*s)) hneed ?_ _ _ ((rl.heap (hp.store (.hd ..))).put _ hd);rw[gL,dJ];omega
 .have hx':nv P C own G s len (.slice (some ⟨b,0,none⟩) len cap) xs:=fun w' hw'=>by
   have hb':=(((hw'.perm hr.perm).hown _ aQ).1);refine Fi hb' ?_;rw[l8 _ _ _ (by simp;omega),<-hxs];simp
  have hcap':len+m<=grownCap w (len+m) cap e:=by unfold grownCap;simp only[Question.cut];omega
  have hrun:=Ib (P:=P) (t:=t) (t':=t') (ty':=ty') (w:=w) (w':=w) (hx' _ rl.h.drew) (hsy _ rl.h.drew) (by omega) hby hb;refine mi (v:= .slice (some ⟨w.heap.size,0,none⟩) (len+m) (grownCap w (len+m) cap e)) (w':=w.drew.alloc (.cells ⟨xs++ys++de z (grownCap w (len+m) cap e-(len+m))⟩ e)) ?_ ?_
  .simp only[execOp,resolve,iY,bT,iZ,bw rl.fr hx,bw rl.fr hy]
   exact cE hrun
  .refine h w.heap.size _ _ hcap' ?_ _ _ ((rl.heap (((hp.drew).drop (nQ _ _)).alloc _ _)).put _ hd)
   rw[pc,hzs,<-dJ];congr 1;omega
end
section
variable {S:World->Prop}
def tE(ops:Array Oper)(fin:Nat->Bool):List (Nat×Bool)->Array Bool->Bool
 |[],listed=>(Region.ready .any ops listed).isEmpty
 |(i,true)::r,listed=>Sl ops fin listed i&&tE ops fin r (listed.setIfInBounds i true)
 |(i,false)::r,listed=>(Region.ready .any ops listed==[i])&&tE ops fin r (listed.setIfInBounds i true)
def ip(P:Program)(ops:Array Oper)(Q:Exit->Act->World->Prop)(S:World->Prop)(fin:Nat->Bool):List (Nat×Bool)->Act->World->Prop
 |[],a,w=>Q .normal a w
 |(i,true)::r,a,w=> ∃o v,ops[i]? =some o/\S w/\YieldsIf P ops S o v a/\ip P ops Q S fin r (a.put o.dst v) w
 |(i,false)::r,a,w=>wpOp P ops Q i (fun a' w'=>(fin i=true\/S w')/\ip P ops Q S fin r a' w') a w
def AJ(hQ: ∀c a d v w,Q (.panic c) (Act.put a d v) w->Q (.panic c) a w): ∀(π:List (Nat×Bool)) (listed:Array Bool) (a:Act) (w:World),tE ops fin π listed=true->ip P ops Q S fin π a w-> ∀fuel,π.length<=fuel->uJ P ops Q S fin fuel listed a w
 |[],listed,a,w,ho,h,fuel,hf=>by
  have hr:Region.ready .any ops listed=[]:=by simpa[tE] using ho
  cases fuel with
  |zero=>exact⟨hr,h⟩
  |succ k=>exact⟨fun _=>h,by rw[hr];simp⟩
 |(i,true)::r,listed,a,w,ho,h,0,hf=>by simp at hf
 |(i,false)::r,listed,a,w,ho,h,0,hf=>by simp at hf
 |(i,true)::r,listed,a,w,ho,h,fuel+1,hf=>by
  obtain⟨o,v,hoi,hS,hy,hk⟩:=h;simp only[tE,Sl,cZ] at ho;obtain⟨⟨⟨⟨h1,h2⟩,h3⟩,h4⟩,h5⟩:=ho;obtain⟨h6,h7⟩:=Uh h4;exact Z3 hoi (Region.noSelect_spec h1) (fun c a w=>hQ c a _ _ w) h6 h7 fuel listed a w (Region.free_spec hoi h2) (by simpa using h3) hy hS
   (AJ hQ r _ _ _ h5 hk fuel (by simpa using hf))
 |(i,false)::r,listed,a,w,ho,h,fuel+1,hf=>by
  simp only[tE,cZ,beq_iff_eq] at ho;exact Yg ho.1 (wpOp_mono (fun a' w' h'=>⟨h'.1,AJ hQ r _ _ _ ho.2 h'.2 fuel (by simpa using hf)⟩) h)
end
section
variable {own:List av}{π:List (Nat×Bool)}
def dr(fin:Nat->Bool)(π:List (Nat×Bool)){id:Nat}(hm:P.follows .mixedOrders=true)(ho:(tE ops fin π (Array.replicate ops.size false)&&Nat.ble π.length ops.size)=true)
  (h:St C n fr own G (ip P ops (gr Q) (HS C own G) fin π)):St C n fr own G ((Code.region id ops true).wp P Q):=by
 simp only[cZ] at ho;refine U7 fin hm fun a w rl=>AJ (fun _ _ _ _ _ h=>h) π _ a w ho.1 (h a w rl) _ (by simpa using ho.2)
def dy(ho:ops[i]? =some o)(hy: ∀G':Gh,[GE G0 G']->Yd P C fr own0 G' o v)(hg:o.guard=none)(hd:b7 n o.dst=true)[hs:ks own0 own][hl:GL G0 G]
  (h:St C n (put fr o.dst v) own G (ip P ops (gr Q) (HS C own0 G0) fin π)):St C n fr own G (ip P ops (gr Q) (HS C own0 G0) fin ((i,true)::π)):=
 fun a w rl=>⟨o,v,ho,⟨G,hl.le,rl.h.drop hs.s⟩, .inl ⟨by simp[Region.wanted,hg],fun w' ⟨G',hle,hr⟩=> @hy G' ⟨hle⟩ a w' rl.fr hr⟩,h _ _ (rl.put v hd)⟩
def dM(ho:ops[i]? =some ⟨dst, .move x,ty',pos,af,none⟩)(hx:aA fr x=some v)(hd:b7 n dst=true)[hs:ks own0 own][hl:GL G0 G]
  (h:St C n (put fr dst v) own G (ip P ops (gr Q) (HS C own0 G0) fin π)):St C n fr own G (ip P ops (gr Q) (HS C own0 G0) fin ((i,true)::π)):=dy ho (fun _ _=>c8 hx) J hd h
def dA(ho:ops[i]? =some ⟨dst, .assign x,ty',pos,af,none⟩)(hx:aA fr x=some v)(hd:b7 n dst=true)[hs:ks own0 own][hl:GL G0 G]
  (h:St C n (put fr dst v) own G (ip P ops (gr Q) (HS C own0 G0) fin π)):St C n fr own G (ip P ops (gr Q) (HS C own0 G0) fin ((i,true)::π)):=dy ho (fun _ _=>Kz hx) J hd h
def dF{o:Nat}[hF:me P t f off](ho:ops[i]? =some ⟨dst, .fieldAddr t x f,ty',pos,af,none⟩)(hx:aA fr x=some (.pointer (some ⟨b,o,none⟩)))(hd:b7 n dst=true)[hs:ks own0 own][hl:GL G0 G]
  (h:St C n (put fr dst (.pointer (some ⟨b,o+off,none⟩))) own G (ip P ops (gr Q) (HS C own0 G0) fin π)):St C n fr own G (ip P ops (gr Q) (HS C own0 G0) fin ((i,true)::π)):=dy ho (fun _ _=>mh hx) J hd h
def dL{cs:List Value}(ho:ops[i]? =some ⟨dst, .load t x,ty',pos,af,none⟩)(hx:aA fr x=some (.pointer (some ⟨b,off,none⟩)))[hw:i6 own0 b cs ty lo][lu P t k](hv:cw cs off k=some l)(hd:b7 n dst=true)[hs:ks own0 own][hl:GL G0 G]
  (h:St C n (put fr dst (.agg ⟨l⟩)) own G (ip P ops (gr Q) (HS C own0 G0) fin π)):St C n fr own G (ip P ops (gr Q) (HS C own0 G0) fin ((i,true)::π)):=dy ho (fun _ _=>CT hx hv) J hd h
def pg{cs:List Value}(ho:ops[i]? =some ⟨dst, .load t x,ty',pos,af,none⟩)(hx:aA fr x=some (.pointer (some ⟨b,off,none⟩)))[hw:i6 own0 b cs ty lo][iF P t](hv:cs[off]? =some v)(hd:b7 n dst=true)[hs:ks own0 own][hl:GL G0 G]
  (h:St C n (put fr dst v) own G (ip P ops (gr Q) (HS C own0 G0) fin π)):St C n fr own G (ip P ops (gr Q) (HS C own0 G0) fin ((i,true)::π)):=dy ho (fun _ _=>ik hx hv) J hd h
def vL(ho:ops[i]? =some o){b:Bool}(hg:o.guard=some (j,b))(hj:(ops[j]?).bind (·.dst)=some d)(hlk:iB fr d=some (.bool b))(hy: ∀G':Gh,[GE G0 G']->Yd P C fr own0 G' o v)(hd:b7 n o.dst=true)[hs:ks own0 own][hl:GL G0 G]
  (h:St C n (put fr o.dst v) own G (ip P ops (gr Q) (HS C own0 G0) fin π)):St C n fr own G (ip P ops (gr Q) (HS C own0 G0) fin ((i,true)::π)):=
 fun a w rl=>⟨o,v,ho,⟨G,hl.le,rl.h.drop hs.s⟩, .inl ⟨by simp[Region.wanted,hg,Fp rl.fr hj hlk],fun w' ⟨G',hle,hr⟩=> @hy G' ⟨hle⟩ a w' rl.fr hr⟩,h _ _ (rl.put v hd)⟩
def uV(ho:ops[i]? =some o){b:Bool}(hg:o.guard=some (j,b))(hj:(ops[j]?).bind (·.dst)=some d)(hlk:iB fr d=some (.bool c))(hbc:(c==b)=false)(hd:b7 n o.dst=true)[hs:ks own0 own][hl:GL G0 G]
  (h:St C n (put fr o.dst undef) own G (ip P ops (gr Q) (HS C own0 G0) fin π)):St C n fr own G (ip P ops (gr Q) (HS C own0 G0) fin ((i,true)::π)):=
 fun a w rl=>⟨o,undef,ho,⟨G,hl.le,rl.h.drop hs.s⟩, .inr ⟨by simp[Region.wanted,hg,Fp rl.fr hj hlk,hbc],J⟩,h _ _ (rl.put undef hd)⟩
def dc(ho:ops[i]? =some o)(hg:o.guard=none)(hc:Ch P C n fr own G o (fun a w=>(fin i=true\/HS C own0 G0 w)/\ip P ops (gr Q) (HS C own0 G0) fin π a w)):St C n fr own G (ip P ops (gr Q) (HS C own0 G0) fin ((i,false)::π)):=by
 intro a w rl;show wpOp P ops (gr Q) i _ a w;unfold wpOp;simp only[ho,Region.wanted,hg,if_true];exact .inl (hc a w _ rl)
def dn(h:St C n fr own G (Q .normal)):St C n fr own G (ip P ops (gr Q) (HS C own0 G0) fin []):=h
def tM{cs:List Value}[h:pw A b cs][k:GL A G]:G b=some cs:=k.le _ _ h.h
variable {r:List Oper}
def sm(hx:aA fr x=some v)(hd:b7 n dst=true)(h:St C n (put fr dst v) own G (c9 P ops Q r)):St C n fr own G (c9 P ops Q (⟨dst, .move x,ty',pos,af,none⟩::r)):=rj (c8 hx) J hd h
def sa(hx:aA fr x=some v)(hd:b7 n dst=true)(h:St C n (put fr dst v) own G (c9 P ops Q r)):St C n fr own G (c9 P ops Q (⟨dst, .assign x,ty',pos,af,none⟩::r)):=rj (Kz hx) J hd h
def sn{ad:Addr}(hx:aA fr x=some (.pointer (some ad)))(hd:b7 n dst=true)(h:St C n (put fr dst (.pointer (some ad))) own G (c9 P ops Q r)):St C n fr own G (c9 P ops Q (⟨dst, .nilCheck x,ty',pos,af,none⟩::r)):=rj (kI hx) J hd h
def sf{o:Nat}[hF:me P t f off](hx:aA fr x=some (.pointer (some ⟨b,o,none⟩)))(hd:b7 n dst=true)(h:St C n (put fr dst (.pointer (some ⟨b,o+off,none⟩))) own G (c9 P ops Q r)):St C n fr own G (c9 P ops Q (⟨dst, .fieldAddr t x f,ty',pos,af,none⟩::r)):=rj (mh hx) J hd h
def B7{cs:List Value}(hx:aA fr x=some (.pointer (some ⟨b,off,none⟩)))[ho:i6 own b cs ty lo][lu P t k](hl:cw cs off k=some l)(hd:b7 n dst=true)
  (h:St C n (put fr dst (.agg ⟨l⟩)) own G (c9 P ops Q r)):St C n fr own G (c9 P ops Q (⟨dst, .load t x,ty',pos,af,none⟩::r)):=rj (CT hx hl) J hd h
def kv{cs:List Value}(hx:aA fr x=some (.pointer (some ⟨b,off,none⟩)))[ho:i6 own b cs ty lo][iF P t](hl:cs[off]? =some v)(hd:b7 n dst=true)
  (h:St C n (put fr dst v) own G (c9 P ops Q r)):St C n fr own G (c9 P ops Q (⟨dst, .load t x,ty',pos,af,none⟩::r)):=rj (ik hx hl) J hd h
def IF{cs:List Value}(hx:aA fr x=some (.pointer (some ⟨b,off,none⟩)))[hg:pw A b cs][hk:GL A G][lu P t k](hl:cw cs off k=some l)(hd:b7 n dst=true)
  (h:St C n (put fr dst (.agg ⟨l⟩)) own G (c9 P ops Q r)):St C n fr own G (c9 P ops Q (⟨dst, .load t x,ty',pos,af,none⟩::r)):=rj (E8 hx (hk.le _ _ hg.h) hl) J hd h
def aJP{cs:List Value}(hx:aA fr x=some (.pointer (some ⟨b,off,none⟩)))[hg:pw A b cs][hk:GL A G][iF P t](hl:cs[off]? =some v)(hd:b7 n dst=true)
  (h:St C n (put fr dst v) own G (c9 P ops Q r)):St C n fr own G (c9 P ops Q (⟨dst, .load t x,ty',pos,af,none⟩::r)):=rj (p8 hx (hk.le _ _ hg.h) hl) J hd h
def cB[hT:cv P t e s by_](hx:aA fr x=some (.slice ad len cap))(hd:b7 n dst=true)
  (h:St C n (put fr dst (.int .i64 len)) own G (c9 P ops Q r)):St C n fr own G (c9 P ops Q (⟨dst, .call ⟨.builtin .len, #[x], #[t]⟩,ty',pos,af,none⟩::r)):=rj (my hx) J hd h
def sx{vs:Array Value}(hx:aA fr x=some (.tuple vs))(hv:vs[i]? =some v)(hd:b7 n dst=true)(h:St C n (put fr dst v) own G (c9 P ops Q r)):St C n fr own G (c9 P ops Q (⟨dst, .extract x i,ty',pos,af,none⟩::r)):=rj (uw hx hv) J hd h
def dP{own:List av}{id:Nat}(h:St C n fr own G (Q (.exit id))):St C n fr own G (Exit.then K Q (.exit id)):=h
def aO{b:Bool}(hj:(ops[j]?).bind (·.dst)=some d)(hl:iB fr d=some (.bool b))(hy:Yd P C fr own G ⟨dst,op,ty',pos,af,some (j,b)⟩ v)(hd:b7 n dst=true)(h:St C n (put fr dst v) own G (c9 P ops Q r)):St C n fr own G (c9 P ops Q (⟨dst,op,ty',pos,af,some (j,b)⟩::r)):=aIP J hj hl hy hd h
def ss{b:Bool}(hj:(ops[j]?).bind (·.dst)=some d)(hl:iB fr d=some (.bool c))(hbc:(c==b)=false)(hd:b7 n dst=true)(h:St C n (put fr dst undef) own G (c9 P ops Q r)):St C n fr own G (c9 P ops Q (⟨dst,op,ty',pos,af,some (j,b)⟩::r)):=Yi J hj hl hbc hd h
def sy(hy:Yd P C fr own G ⟨dst,op,ty',pos,af,none⟩ v)(hd:b7 n dst=true)(h:St C n (put fr dst v) own G (c9 P ops Q r)):St C n fr own G (c9 P ops Q (⟨dst,op,ty',pos,af,none⟩::r)):=rj hy J hd h
def sc{op:Op}(hc:Ch P C n fr own G ⟨dst,op,ty',pos,af,none⟩ (c9 P ops Q r)):St C n fr own G (c9 P ops Q (⟨dst,op,ty',pos,af,none⟩::r)):=Wv J hc
end
def Fn.of_calls{f:FuncId}{vs:List Value}(ha:uE P f)(h: ∀w,Calls P f ⟨vs⟩ w fun e w'=>e= .returned v/\w'=w):Fn P f vs G (fun u _=>u=v):=
 ⟨ha,fun w hw=>(h w).mono fun e w' ⟨he,hww⟩=>⟨v,G,he,by
  subst hww;exact⟨J,J,J,bX _,fun _ _ _=>J,hw,bI.refl _,fun _ _=>J,fun o ho=>(by cases ho), .nil,bX _,fun p hp=>by cases hp⟩,J⟩⟩
end Go.Sx
end
section
namespace Go.Sx
open Go Go.Proofs Tryz
instance:iF prog 3:=⟨fun _=>by kernel_rfl,fun _=>by kernel_rfl⟩
instance:gq prog 3 (.int .i64 0):=⟨by kernel_rfl⟩
instance:nf prog 3 .i64:=⟨fun _=>by kernel_rfl⟩
instance:iF prog 4:=⟨fun _=>by kernel_rfl,fun _=>by kernel_rfl⟩
instance:gq prog 4 (.bool false):=⟨by kernel_rfl⟩
instance:cv prog 46 268 1 4:=⟨by kernel_rfl,by kernel_rfl⟩
instance:ke prog 46:=⟨268,by kernel_rfl⟩
instance:iF prog 69:=⟨fun _=>by kernel_rfl,fun _=>by kernel_rfl⟩
instance:cv prog 69 167 8 112:=⟨by kernel_rfl,by kernel_rfl⟩
instance:ke prog 69:=⟨167,by kernel_rfl⟩
instance:lu prog 71 2:=⟨fun _=>by kernel_rfl,fun _=>by kernel_rfl⟩
instance:gq prog 71 (.agg ⟨[.int .i64 0, .slice none 0 0]⟩):=⟨by kernel_rfl⟩
instance:me prog 71 0 0:=⟨fun _ _ _=>by kernel_rfl⟩
instance:me prog 71 1 1:=⟨fun _ _ _=>by kernel_rfl⟩
instance:lu prog 85 6:=⟨fun _=>by kernel_rfl,fun _=>by kernel_rfl⟩
instance:gq prog 85 (.agg ⟨[.bool false, .slice none 0 0, .bool false, .slice none 0 0, .bool false, .slice none 0 0]⟩):=⟨by kernel_rfl⟩
instance:gq prog 155 (.agg ⟨[.bool false, .bool false, .bool false, .slice none 0 0, .bool false, .slice none 0 0, .bool false, .slice none 0 0, .pointer none, .pointer none]⟩):=⟨by kernel_rfl⟩
instance:Bi prog 155 [(0,1),(1,1),(2,6),(8,1),(9,1)]:=⟨_,fun _=>Im underlying155 _,fun _=>by kernel_rfl⟩
instance:lu prog 165 6:=⟨fun _=>by kernel_rfl,fun _=>by kernel_rfl⟩
instance:lu prog 167 8:=⟨fun _=>by kernel_rfl,fun _=>by kernel_rfl⟩
instance:gq prog 167 (.agg ⟨[.bool false, .slice none 0 0, .bool false, .slice none 0 0, .bool false, .slice none 0 0, .int .i64 0, .int .i64 0]⟩):=⟨by kernel_rfl⟩
instance:me prog 167 0 0:=⟨fun _ _ _=>by kernel_rfl⟩
instance:me prog 167 1 6:=⟨fun _ _ _=>by kernel_rfl⟩
instance:me prog 167 2 7:=⟨fun _ _ _=>by kernel_rfl⟩
instance:Bi prog 167 [(0,6),(6,1),(7,1)]:=⟨_,fun _=>Im underlying167 _,fun _=>by kernel_rfl⟩
instance:iF prog 171:=⟨fun _=>by kernel_rfl,fun _=>by kernel_rfl⟩
instance:gq prog 171 (.pointer none):=⟨by kernel_rfl⟩
instance:nf prog 185 .u64:=⟨fun _=>by kernel_rfl⟩
instance:cv prog 193 303 17 128:=⟨by kernel_rfl,by kernel_rfl⟩
instance:ke prog 193:=⟨303,by kernel_rfl⟩
instance:cv prog 194 303 17 128:=⟨by kernel_rfl,by kernel_rfl⟩
instance:iF prog 268:=⟨fun _=>by kernel_rfl,fun _=>by kernel_rfl⟩
instance:gq prog 268 (.int .u32 0):=⟨by kernel_rfl⟩
instance:nf prog 268 .u32:=⟨fun _=>by kernel_rfl⟩
instance:nf prog 269 .u64:=⟨fun _=>by kernel_rfl⟩
instance:cv prog 274 171 1 8:=⟨by kernel_rfl,by kernel_rfl⟩
instance:ke prog 274:=⟨171,by kernel_rfl⟩
instance:iF prog 283:=⟨fun _=>by kernel_rfl,fun _=>by kernel_rfl⟩
instance:cv prog 283 4 1 1:=⟨by kernel_rfl,by kernel_rfl⟩
instance:gq prog 287 (.agg ⟨[.slice none 0 0, .slice none 0 0, .int .i64 0, .bool false]⟩):=⟨by kernel_rfl⟩
instance:me prog 287 0 0:=⟨fun _ _ _=>by kernel_rfl⟩
instance:me prog 287 1 1:=⟨fun _ _ _=>by kernel_rfl⟩
instance:me prog 287 2 2:=⟨fun _ _ _=>by kernel_rfl⟩
instance:me prog 287 3 3:=⟨fun _ _ _=>by kernel_rfl⟩
instance:Bi prog 287 [(0,1),(1,1),(2,1),(3,1)]:=⟨_,fun _=>Im underlying287 _,fun _=>by kernel_rfl⟩
instance:iF prog 289:=⟨fun _=>by kernel_rfl,fun _=>by kernel_rfl⟩
instance:gq prog 289 (.nilFunc):=⟨by kernel_rfl⟩
instance:lu prog 291 9:=⟨fun _=>by kernel_rfl,fun _=>by kernel_rfl⟩
instance:gq prog 291 (.agg ⟨[.int .i64 0, .int .i64 0, .pointer none, .int .i64 0, .int .i64 0, .pointer none, .int .i64 0, .int .i64 0, .pointer none]⟩):=⟨by kernel_rfl⟩
instance:me prog 293 0 0:=⟨fun _ _ _=>by kernel_rfl⟩
instance:me prog 293 1 9:=⟨fun _ _ _=>by kernel_rfl⟩
instance:me prog 293 2 10:=⟨fun _ _ _=>by kernel_rfl⟩
instance:me prog 293 3 11:=⟨fun _ _ _=>by kernel_rfl⟩
def follows:prog.follows .mixedOrders=true:=by kernel_rfl
end Go.Sx
end
section
namespace Go.Sx
def dv:List Nat->Nat
 |[]=>0
 |d::t=>d+4294967296*dv t
def bB(ds:List Nat):Prop:= ∀d∈ds,d<4294967296
def dC(ds:List Nat):Prop:=ds.getLast? ≠some 0
instance (ds:List Nat):Decidable (dC ds):=inferInstanceAs (Decidable (ds.getLast? ≠some 0))
def bB.nil:bB []:=fun _ h=>by cases h
def bB.cons{d:Nat}{ds:List Nat}(h:d<4294967296)(k:bB ds):bB (d::ds):=fun x hx=>by
 rcases aW.1 hx with rfl|h'
 .exact h
 .exact k _ h'
def bB.head{d:Nat}{ds:List Nat}(h:bB (d::ds)):d<4294967296:=h d aQ
def bB.tail{d:Nat}{ds:List Nat}(h:bB (d::ds)):bB ds:=fun x hx=>h x (aJ _ hx)
def bB.append{a b:List Nat}(h:bB a)(k:bB b):bB (a++b):=fun x hx=>by
 rcases bW.1 hx with h'|h'
 .exact h _ h'
 .exact k _ h'
def bB.take{a:List Nat}(h:bB a)(n:Nat):bB (a.take n):=fun x hx=>h x (fN hx)
def bB.drop{a:List Nat}(h:bB a)(n:Nat):bB (a.drop n):=fun x hx=>h x (gN hx)
def bB.get{a:List Nat}(h:bB a)(i:Nat):a.getD i 0<4294967296:=by
 rw[aK]
 cases hi:a[i]? with
 |none=>simp
 |some d=>exact h d (aV hi)
def bB.set{a:List Nat}(h:bB a)(i:Nat){d:Nat}(hd:d<4294967296):bB (a.set i d):=fun x hx=>by
 rcases List.mem_or_eq_of_mem_set hx with h'|rfl
 .exact h _ h'
 .exact hd
def bB.replicate(n:Nat):bB (List.replicate n 0):=fun x hx=>by
 rw[List.eq_of_mem_replicate hx];omega
def Ax(a b:List Nat):dv (a++b)=dv a+4294967296^a.length*dv b:=by
 induction a with
 |nil=>simp[dv]
 |cons d t ih=>
  simp only[iJ,dv,ih,bJ,fY];rw[dS,<-kV,<-cJ,cK 4294967296 (4294967296^t.length)]
def jA{ds:List Nat}(h:bB ds):dv ds<4294967296^ds.length:=by
 induction ds with
 |nil=>simp[dv]
 |cons d t ih=>
  have h1:=h.head;have h2:=ih h.tail;simp only[dv,bJ,fY];omega
def xZ(n:Nat):dv (List.replicate n 0)=0:=by
 induction n with
 |zero=>rfl
 |succ n ih=>simp[mN,dv,ih]
def ju(ds:List Nat)(i:Nat):dv (ds.take (i+1))=dv (ds.take i)+4294967296^i*ds.getD i 0:=by
 by_cases h:i<ds.length
 .rw[gT h,Ax]
  simp[dv,iN (gR h),aK,h]
 .have:ds.getD i 0=0:=by rw[aK,dY (by omega)];rfl
  rw[this,aM (by omega),aM (by omega)];simp
def DR(ds:List Nat)(i:Nat)(h:i<=ds.length:=by omega):dv ds=dv (ds.take i)+4294967296^i*dv (ds.drop i):=by
 have:=Ax (ds.take i) (ds.drop i);rw[lZ] at this;rw[this];simp[iN h]
def trimD:List Nat->List Nat
 |[]=>[]
 |d::t=>match trimD t with
  |[]=>if d=0 then [] else [d]
  |t'=>d::t'
def wx(d:Nat)(t:List Nat):trimD (d::t)=if trimD t=[]/\d=0 then [] else d::trimD t:=by
 simp only[trimD]
 cases h:trimD t with
 |nil=>by_cases hd:d=0<;>simp[hd]
 |cons a b=>simp
def kt(ds:List Nat):dv (trimD ds)=dv ds:=by
 induction ds with
 |nil=>rfl
 |cons d t ih=>
  rw[wx];split
  .rename_i h
   rw[h.1] at ih;simp[dv,<-ih,h.2]
  .simp[dv,ih]
def Sh(ds:List Nat):trimD (ds++[0])=trimD ds:=by
 induction ds with
 |nil=>rfl
 |cons d t ih=>rw[iJ,wx,wx,ih]
def H1{ds:List Nat}{d:Nat}(h:d≠0):trimD (ds++[d])=ds++[d]:=by
 induction ds with
 |nil=>simp[trimD,h]
 |cons e t ih=>rw[iJ,wx,ih];simp
def dC.trimD(ds:List Nat):dC (trimD ds):=by
 induction ds with
 |nil=>simp[dC,Sx.trimD]
 |cons d t ih=>
  rw[wx];split
  .simp[dC]
  .rename_i h
   unfold dC at*;rw[List.getLast?_cons]
   cases ht:(Sx.trimD t).getLast? with
   |none=>
    have:Sx.trimD t=[]:=by simpa using ht
    simp only[Option.getD_none,ne_eq,Option.some.injEq];exact fun hd=>h ⟨this,hd⟩
   |some x=>rw[ht] at ih;simpa using ih
def oe(ds:List Nat):(trimD ds).length<=ds.length:=by
 induction ds with
 |nil=>simp[trimD]
 |cons d t ih=>
  rw[wx];split
  .simp
  .simp;omega
def S0(ds:List Nat):trimD ds=ds.take (trimD ds).length:=by
 induction ds with
 |nil=>rfl
 |cons d t ih=>
  rw[wx];split
  .rfl
  .simp only[bJ,oU];rw[<-ih]
def bB.trimD{ds:List Nat}(h:bB ds):bB (trimD ds):=by rw[S0];exact h.take _
def Rt{ds:List Nat}(h:dC ds):trimD ds=ds:=by
 rcases nR ds with rfl|⟨l,d,rfl⟩
 .rfl
 .rw[nS] at*
  exact H1 (fun e=>by subst e;simp[dC] at h)
def sk{ds:List Nat}(h:dC ds)(hne:ds≠[]):4294967296^(ds.length-1)<=dv ds:=by
 rcases nR ds with rfl|⟨l,d,rfl⟩
 .exact absurd J hne
 .rw[nS] at*
  have hd:d≠0:=fun e=>by subst e;simp[dC] at h
  rw[Ax];simp only[aU,bJ,eX,dv];have:4294967296^(l.length+(0+1)-1)=4294967296^l.length:=by congr 1
  rw[this];have h1:4294967296^l.length*1<=4294967296^l.length*(d+4294967296*0):=fL _ (by omega);omega
def azw{ds:List Nat}(h:dC ds):dv ds=0↔ds=[]:=by
 constructor
 .intro h0
  by_cases hne:ds=[]
  .exact hne
  .have:=sk h hne
   have hp:0<4294967296^(ds.length-1):=fX (by omega);omega
 .rintro rfl;rfl
def ud{a b:List Nat}(ha:bB a)(hb:dC b)(h:a.length<b.length:=by omega):dv a<dv b:=by
 have h1:=jA ha;have h2:=sk hb (fun e=>by subst e;simp at h);have h3:4294967296^a.length<=4294967296^(b.length-1):=bR (by omega) (by omega);omega
def MP: ∀{a b:List Nat},bB a->bB b->a.length=b.length->dv a=dv b->a=b
 |[],[],_,_,_,_=>rfl
 |d::t,e::u,ha,hb,hl,h=>by
  have h1:=ha.head;have h2:=hb.head;simp only[dv] at h;have:d=e:=by omega
  subst this;rw[MP ha.tail hb.tail (by simpa using hl) (by omega)]
def XS{a b:List Nat}(ha:bB a)(hb:bB b)(na:dC a)(nb:dC b)(h:dv a=dv b):a=b:=by
 refine MP ha hb ?_ h;rcases sJ a.length b.length with h'|h'|h'
 .have:=ud ha nb h';omega
 .exact h'
 .have:=ud hb na h';omega
def CC{a b:List Nat}(ha:bB a)(hb:bB b)(i:Nat)(hia:i<a.length)(hib:i<b.length)(hl:a.length=b.length)(hs:a.drop (i+1)=b.drop (i+1))(h:a.getD i 0<b.getD i 0:=by omega):dv a<dv b:=by
 rw[DR a (i+1),DR b (i+1),hs,ju,ju];have h1:=jA (ha.take i);rw[cR,iN (by omega)] at h1;have h2:4294967296^i*(a.getD i 0+1)<=4294967296^i*b.getD i 0:=fL _ h;rw[dS] at h2;omega
def Po{ds:List Nat}{k:Nat}(h:dC ds)(hk:dv ds<2^k):32*ds.length<=k+31:=by
 by_cases hne:ds=[]
 .subst hne;simp
 .have h1:=sk h hne
  have h2:(4294967296:Nat)^(ds.length-1)=2^(32*(ds.length-1)):=by
   rw[qK]
  rw[h2] at h1;have h3:2^(32*(ds.length-1))<2^k:=eK h1 hk;have h4:=(oW (by omega:1<2)).1 h3;have:0<ds.length:=by cases ds with|nil=>exact absurd J hne|cons _ _=>simp
  omega
def dg(x:Nat):List Nat:=if h:x=0 then [] else(x%4294967296)::dg (x/4294967296)
termination_by x
decreasing_by omega
def eg(x:Nat):dv (dg x)=x/\bB (dg x)/\dC (dg x):=by
 induction x using Nat.strongRecOn with
 |_ x ih=>
  unfold dg;split
  .rename_i h;subst h;exact⟨rfl, .nil,by simp[dC]⟩
  .rename_i h
   obtain⟨h1,h2,h3⟩:=ih (x/4294967296) (by omega);refine⟨by rw[dv,h1];omega, .cons (by omega) h2,?_⟩;unfold dC at*;rw[List.getLast?_cons]
   cases hl:(dg (x/4294967296)).getLast? with
   |none=>
    have:dg (x/4294967296)=[]:=by simpa using hl
    rw[this] at h1;simp only[Option.getD_none,ne_eq,Option.some.injEq];simp only[dv] at h1;omega
   |some y=>rw[hl] at h3;simpa using h3
def z8{ds:List Nat}(h:bB ds)(n:dC ds):dg (dv ds)=ds:=XS (eg _).2.1 h (eg _).2.2 n (eg _).1
def qk{ds:List Nat}(h:bB ds):dg (dv ds)=trimD ds:=by rw[<-kt];exact z8 h.trimD (dC.trimD _)
def rC: ∀(ws:List Nat) (j d:Nat),j<ws.length->dv (ws.set j d)+4294967296^j*ws.getD j 0=dv ws+4294967296^j*d
 |[],j,d,h=>by simp at h
 |w::t,0,d,h=>by simp[dv];omega
 |w::t,j+1,d,h=>by
  have ih:=rC t j d (by simpa using h);simp only[List.set_cons_succ,dv,oR,fY];have h1:4294967296^j*4294967296*t.getD j 0=4294967296*(4294967296^j*t.getD j 0):=by rw[cK (4294967296^j),cJ]
  have h2:4294967296^j*4294967296*d=4294967296*(4294967296^j*d):=by rw[cK (4294967296^j),cJ]
  rw[h1,h2];omega
def qA{ws:List Nat}{k d:Nat}(h:k<ws.length:=by omega):dv ((ws.set k d).take (k+1))=dv (ws.take k)+4294967296^k*d:=by
 rw[gT (by simpa using h),List.take_set_of_le (bX _),Ax];simp[dv,iN (gR h)]
def Ho(p x:Nat):p*x=p*(x%4294967296)+p*4294967296*(x/4294967296):=by
 have h:p*x=p*(4294967296*(x/4294967296)+x%4294967296):=by rw[rT]
 rw[dS,<-cJ] at h;omega
def MQ{p A E W c a b:Nat}(h:W+p*c=A+E):(W+p*((c+a+b)%4294967296))+(p*4294967296)*((c+a+b)/4294967296)=(A+p*a)+(E+p*b):=by
 have h1:=Ho p (c+a+b);rw[dS,dS] at h1;omega
def Nl{p A E W bo b a:Nat}(h:W+E=A+p*bo)(hle:bo+b<=a:=by omega):(W+p*(a-(bo+b)))+(E+p*b)=(A+p*a)+p*4294967296*0:=by
 have h1:p*a=p*(a-(bo+b))+p*bo+p*b:=by
  rw[<-dS,<-dS];congr 1;omega
 omega
def SG{p A E W bo b a:Nat}(h:W+E=A+p*bo)(hle:a<bo+b:=by omega)(hb:bo+b<=a+4294967296:=by omega):(W+p*(a+4294967296-(bo+b)))+(E+p*b)=(A+p*a)+p*4294967296*1:=by
 have h1:p*a+p*4294967296=p*(a+4294967296-(bo+b))+p*bo+p*b:=by
  rw[<-dS,<-dS,<-dS];congr 1;omega
 omega
def Ly{p W W' T c m w:Nat}(hs:W'+p*w=W+p*((c+m+w)%4294967296))(h:W+p*c=T):W'+(p*4294967296)*((c+m+w)/4294967296)=T+p*m:=by
 have h1:=Ho p (c+m+w);rw[dS,dS] at h1;omega
end Go.Sx
end
section
namespace Go.Sx
open Go
variable {A G:Gh}{s e by_ i b:Nat}{es l:List Value}{P:Program}{C:aD}{fr:Fr}{own':List av}{Φ:Act->World->Prop}{dst:Option Nat}{t t' ty' ty:TypeId}{pos:String}{af:Array Edge}{gd:Option (Nat×Bool)}{y:Operand}{k k':IntKind}{ds ws:List Nat}{lo:Bool}{p q:Int}
structure SV where
 a:Option Addr
 n:Nat
 c:Nat
variable {x z:SV}
def SV.v(x:SV):Value:= .slice x.a x.n x.c
structure fw (G:Gh) (s:Nat) (x:SV) (es:List Value):Prop where
 len:x.n=es.length
 cap:x.n<=x.c
 mem:es=[]\/ ∃b off cs,x.a=some ⟨b,off,none⟩/\G b=some cs/\ ∀i (h:i<es.length),cw cs (off+i*s) s=some (aE es[i])
def fw.up'(h:fw A s x es)(k:bI A G):fw G s x es:=
 ⟨h.len,h.cap,h.mem.imp id (fun⟨b,off,cs,h1,h2,h3⟩=>⟨b,off,cs,h1,k _ _ h2,h3⟩)⟩
def fw.up(h:fw A s x es)[k:GL A G]:fw G s x es:=h.up' k.le
def fw.nil(G:Gh)(s:Nat):fw G s ⟨none,0,0⟩ []:=⟨J,bX _, .inl J⟩
def fw.take{G:Gh}{s:Nat}{x:SV}{es:List Value}(h:fw G s x es)(k:Nat)(hk:k<=es.length):fw G s ⟨x.a,k,x.c⟩ (es.take k):=by
 refine⟨by simp[hk],by show k<=x.c;have:=h.len;have:=h.cap;omega,?_⟩;rcases h.mem with h0|⟨b,off,cs,h1,h2,h3⟩
 .left;simp[h0]
 .right;exact⟨b,off,cs,h1,h2,fun i hi=>by
   simp only[cR] at hi;rw[h3 i (by omega)];simp⟩
def u7(a:Option Addr)(k:Nat):Option Addr:=a.map (·.add k)
section
variable {n:Nat}{own:List av}
variable {x:Operand}
def JP[hT:cv P t e s by_]{i:Int}(hs:fw A s z es)(hx:aA fr x=some (.slice z.a z.n z.c))(hy:aA fr y=some (.int k i))(h0:0<=i)(h1:i<z.n):
  Yd P C fr own G ⟨dst, .indexAddr t x y,ty',pos,af,gd⟩ (.pointer (u7 z.a (i.toNat*s))):=by
 rcases hs.mem with h|⟨b,off,cs,ha,hg,hc⟩
 .have:=hs.len;rw[h] at this;simp at this;omega
 .rw[ha] at hx
  have:=r7 (P:=P) (C:=C) (own:=own) (G:=G) (t:=t) (dst:=dst) (ty':=ty') (pos:=pos) (af:=af) (gd:=gd) (by_:=by_) hx hy h0 h1;rw[ha];simpa[u7,qD] using this
def Oo[hA:lu P t s](hs:fw A s z es)[hl:GL A G](hx:aA fr x=some (.pointer (u7 z.a (i*s))))(h1:i<es.length)(he:es[i]? =some (.agg ⟨l⟩)):
  Yd P C fr own G ⟨dst, .load t x,ty',pos,af,gd⟩ (.agg ⟨l⟩):=by
 rcases hs.mem with h|⟨b,off,cs,ha,hg,hc⟩
 .rw[h] at h1;simp at h1
 .rw[ha] at hx
  have h2:=hc i h1;rw[aZ h1] at he;have he':es[i]= .agg ⟨l⟩:=by simpa using he
  rw[he'] at h2;exact E8 (by simpa[u7,qD] using hx) (hl.le _ _ hg) h2
def aFX[hA:iF P t]{v:Value}(hs:fw A 1 z es)[hl:GL A G](hx:aA fr x=some (.pointer (u7 z.a (i*1))))(he:es[i]? =some v)(hv:flat v=true):
  Yd P C fr own G ⟨dst, .load t x,ty',pos,af,gd⟩ v:=by
 obtain⟨h1,he'⟩:=aY.1 he;rcases hs.mem with h|⟨b,off,cs,ha,hg,hc⟩
 .rw[h] at h1;simp at h1
 .rw[ha] at hx
  have h2:=hc i h1;rw[he'] at h2;have hcv:aE v=[v]:=by cases v<;>first|rfl|(simp[flat] at hv)
  rw[hcv] at h2;obtain⟨_,h3⟩:=qa _ _ _ _ h2;have h4:=h3 0 (by omega);exact p8 (off:=off+i*1) (by simpa[u7,qD] using hx) (hl.le _ _ hg) (by simpa using h4)
end
def dI(d:Nat):Value:= .int .u32 (d:Int)
structure cj (G:Gh) (x:SV) (ds:List Nat):Prop where
 ok:bB ds
 sl:fw G 1 x (ds.map dI)
def cj.len{G:Gh}{x:SV}{ds:List Nat}(h:cj G x ds):x.n=ds.length:=by simpa using h.sl.len
def cj.up{A G:Gh}{x:SV}{ds:List Nat}(h:cj A x ds)[k:GL A G]:cj G x ds:=⟨h.ok,h.sl.up⟩
def cj.nil(G:Gh):cj G ⟨none,0,0⟩ []:=⟨.nil, .nil G 1⟩
def cj.take{G:Gh}{x:SV}{ds:List Nat}(h:cj G x ds)(k:Nat)(hk:k<=ds.length):cj G ⟨x.a,k,x.c⟩ (ds.take k):=
 ⟨h.ok.take k,by rw[iL];exact h.sl.take k (by simpa using hk)⟩
def cj.trim(h:cj G x ds):cj G ⟨x.a,(trimD ds).length,x.c⟩ (trimD ds):=by
 have:=h.take _ (oe ds);rwa [<-S0] at this
def cj.of_block{c k:Nat}{cs:List Value}(ok:bB ds)(hg:G b=some cs)(hk:k=ds.length)(hc:k<=c)(hcs:cs.take ds.length=ds.map dI):cj G ⟨some ⟨b,0,none⟩,k,c⟩ ds:=by
 refine⟨ok,by simpa using hk,hc, .inr ⟨b,0,cs,J,hg,fun i hi=>?_⟩⟩;have hi':i<ds.length:=by simpa using hi
 have hl:ds.length<=cs.length:=by
  have:=congrArg List.length hcs;simp at this;omega
 rw[l8 _ _ _ (by omega)];congr 1;have h1:(cs.take ds.length)[i]? =(ds.map dI)[i]? :=by rw[hcs]
 rw[pK,if_pos hi',bS,aZ hi',aZ (by omega)] at h1;have h2:cs[i]=dI ds[i]:=by simpa using h1
 rw[eJ,fV,bQ (by omega),oU,tU,h2,qY];rfl
structure gg (k:Nat) (G:Gh) (x:SV) (v:Nat):Prop where
 d:cj G x (dg v)
 lt:v<2^k
def gg.up{k:Nat}{A G:Gh}{x:SV}{v:Nat}(h:gg k A x v)[GL A G]:gg k G x v:=⟨h.d.up,h.lt⟩
def gg.len{k:Nat}{G:Gh}{x:SV}{v:Nat}(h:gg k G x v):x.n=(dg v).length:=h.d.len
def gg.mono{k k':Nat}{v:Nat}(h:gg k G x v)(hk:v<2^k'):gg k' G x v:=⟨h.d,hk⟩
section
variable {n:Nat}{own:List av}
variable {x:Operand}
def iH[hT:cv P t e 1 by_]{i:Int}(hs:cj A z ds)(hx:aA fr x=some (.slice z.a z.n z.c))(hy:aA fr y=some (.int k i))(h0:0<=i:=by omega)(h1:i<z.n:=by omega):
  Yd P C fr own G ⟨dst, .indexAddr t x y,ty',pos,af,gd⟩ (.pointer (u7 z.a (i.toNat*1))):=JP hs.sl hx hy h0 h1
def i0[hA:iF P t](hs:cj A z ds)[hl:GL A G](hx:aA fr x=some (.pointer (u7 z.a (i*1))))(h1:i<ds.length:=by omega):
  Yd P C fr own G ⟨dst, .load t x,ty',pos,af,gd⟩ (.int .u32 ((ds.getD i 0:Nat):Int)):=
 aFX hs.sl hx (by rw[bS,aZ h1,aK,aZ h1];rfl) J
def Tc(h:cj A z ds)[hl:GL A G]:nv P C own G 1 z.n (.slice z.a z.n z.c) (ds.map dI):=by
 intro w hw;by_cases hne:ds=[]
 .rw[h.len]
  subst hne;exact vt w hw
 rcases h.sl.mem with h0|⟨b,off,cs,ha,hg,hc⟩
 .exact absurd (by simpa using h0) hne
 .rw[ha]
  have hn:=h.len;refine OR (hl.le _ _ hg) ?_ w hw;rw[fV];have hel: ∀i,i<ds.length->cs[off+i]? =some (dI (ds.getD i 0)):=fun i hi=>by
   have h1:=hc i (by simpa using hi);obtain⟨_,h2⟩:=qa _ _ _ _ h1;have h3:=h2 0 (by omega);rw[fV,fK] at h3;rw[h3,qY,aK,aZ hi];rfl
  by_cases h00:ds.length=0
  .exact absurd h00 (fun e=>hne (bM e))
  .have hlast:=hel (ds.length-1) (by omega)
   have hle:off+ds.length<=cs.length:=by
    have:=(aY.1 hlast).1;omega
   rw[hn,l8 _ _ _ hle];congr 1;apply lR;intro i;rw[pK];split
   .rename_i hi
    rw[mX,hel i hi,bS,aK,aZ hi];rfl
   .rename_i hi
    rw[dY (by simpa using hi)]
def wc(n:Nat):de (.int .u32 0) n=(List.replicate n 0).map dI:=by
 unfold de
 induction n with
 |zero=>rfl
 |succ n ih=>rw[mN,qX,ih];rfl
def dO[hT:cv P t e s by_]{len cap:Nat}{i:Int}(hx:aA fr x=some (.slice (some ⟨b,0,none⟩) len cap))(hy:aA fr y=some (.int k i))(h0:0<=i:=by omega)(h1:i<len:=by omega):
  Yd P C fr own G ⟨dst, .indexAddr t x y,ty',pos,af,gd⟩ (.pointer (some ⟨b,i.toNat*s,none⟩)):=by
 have:=r7 (P:=P) (C:=C) (own:=own) (G:=G) (t:=t) (dst:=dst) (ty':=ty') (pos:=pos) (af:=af) (gd:=gd) (by_:=by_) hx hy h0 h1;rwa [eJ] at this
def te[hA:iF P t](hx:aA fr x=some (.pointer (some ⟨b,i*1,none⟩)))[ho:i6 own b (ws.map dI) ty lo](h1:i<ws.length:=by omega):
  Yd P C fr own G ⟨dst, .load t x,ty',pos,af,gd⟩ (.int .u32 ((ws.getD i 0:Nat):Int)):=by
 rw[fV] at hx;refine ik hx ?_;rw[bS,aZ h1,aK,aZ h1];rfl
def mr{d:Nat}{v:Int}[hs:iF P t](hx:aA fr x=some (.pointer (some ⟨b,i*1,none⟩)))(hy:aA fr y=some (.int .u32 v))(hv:v=(d:Int))
  (hu:fC own b (ws.map dI) ty lo ((ws.set i d).map dI) own')(hi:i<ws.length)(hd:b7 n dst=true)(h:St C n (put fr dst undef) own' G Φ):
  Ch P C n fr own G ⟨dst, .store t x y,ty',pos,af,gd⟩ Φ:=by
 rw[fV] at hx;have hu':fC own b (ws.map dI) ty lo ((ws.map dI).set i (.int .u32 v)) own':=by
  rw[hv,<-show dI d= .int .u32 (d:Int) from J,<-kY];exact hu
 exact pG hx hy hu' (by simpa using hi) J hd h
def dt(hx:aA fr x=some (.int .i64 p))(hy:aA fr y=some (.int .i64 q))(h0: -9223372036854775808<=p+q:=by omega)(h1:p+q<=9223372036854775807:=by omega):Yd P C fr own G ⟨dst, .binOp .add t x y t',ty',pos,af,gd⟩ (.int .i64 (p+q)):=GR hx hy ⟨h0,h1⟩
def jy(hx:aA fr x=some (.int .i64 p))(hy:aA fr y=some (.int .i64 q))(h0: -9223372036854775808<=p-q:=by omega)(h1:p-q<=9223372036854775807:=by omega):Yd P C fr own G ⟨dst, .binOp .sub t x y t',ty',pos,af,gd⟩ (.int .i64 (p-q)):=FK hx hy ⟨h0,h1⟩
def Nk(hx:aA fr x=some (.int .i64 p))(hy:aA fr y=some (.int .i64 q))(h0: -9223372036854775808<=p*q:=by omega)(h1:p*q<=9223372036854775807:=by omega):Yd P C fr own G ⟨dst, .binOp .mul t x y t',ty',pos,af,gd⟩ (.int .i64 (p*q)):=IK hx hy ⟨h0,h1⟩
def rH(hx:aA fr x=some (.int .u64 p))(hy:aA fr y=some (.int .u64 q))(h0:0<=p+q:=by omega)(h1:p+q<=18446744073709551615:=by omega):Yd P C fr own G ⟨dst, .binOp .add t x y t',ty',pos,af,gd⟩ (.int .u64 (p+q)):=GR hx hy ⟨h0,h1⟩
def K2(hx:aA fr x=some (.int .u64 p))(hy:aA fr y=some (.int .u64 q))(h0:0<=p-q:=by omega)(h1:p-q<=18446744073709551615:=by omega):Yd P C fr own G ⟨dst, .binOp .sub t x y t',ty',pos,af,gd⟩ (.int .u64 (p-q)):=FK hx hy ⟨h0,h1⟩
def Ka(hx:aA fr x=some (.int .u64 p))(hy:aA fr y=some (.int .u64 q))(h0:0<=p*q)(h1:p*q<=18446744073709551615):Yd P C fr own G ⟨dst, .binOp .mul t x y t',ty',pos,af,gd⟩ (.int .u64 (p*q)):=IK hx hy ⟨h0,h1⟩
def m7(hx:aA fr x=some (.int k p))(hy:aA fr y=some (.int k' q))(h0:0<=q:=by decide):Yd P C fr own G ⟨dst, .binOp .shr t x y t',ty',pos,af,gd⟩ (.int k (p.fdiv (2^min q.toNat k.bits))):=by
 intro a w hf hh;simp only[execOp,bw hf hx,bw hf hy];have h1:(eqGuard .shr t x y (.int k p) (.int k' q)).run P w= .ok () w:=J;have h2:(binOp .shr t (.int k p) (.int k' q)).run P w= .ok (.int k (p.fdiv (2^min q.toNat k.bits))) w:=by
  simp[binOp,Op.shift,Int.not_lt.2 h0,run_pure]
 exact cE (by rw[aP h1];exact h2)
def xe(hx:aA fr x=some (.int k p))(hy:aA fr y=some (.int k' q))(h0:0<=q:=by decide):Yd P C fr own G ⟨dst, .binOp .shl t x y t',ty',pos,af,gd⟩ (.int k (k.wrap (p*2^min q.toNat k.bits))):=by
 intro a w hf hh;simp only[execOp,bw hf hx,bw hf hy];have h1:(eqGuard .shl t x y (.int k p) (.int k' q)).run P w= .ok () w:=J;have h2:(binOp .shl t (.int k p) (.int k' q)).run P w= .ok (.int k (k.wrap (p*2^min q.toNat k.bits))) w:=by
  simp[binOp,Op.shift,Int.not_lt.2 h0,run_pure]
 exact cE (by rw[aP h1];exact h2)
def gE[hs:nf P t k][hd:nf P t' .u64](hx:aA fr x=some (.int k p))(h0:0<=p:=by omega)(h1:p<=18446744073709551615:=by omega):Yd P C fr own G ⟨dst, .convert t t' x,ty',pos,af,gd⟩ (.int .u64 p):=GS hx ⟨h0,h1⟩
def OV[hs:nf P t k][hd:nf P t' .i64](hx:aA fr x=some (.int k p))(h0: -9223372036854775808<=p:=by omega)(h1:p<=9223372036854775807:=by omega):Yd P C fr own G ⟨dst, .convert t t' x,ty',pos,af,gd⟩ (.int .i64 p):=GS hx ⟨h0,h1⟩
def qC(p:Int):IntKind.u32.wrap p=p%4294967296:=by simp[IntKind.wrap,IntKind.bits,IntKind.signed]
def od(p:Int):IntKind.u64.wrap p=p%18446744073709551616:=by simp[IntKind.wrap,IntKind.bits,IntKind.signed]
def ly[hs:nf P t k][hd:nf P t' .u32](hx:aA fr x=some (.int k p)):Yd P C fr own G ⟨dst, .convert t t' x,ty',pos,af,gd⟩ (.int .u32 (p%4294967296)):=by
 have:=DS (P:=P) (C:=C) (own:=own) (G:=G) (dst:=dst) (ty':=ty') (pos:=pos) (af:=af) (gd:=gd) (t:=t) (t':=t') hx;rwa [qC] at this
def yw(hx:aA fr x=some (.int k p))(hy:aA fr y=some (.int k q))(h0:0<=p:=by omega)(h:q≠0:=by omega):Yd P C fr own G ⟨dst, .binOp .rem t x y t',ty',pos,af,gd⟩ (.int k (p%q)):=by
 have:=QW (P:=P) (C:=C) (own:=own) (G:=G) (dst:=dst) (ty':=ty') (pos:=pos) (af:=af) (gd:=gd) (t:=t) (t':=t') hx hy h;rwa [Int.tmod_eq_emod_of_nonneg h0] at this
def AA(hx:aA fr x=some (.int .u64 p))(hy:aA fr y=some (.int .u64 q))(h0:0<=p:=by omega)(h1:p<=18446744073709551615:=by omega)(h:0<q:=by omega):Yd P C fr own G ⟨dst, .binOp .quo t x y t',ty',pos,af,gd⟩ (.int .u64 (p/q)):=by
 have:=PP (P:=P) (C:=C) (own:=own) (G:=G) (dst:=dst) (ty':=ty') (pos:=pos) (af:=af) (gd:=gd) (t:=t) (t':=t') hx hy (by omega);rw[Int.tdiv_eq_ediv_of_nonneg h0,od,Int.emod_eq_of_lt (Int.ediv_nonneg h0 (by omega)) (by have:=Int.ediv_le_self q h0;omega)] at this;exact this
def lB{Q:Exit->Act->World->Prop}{p:Prop}{inst:Decidable p}{c:Operand}{x y:Code}(hc:aA fr c=some (.bool (@decide p inst)))(h2: ¬p->St C n fr own G (y.wp P Q))(h1:p->St C n fr own G (x.wp P Q)):
  St C n fr own G ((Code.cond c x y).wp P Q):=fq hc h1 h2
end
end Go.Sx
end
section
namespace Go.Sx
open Go Go.Proofs Tryz
variable {ds:List Nat}{k:Nat}{A G:Gh}{x:SV}
def UV(hk:k<ds.length)(h:trimD ds=trimD (ds.take (k+1)))(h0:ds.getD k 0=0):trimD ds=trimD (ds.take k):=by
 rw[h,gT hk];have:ds[k]=0:=by rw[aK,aZ hk] at h0;simpa using h0
 rw[this,Sh]
def asT(hk:k<ds.length)(h:trimD ds=trimD (ds.take (k+1)))(h0:ds.getD k 0≠0):trimD ds=ds.take (k+1):=by
 rw[h,gT hk];have:ds[k]≠0:=by rw[aK,aZ hk] at h0;simpa using h0
 exact H1 this
def jp(hx:cj A x ds)[GL A G](hb:ds.length<=1125899906842624:=by omega):Fn prog 244 [x.v] G (fun v _=>v= .slice x.a (trimD ds).length x.c):=by
 have hlen:=hx.len;have hcap:=hx.sl.cap;refine Fn.intro func244 J J ntmps244 J ?_;intro C _ _;refine sR<|sa J J<|zE<|bi<|du<|?_;refine lx (X:=Nat) (fun k=>[(0, .slice x.a k x.c)]) (fun _=>[]) (fun k _=>k<=ds.length/\trimD ds=trimD (ds.take k)) (fun k=>k) ds.length ⟨bX _,by simp⟩ (hlen▸ .cons J .nil) J ?_;rintro k Gx _ ⟨hk,ht⟩;refine bi<|sR<|sm J J<|cB J J<|sy (q7 J J) J<|sm J J<|?_;refine iD 6 J (fun hg=>?_) (fun hg=>?_)
 .have hk1:k-1<ds.length:=by omega
  have hkt:((k:Int)-1).toNat=k-1:=by omega
  have hk2:k=k-1+1:=by omega
  refine aO J J (c8 J) J<|aO J J (c8 J) J<|aO J J (my J) J<|aO J J (jy J J) J<|?_;refine aO J J (iH (z:=⟨x.a,k,x.c⟩) (hx.take k hk) J J (by omega) (by show _<(k:Int);omega)) J<|aO J J (i0 hx J) J<|aO J J (fk J J) J<|sy (m5 J J) J<|zE<|?_;rw[hkt];refine lB J (fun hc=>?_) (fun hc=>?_) -- slot 14
  .refine jl<|dP<|dP<|jg<|sR<|sm J J<|sa J J<|zE<|cg<|?_
   have hs:=asT hk1 (hk2▸ht) (fun e=>hc (by rw[e];rfl));refine zD (.tmp J .nil) ?_;rw[hs,<-hk2];simp[gI,hk]
  refine zK<|du<|dl<|sm J J<|sm J J<|cB J J<|sy (jy J J) J<|sy (yg J J) J<|?_;refine sa J J<|zE<|?_;exact i7 (k-1) ⟨by omega,UV hk1 (hk2▸ht) (by omega)⟩ (by omega) (.cons (by rw[<-hkt];rfl) .nil) J
 refine ss J J J J<|ss J J J J<|ss J J J J<|ss J J J J<|ss J J J J<|ss J J J J<|?_;refine ss J J J J<|sy (gm J J) J<|zE<|mP J<|jl<|dP<|dP<|jg<|sR<|sm J J<|sa J J<|zE<|cg<|?_;have hk0:k=0:=by omega
 subst hk0;refine zD (.tmp J .nil) ?_;rw[ht];rfl
def YW(hx:cj A x ds)[GL A G](hb:ds.length<=1125899906842624):Fn prog 322 [x.v] G (fun v _=>v= .bool (decide (dC ds))):=by
 have hlen:=hx.len;refine Fn.intro func322 J J ntmps322 J ?_;intro C _ _;refine sR<|sa J J<|zE<|sR<|sm J J<|cB J J<|sy (fk J J) J<|sm J J<|?_;refine iD 6 J (fun hg=>?_) (fun hg=>?_)
 .refine ss J J J J<|ss J J J J<|ss J J J J<|ss J J J J<|ss J J J J<|ss J J J J<|ss J J J J<|sy (m5 J J) J<|sa J J<|?_
  refine zE<|cg<|?_;refine zD (.tmp J .nil) ?_;have:ds=[]:=bM (by omega);subst this;simp[gI,dC]
 have hne:0<ds.length:=by omega
 have hkt:((x.n:Int)-1).toNat=ds.length-1:=by omega
 refine aO J J (c8 J) J<|aO J J (c8 J) J<|aO J J (my J) J<|aO J J (jy J J) J<|aO J J (iH hx J J) J<|?_;refine aO J J (i0 hx J) J<|aO J J (vP J J) J<|sy (gm J J) J<|sa J J<|zE<|cg<|?_;refine zD (.tmp J .nil) ?_;rw[hkt];simp only[gI,Value.bool.injEq,decide_eq_decide,dC,nM,aK,aZ (show ds.length-1<ds.length by omega),kW,ne_eq,Option.some.injEq];exact not_congr (by omega)
def aBO(ds:List Nat): ∀v∈ds.map dI,flat v=true:=fun v hv=>by
 obtain⟨d,_,rfl⟩:=aT.1 hv;rfl
def Nt(hx:cj A x ds)[GL A G](hb:ds.length<=1125899906842:=by omega):Fn prog 301 [x.v] G (fun v G'=> ∃z:SV,v=z.v/\cj G' z ds):=by
 have hlen:=hx.len;refine Fn.intro func301 J J ntmps301 J ?_;intro C _ _;refine sR<|sa J J<|zE<|bi<|sR<|sm J J<|sy (Rn J J) J<|zE<|?_;refine YQ J (fun hc=>?_) (fun hc=>?_)
 .refine sR<|sa J J<|zE<|cg<|?_
  refine zD (.tmp J .nil) ⟨⟨none,0,0⟩,J,?_⟩;rcases hx.sl.mem with h|⟨b,off,cs,ha,_⟩
  .have:ds=[]:=by simpa using h
   subst this;exact .nil _
  .rw[ha] at hc;cases hc
 refine zK<|sR<|?_;refine sc (Ms J ?_);intro b1;refine sm J J<|?_;refine sc (Sk (xs:=[]) (rest:=[]) (ys:=ds.map dI) J J (.hd ..) J J (bX _) (Tc hx) (by simp[hlen]) (aBO ds) (by decide) (by omega) J J ?_);intro b cap rest h1 h2;refine sa J J<|zE<|nH b (.hd ..) (fun G' _ hgb=>?_);refine cg<|?_;refine zD (.tmp J .nil) ⟨⟨some ⟨b,0,none⟩,x.n,cap⟩,by simp[gI,SV.v],?_⟩;exact .of_block hx.ok hgb.h hlen (by omega) (by simp)
def Kr(hx:cj A x ds)[GL A G](hk:dv ds<2^k)(hb:ds.length<=1125899906842:=by omega):Fn prog 236 [x.v] G (fun v G'=> ∃z:SV,v=z.v/\gg k G' z (dv ds)):=by
 have htl:=oe ds;refine Fn.intro func236 J J ntmps236 J ?_;intro C _ _;refine sR<|sa J J<|zE<|sR<|sm J J<|?_;refine sc (zC J J (jp hx) J ?_);rintro _ G1 _ rfl;refine sc (zC J J (Nt hx.trim) J ?_);rintro _ G2 _ ⟨z,rfl,hz⟩;refine sa J J<|zE<|cg<|?_;refine zD (.tmp J .nil) ⟨z,J,?_⟩;exact⟨by rw[qk hx.ok];exact hz,hk⟩
end Go.Sx
end
section
namespace Go.Proofs
open Go.Shelf
def Tryz.lays133_ren:Go.Shelf.Ren:=⟨fun|133=>302|128=>337|n=>n,fun|51=>268|3=>3|4=>4|46=>269|5=>5|9=>9|n=>n,fun|n=>n⟩
def Tryz.lays133:Go.Proofs.Lays.n133 Tryz.prog Tryz.lays133_ren:={
 mixed:=by kernel_rfl
 f128:=Tryz.func337.trans (congrArg some (by kernel_rfl))
 f133:=Tryz.func302.trans (congrArg some (by kernel_rfl))
 t3:=Tryz.underlying3
 a3:=Tryz.isAgg3
 z3:=Tryz.sizeOf3
 v3:=Tryz.zeroValue3
 t4:=Tryz.underlying4
 a4:=Tryz.isAgg4
 z4:=Tryz.sizeOf4
 v4:=Tryz.zeroValue4
 t5:=Tryz.underlying5
 a5:=Tryz.isAgg5
 z5:=Tryz.sizeOf5
 v5:=Tryz.zeroValue5
 t9:=Tryz.underlying9
 a9:=Tryz.isAgg9
 z9:=Tryz.sizeOf9
 v9:=Tryz.zeroValue9
 t46:=Tryz.underlying269
 a46:=Tryz.isAgg269
 z46:=Tryz.sizeOf269
 v46:=Tryz.zeroValue269
 t51:=Tryz.underlying268
 a51:=Tryz.isAgg268
 z51:=Tryz.sizeOf268
 v51:=Tryz.zeroValue268}
def Tryz.bits_LeadingZeros32(x:Int)(w:World)(h0:0<=x)(h1:x<=4294967295):
  Calls Tryz.prog 302 #[.int .u32 x] w fun e w'=>e= .returned (.int .i64 (32-(Lib.bitLen x.toNat:Int)))/\w'=w:=Any.bits_LeadingZeros32 Tryz.lays133 x w h0 h1
def Tryz.lays264_ren:Go.Shelf.Ren:=⟨fun|264=>229|n=>n,fun|53=>185|46=>269|n=>n,fun|n=>n⟩
def Tryz.lays264:Go.Proofs.Lays.n264 Tryz.prog Tryz.lays264_ren:={
 mixed:=by kernel_rfl
 f264:=Tryz.func229.trans (congrArg some (by kernel_rfl))
 t46:=Tryz.underlying269
 a46:=Tryz.isAgg269
 z46:=Tryz.sizeOf269
 v46:=Tryz.zeroValue269
 t53:=Tryz.underlying185
 a53:=Tryz.isAgg185
 z53:=Tryz.sizeOf185
 v53:=Tryz.zeroValue185}
open Go.RowKit Go.Lib in
def Tryz.bits_Mul64(x y:Nat)(hx:x<18446744073709551616)(hy:y<18446744073709551616)(w:World):
  Calls Tryz.prog 229 #[.int .u64 x, .int .u64 y] w fun e w'=>e= .returned (.tuple #[.int .u64 ((x*y/18446744073709551616:Nat):Int), .int .u64 ((x*y%18446744073709551616:Nat):Int)])/\w'=w:=Any.bits_Mul64 Tryz.lays264 x y hx hy w
end Go.Proofs
end
