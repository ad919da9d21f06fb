import Derived.Test.YtmhfhhiaecjhiaaGreatDoorBr1
import Derived.Scope
import Derived.Laws.Externs
import Derived.Lib.Overlaps
set_option linter.all false
set_option maxRecDepth 100000
section
namespace Go.Sx
open Go
def Wk{P:Program}{t:TypeId}{d:TypeDesc}(h:P.underlying t=some d)(w:World):(underlying t).run P w= .ok d w:=by
 simp[underlying,program,Sem.run_bind,Sem.run,h,run_pure]
class Gj (P:Program) (t:TypeId):Prop where u: ∀w,(underlying t).run P w= .ok .bool w
class HE (P:Program) (t:TypeId):Prop where u: ∃e,∀w,(underlying t).run P w= .ok (.pointer e) w
class HC (P:Program) (t:TypeId):Prop where u: ∃ms,∀w,(underlying t).run P w= .ok (.interface ms) w
class E8 (P:Program) (t:TypeId) (f:Nat) (off ft:outParam Nat):Prop where
 u: ∃fs fd,(∀w,(underlying t).run P w= .ok (.struct fs) w)/\fs[f]? =some fd/\fd.offset=off/\fd.type=ft
class jP (P:Program) (t:TypeId):Prop where
 un: ∃e,P.underlying t=some (.slice e)
section
variable {P:Program} {C:aC} {n:Nat} {fr:Fr} {own own':List au} {G:Gh} {Φ:Act->World->Prop}
variable {dst:Option Nat} {t t' ty':TypeId} {pos:String} {af:Array Edge} {gd:Option (Nat×Bool)} {x y:Operand}
def px{w:World}{p q:Value}{b:Bool}(h:(Op.equalIn (9999+1) t p q).run P w= .ok b w):(Op.equal t p q).run P w= .ok b w:=h
def Vh[hT:Gj P t]{p q:Bool}(hx:aD fr x=some (.bool p))(hy:aD fr y=some (.bool q)):Yd P C fr own G ⟨dst, .binOp .eql t x y t',ty',pos,af,gd⟩ (.bool (p==q)):=by
 intro a w hf hh;simp only[execOp,bz hf hx,bz hf hy];have h1:(Op.equal t (.bool p) (.bool q)).run P w= .ok (p==q) w:=px (by unfold Op.equalIn;rw[bh (hT.u w)];rfl);have h2:(eqGuard .eql t x y (.bool p) (.bool q)).run P w= .ok () w:=J;have h3:(binOp .eql t (.bool p) (.bool q)).run P w= .ok (.bool (p==q)) w:=by simp only[binOp];rw[bh h1];rfl
 exact cI (by rw[bh h2];exact h3)
def W1[hT:Gj P t]{p q:Bool}(hx:aD fr x=some (.bool p))(hy:aD fr y=some (.bool q)):Yd P C fr own G ⟨dst, .binOp .neq t x y t',ty',pos,af,gd⟩ (.bool (!(p==q))):=by
 intro a w hf hh;simp only[execOp,bz hf hx,bz hf hy];have h1:(Op.equal t (.bool p) (.bool q)).run P w= .ok (p==q) w:=px (by unfold Op.equalIn;rw[bh (hT.u w)];rfl);have h2:(eqGuard .neq t x y (.bool p) (.bool q)).run P w= .ok () w:=J;have h3:(binOp .neq t (.bool p) (.bool q)).run P w= .ok (.bool (!(p==q))) w:=by simp only[binOp];rw[bh h1];rfl
 exact cI (by rw[bh h2];exact h3)
def CQ[hT:HE P t]{p:Option Addr}(hx:aD fr x=some (.pointer p))(hy:aD fr y=some (.pointer none)):Yd P C fr own G ⟨dst, .binOp .eql t x y t',ty',pos,af,gd⟩ (.bool p.isNone):=by
 obtain⟨e,he⟩:=hT.u;intro a w hf hh;simp only[execOp,bz hf hx,bz hf hy];have h1:(Op.equal t (.pointer p) (.pointer none)).run P w= .ok p.isNone w:=px (by unfold Op.equalIn;rw[bh (he w)];cases p<;>rfl);have h2:(eqGuard .eql t x y (.pointer p) (.pointer none)).run P w= .ok () w:=by cases p<;>rfl
 have h3:(binOp .eql t (.pointer p) (.pointer none)).run P w= .ok (.bool p.isNone) w:=by cases p<;>(simp only[binOp];rw[bh h1];rfl)
 exact cI (by rw[bh h2];exact h3)
def Bz[hT:HE P t]{p:Option Addr}(hx:aD fr x=some (.pointer p))(hy:aD fr y=some (.pointer none)):Yd P C fr own G ⟨dst, .binOp .neq t x y t',ty',pos,af,gd⟩ (.bool (!p.isNone)):=by
 obtain⟨e,he⟩:=hT.u;intro a w hf hh;simp only[execOp,bz hf hx,bz hf hy];have h1:(Op.equal t (.pointer p) (.pointer none)).run P w= .ok p.isNone w:=px (by unfold Op.equalIn;rw[bh (he w)];cases p<;>rfl);have h2:(eqGuard .neq t x y (.pointer p) (.pointer none)).run P w= .ok () w:=by cases p<;>rfl
 have h3:(binOp .neq t (.pointer p) (.pointer none)).run P w= .ok (.bool (!p.isNone)) w:=by cases p<;>(simp only[binOp];rw[bh h1];rfl)
 exact cI (by rw[bh h2];exact h3)
def PG{v:Value}[hT:HC P t](hv:v= .nilIface\/ ∃k u,v= .iface k u)(hx:aD fr x=some v):
  Yd P C fr own G ⟨dst, .binOp .eql t x (.const .nilIface) t',ty',pos,af,gd⟩ (.bool (match v with| .nilIface=>true|_=>false)):=by
 obtain⟨e,he⟩:=hT.u;intro a w hf hh;simp only[execOp,bz hf hx,show a.eval (.const .nilIface)= .nilIface from J];rcases hv with rfl|⟨k,u,rfl⟩
 .have h1:(Op.equal t .nilIface .nilIface).run P w= .ok true w:=px (by unfold Op.equalIn;rw[bh (he w)];rfl)
  have h2:(eqGuard .eql t x (.const .nilIface) .nilIface .nilIface).run P w= .ok () w:=by cases x<;>rfl
  exact cI (by rw[bh h2];simp only[binOp];rw[bh h1];rfl)
 .have h1:(Op.equal t (.iface k u) .nilIface).run P w= .ok false w:=px (by unfold Op.equalIn;rw[bh (he w)];rfl)
  exact cI (by rw[bh (a:=()) (w':=w) J];simp only[binOp];rw[bh h1];rfl)
def Pb{v:Value}[hT:HC P t](hv:v= .nilIface\/ ∃k u,v= .iface k u)(hx:aD fr x=some v):
  Yd P C fr own G ⟨dst, .binOp .neq t x (.const .nilIface) t',ty',pos,af,gd⟩ (.bool (match v with| .nilIface=>false|_=>true)):=by
 obtain⟨e,he⟩:=hT.u;intro a w hf hh;simp only[execOp,bz hf hx,show a.eval (.const .nilIface)= .nilIface from J];rcases hv with rfl|⟨k,u,rfl⟩
 .have h1:(Op.equal t .nilIface .nilIface).run P w= .ok true w:=px (by unfold Op.equalIn;rw[bh (he w)];rfl)
  have h2:(eqGuard .neq t x (.const .nilIface) .nilIface .nilIface).run P w= .ok () w:=by cases x<;>rfl
  exact cI (by rw[bh h2];simp only[binOp];rw[bh h1];rfl)
 .have h1:(Op.equal t (.iface k u) .nilIface).run P w= .ok false w:=px (by unfold Op.equalIn;rw[bh (he w)];rfl)
  exact cI (by rw[bh (a:=()) (w':=w) J];simp only[binOp];rw[bh h1];rfl)
def Vz{cs l:List Value}{f off ft k:Nat}[hF:E8 P t f off ft][hA:mz P ft k](hx:aD fr x=some (.agg ⟨cs⟩))(hl:cA cs off k=some l):Yd P C fr own G ⟨dst, .field t x f,ty',pos,af,gd⟩ (.agg ⟨l⟩):=by
 obtain⟨fs,fd,h1,h2,h3,h4⟩:=hF.u;intro a w hf hh;simp only[execOp,bz hf hx];have:(Instr.field t (.agg ⟨cs⟩) f).run P w= .ok (.agg ⟨l⟩) w:=by
  unfold Instr.field;rw[bh (h1 w)];simp only[h2,h3,h4,asAgg];rw[bh (run_pure _ _ _)];unfold part;rw[bh (hA.agg w)];simp only[if_true];rw[bh (hA.siz w)];obtain⟨k1,k2⟩:=qh _ _ _ _ hl;have:(⟨cs⟩:Array Value).extract off (off+k)=⟨l⟩:=by
   apply Array.ext';rw[Array.toList_extract];apply oM;intro i;rw[List.extract_eq_take_drop,qU];split
   .rw[lQ];exact k2 i (by omega)
   .exact(fM (show l.length<=i by omega)).symm
  rw[this];rfl
 exact cI this
def YH{cs:List Value}{f off ft:Nat}{v:Value}[hF:E8 P t f off ft][hA:i9 P ft](hx:aD fr x=some (.agg ⟨cs⟩))(hl:cs[off]? =some v):Yd P C fr own G ⟨dst, .field t x f,ty',pos,af,gd⟩ v:=by
 obtain⟨fs,fd,h1,h2,h3,h4⟩:=hF.u;intro a w hf hh;simp only[execOp,bz hf hx];have:(Instr.field t (.agg ⟨cs⟩) f).run P w= .ok v w:=by
  unfold Instr.field;rw[bh (h1 w)];simp only[h2,h3,h4,asAgg];rw[bh (run_pure _ _ _)];unfold part;rw[bh (hA.agg w)];have:(⟨cs⟩:Array Value)[off]? =some v:=by simpa using hl
  simp only[cM,if_false,this];rfl
 exact cI this
class G7 (P:Program) (t:TypeId) (offs:outParam (List (Nat×Nat))):Prop where
 u: ∃fs:Array Field,(∀w,(underlying t).run P w= .ok (.struct fs) w)/\(∀w,(fs.mapM (m:=Sem) fun f=>do pure (f.offset,<-sizeOf f.type)).run P w= .ok ⟨offs⟩ w)
def tE(fr:Fr)(offs:List (Nat×Nat)):List Value->List (Nat×Operand)->Option (List Value)
 |cs,[]=>some cs
 |cs,(i,x)::r=>match offs[i]?,aD fr x with
  |some (off,k),some v=>if(aE v).length=k/\off+k<=cs.length then tE fr offs (cp cs off (aE v)) r else none
  |_,_=>none
def Aw: ∀(vs:List Value) (cs:Array Value) (off j:Nat),(vs.zipIdx j).foldl (fun cs (c,j)=>cs.setIfInBounds (off+j) c) cs=⟨cp cs.toList (off+j) vs⟩
 |[],cs,off,j=>rfl
 |v::vs,cs,off,j=>by
  simp only[List.zipIdx_cons,dY];rw[Aw vs _ off (j+1)];simp[cp,lK]
def GY{a:Act}(hf:kc fr a)(offs:List (Nat×Nat)): ∀(ps:List (Nat×Operand)) (cs out:List Value),tE fr offs cs ps=some out->
  Instr.fill ((⟨offs⟩:Array (Nat×Nat))[·]?) ⟨cs⟩ (ps.map fun(i,x)=>(i,a.eval x))=some ⟨out⟩
 |[],cs,out,h=>by simp only[tE] at h;cases h;rfl
 |(i,x)::ps,cs,out,h=>by
  simp only[tE] at h;split at h
  .rename_i off k v ho hv
   split at h
   .rename_i hc
    simp only[bJ,Instr.fill];have:(⟨offs⟩:Array (Nat×Nat))[i]? =some (off,k):=by simpa using ho
    simp only[this,bz hf hv,om];have h1: ¬((⟨aE v⟩:Array Value).size≠k):=by simp[hc.1]
    have h2: ¬(off+(⟨aE v⟩:Array Value).size>(⟨cs⟩:Array Value).size):=by simp only[oL,hc.1];omega
    rw[if_neg (by simp only[iR,decide_eq_true_eq,not_or];exact⟨by simpa using h1,by simpa using h2⟩)];have e:=Aw (aE v) ⟨cs⟩ off 0;have e':(⟨aE v⟩:Array Value).zipIdx.foldl (fun cs (c,j)=>cs.setIfInBounds (off+j) c) (⟨cs⟩:Array Value)=⟨cp cs off (aE v)⟩:=by
     rw[<-qT,sW];simpa using e
    rw[e'];exact GY hf offs ps _ _ h
   .cases h
  .cases h
def Ke{parts:Array (Nat×Operand)}{offs:List (Nat×Nat)}{z:Value}{out:List Value}[hT:G7 P t offs][hz:gk P t z](hb:tE fr offs (aE z) parts.toList=some out):Yd P C fr own G ⟨dst, .build t parts,ty',pos,af,gd⟩ (.agg ⟨out⟩):=by
 obtain⟨fs,h1,h2⟩:=hT.u;intro a w hf hh;simp only[execOp];have:(Instr.build t (parts.map fun(i,x)=>(i,a.eval x))).run P w= .ok (.agg ⟨out⟩) w:=by
  unfold Instr.build;rw[bh (hz.zero w),om];rw[bh (h1 w)];simp only[];rw[bh (h2 w)];have:=GY hf offs parts.toList _ _ hb;simp only[pK,this];rfl
 exact cI this
end
def dG(z:Value)(k:Nat):List Value:=(List.replicate k (aE z)).flatten
def Kl{α:Type}(l:List α): ∀(k i:Nat),i<k*l.length->(List.replicate k l).flatten[i]? =l[i%l.length]?
 |0,i,h=>by omega
 |k+1,i,h=>by
  rw[sY,qM];by_cases hi:i<l.length
  .rw[eX hi,jQ hi]
  .rw[gK (by omega),Kl l k (i-l.length) (by rw[dZ] at h;omega)]
   rw[Nat.mod_eq_sub_mod (Nat.ge_of_not_lt hi)]
def pd(z:Value)(k:Nat):(dG z k).length=k*(aE z).length:=by simp[dG]
def xo{z:Value}{k m:Nat}(h:m=k*(aE z).length):((Array.range m).map fun i=>(⟨aE z⟩:Array Value)[i%(⟨aE z⟩:Array Value).size]!)=⟨dG z k⟩:=by
 subst h;apply Array.ext';apply oM;intro i;simp only[pK,Array.toList_range,fY,oL];by_cases hi:i<k*(aE z).length
 .rw[List.getElem?_range hi]
  simp only[kR];have h1:=Kl (aE z) k i hi;have hpos:0<(aE z).length:=by
   rcases fU (aE z).length with h|h
   .rw[h,sN] at hi;omega
   .exact h
  have hm:=dQ i hpos;show _=(dG z k)[i]?;unfold dG;rw[h1];simp[hm]
 .rw[fM (by simpa using hi)]
  rw[fM (by show(dG z k).length<=i;rw[pd];omega)];rfl
section
variable {P:Program} {C:aC} {n:Nat} {fr:Fr} {own own':List au} {G:Gh} {Φ:Act->World->Prop}
variable {dst:Option Nat} {t t' ty':TypeId} {pos:String} {af:Array Edge} {gd:Option (Nat×Bool)} {x y:Operand} {e s by_:Nat}
def IR[hT:cB P t e s by_](w:World): ∃i:TypeInfo,(typeInfo e).run P w= .ok i w/\i.bytes=by_:=by
 obtain⟨i,h1,_,h2⟩:=hT.info;exact⟨i,by simp[typeInfo,program,Sem.run_bind,Sem.run,h1,run_pure],h2⟩
def Su[hT:cB P t e s by_]{z:Value}[hz:gk P e z]{k k':IntKind}{l:Int}(hx:aD fr x=some (.int k l))(hy:aD fr y=some (.int k' l))(h0:0<=l)(hb:by_*l<=2^47)(hl:l<=2^60)(hs:(aE z).length=s)(hd:cg n dst=true)
  (h: ∀b,St C n (put fr dst (.slice (some ⟨b,0,none⟩) l.toNat l.toNat)) (⟨b,dG z l.toNat,e,true⟩::own) G Φ):
  Ch P C n fr own G ⟨dst, .makeSlice t x y,ty',pos,af,gd⟩ Φ:=by
 intro a w Q rl;have h1:(Instr.makeSlice t (a.eval x) (a.eval y)).run P w= .ok (.slice (some ⟨w.heap.size,0,none⟩) l.toNat l.toNat) (w.alloc (.cells ⟨dG z l.toNat⟩ e)):=by
  obtain⟨i,hi,hib⟩:=IR (P:=P) (t:=t) (e:=e) (s:=s) (by_:=by_) w;rw[bz rl.fr hx,bz rl.fr hy];unfold Instr.makeSlice;rw[bh (hT.u w)];simp only[asInt,asIntOf];rw[bh (a:=l) (w':=w) J,bh (a:=l) (w':=w) J,bh hi,hib];have hw:IntKind.i64.wrap l=l:=qO (by simp[IntKind.min,IntKind.max,IntKind.signed,IntKind.bits];omega);simp only[hw];have c1: ¬((by_:Int)*l>2^48):=by
   have:(2:Int)^47<=2^48:=by decide
   omega
  have c2:(decide (l<0)||decide ((by_:Int)*l>2^48))=false:=by simp[c1];omega
  simp only[c2,Int.lt_irrefl,decide_false,Bool.or_false,Bool.false_or];have c3:decide (l<0)=false:=by simp;omega
  simp only[c3,cM,if_false,gt_iff_lt,Int.lt_irrefl,decide_false,Bool.or_false];have hr: ¬(l.toNat*by_>roomBytes):=by
   unfold roomBytes;have:((l.toNat*by_:Nat):Int)=by_*l:=by rw[iJ,pM h0,qN]
   have h47:((2^47:Nat):Int)=2^47:=by decide
   omega
  unfold askRoom;simp only[hr,if_false];rw[bh (run_pure _ _ _),bh (hT.siz w)];have hn:l.toNat*s=l.toNat*(aE z).length:=by rw[hs]
  by_cases h00:l.toNat*s=0
  .rw[if_pos h00,bh (run_pure _ _ _)]
   have e0:dG z l.toNat=[]:=bL (by rw[pd,hs];exact h00);rw[h00,e0,show(Array.range 0)= #[] from J,Array.map_empty];rfl
  .rw[if_neg h00,bh (hz.zero w),om]
   rw[bh (run_pure _ _ _),xo hn];rfl
 refine(fun hk=>?_:Φ (a.put dst (.slice (some ⟨w.heap.size,0,none⟩) l.toNat l.toNat)) (w.alloc (.cells ⟨dG z l.toNat⟩ e))->_) (h w.heap.size _ _ ((rl.heap (rl.h.alloc _ _)).put _ hd));exact jv (v:= .slice (some ⟨w.heap.size,0,none⟩) l.toNat l.toNat) (cI h1) hk
def MV: ∀(vs cs pre:List Value),vs.length=cs.length->cp (pre++cs) pre.length vs=pre++vs
 |[],cs,pre,h=>by have:cs=[]:=bL h.symm;subst this;rfl
 |v::vs,[],pre,h=>by simp at h
 |v::vs,c::cs,pre,h=>by
  simp only[cp,mT _ _ (bQ _),nN,List.set_cons_zero];have:=MV vs cs (pre++[v]) (by simpa using h);simpa using this
def atp[hT:cB P t e s by_]{z v:Value}[hz:gk P e z](hx:aD fr x=some v)(hs:(aE z).length=s)(hv:(aE v).length=s)(hsm:s<=1000)(hs0:0<s)(hd:cg n dst=true)
  (h: ∀b,St C n (put fr dst (.slice (some ⟨b,0,none⟩) 1 1)) (⟨b,aE v,e,true⟩::own) G Φ):
  Ch P C n fr own G ⟨dst, .buildSlice t 1 #[(0,x)],ty',pos,af,gd⟩ Φ:=by
 intro a w Q rl;have h1:(Instr.buildSlice t 1 #[(0,v)]).run P w= .ok (.slice (some ⟨w.heap.size,0,none⟩) 1 1) (w.alloc (.cells ⟨aE v⟩ e)):=by
  unfold Instr.buildSlice;rw[bh (hT.u w)];simp only[];rw[bh (hT.siz w)];have c1: ¬(1*s>2^24):=by omega
  have c2: ¬(1*s=0):=by omega
  simp only[c1,if_false];rw[if_neg c2,bh (hz.zero w),om,bh (run_pure _ _ _)];rw[xo (k:=1) (by rw[hs])];have hzl:(dG z 1).length=s:=by rw[pd,hs,lL]
  have hf:Instr.fill (fun i=>some (i*s,s)) ⟨dG z 1⟩ [(0,v)]=some ⟨aE v⟩:=by
   simp only[Instr.fill,om];rw[if_neg (by simp[hv,hzl])];have e1:=Aw (aE v) ⟨dG z 1⟩ (0*s) 0;have e2:(⟨aE v⟩:Array Value).zipIdx.foldl (fun cs (c,j)=>cs.setIfInBounds (0*s+j) c) (⟨dG z 1⟩:Array Value)=⟨aE v⟩:=by
    rw[<-qT,sW];have e3:=MV (aE v) (dG z 1) [] (by rw[hv,hzl]);simp only[cZ,kS] at e3;rw[jK,dL] at e1;rw[e3] at e1;simpa using e1
   rw[e2]
  simp only[hf];rfl
 refine jv (v:= .slice (some ⟨w.heap.size,0,none⟩) 1 1) (w':=w.alloc (.cells ⟨aE v⟩ e)) ?_ (h w.heap.size _ _ ((rl.heap (rl.h.alloc _ _)).put _ hd));simp only[execOp,iQ,bJ,dS,bz rl.fr hx];exact cI h1
end
section
variable {P:Program} {C:aC} {n:Nat} {fr:Fr} {own own':List au} {G:Gh} {Φ:Act->World->Prop}
variable {dst:Option Nat} {t t' ty':TypeId} {pos:String} {af:Array Edge} {gd:Option (Nat×Bool)} {x y:Operand} {e s by_:Nat}
def sA(fr:Fr)(s:Nat):List Value->List (Nat×Operand)->Option (List Value)
 |cs,[]=>some cs
 |cs,(i,x)::r=>match aD fr x with
  |some v=>if(aE v).length=s/\i*s+s<=cs.length then sA fr s (cp cs (i*s) (aE v)) r else none
  |none=>none
def OQ{a:Act}(hf:kc fr a)(s:Nat): ∀(ps:List (Nat×Operand)) (cs out:List Value),sA fr s cs ps=some out->
  Instr.fill (fun i=>some (i*s,s)) ⟨cs⟩ (ps.map fun(i,x)=>(i,a.eval x))=some ⟨out⟩
 |[],cs,out,h=>by simp only[sA] at h;cases h;rfl
 |(i,x)::ps,cs,out,h=>by
  simp only[sA] at h;split at h
  .rename_i v hv
   split at h
   .rename_i hc
    simp only[bJ,Instr.fill,bz hf hv,om];have h1: ¬((⟨aE v⟩:Array Value).size≠s):=by simp[hc.1]
    have h2: ¬(i*s+(⟨aE v⟩:Array Value).size>(⟨cs⟩:Array Value).size):=by simp only[oL,hc.1];omega
    rw[if_neg (by simp only[iR,decide_eq_true_eq,not_or];exact⟨by simpa using h1,by simpa using h2⟩)];have e:=Aw (aE v) ⟨cs⟩ (i*s) 0;have e':(⟨aE v⟩:Array Value).zipIdx.foldl (fun cs (c,j)=>cs.setIfInBounds (i*s+j) c) (⟨cs⟩:Array Value)=⟨cp cs (i*s) (aE v)⟩:=by
     rw[<-qT,sW];simpa using e
    rw[e'];exact OQ hf s ps _ _ h
   .cases h
  .cases h
def Wx[hT:cB P t e s by_]{z:Value}[hz:gk P e z]{len:Nat}{parts:Array (Nat×Operand)}{out:List Value}(hs:(aE z).length=s)(hb:sA fr s (dG z len) parts.toList=some out)(hsm:Nat.ble (len*s) 1000=true)(hs0:Nat.blt 0 (len*s)=true)(hd:cg n dst=true)
  (h: ∀b,St C n (put fr dst (.slice (some ⟨b,0,none⟩) len len)) (⟨b,out,e,true⟩::own) G Φ):
  Ch P C n fr own G ⟨dst, .buildSlice t len parts,ty',pos,af,gd⟩ Φ:=by
 intro a w Q rl;have hsm':len*s<=1000:=by simpa using hsm
 have hs0':0<len*s:=by simpa[mX] using hs0
 have h1:(Instr.buildSlice t len (parts.map fun(i,x)=>(i,a.eval x))).run P w= .ok (.slice (some ⟨w.heap.size,0,none⟩) len len) (w.alloc (.cells ⟨out⟩ e)):=by
  unfold Instr.buildSlice;rw[bh (hT.u w)];simp only[];rw[bh (hT.siz w)];have c1: ¬(len*s>2^24):=by omega
  have c2: ¬(len*s=0):=by omega
  simp only[c1,if_false];rw[if_neg c2,bh (hz.zero w),om,bh (run_pure _ _ _)];rw[xo (k:=len) (by rw[hs])];have hf:=OQ rl.fr s parts.toList _ _ hb;simp only[pK,hf];rfl
 refine jv (v:= .slice (some ⟨w.heap.size,0,none⟩) len len) (w':=w.alloc (.cells ⟨out⟩ e)) ?_ (h w.heap.size _ _ ((rl.heap (rl.h.alloc _ _)).put _ hd));simp only[execOp];exact cI h1
def Ou[hT:cB P t e s by_](hd:cg n dst=true)(h: ∀b,St C n (put fr dst (.slice (some ⟨b,0,none⟩) 0 0)) (⟨b,[],e,true⟩::own) G Φ):
  Ch P C n fr own G ⟨dst, .buildSlice t 0 #[],ty',pos,af,gd⟩ Φ:=by
 intro a w Q rl;have h1:(Instr.buildSlice t 0 #[]).run P w= .ok (.slice (some ⟨w.heap.size,0,none⟩) 0 0) (w.alloc (.cells ⟨[]⟩ e)):=by
  unfold Instr.buildSlice;rw[bh (hT.u w)];simp only[];rw[bh (hT.siz w)];simp only[jK,gt_iff_lt,sV,if_false,if_true];rw[bh (run_pure _ _ _),show(Array.range 0)= #[] from J,Array.map_empty];rfl
 refine jv (v:= .slice (some ⟨w.heap.size,0,none⟩) 0 0) (w':=w.alloc (.cells ⟨[]⟩ e)) ?_ (h w.heap.size _ _ ((rl.heap (rl.h.alloc _ _)).put _ hd));simp only[execOp,iQ,dS];exact cI h1
def LN[hT:cB P t e s by_]{ad:Option Addr}{len cap l2 c2:Nat}(hx:aD fr x=some (.slice ad len cap))(hy:aD fr y=some (.slice none l2 c2)):Yd P C fr own G ⟨dst, .binOp .eql t x y t',ty',pos,af,gd⟩ (.bool ad.isNone):=by
 intro a w hf hh;simp only[execOp,bz hf hx,bz hf hy];have h1:(Op.equal t (.slice ad len cap) (.slice none l2 c2)).run P w= .ok ad.isNone w:=px (by unfold Op.equalIn;rw[bh (hT.u w)];cases ad<;>rfl);have h2:(eqGuard .eql t x y (.slice ad len cap) (.slice none l2 c2)).run P w= .ok () w:=J;have h3:(binOp .eql t (.slice ad len cap) (.slice none l2 c2)).run P w= .ok (.bool ad.isNone) w:=by simp only[binOp];rw[bh h1];rfl
 exact cI (by rw[bh h2];exact h3)
def YS[hT:cB P t e s by_]{ad:Option Addr}{len cap l2 c2:Nat}(hx:aD fr x=some (.slice ad len cap))(hy:aD fr y=some (.slice none l2 c2)):Yd P C fr own G ⟨dst, .binOp .neq t x y t',ty',pos,af,gd⟩ (.bool (!ad.isNone)):=by
 intro a w hf hh;simp only[execOp,bz hf hx,bz hf hy];have h1:(Op.equal t (.slice ad len cap) (.slice none l2 c2)).run P w= .ok ad.isNone w:=px (by unfold Op.equalIn;rw[bh (hT.u w)];cases ad<;>rfl);have h2:(eqGuard .neq t x y (.slice ad len cap) (.slice none l2 c2)).run P w= .ok () w:=J;have h3:(binOp .neq t (.slice ad len cap) (.slice none l2 c2)).run P w= .ok (.bool (!ad.isNone)) w:=by simp only[binOp];rw[bh h1];rfl
 exact cI (by rw[bh h2];exact h3)
end
def jC: ∀(cs:List Value) (off k:Nat),off+k<=cs.length->cA cs off k=some ((cs.drop off).take k)
 |cs,0,0,_=>by cases cs<;>rfl
 |[],0,k+1,h=>by simp at h
 |v::t,0,k+1,h=>by
  simp only[cA,jC t 0 k (by simp at h;omega)];simp
 |[],_+1,k,h=>by simp at h
 |_::t,off+1,k,h=>by
  simp only[cA,jC t off k (by simp at h;omega)];simp
section
variable {P:Program} {C:aC} {n:Nat} {fr:Fr} {own own' own1:List au} {G:Gh} {Φ:Act->World->Prop}
variable {dst:Option Nat} {t t' ty':TypeId} {pos:String} {af:Array Edge} {gd:Option (Nat×Bool)} {x y:Operand} {e s by_:Nat}
def kC(P:Program)(C:aC)(own:List au)(G:Gh)(s m:Nat)(v:Value)(ys:List Value):Prop:=
 ∀w,bF C own G w->(Builtin.firstCells s m v).run P w= .ok ⟨ys⟩ w
def Bd{w:World}{b off k:Nat}{cs l:List Value}{ty:TypeId}{fz:Nat×Nat}(h:w.heap[b]? =some (.cells ⟨cs⟩ ty fz))(hl:cA cs off k=some l):(loadCells ⟨b,off,none⟩ k).run P w= .ok ⟨l⟩ w:=by
 obtain⟨h1,h2⟩:=qh _ _ _ _ hl;unfold loadCells;rw[Fh (l:=l) k 0 #[] (fun j hj=>by rw[Bm h];simpa using h2 j hj) (by omega)];simp[<-h1]
def xQ{b off m len cap:Nat}{cs ys:List Value}{ty:TypeId}{lo:Bool}(ho:gz own b cs ty lo)(hl:cA cs off (m*s)=some ys):kC P C own G s m (.slice (some ⟨b,off,none⟩) len cap) ys:=
 fun w h=>Bd (h.hown _ ho.mem).1 hl
def Lm{b off m len cap:Nat}{cs ys:List Value}(hg:G b=some cs)(hl:cA cs off (m*s)=some ys):kC P C own G s m (.slice (some ⟨b,off,none⟩) len cap) ys:=
 fun w h=>by obtain⟨ty,fz,hb⟩:=h.sub _ _ hg;exact Bd hb hl
def tO{ad:Option Addr}{len cap:Nat}:kC P C own G s 0 (.slice ad len cap) []:=fun w _=>by
 cases ad with
 |none=>rfl
 |some a=>unfold Builtin.firstCells loadCells;simp[loadCellsFrom,run_pure]
def YO(z:Value)(k:Nat):Builtin.zeroCells ⟨aE z⟩ k=⟨dG z k⟩:=by
 unfold Builtin.zeroCells;exact xo J
def Eg{w w':World}[hT:cB P t e s by_][hN:jP P t']{z:Value}[hz:gk P e z]{ad:Option Addr}{len cap m cap2:Nat}{ad2:Option Addr}{xs ys:List Value}
  (hsx:(Builtin.firstCells s len (.slice ad len cap)).run P w.drew= .ok ⟨xs⟩ w.drew)(hsy:(Builtin.firstCells s m (.slice ad2 m cap2)).run P w.drew= .ok ⟨ys⟩ w.drew)
  (hneed:cap<len+m)(hby:0<by_)(hb:(len+m)*by_<=140737488355328):
  (Builtin.append_ #[t,t'] ty' #[.slice ad len cap, .slice ad2 m cap2]).run P w=
   .ok (.slice (some ⟨w.heap.size,0,none⟩) (len+m) (grownCap w (len+m) cap e)) (w.drew.alloc (.cells ⟨xs++ys++dG z (grownCap w (len+m) cap e-(len+m))⟩ e)):=by
 obtain⟨d,hd1⟩:=hN.un;obtain⟨i,hi,his,hib⟩:=hT.info;obtain⟨i',hi',hiz⟩:=hz.info;rw[hi] at hi';cases hi';have hfit:=growslice_fits (old:=cap) (need:=len+m) (bytes:=by_) hneed hb;have hlen:len+m<=140737488355328:=dJ (qS _ hby) hb;have hn: ¬(len+m<=cap):=by omega
 have h63': ¬(9223372036854775807<((len:Int)+(m:Int))):=by omega
 have h48': ¬(281474976710656<Builtin.nextslicecap (len+m) cap*i.bytes):=by rw[hib];omega
 subst his;simp[Builtin.append_,run_underlying hT.un,run_underlying hd1,sizeOf,typeInfo,zeroValue,hi,hiz,Builtin.lenOf,hn,h63',h48',Question.forced,hsx,hsy,newRow,grownCap];congr 2;apply Array.ext';rw[om,YO];simp[cN]
def HK[hT:cB P t e s by_][hN:jP P t']{z:Value}[hz:gk P e z]{ad:Option Addr}{len cap m cap2:Nat}{ad2:Option Addr}{xs ys:List Value}
  (hx:aD fr x=some (.slice ad len cap))(hy:aD fr y=some (.slice ad2 m cap2))(hsx:kC P C own G s len (.slice ad len cap) xs)(hsy:kC P C own G s m (.slice ad2 m cap2) ys)
  (hneed:cap<len+m)(hby:0<by_)(hb:(len+m)*by_<=140737488355328)(hd:cg n dst=true)
  (h: ∀b cap',len+m<=cap'->St C n (put fr dst (.slice (some ⟨b,0,none⟩) (len+m) cap')) (⟨b,xs++ys++dG z (cap'-(len+m)),e,true⟩::own) G Φ):
  Ch P C n fr own G ⟨dst, .call ⟨.builtin .append, #[x,y], #[t,t']⟩,ty',pos,af,gd⟩ Φ:=by
 intro a w Q rl;have hcap:len+m<=grownCap w (len+m) cap e:=by unfold grownCap;simp only[Question.cut];omega
 have hrun:=Eg (P:=P) (t:=t) (t':=t') (ty':=ty') (w:=w) (w':=w) (hsx _ rl.h.drew) (hsy _ rl.h.drew) hneed hby hb;refine jv (v:= .slice (some ⟨w.heap.size,0,none⟩) (len+m) (grownCap w (len+m) cap e)) (w':=w.drew.alloc (.cells ⟨xs++ys++dG z (grownCap w (len+m) cap e-(len+m))⟩ e)) ?_ ?_
 .simp only[execOp,resolve,iQ,bJ,dS,bz rl.fr hx,bz rl.fr hy]
  exact cI hrun
 .exact h w.heap.size _ hcap _ _ ((rl.heap ((rl.h.drew).alloc _ _)).put _ hd)
def i4.perm{o:au}(h:i4 own o own1):own.Perm (o::own1):=by
 induction h with
 |hd o t=>exact List.Perm.refl _
 |tl x t t' o h ih=>exact(List.Perm.cons x ih).trans (List.Perm.swap _ _ _)
def D8{w:World}[hT:cB P t e s by_][hN:jP P t']{b len cap m cap2:Nat}{ad2:Option Addr}{cs ys:List Value}
  (hb:w.heap[b]? =some (.cells ⟨cs⟩ e (0,0)))(hcs:cs.length=cap*s)(hsy:(Builtin.firstCells s m (.slice ad2 m cap2)).run P w= .ok ⟨ys⟩ w)(hys:ys.length=m*s)(hf: ∀v∈ys,flat v=true)
  (hneed:len+m<=cap):
  (Builtin.append_ #[t,t'] ty' #[.slice (some ⟨b,0,none⟩) len cap, .slice ad2 m cap2]).run P w=
   .ok (.slice (some ⟨b,0,none⟩) (len+m) cap) (f6 w b (.cells ⟨cp cs (len*s) ys⟩ e (0,0))):=by
 obtain⟨d,hd1⟩:=hN.un;obtain⟨i,hi,his,hib⟩:=hT.info;subst his;have hl:len*i.size+ys.length<=cs.length:=by rw[hys,hcs,<-dZ];exact bV _ hneed
 have hst:=yH (P:=P) ys w (len*i.size) 0 cs hf hb (by omega);rw[gV] at hst;simp[Builtin.append_,run_underlying hT.un,run_underlying hd1,sizeOf,typeInfo,hi,Builtin.lenOf,hneed,hsy,tc,hst]
def xX: ∀(vs cs:List Value) (off:Nat),(cp cs off vs).length=cs.length
 |[],cs,off=>rfl
 |v::vs,cs,off=>by simp[cp,xX vs]
def oF: ∀(vs cs:List Value) (off:Nat),off+vs.length<=cs.length->cp cs off vs=cs.take off++vs++cs.drop (off+vs.length)
 |[],cs,off,h=>by simp[cp]
 |v::vs,cs,off,h=>by
  simp only[bY] at h;rw[cp,oF vs _ _ (by simp;omega)];rw[List.take_set,sU (by omega)];have h1:(cs.take (off+1)).set off v=cs.take off++[v]:=by
   rw[jV (by omega),mT _ _ (by simp;omega)];simp[iM (by omega:off<=cs.length)]
  rw[h1];simp only[bY,cN,cX,cZ];congr 4;omega
def P5[hT:cB P t e s by_][hN:jP P t']{z:Value}[hz:gk P e z]{b len cap m cap2:Nat}{ad2:Option Addr}{xs ys rest:List Value}
  (hx:aD fr x=some (.slice (some ⟨b,0,none⟩) len cap))(hy:aD fr y=some (.slice ad2 m cap2))(hr:i4 own ⟨b,xs++rest,e,true⟩ own1)(hxs:xs.length=len*s)(hcap:xs.length+rest.length=cap*s)(hlc:len<=cap)
  (hsy:kC P C own G s m (.slice ad2 m cap2) ys)(hys:ys.length=m*s)(hf: ∀v∈ys,flat v=true)
  (hby:0<by_)(hb:(len+m)*by_<=140737488355328)(hzs:(aE z).length=s)(hd:cg n dst=true)
  (h: ∀b cap' rest',len+m<=cap'->rest'.length+(len+m)*s=cap'*s->St C n (put fr dst (.slice (some ⟨b,0,none⟩) (len+m) cap')) (⟨b,xs++ys++rest',e,true⟩::own1) G Φ):
  Ch P C n fr own G ⟨dst, .call ⟨.builtin .append, #[x,y], #[t,t']⟩,ty',pos,af,gd⟩ Φ:=by
 intro a w Q rl;have hp:=rl.h.perm hr.perm;have hblk:=(hp.hown _ aQ).1;simp only[] at hblk;by_cases hneed:len+m<=cap
 .have hcs:(xs++rest).length=cap*s:=by simp;omega
  have hrun:=D8 (P:=P) (t:=t) (t':=t') (ty':=ty') (w:=w) (len:=len) hblk hcs (hsy w rl.h) hys hf hneed;have hle:len*s+m*s<=cap*s:=by rw[<-dZ];exact bV _ hneed
  have hov:cp (xs++rest) (len*s) ys=xs++ys++rest.drop (m*s):=by
   rw[oF _ _ _ (by rw[hys];omega),<-hxs];simp[hys,lN]
  refine jv (v:= .slice (some ⟨b,0,none⟩) (len+m) cap) (w':=f6 w b (.cells ⟨cp (xs++rest) (len*s) ys⟩ e (0,0))) ?_ ?_
  .simp only[execOp,resolve,iQ,bJ,dS,bz rl.fr hx,bz rl.fr hy]
   exact cI hrun
  .rw[hov]
   refine h b cap (rest.drop (m*s)) hneed ?_ _ _ ((rl.heap (hp.store (.hd ..))).put _ hd);rw[fN,dZ];omega
 .have hx':kC P C own G s len (.slice (some ⟨b,0,none⟩) len cap) xs:=fun w' hw'=>by
   have hb':=(((hw'.perm hr.perm).hown _ aQ).1);refine Bd hb' ?_;rw[jC _ _ _ (by simp;omega),<-hxs];simp
  have hcap':len+m<=grownCap w (len+m) cap e:=by unfold grownCap;simp only[Question.cut];omega
  have hrun:=Eg (P:=P) (t:=t) (t':=t') (ty':=ty') (w:=w) (w':=w) (hx' _ rl.h.drew) (hsy _ rl.h.drew) (by omega) hby hb;refine jv (v:= .slice (some ⟨w.heap.size,0,none⟩) (len+m) (grownCap w (len+m) cap e)) (w':=w.drew.alloc (.cells ⟨xs++ys++dG z (grownCap w (len+m) cap e-(len+m))⟩ e)) ?_ ?_
  .simp only[execOp,resolve,iQ,bJ,dS,bz rl.fr hx,bz rl.fr hy]
   exact cI hrun
  .refine h w.heap.size _ _ hcap' ?_ _ _ ((rl.heap (((hp.drew).drop (rQ _ _)).alloc _ _)).put _ hd)
   rw[pd,hzs,<-dZ];congr 1;omega
end
section
variable {P:Program} {ops:Array Oper} {Q:Exit->Act->World->Prop} {S:World->Prop} {fin:Nat->Bool}
def ph(ops:Array Oper)(fin:Nat->Bool):List (Nat×Bool)->Array Bool->Bool
 |[],listed=>(Region.ready .any ops listed).isEmpty
 |(i,true)::r,listed=>wP ops fin listed i&&ph ops fin r (listed.setIfInBounds i true)
 |(i,false)::r,listed=>(Region.ready .any ops listed==[i])&&ph ops fin r (listed.setIfInBounds i true)
def gu(P:Program)(ops:Array Oper)(Q:Exit->Act->World->Prop)(S:World->Prop)(fin:Nat->Bool):List (Nat×Bool)->Act->World->Prop
 |[],a,w=>Q .normal a w
 |(i,true)::r,a,w=> ∃o v,ops[i]? =some o/\S w/\YieldsIf P ops S o v a/\gu P ops Q S fin r (a.put o.dst v) w
 |(i,false)::r,a,w=>wpOp P ops Q i (fun a' w'=>(fin i=true\/S w')/\gu P ops Q S fin r a' w') a w
def yQ(hQ: ∀c a d v w,Q (.panic c) (Act.put a d v) w->Q (.panic c) a w): ∀(π:List (Nat×Bool)) (listed:Array Bool) (a:Act) (w:World),ph ops fin π listed=true->gu P ops Q S fin π a w-> ∀fuel,π.length<=fuel->s4 P ops Q S fin fuel listed a w
 |[],listed,a,w,ho,h,fuel,hf=>by
  have hr:Region.ready .any ops listed=[]:=by simpa[ph] using ho
  cases fuel with
  |zero=>exact⟨hr,h⟩
  |succ k=>exact⟨fun _=>h,by rw[hr];simp⟩
 |(i,true)::r,listed,a,w,ho,h,0,hf=>by simp at hf
 |(i,false)::r,listed,a,w,ho,h,0,hf=>by simp at hf
 |(i,true)::r,listed,a,w,ho,h,fuel+1,hf=>by
  obtain⟨o,v,hoi,hS,hy,hk⟩:=h;simp only[ph,wP,aM] at ho;obtain⟨⟨⟨⟨h1,h2⟩,h3⟩,h4⟩,h5⟩:=ho;obtain⟨h6,h7⟩:=aqF h4;exact VD hoi (Region.noSelect_spec h1) (fun c a w=>hQ c a _ _ w) h6 h7 fuel listed a w (Region.free_spec hoi h2) (by simpa using h3) hy hS
   (yQ hQ r _ _ _ h5 hk fuel (by simpa using hf))
 |(i,false)::r,listed,a,w,ho,h,fuel+1,hf=>by
  simp only[ph,aM,beq_iff_eq] at ho;exact XB ho.1 (wpOp_mono (fun a' w' h'=>⟨h'.1,yQ hQ r _ _ _ ho.2 h'.2 fuel (by simpa using hf)⟩) h)
end
section
variable {P:Program} {C:aC} {n:Nat} {fr:Fr} {own own0:List au} {G G0:Gh} {ops:Array Oper} {Q:Exit->Act->World->Prop} {fin:Nat->Bool} {π:List (Nat×Bool)}
def dr(fin:Nat->Bool)(π:List (Nat×Bool)){id:Nat}(hm:P.follows .mixedOrders=true)(ho:(ph ops fin π (Array.replicate ops.size false)&&Nat.ble π.length ops.size)=true)
  (h:St C n fr own G (gu P ops (gi Q) (HS C own G) fin π)):St C n fr own G ((Code.region id ops true).wp P Q):=by
 simp only[aM] at ho;refine SL fin hm fun a w rl=>yQ (fun _ _ _ _ _ h=>h) π _ a w ho.1 (h a w rl) _ (by simpa using ho.2)
def dy{i:Nat}{o:Oper}{v:Value}(ho:ops[i]? =some o)(hy: ∀G':Gh,[GE G0 G']->Yd P C fr own0 G' o v)(hg:o.guard=none)(hd:cg n o.dst=true)[hs:kl own0 own][hl:GL G0 G]
  (h:St C n (put fr o.dst v) own G (gu P ops (gi Q) (HS C own0 G0) fin π)):St C n fr own G (gu P ops (gi Q) (HS C own0 G0) fin ((i,true)::π)):=
 fun a w rl=>⟨o,v,ho,⟨G,hl.le,rl.h.drop hs.s⟩, .inl ⟨by simp[Region.wanted,hg],fun w' ⟨G',hle,hr⟩=> @hy G' ⟨hle⟩ a w' rl.fr hr⟩,h _ _ (rl.put v hd)⟩
def dM{i:Nat}{dst:Option Nat}{ty':TypeId}{pos:String}{af:Array Edge}{x:Operand}{v:Value}(ho:ops[i]? =some ⟨dst, .move x,ty',pos,af,none⟩)(hx:aD fr x=some v)(hd:cg n dst=true)[hs:kl own0 own][hl:GL G0 G]
  (h:St C n (put fr dst v) own G (gu P ops (gi Q) (HS C own0 G0) fin π)):St C n fr own G (gu P ops (gi Q) (HS C own0 G0) fin ((i,true)::π)):=dy ho (fun _ _=>Dl hx) J hd h
def dA{i:Nat}{dst:Option Nat}{ty':TypeId}{pos:String}{af:Array Edge}{x:Operand}{v:Value}(ho:ops[i]? =some ⟨dst, .assign x,ty',pos,af,none⟩)(hx:aD fr x=some v)(hd:cg n dst=true)[hs:kl own0 own][hl:GL G0 G]
  (h:St C n (put fr dst v) own G (gu P ops (gi Q) (HS C own0 G0) fin π)):St C n fr own G (gu P ops (gi Q) (HS C own0 G0) fin ((i,true)::π)):=dy ho (fun _ _=>EK hx) J hd h
def dF{i b o f off:Nat}{dst:Option Nat}{ty':TypeId}{pos:String}{af:Array Edge}{x:Operand}{t:TypeId}[hF:nI P t f off](ho:ops[i]? =some ⟨dst, .fieldAddr t x f,ty',pos,af,none⟩)(hx:aD fr x=some (.pointer (some ⟨b,o,none⟩)))(hd:cg n dst=true)[hs:kl own0 own][hl:GL G0 G]
  (h:St C n (put fr dst (.pointer (some ⟨b,o+off,none⟩))) own G (gu P ops (gi Q) (HS C own0 G0) fin π)):St C n fr own G (gu P ops (gi Q) (HS C own0 G0) fin ((i,true)::π)):=dy ho (fun _ _=>xO hx) J hd h
def zI{i b off:Nat}{dst:Option Nat}{ty':TypeId}{pos:String}{af:Array Edge}{x:Operand}{t ty:TypeId}{cs:List Value}{v:Value}{lo:Bool}(ho:ops[i]? =some ⟨dst, .load t x,ty',pos,af,none⟩)(hx:aD fr x=some (.pointer (some ⟨b,off,none⟩)))[hw:gz own0 b cs ty lo][i9 P t](hv:cs[off]? =some v)(hd:cg n dst=true)[hs:kl own0 own][hl:GL G0 G]
  (h:St C n (put fr dst v) own G (gu P ops (gi Q) (HS C own0 G0) fin π)):St C n fr own G (gu P ops (gi Q) (HS C own0 G0) fin ((i,true)::π)):=dy ho (fun _ _=>yK hx hv) J hd h
def dc{i:Nat}{o:Oper}(ho:ops[i]? =some o)(hg:o.guard=none)(hc:Ch P C n fr own G o (fun a w=>(fin i=true\/HS C own0 G0 w)/\gu P ops (gi Q) (HS C own0 G0) fin π a w)):St C n fr own G (gu P ops (gi Q) (HS C own0 G0) fin ((i,false)::π)):=by
 intro a w rl;show wpOp P ops (gi Q) i _ a w;unfold wpOp;simp only[ho,Region.wanted,hg,if_true];exact .inl (hc a w _ rl)
def dn(h:St C n fr own G (Q .normal)):St C n fr own G (gu P ops (gi Q) (HS C own0 G0) fin []):=h
def AM{A G:Gh}{b:Nat}{cs:List Value}[h:vG A b cs][k:GL A G]:G b=some cs:=k.le _ _ h.h
variable {dst:Option Nat} {t t' ty':TypeId} {pos:String} {af:Array Edge} {x y:Operand} {r:List Oper}
def sm{v:Value}(hx:aD fr x=some v)(hd:cg n dst=true)(h:St C n (put fr dst v) own G (en P ops Q r)):St C n fr own G (en P ops Q (⟨dst, .move x,ty',pos,af,none⟩::r)):=qb (Dl hx) J hd h
def sa{v:Value}(hx:aD fr x=some v)(hd:cg n dst=true)(h:St C n (put fr dst v) own G (en P ops Q r)):St C n fr own G (en P ops Q (⟨dst, .assign x,ty',pos,af,none⟩::r)):=qb (EK hx) J hd h
def sn{ad:Addr}(hx:aD fr x=some (.pointer (some ad)))(hd:cg n dst=true)(h:St C n (put fr dst (.pointer (some ad))) own G (en P ops Q r)):St C n fr own G (en P ops Q (⟨dst, .nilCheck x,ty',pos,af,none⟩::r)):=qb (sk hx) J hd h
def sf{b o f off:Nat}[hF:nI P t f off](hx:aD fr x=some (.pointer (some ⟨b,o,none⟩)))(hd:cg n dst=true)(h:St C n (put fr dst (.pointer (some ⟨b,o+off,none⟩))) own G (en P ops Q r)):St C n fr own G (en P ops Q (⟨dst, .fieldAddr t x f,ty',pos,af,none⟩::r)):=qb (xO hx) J hd h
def T6{b off k:Nat}{cs l:List Value}{lo:Bool}{ty:TypeId}(hx:aD fr x=some (.pointer (some ⟨b,off,none⟩)))[ho:gz own b cs ty lo][mz P t k](hl:cA cs off k=some l)(hd:cg n dst=true)
  (h:St C n (put fr dst (.agg ⟨l⟩)) own G (en P ops Q r)):St C n fr own G (en P ops Q (⟨dst, .load t x,ty',pos,af,none⟩::r)):=qb (Dv hx hl) J hd h
def Kh{b off:Nat}{cs:List Value}{v:Value}{lo:Bool}{ty:TypeId}(hx:aD fr x=some (.pointer (some ⟨b,off,none⟩)))[ho:gz own b cs ty lo][i9 P t](hl:cs[off]? =some v)(hd:cg n dst=true)
  (h:St C n (put fr dst v) own G (en P ops Q r)):St C n fr own G (en P ops Q (⟨dst, .load t x,ty',pos,af,none⟩::r)):=qb (yK hx hl) J hd h
def Vg{A:Gh}{b off:Nat}{cs:List Value}{v:Value}(hx:aD fr x=some (.pointer (some ⟨b,off,none⟩)))[hg:vG A b cs][hk:GL A G][i9 P t](hl:cs[off]? =some v)(hd:cg n dst=true)
  (h:St C n (put fr dst v) own G (en P ops Q r)):St C n fr own G (en P ops Q (⟨dst, .load t x,ty',pos,af,none⟩::r)):=qb (xG hx (hk.le _ _ hg.h) hl) J hd h
def EJ{e s by_:Nat}{ad:Option Addr}{len cap:Nat}[hT:cB P t e s by_](hx:aD fr x=some (.slice ad len cap))(hd:cg n dst=true)
  (h:St C n (put fr dst (.int .i64 len)) own G (en P ops Q r)):St C n fr own G (en P ops Q (⟨dst, .call ⟨.builtin .len, #[x], #[t]⟩,ty',pos,af,none⟩::r)):=qb (Cr hx) J hd h
def sx{vs:Array Value}{i:Nat}{v:Value}(hx:aD fr x=some (.tuple vs))(hv:vs[i]? =some v)(hd:cg n dst=true)(h:St C n (put fr dst v) own G (en P ops Q r)):St C n fr own G (en P ops Q (⟨dst, .extract x i,ty',pos,af,none⟩::r)):=qb (EE hx hv) J hd h
def sy{op:Op}{v:Value}(hy:Yd P C fr own G ⟨dst,op,ty',pos,af,none⟩ v)(hd:cg n dst=true)(h:St C n (put fr dst v) own G (en P ops Q r)):St C n fr own G (en P ops Q (⟨dst,op,ty',pos,af,none⟩::r)):=qb hy J hd h
def sc{op:Op}(hc:Ch P C n fr own G ⟨dst,op,ty',pos,af,none⟩ (en P ops Q r)):St C n fr own G (en P ops Q (⟨dst,op,ty',pos,af,none⟩::r)):=UQ J hc
end
def Fn.of_calls{P:Program}{f:FuncId}{vs:List Value}{G:Gh}{v:Value}(ha:o5 P f)(h: ∀w,Calls P f ⟨vs⟩ w fun e w'=>e= .returned v/\w'=w):Fn P f vs G (fun u _=>u=v):=
 ⟨ha,fun w hw=>(h w).mono fun e w' ⟨he,hww⟩=>⟨v,G,he,by
  subst hww;exact⟨J,J,J,bQ _,fun _ _ _=>J,hw,bD.refl _,fun _ _=>J,fun o ho=>(by cases ho), .nil,bQ _,fun p hp=>by cases hp⟩,J⟩⟩
end Go.Sx
end
section
namespace Go.Sx
def dv:List Nat->Nat
 |[]=>0
 |d::t=>d+4294967296*dv t
def bt(ds:List Nat):Prop:= ∀d∈ds,d<4294967296
def dl(ds:List Nat):Prop:=ds.getLast? ≠some 0
instance (ds:List Nat):Decidable (dl ds):=inferInstanceAs (Decidable (ds.getLast? ≠some 0))
def bt.nil:bt []:=fun _ h=>by cases h
def bt.cons{d:Nat}{ds:List Nat}(h:d<4294967296)(k:bt ds):bt (d::ds):=fun x hx=>by
 rcases aU.1 hx with rfl|h'
 .exact h
 .exact k _ h'
def bt.head{d:Nat}{ds:List Nat}(h:bt (d::ds)):d<4294967296:=h d aQ
def bt.tail{d:Nat}{ds:List Nat}(h:bt (d::ds)):bt ds:=fun x hx=>h x (aJ _ hx)
def bt.append{a b:List Nat}(h:bt a)(k:bt b):bt (a++b):=fun x hx=>by
 rcases bS.1 hx with h'|h'
 .exact h _ h'
 .exact k _ h'
def bt.take{a:List Nat}(h:bt a)(n:Nat):bt (a.take n):=fun x hx=>h x (fK hx)
def bt.drop{a:List Nat}(h:bt a)(n:Nat):bt (a.drop n):=fun x hx=>h x (gL hx)
def bt.get{a:List Nat}(h:bt a)(i:Nat):a.getD i 0<4294967296:=by
 rw[aK]
 cases hi:a[i]? with
 |none=>simp
 |some d=>exact h d (aV hi)
def bt.set{a:List Nat}(h:bt a)(i:Nat){d:Nat}(hd:d<4294967296):bt (a.set i d):=fun x hx=>by
 rcases List.mem_or_eq_of_mem_set hx with h'|rfl
 .exact h _ h'
 .exact hd
def bt.replicate(n:Nat):bt (List.replicate n 0):=fun x hx=>by
 rw[List.eq_of_mem_replicate hx];omega
def xg(a b:List Nat):dv (a++b)=dv a+4294967296^a.length*dv b:=by
 induction a with
 |nil=>simp[dv]
 |cons d t ih=>
  simp only[cX,dv,ih,bY,iL];rw[dK,<-lK,<-bR,bT 4294967296 (4294967296^t.length)]
def ka{ds:List Nat}(h:bt ds):dv ds<4294967296^ds.length:=by
 induction ds with
 |nil=>simp[dv]
 |cons d t ih=>
  have h1:=h.head;have h2:=ih h.tail;simp only[dv,bY,iL];omega
def vq(n:Nat):dv (List.replicate n 0)=0:=by
 induction n with
 |zero=>rfl
 |succ n ih=>simp[sY,dv,ih]
def ml(ds:List Nat)(i:Nat):dv (ds.take (i+1))=dv (ds.take i)+4294967296^i*ds.getD i 0:=by
 by_cases h:i<ds.length
 .rw[jV h,xg]
  simp[dv,iM (oQ h),aK,h]
 .have:ds.getD i 0=0:=by rw[aK,fM (by omega)];rfl
  rw[this,cR (by omega),cR (by omega)];simp
def zc(ds:List Nat)(i:Nat)(h:i<=ds.length:=by omega):dv ds=dv (ds.take i)+4294967296^i*dv (ds.drop i):=by
 have:=xg (ds.take i) (ds.drop i);rw[jZ] at this;rw[this];simp[iM h]
def trimD:List Nat->List Nat
 |[]=>[]
 |d::t=>match trimD t with
  |[]=>if d=0 then [] else [d]
  |t'=>d::t'
def tW(d:Nat)(t:List Nat):trimD (d::t)=if trimD t=[]/\d=0 then [] else d::trimD t:=by
 simp only[trimD]
 cases h:trimD t with
 |nil=>by_cases hd:d=0<;>simp[hd]
 |cons a b=>simp
def awf(ds:List Nat):dv (trimD ds)=dv ds:=by
 induction ds with
 |nil=>rfl
 |cons d t ih=>
  rw[tW];split
  .rename_i h
   rw[h.1] at ih;simp[dv,<-ih,h.2]
  .simp[dv,ih]
def Td(ds:List Nat):trimD (ds++[0])=trimD ds:=by
 induction ds with
 |nil=>rfl
 |cons d t ih=>rw[cX,tW,tW,ih]
def Jg{ds:List Nat}{d:Nat}(h:d≠0):trimD (ds++[d])=ds++[d]:=by
 induction ds with
 |nil=>simp[trimD,h]
 |cons e t ih=>rw[cX,tW,ih];simp
def dl.trimD(ds:List Nat):dl (trimD ds):=by
 induction ds with
 |nil=>simp[dl,Sx.trimD]
 |cons d t ih=>
  rw[tW];split
  .simp[dl]
  .rename_i h
   unfold dl at*;rw[List.getLast?_cons]
   cases ht:(Sx.trimD t).getLast? with
   |none=>
    have:Sx.trimD t=[]:=by simpa using ht
    simp only[Option.getD_none,ne_eq,Option.some.injEq];exact fun hd=>h ⟨this,hd⟩
   |some x=>rw[ht] at ih;simpa using ih
def asA(ds:List Nat):(trimD ds).length<=ds.length:=by
 induction ds with
 |nil=>simp[trimD]
 |cons d t ih=>
  rw[tW];split
  .simp
  .simp;omega
def Sq(ds:List Nat):trimD ds=ds.take (trimD ds).length:=by
 induction ds with
 |nil=>rfl
 |cons d t ih=>
  rw[tW];split
  .rfl
  .simp only[bY,nV];rw[<-ih]
def bt.trimD{ds:List Nat}(h:bt ds):bt (trimD ds):=by rw[Sq];exact h.take _
def RY{ds:List Nat}(h:dl ds):trimD ds=ds:=by
 rcases rW ds with rfl|⟨l,d,rfl⟩
 .rfl
 .rw[rY] at*
  exact Jg (fun e=>by subst e;simp[dl] at h)
def ul{ds:List Nat}(h:dl ds)(hne:ds≠[]):4294967296^(ds.length-1)<=dv ds:=by
 rcases rW ds with rfl|⟨l,d,rfl⟩
 .exact absurd J hne
 .rw[rY] at*
  have hd:d≠0:=fun e=>by subst e;simp[dl] at h
  rw[xg];simp only[aL,bY,kS,dv];have:4294967296^(l.length+(0+1)-1)=4294967296^l.length:=by congr 1
  rw[this];have h1:4294967296^l.length*1<=4294967296^l.length*(d+4294967296*0):=fR _ (by omega);omega
def wC{a b:List Nat}(ha:bt a)(hb:dl b)(h:a.length<b.length):dv a<dv b:=by
 have h1:=ka ha;have h2:=ul hb (fun e=>by subst e;simp at h);have h3:4294967296^a.length<=4294967296^(b.length-1):=bU (by omega) (by omega);omega
def Mm: ∀{a b:List Nat},bt a->bt b->a.length=b.length->dv a=dv b->a=b
 |[],[],_,_,_,_=>rfl
 |d::t,e::u,ha,hb,hl,h=>by
  have h1:=ha.head;have h2:=hb.head;simp only[dv] at h;have:d=e:=by omega
  subst this;rw[Mm ha.tail hb.tail (by simpa using hl) (by omega)]
def U7{a b:List Nat}(ha:bt a)(hb:bt b)(na:dl a)(nb:dl b)(h:dv a=dv b):a=b:=by
 refine Mm ha hb ?_ h;rcases Nat.lt_trichotomy a.length b.length with h'|h'|h'
 .have:=wC ha nb h';omega
 .exact h'
 .have:=wC hb na h';omega
def Or{a b:List Nat}(ha:bt a)(hb:bt b)(i:Nat)(hia:i<a.length)(hib:i<b.length)(hl:a.length=b.length)(hs:a.drop (i+1)=b.drop (i+1))(h:a.getD i 0<b.getD i 0):dv a<dv b:=by
 rw[zc a (i+1),zc b (i+1),hs,ml,ml];have h1:=ka (ha.take i);rw[bK,iM (by omega)] at h1;have h2:4294967296^i*(a.getD i 0+1)<=4294967296^i*b.getD i 0:=fR _ h;rw[dK] at h2;omega
def Rp{ds:List Nat}{k:Nat}(h:dl ds)(hk:dv ds<2^k):32*ds.length<=k+31:=by
 by_cases hne:ds=[]
 .subst hne;simp
 .have h1:=ul h hne
  have h2:(4294967296:Nat)^(ds.length-1)=2^(32*(ds.length-1)):=by
   rw[sQ]
  rw[h2] at h1;have h3:2^(32*(ds.length-1))<2^k:=gW h1 hk;have h4:=(nQ (by omega:1<2)).1 h3;have:0<ds.length:=by cases ds with|nil=>exact absurd J hne|cons _ _=>simp
  omega
def dg(x:Nat):List Nat:=if h:x=0 then [] else(x%4294967296)::dg (x/4294967296)
termination_by x
decreasing_by omega
def ey(x:Nat):dv (dg x)=x/\bt (dg x)/\dl (dg x):=by
 induction x using Nat.strongRecOn with
 |_ x ih=>
  unfold dg;split
  .rename_i h;subst h;exact⟨rfl, .nil,by simp[dl]⟩
  .rename_i h
   obtain⟨h1,h2,h3⟩:=ih (x/4294967296) (by omega);refine⟨by rw[dv,h1];omega, .cons (by omega) h2,?_⟩;unfold dl at*;rw[List.getLast?_cons]
   cases hl:(dg (x/4294967296)).getLast? with
   |none=>
    have:dg (x/4294967296)=[]:=by simpa using hl
    rw[this] at h1;simp only[Option.getD_none,ne_eq,Option.some.injEq];simp only[dv] at h1;omega
   |some y=>rw[hl] at h3;simpa using h3
def od{ds:List Nat}(h:bt ds)(n:dl ds):dg (dv ds)=ds:=U7 (ey _).2.1 h (ey _).2.2 n (ey _).1
def AP{ds:List Nat}(h:bt ds):dg (dv ds)=trimD ds:=by rw[<-awf];exact od h.trimD (dl.trimD _)
def uU: ∀(ws:List Nat) (j d:Nat),j<ws.length->dv (ws.set j d)+4294967296^j*ws.getD j 0=dv ws+4294967296^j*d
 |[],j,d,h=>by simp at h
 |w::t,0,d,h=>by simp[dv];omega
 |w::t,j+1,d,h=>by
  have ih:=uU t j d (by simpa using h);simp only[List.set_cons_succ,dv,kU,iL];have h1:4294967296^j*4294967296*t.getD j 0=4294967296*(4294967296^j*t.getD j 0):=by rw[bT (4294967296^j),bR]
  have h2:4294967296^j*4294967296*d=4294967296*(4294967296^j*d):=by rw[bT (4294967296^j),bR]
  rw[h1,h2];omega
def uD{ws:List Nat}{k d:Nat}(h:k<ws.length:=by omega):dv ((ws.set k d).take (k+1))=dv (ws.take k)+4294967296^k*d:=by
 rw[jV (by simpa using h),List.take_set_of_le (bQ _),xg];simp[dv,iM (oQ h)]
def M8(p x:Nat):p*x=p*(x%4294967296)+p*4294967296*(x/4294967296):=by
 have h:p*x=p*(4294967296*(x/4294967296)+x%4294967296):=by rw[qV]
 rw[dK,<-bR] at h;omega
def Tx{p A E W c a b:Nat}(h:W+p*c=A+E):(W+p*((c+a+b)%4294967296))+(p*4294967296)*((c+a+b)/4294967296)=(A+p*a)+(E+p*b):=by
 have h1:=M8 p (c+a+b);rw[dK,dK] at h1;omega
def aEF{p A E W bo b a:Nat}(h:W+E=A+p*bo)(hle:bo+b<=a):(W+p*(a-(bo+b)))+(E+p*b)=(A+p*a)+p*4294967296*0:=by
 have h1:p*a=p*(a-(bo+b))+p*bo+p*b:=by
  rw[<-dK,<-dK];congr 1;omega
 omega
def Ss{p A E W bo b a:Nat}(h:W+E=A+p*bo)(hle:a<bo+b)(hb:bo+b<=a+4294967296):(W+p*(a+4294967296-(bo+b)))+(E+p*b)=(A+p*a)+p*4294967296*1:=by
 have h1:p*a+p*4294967296=p*(a+4294967296-(bo+b))+p*bo+p*b:=by
  rw[<-dK,<-dK,<-dK];congr 1;omega
 omega
def YK{p W W' T c m w:Nat}(hs:W'+p*w=W+p*((c+m+w)%4294967296))(h:W+p*c=T):W'+(p*4294967296)*((c+m+w)/4294967296)=T+p*m:=by
 have h1:=M8 p (c+m+w);rw[dK,dK] at h1;omega
end Go.Sx
end
section
namespace Go.Sx
open Go
section
variable {P:Program} {C:aC} {n:Nat} {fr:Fr} {own:List au} {G:Gh}
def Qj:Exit->Bool
 | .goto _=>false
 |_=>true
end
section
variable {P:Program} {ops:Array Oper} {Q:Exit->Act->World->Prop} {S:World->Prop} {fin:Nat->Bool} {k:Nat} {π₂:List (Nat×Bool)}
def MR(ops:Array Oper)(fin:Nat->Bool)(k:Nat)(π₂:List (Nat×Bool)):List (Nat×Bool)->Array Bool->Bool
 |[],listed=>(Region.ready .any ops listed==[k])&&ph ops fin π₂ (listed.setIfInBounds k true)
 |(i,true)::r,listed=>!(Nat.beq i k)&&wP ops fin listed i&&wP ops fin (listed.setIfInBounds k true) i&&MR ops fin k π₂ r (listed.setIfInBounds i true)
 |(i,false)::r,listed=>!(Nat.beq i k)&&(Region.ready .any ops listed).all (fun j=>Nat.beq j i||Nat.beq j k)&&(Region.ready .any ops listed).contains i&&(Region.ready .any ops (listed.setIfInBounds k true)==[i])&&MR ops fin k π₂ r (listed.setIfInBounds i true)
def DA(P:Program)(ops:Array Oper)(Q:Exit->Act->World->Prop)(S:World->Prop)(fin:Nat->Bool)(k:Nat)(π₂:List (Nat×Bool)):List (Nat×Bool)->Act->World->Prop
 |[],a,w=>wpOp P ops Q k (fun a' w'=>(fin k=true\/S w')/\gu P ops Q S fin π₂ a' w') a w
 |(i,true)::r,a,w=> ∃o v,ops[i]? =some o/\S w/\YieldsIf P ops S o v a/\DA P ops Q S fin k π₂ r (a.put o.dst v) w
 |(i,false)::r,a,w=>wpOp P ops Q i (fun a' w'=>(fin i=true\/S w')/\DA P ops Q S fin k π₂ r a' w') a w/\
   wpOp P ops Q k (fun a' w'=>(fin k=true\/S w')/\gu P ops Q S fin ((i,false)::r++π₂) a' w') a w
end
section
variable {P:Program} {C:aC} {n:Nat} {fr:Fr} {own own0:List au} {G G0:Gh} {ops:Array Oper} {Q:Exit->Act->World->Prop} {fin:Nat->Bool} {k:Nat} {π π₂:List (Nat×Bool)}
def fF(d:Nat):Option Nat->Fr
 |none=>[]
 |some b=>[(d, .pointer (some ⟨b,0,none⟩))]
def fO(t:TypeId)(z:Value):Option Nat->List au
 |none=>[]
 |some b=>[⟨b,aE z,t,true⟩]
def dwE(P:Program)(ops:Array Oper)(Q:Exit->Act->World->Prop)(S:World->Prop)(fin:Nat->Bool)(k:Nat)(π₂:List (Nat×Bool))(fl:Option Nat)(π:List (Nat×Bool)):Act->World->Prop:=
 match fl with
 |none=>DA P ops Q S fin k π₂ π
 |some _=>gu P ops Q S fin (π++π₂)
end
def relo(fl:Nat->Bool)(o:au):au:={o with lo:=fl o.b}
structure gE (P:Program) (f:FuncId) (vs:List Value) (M:List au) (G:Gh) (K:Value->List au->Gh->Prop):Prop where
 able:o5 P f
 run: ∀w,bF ⟨w,G,M.map (·.b),[],[],none,fun _=>none⟩ (asB M) G w->
  Calls P f ⟨vs⟩ w fun e w'=> ∃v own' G',e= .returned v/\bF ⟨w,G,M.map (·.b),[],[],none,fun _=>none⟩ own' G' w'/\K v own' G'
def ju(M:List au)(b:Nat):Bool:=M.all fun m=>!Nat.beq m.b b||m.lo
def bF.calledO{C:aC}{M rest own':List au}{G G':Gh}{w w':World}(h:bF C (M++rest) G w)(k:bF ⟨w,G,M.map (·.b),[],[],none,fun _=>none⟩ own' G' w'):
  bF C (own'.map (relo (ju M))++rest) G' w':=by
 have hsz:w.heap.size<=w'.heap.size:=k.size;have hnd:=h.nd;have inM: ∀b,b∈M.map (·.b)-> ∀o∈rest,o.b≠b:=fun b hb o ho e=>by
  obtain⟨m,hm,rfl⟩:=bX.1 hb;exact(iY.1 hnd).2.2 m hm o ho e.symm
 have bnd: ∀o∈own',o.b∉M.map (·.b)->w.heap.size<=o.b:=fun o ho hb=>by
  obtain⟨_,_,h3,h4⟩:=k.hown o ho
  cases hlo:o.lo with
  |true=>exact h3 hlo
  |false=>exact absurd (h4 hlo) hb
 refine⟨k.os.trans h.os,k.tape.trans h.tape,k.output.trans h.output,dJ h.size hsz,?_,k.sub,h.gle.trans k.gle,?_,?_,?_,dJ h.dr k.dr,fun p hp=>⟨(h.ext p hp).1,by rw[k.keep _ (gp (h.ext p hp).2) (h.extM hp)];exact(h.ext p hp).2⟩⟩
 .intro b hb hm
  have hs:=h.size;have hnM:b∉M.map (·.b):=fun hb'=>by
   obtain⟨m,hmM,rfl⟩:=bX.1 hb';obtain⟨_,_,h3,h4⟩:=h.hown m (cV _ hmM)
   cases hlo:m.lo with
   |true=>have:=h3 hlo;omega
   |false=>exact hm (h4 hlo)
  rw[k.keep b (by show b<w.heap.size;omega) hnM];exact h.keep b hb hm
 .intro b hb;have:=h.size;rw[k.gold b (by show b<w.heap.size;omega)];exact h.gold b hb
 .intro o ho
  have hs:=h.size;rcases bS.1 ho with ho|ho
  .obtain⟨o',ho',rfl⟩:=bX.1 ho
   obtain⟨k1,k2,k3,k4⟩:=k.hown _ ho';refine⟨k1,k2,fun hl=>?_,fun hl=>?_⟩
   .show C.w0.heap.size<=o'.b
    by_cases hb:o'.b∈M.map (·.b)
    .obtain⟨m,hm,hmb⟩:=bX.1 hb
     have hl':ju M o'.b=true:=hl;have:=dT.1 hl' m hm;simp only[hmb,iR,iX,pV] at this;obtain⟨_,_,h3,_⟩:=h.hown m (cV _ hm);rw[<-hmb];exact h3 (by rcases this with h|h;(cases h);(exact h))
    .have:=bnd o' ho' hb;omega
   .show o'.b∈C.mb
    have hl':ju M o'.b=false:=hl;obtain⟨m,hm,hmb⟩:=List.all_eq_false.1 hl';simp only[iR,iX,not_or] at hmb;obtain⟨h1,h2⟩:=hmb;have e:m.b=o'.b:=by
     cases hq:Nat.beq m.b o'.b with
     |true=>exact aS hq
     |false=>exact absurd hq h1
    obtain⟨_,_,_,h4⟩:=h.hown m (cV _ hm);rw[<-e];exact h4 (by cases hq:m.lo with
     |true=>exact absurd hq h2
     |false=>rfl)
  .obtain⟨h1,h2,h3⟩:=h.hown o (dX _ ho)
   have hnM:o.b∉M.map (·.b):=fun hb=>inM _ hb o ho J;exact⟨by rw[k.keep _ (gp h1) hnM];exact h1,by rw[k.gold _ (gp h1)];exact h2,h3⟩
 .refine iY.2 ⟨?_,(iY.1 hnd).2.1,?_⟩
  .rw[List.pairwise_map];exact k.nd
  .intro x hx y hy
   obtain⟨o',ho',rfl⟩:=bX.1 hx;show o'.b≠y.b;by_cases hb:o'.b∈M.map (·.b)
   .exact fun e=>inM _ hb y hy e.symm
   .have h1:=bnd o' ho' hb
    have h2:=gp (h.hown y (dX _ hy)).1;omega
def qr(C:aC)(K:Value->List au->Gh->Prop):Ending->World->Prop:=fun e w'=> ∃v own' G',e= .returned v/\bF C own' G' w'/\K v own' G'
def gE.introR{P:Program}{G:Gh}{f:FuncId}{fn:Func}{c:Code}{vs:List Value}{m:Nat}{M:List au}{K:Value->List au->Gh->Prop}(hf:P.funcs[f]? =some fn)(hb:fn.body=some c)(hn:(fn.name== "runtime.NumGoroutine")=false)(hm:fn.ntmps=m)(hlen:Nat.ble vs.length m=true)
  (h: ∀C:aC,C.G0=G->C.mb=M.map (·.b)->C.rd=none->(C.fx=fun _=>none)->St C m (lA 0 vs) (asB M) G (c.wp P (eH C P fn (qr C K)))):gE P f vs M G K:=by
 refine⟨⟨fn,hf,hn,by simp[hb]⟩,fun w hw=>?_⟩;have hlen':vs.length<=m:=by simpa using hlen
 have:=calls_of_wp (P:=P) (f:=f) (args:=⟨vs⟩) (w:=w) (R:=qr ⟨w,G,M.map (·.b),[],[],none,fun _=>none⟩ K) hf hb (wp_mono (h ⟨w,G,M.map (·.b),[],[],none,fun _=>none⟩ J J J J _ w
  ⟨hw,by simp;omega,fun k v hk=>by
   obtain⟨j,rfl,hj⟩:=qE vs 0 k v hk;have hj':=(aT.1 hj).1;rw[iS (by simpa using hj')];simpa using hj,J⟩) fun _ _ _ k=>k J)
 exact this
def gE.intro{P:Program}{G:Gh}{f:FuncId}{fn:Func}{c:Code}{vs:List Value}{m:Nat}{M:List au}{K:Value->List au->Gh->Prop}(hf:P.funcs[f]? =some fn)(hb:fn.body=some c)(hn:(fn.name== "runtime.NumGoroutine")=false)(hm:fn.ntmps=m)(hlen:Nat.ble vs.length m=true)
  (h: ∀C:aC,C.G0=G->C.mb=M.map (·.b)->St C m (lA 0 vs) (asB M) G (c.wp P (eH C P fn (qr C K)))):gE P f vs M G K:=
 gE.introR hf hb hn hm hlen fun C a b _ _=>h C a b
section
variable {P:Program} {C:aC} {n:Nat} {fr:Fr} {own own':List au} {G:Gh} {Φ:Act->World->Prop}
variable {dst:Option Nat} {t t' ty':TypeId} {pos:String} {af:Array Edge} {gd:Option (Nat×Bool)} {x y:Operand}
def xY{fn:Func}{K:Value->List au->Gh->Prop}{vs:List Value}(hr:jr P fr own fn.results.toList vs)(own2 own3:List au)(hp:own.Perm own2)(hs:own3.Sublist own2)(hk:K (kH vs) own3 G):St C n fr own G (eH C P fn (qr C K) .ret):=
 fun a w rl hmk=>⟨rl.df.trans hmk,_,qx hr rl.fr rl.h,_,own3,G,J,(rl.h.perm hp).drop hs,hk⟩
def QX{f:FuncId}{fo:Operand}{args:Array Operand}{tys:Array TypeId}{vs c1 c2:List Value}{M rest:List au}{K:Value->List au->Gh->Prop}(ho:aD fr fo=some (.func (.func f) ⟨c1⟩ ⟨c2⟩))(hv:f5 fr args.toList=some vs)
  (hp:own.Perm (M++rest))(hF:gE P f (c1++vs++c2) M G K)(hd:cg n dst=true)(h: ∀v own1 (G':Gh),[GE G G']->K v own1 G'->St C n (put fr dst v) (own1.map (relo (ju M))++rest) G' Φ):
  Ch P C n fr own G ⟨dst, .call ⟨.value fo,args,tys⟩,ty',pos,af,gd⟩ Φ:=by
 intro a w Q rl;have h2:=CA (P:=P) (dst:=dst) (ty':=ty') (pos:=pos) (af:=af) (gd:=gd) (tys:=tys) (w:=w) hF.able rl.fr ho hv;simp only[Oper.wp,h2,Oper.upon];have hh0:=rl.h.perm hp;refine(hF.run w hh0.lend).mono ?_;rintro e w' ⟨v,own1,G',rfl,hh,hK⟩;exact @h v own1 G' ⟨hh.gle⟩ hK _ _ ((rl.heap (hh0.calledO hh)).put _ hd)
def AV{f:FuncId}{fo:Operand}{args:Array Operand}{tys:Array TypeId}{vs:List Value}{M rest:List au}{K:Value->List au->Gh->Prop}(ho:aD fr fo=some (.func (.func f) #[] #[]))(hv:f5 fr args.toList=some vs)
  (hp:own.Perm (M++rest))(hF:gE P f vs M G K)(hd:cg n dst=true)(h: ∀v own1 (G':Gh),[GE G G']->K v own1 G'->St C n (put fr dst v) (own1.map (relo (ju M))++rest) G' Φ):
  Ch P C n fr own G ⟨dst, .call ⟨.value fo,args,tys⟩,ty',pos,af,gd⟩ Φ:=
 QX (c1:=[]) (c2:=[]) ho hv hp (by simpa using hF) hd h
def Sy{b:Nat}{cs:List Value}{ty:TypeId}{lo:Bool}(hC:C.mb=[])(h:St C n fr (⟨b,cs,ty,true⟩::own) G Φ):St C n fr (⟨b,cs,ty,lo⟩::own) G Φ:=by
 intro a w rl
 cases lo with
 |true=>exact h a w rl
 |false=>
  have:=(rl.h.hown _ aQ).2.2.2 J;rw[hC] at this;cases this
end
structure SV where
 a:Option Addr
 n:Nat
 c:Nat
def SV.v(x:SV):Value:= .slice x.a x.n x.c
structure eB (G:Gh) (s:Nat) (x:SV) (es:List Value):Prop where
 len:x.n=es.length
 cap:x.n<=x.c
 mem:es=[]\/ ∃b off cs,x.a=some ⟨b,off,none⟩/\G b=some cs/\ ∀i (h:i<es.length),cA cs (off+i*s) s=some (aE es[i])
def eB.up'{A G:Gh}{s:Nat}{x:SV}{es:List Value}(h:eB A s x es)(k:bD A G):eB G s x es:=
 ⟨h.len,h.cap,h.mem.imp id (fun⟨b,off,cs,h1,h2,h3⟩=>⟨b,off,cs,h1,k _ _ h2,h3⟩)⟩
def eB.up{A G:Gh}{s:Nat}{x:SV}{es:List Value}(h:eB A s x es)[k:GL A G]:eB G s x es:=h.up' k.le
def eB.nil(G:Gh)(s:Nat):eB G s ⟨none,0,0⟩ []:=⟨J,bQ _, .inl J⟩
def aLu(a:Option Addr)(k:Nat):Option Addr:=a.map (·.add k)
section
variable {P:Program} {C:aC} {n:Nat} {fr:Fr} {own own':List au} {G:Gh} {Φ:Act->World->Prop}
variable {dst:Option Nat} {t t' ty':TypeId} {pos:String} {af:Array Edge} {gd:Option (Nat×Bool)} {x y:Operand} {e s by_:Nat}
end
def dI(d:Nat):Value:= .int .u32 (d:Int)
structure l5 (G:Gh) (x:SV) (ds:List Nat):Prop where
 ok:bt ds
 sl:eB G 1 x (ds.map dI)
def l5.len{G:Gh}{x:SV}{ds:List Nat}(h:l5 G x ds):x.n=ds.length:=by simpa using h.sl.len
def l5.up{A G:Gh}{x:SV}{ds:List Nat}(h:l5 A x ds)[k:GL A G]:l5 G x ds:=⟨h.ok,h.sl.up⟩
def l5.nil(G:Gh):l5 G ⟨none,0,0⟩ []:=⟨.nil, .nil G 1⟩
def l5.of_block{G:Gh}{b c k:Nat}{cs:List Value}{ds:List Nat}(ok:bt ds)(hg:G b=some cs)(hk:k=ds.length)(hc:k<=c)(hcs:cs.take ds.length=ds.map dI):l5 G ⟨some ⟨b,0,none⟩,k,c⟩ ds:=by
 refine⟨ok,by simpa using hk,hc, .inr ⟨b,0,cs,J,hg,fun i hi=>?_⟩⟩;have hi':i<ds.length:=by simpa using hi
 have hl:ds.length<=cs.length:=by
  have:=congrArg List.length hcs;simp at this;omega
 rw[jC _ _ _ (by omega)];congr 1;have h1:(cs.take ds.length)[i]? =(ds.map dI)[i]? :=by rw[hcs]
 rw[qU,if_pos hi',fY,aZ hi',aZ (by omega)] at h1;have h2:cs[i]=dI ds[i]:=by simpa using h1
 rw[dL,lM,cW (by omega),nV,List.take_zero,h2,nT];rfl
structure vT (k:Nat) (G:Gh) (x:SV) (v:Nat):Prop where
 d:l5 G x (dg v)
 lt:v<2^k
def vT.up{k:Nat}{A G:Gh}{x:SV}{v:Nat}(h:vT k A x v)[GL A G]:vT k G x v:=⟨h.d.up,h.lt⟩
section
variable {P:Program} {C:aC} {n:Nat} {fr:Fr} {own own':List au} {G:Gh} {Φ:Act->World->Prop}
variable {dst:Option Nat} {t t' ty':TypeId} {pos:String} {af:Array Edge} {gd:Option (Nat×Bool)} {x y:Operand} {e s by_:Nat}
def YB{A:Gh}{z:SV}{ds:List Nat}(h:l5 A z ds)[hl:GL A G]:kC P C own G 1 z.n (.slice z.a z.n z.c) (ds.map dI):=by
 intro w hw;by_cases hne:ds=[]
 .rw[h.len]
  subst hne;exact tO w hw
 rcases h.sl.mem with h0|⟨b,off,cs,ha,hg,hc⟩
 .exact absurd (by simpa using h0) hne
 .rw[ha]
  have hn:=h.len;refine Lm (hl.le _ _ hg) ?_ w hw;rw[lM];have hel: ∀i,i<ds.length->cs[off+i]? =some (dI (ds.getD i 0)):=fun i hi=>by
   have h1:=hc i (by simpa using hi);obtain⟨_,h2⟩:=qh _ _ _ _ h1;have h3:=h2 0 (by omega);rw[lM,gV] at h3;rw[h3,nT,aK,aZ hi];rfl
  by_cases h00:ds.length=0
  .exact absurd h00 (fun e=>hne (bL e))
  .have hlast:=hel (ds.length-1) (by omega)
   have hle:off+ds.length<=cs.length:=by
    have:=(aT.1 hlast).1;omega
   rw[hn,jC _ _ _ hle];congr 1;apply oM;intro i;rw[qU];split
   .rename_i hi
    rw[lQ,hel i hi,fY,aK,aZ hi];rfl
   .rename_i hi
    rw[fM (by simpa using hi)]
def M9[hT:cB P t e s by_]{k:IntKind}{b len cap:Nat}{i:Int}(hx:aD fr x=some (.slice (some ⟨b,0,none⟩) len cap))(hy:aD fr y=some (.int k i))(h0:0<=i)(h1:i<len):
  Yd P C fr own G ⟨dst, .indexAddr t x y,ty',pos,af,gd⟩ (.pointer (some ⟨b,i.toNat*s,none⟩)):=by
 have:=Gk (P:=P) (C:=C) (own:=own) (G:=G) (t:=t) (dst:=dst) (ty':=ty') (pos:=pos) (af:=af) (gd:=gd) (by_:=by_) hx hy h0 h1;rwa [dL] at this
def C8{p q:Int}(hx:aD fr x=some (.int .i64 p))(hy:aD fr y=some (.int .i64 q))(h0: -9223372036854775808<=p+q:=by omega)(h1:p+q<=9223372036854775807:=by omega):Yd P C fr own G ⟨dst, .binOp .add t x y t',ty',pos,af,gd⟩ (.int .i64 (p+q)):=LR hx hy ⟨h0,h1⟩
def aCb{k k':IntKind}{p q:Int}(hx:aD fr x=some (.int k p))(hy:aD fr y=some (.int k' q))(h0:0<=q):Yd P C fr own G ⟨dst, .binOp .shr t x y t',ty',pos,af,gd⟩ (.int k (p.fdiv (2^min q.toNat k.bits))):=by
 intro a w hf hh;simp only[execOp,bz hf hx,bz hf hy];have h1:(eqGuard .shr t x y (.int k p) (.int k' q)).run P w= .ok () w:=J;have h2:(binOp .shr t (.int k p) (.int k' q)).run P w= .ok (.int k (p.fdiv (2^min q.toNat k.bits))) w:=by
  simp[binOp,Op.shift,Int.not_lt.2 h0,run_pure]
 exact cI (by rw[bh h1];exact h2)
def aCq{k k':IntKind}{p q:Int}(hx:aD fr x=some (.int k p))(hy:aD fr y=some (.int k' q))(h0:0<=q):Yd P C fr own G ⟨dst, .binOp .shl t x y t',ty',pos,af,gd⟩ (.int k (k.wrap (p*2^min q.toNat k.bits))):=by
 intro a w hf hh;simp only[execOp,bz hf hx,bz hf hy];have h1:(eqGuard .shl t x y (.int k p) (.int k' q)).run P w= .ok () w:=J;have h2:(binOp .shl t (.int k p) (.int k' q)).run P w= .ok (.int k (k.wrap (p*2^min q.toNat k.bits))) w:=by
  simp[binOp,Op.shift,Int.not_lt.2 h0,run_pure]
 exact cI (by rw[bh h1];exact h2)
def ry(p:Int):IntKind.u32.wrap p=p%4294967296:=by simp[IntKind.wrap,IntKind.bits,IntKind.signed]
def pG(p:Int):IntKind.u64.wrap p=p%18446744073709551616:=by simp[IntKind.wrap,IntKind.bits,IntKind.signed]
def WX{k:IntKind}{p:Int}[hs:pg P t k][hd:pg P t' .u32](hx:aD fr x=some (.int k p)):Yd P C fr own G ⟨dst, .convert t t' x,ty',pos,af,gd⟩ (.int .u32 (p%4294967296)):=by
 have:=A1 (P:=P) (C:=C) (own:=own) (G:=G) (dst:=dst) (ty':=ty') (pos:=pos) (af:=af) (gd:=gd) (t:=t) (t':=t') hx;rwa [ry] at this
def UJ{k:IntKind}{p q:Int}(hx:aD fr x=some (.int k p))(hy:aD fr y=some (.int k q))(h0:0<=p)(h:q≠0):Yd P C fr own G ⟨dst, .binOp .rem t x y t',ty',pos,af,gd⟩ (.int k (p%q)):=by
 have:=Eb (P:=P) (C:=C) (own:=own) (G:=G) (dst:=dst) (ty':=ty') (pos:=pos) (af:=af) (gd:=gd) (t:=t) (t':=t') hx hy h;rwa [Int.tmod_eq_emod_of_nonneg h0] at this
def Y3{p q:Int}(hx:aD fr x=some (.int .u64 p))(hy:aD fr y=some (.int .u64 q))(h0:0<=p)(h1:p<=18446744073709551615)(h:0<q):Yd P C fr own G ⟨dst, .binOp .quo t x y t',ty',pos,af,gd⟩ (.int .u64 (p/q)):=by
 have:=Jn (P:=P) (C:=C) (own:=own) (G:=G) (dst:=dst) (ty':=ty') (pos:=pos) (af:=af) (gd:=gd) (t:=t) (t':=t') hx hy (by omega);rw[Int.tdiv_eq_ediv_of_nonneg h0,pG,Int.emod_eq_of_lt (Int.ediv_nonneg h0 (by omega)) (by have:=Int.ediv_le_self q h0;omega)] at this;exact this
end
section
variable {P:Program} {C:aC} {n:Nat} {fr:Fr} {own own' own1:List au} {G:Gh} {Φ:Act->World->Prop}
variable {dst:Option Nat} {t t' ty':TypeId} {pos:String} {af:Array Edge} {gd:Option (Nat×Bool)} {x y:Operand} {e s by_:Nat}
def auN{v:Value}{b off k:Nat}{cs cs':List Value}{ty:TypeId}{lo:Bool}(hx:aD fr x=some (.pointer (some ⟨b,off,none⟩)))(hy:aD fr y=some v)[hs:mz P t k][ho:gz own b cs ty lo]
  (hc:cp cs off (aE v)=cs')(hu:iA own b cs ty lo cs' own')(hk:(aE v).length=k)(hl:off+k<=cs.length)(hf:(aE v).all flat=true)(hd:cg n dst=true)(h:St C n (put fr dst undef) own' G Φ):
  Ch P C n fr own G ⟨dst, .store t x y,ty',pos,af,gd⟩ Φ:=Dk hx hy (hc▸hu) hk hl hf hd h
def E4{v:Value}{b off:Nat}{cs cs':List Value}{ty:TypeId}{lo:Bool}(hx:aD fr x=some (.pointer (some ⟨b,off,none⟩)))(hy:aD fr y=some v)[hs:i9 P t][ho:gz own b cs ty lo]
  (hc:cs.set off v=cs')(hu:iA own b cs ty lo cs' own')(hl:off<cs.length)(hf:flat v=true)(hd:cg n dst=true)(h:St C n (put fr dst undef) own' G Φ):
  Ch P C n fr own G ⟨dst, .store t x y,ty',pos,af,gd⟩ Φ:=wW hx hy (hc▸hu) hl hf hd h
def aDM[hT:cB P t e s by_]{ad:Option Addr}{len cap:Nat}(hx:aD fr x=some (.slice ad len cap)):
  Yd P C fr own G ⟨dst, .call ⟨.builtin .cap, #[x], #[t]⟩,ty',pos,af,gd⟩ (.int .i64 cap):=by
 intro a w hf hh;simp only[execOp,resolve,iQ,bJ,dS,bz hf hx];have h1:(Builtin.cap_ #[t] ty' #[.slice ad len cap]).run P w= .ok (.int .i64 cap) w:=by
  simp only[Builtin.cap_];show(underlying t>>=_).run P w=_;rw[bh (hT.u w)];rfl
 exact cI h1
def Rs{w:World}[hT:cB P t e s by_]{b off l c l2 c2 m:Nat}{ad2:Option Addr}{cs ys:List Value}{ty:TypeId}(hm:Nat.min l2 l=m)
  (hb:w.heap[b]? =some (.cells ⟨cs⟩ ty (0,0)))(hsy:(Builtin.firstCells s m (.slice ad2 l2 c2)).run P w= .ok ⟨ys⟩ w)(hf: ∀v∈ys,flat v=true)(hl:off+ys.length<=cs.length):
  (Builtin.copy_ #[t,t'] ty' #[.slice (some ⟨b,off,none⟩) l c, .slice ad2 l2 c2]).run P w=
   .ok (.int .i64 m) (f6 w b (.cells ⟨cp cs off ys⟩ ty (0,0))):=by
 obtain⟨i,hi,his,hib⟩:=hT.info;subst his;have hst:=yH (P:=P) ys w off 0 cs hf hb (by omega);rw[gV] at hst;subst hm;simp[Builtin.copy_,run_underlying hT.un,sizeOf,typeInfo,hi,Builtin.lenOf,hsy,hst];rfl
def OF[hT:cB P t e s by_]{b off l c l2 c2 m:Nat}{ad2:Option Addr}{cs ys:List Value}{ty:TypeId}{lo:Bool}(hx:aD fr x=some (.slice (some ⟨b,off,none⟩) l c))(hy:aD fr y=some (.slice ad2 l2 c2))
  (hm:Nat.min l2 l=m)(hsy:kC P C own G s m (.slice ad2 l2 c2) ys)(hf: ∀v∈ys,flat v=true)(hl:off+ys.length<=cs.length)(hu:iA own b cs ty lo (cp cs off ys) own')(hd:cg n dst=true)
  (h:St C n (put fr dst (.int .i64 m)) own' G Φ):Ch P C n fr own G ⟨dst, .call ⟨.builtin .copy, #[x,y], #[t,t']⟩,ty',pos,af,gd⟩ Φ:=by
 intro a w Q rl;have hb:=(rl.h.hown _ (hu.spec rl.h.nd).1).1;refine jv (v:= .int .i64 m) (w':=f6 w b (.cells ⟨cp cs off ys⟩ ty (0,0))) ?_ (h _ _ ((rl.heap (rl.h.store hu)).put _ hd));simp only[execOp,resolve,iQ,bJ,dS,bz rl.fr hx,bz rl.fr hy];exact cI (Rs hm hb (hsy w rl.h) hf hl)
def NA[hT:cB P t e s by_][hN:jP P t']{b len cap m cap2:Nat}{ad2:Option Addr}{cs ys:List Value}{lo:Bool}
  (hx:aD fr x=some (.slice (some ⟨b,0,none⟩) len cap))(hy:aD fr y=some (.slice ad2 m cap2))(hu:iA own b cs e lo (cp cs (len*s) ys) own')(hcs:cs.length=cap*s)
  (hsy:kC P C own G s m (.slice ad2 m cap2) ys)(hys:ys.length=m*s)(hf: ∀v∈ys,flat v=true)(hneed:len+m<=cap)(hd:cg n dst=true)
  (h:St C n (put fr dst (.slice (some ⟨b,0,none⟩) (len+m) cap)) own' G Φ):
  Ch P C n fr own G ⟨dst, .call ⟨.builtin .append, #[x,y], #[t,t']⟩,ty',pos,af,gd⟩ Φ:=by
 intro a w Q rl;have hb:=(rl.h.hown _ (hu.spec rl.h.nd).1).1;refine jv (v:= .slice (some ⟨b,0,none⟩) (len+m) cap) (w':=f6 w b (.cells ⟨cp cs (len*s) ys⟩ e (0,0))) ?_ (h _ _ ((rl.heap (rl.h.store hu)).put _ hd));simp only[execOp,resolve,iQ,bJ,dS,bz rl.fr hx,bz rl.fr hy];exact cI (D8 hb hcs (hsy w rl.h) hys hf hneed)
def TN[hT:cB P t e s by_][hN:jP P t']{z:Value}[hz:gk P e z]{b len cap m cap2:Nat}{ad2:Option Addr}{xs ys rest:List Value}{lo:Bool}
  (hx:aD fr x=some (.slice (some ⟨b,0,none⟩) len cap))(hy:aD fr y=some (.slice ad2 m cap2))(hr:i4 own ⟨b,xs++rest,e,lo⟩ own1)(hxs:xs.length=len*s)(hcap:xs.length+rest.length=cap*s)(hlc:len<=cap)
  (hsy:kC P C own G s m (.slice ad2 m cap2) ys)(hys:ys.length=m*s)(hf: ∀v∈ys,flat v=true)
  (hby:0<by_)(hb:(len+m)*by_<=140737488355328)(hzs:(aE z).length=s)(hd:cg n dst=true)
  (h: ∀b lo' cap' rest',len+m<=cap'->rest'.length+(len+m)*s=cap'*s->St C n (put fr dst (.slice (some ⟨b,0,none⟩) (len+m) cap')) (⟨b,xs++ys++rest',e,lo'⟩::own1) G Φ):
  Ch P C n fr own G ⟨dst, .call ⟨.builtin .append, #[x,y], #[t,t']⟩,ty',pos,af,gd⟩ Φ:=by
 intro a w Q rl;have hp:=rl.h.perm hr.perm;have hblk:=(hp.hown _ aQ).1;simp only[] at hblk;by_cases hneed:len+m<=cap
 .have hcs:(xs++rest).length=cap*s:=by simp;omega
  have hrun:=D8 (P:=P) (t:=t) (t':=t') (ty':=ty') (w:=w) (len:=len) hblk hcs (hsy w rl.h) hys hf hneed;have hle:len*s+m*s<=cap*s:=by rw[<-dZ];exact bV _ hneed
  have hov:cp (xs++rest) (len*s) ys=xs++ys++rest.drop (m*s):=by
   rw[oF _ _ _ (by rw[hys];omega),<-hxs];simp[hys,lN]
  refine jv (v:= .slice (some ⟨b,0,none⟩) (len+m) cap) (w':=f6 w b (.cells ⟨cp (xs++rest) (len*s) ys⟩ e (0,0))) ?_ ?_
  .simp only[execOp,resolve,iQ,bJ,dS,bz rl.fr hx,bz rl.fr hy]
   exact cI hrun
  .rw[hov]
   refine h b lo cap (rest.drop (m*s)) hneed ?_ _ _ ((rl.heap (hp.store (.hd ..))).put _ hd);rw[fN,dZ];omega
 .have hx':kC P C own G s len (.slice (some ⟨b,0,none⟩) len cap) xs:=fun w' hw'=>by
   have hb':=(((hw'.perm hr.perm).hown _ aQ).1);refine Bd hb' ?_;rw[jC _ _ _ (by simp;omega),<-hxs];simp
  have hcap':len+m<=grownCap w (len+m) cap e:=by unfold grownCap;simp only[Question.cut];omega
  have hrun:=Eg (P:=P) (t:=t) (t':=t') (ty':=ty') (w:=w) (w':=w) (hx' _ rl.h.drew) (hsy _ rl.h.drew) (by omega) hby hb;refine jv (v:= .slice (some ⟨w.heap.size,0,none⟩) (len+m) (grownCap w (len+m) cap e)) (w':=w.drew.alloc (.cells ⟨xs++ys++dG z (grownCap w (len+m) cap e-(len+m))⟩ e)) ?_ ?_
  .simp only[execOp,resolve,iQ,bJ,dS,bz rl.fr hx,bz rl.fr hy]
   exact cI hrun
  .refine h w.heap.size _ _ _ hcap' ?_ _ _ ((rl.heap (((hp.drew).drop (rQ _ _)).alloc _ _)).put _ hd)
   rw[pd,hzs,<-dZ];congr 1;omega
def V7{f:FuncId}{fn:Func}{tS tR:TypeId}(hf:P.funcs[f]? =some fn)(hname:(fn.name== "runtime.NumGoroutine")=false)(hb:fn.body.isNone=true)(hn:Extern.findNext fn=none)
  (he:Extern.find fn=some (Extern.SlicesOverlaps.overlaps #[tS,tS] #[tR]))[hT:cB P tS e s by_]{args:Array Operand}{tys:Array TypeId}{fo:Operand}
  {b1 b2 o1 o2 l1 l2 c1 c2:Nat}{cs1 cs2:List Value}{t1 t2:TypeId}{lo1 lo2:Bool}(ho:aD fr fo=some (.func (.func f) #[] #[]))
  (hv:f5 fr args.toList=some [.slice (some ⟨b1,o1,none⟩) l1 c1, .slice (some ⟨b2,o2,none⟩) l2 c2])[h1:gz own b1 cs1 t1 lo1][h2:gz own b2 cs2 t2 lo2](hne:b1≠b2)(hc2:cs2≠[]):
  Yd P C fr own G ⟨dst, .call ⟨.value fo,args,tys⟩,ty',pos,af,gd⟩ (.bool false):=by
 intro a w hfr hh;have e1:=(hh.hown _ h1.mem).1;have e2:=(hh.hown _ h2.mem).1;have ev:args.map a.eval=⟨[.slice (some ⟨b1,o1,none⟩) l1 c1, .slice (some ⟨b2,o2,none⟩) l2 c2]⟩:=by apply Array.ext';simpa using y8 hfr hv
 simp only[] at e1 e2;have hrun:=Lib.run_overlaps_apart (P:=P) w tS tR e hT.un s hT.siz ⟨b1,o1,none⟩ ⟨b2,o2,none⟩ l1 c1 l2 c2 hne t1 t2 cs1.length cs2.length
  (by simp[World.shape?,e1]) (by simp[World.shape?,e2]) (by simpa using hc2) (by simp[World.frozen?,e1]) (by simp[World.frozen?,e1])
 simp only[execOp,resolve,bz hfr ho,ev,Deferred.ofValue];show(invoke (.fn (.func f) #[]) _).run P w=_;simp only[invoke];have h3:=run_callFunc_extern (P:=P) hf hname hb hn he;rw[h3];simp[hrun,Result.andThen]
end
instance kl.cons2 (l m:List au) (o:au) [h:kl l m]:kl (o::l) (o::m):=⟨h.s.cons_cons o⟩
def dr0{P:Program}{C:aC}{n:Nat}{fr:Fr}{own own0:List au}{G:Gh}{ops:Array Oper}{Q:Exit->Act->World->Prop}{b:Nat}{cs:List Value}{ty:TypeId}{lo:Bool}(fin:Nat->Bool)(π:List (Nat×Bool)){id:Nat}(hm:P.follows .mixedOrders=true)(_hr:i4 own ⟨b,cs,ty,lo⟩ own0)(ho:(ph ops fin π (Array.replicate ops.size false)&&Nat.ble π.length ops.size)=true)
  (h:St C n fr own G (gu P ops (gi Q) (HS C own0 G) fin π)):St C n fr own G ((Code.region id ops true).wp P Q):=by
 simp only[aM] at ho;intro a w rl;exact wp_mono (wp_region_any hm (Df _ _ _ _ (yQ (fun _ _ _ _ _ h=>h) π _ a _ ho.1 (h a _ (rl.heap rl.h.drew)) _ (by simpa using ho.2)))) gi.imp
def aG(vs:List Value):List Value:=(vs.map aE).flatten
def ez{s:Nat}: ∀(vs:List Value),(∀v∈vs,(aE v).length=s)->(aG vs).length=vs.length*s
 |[],_=>by simp[aG]
 |v::vs,h=>by
  have h1:=ez vs (fun u hu=>h u (aJ _ hu));have h2:=h v aQ;unfold aG at*;simp only[bJ,qM,aL,bY,h1,h2,fL];omega
def oc(us vs:List Value):aG (us++vs)=aG us++aG vs:=by simp[aG]
def ug(v:Value):aG [v]=aE v:=by simp[aG]
def Gp{s:Nat}: ∀(vs:List Value) (i:Nat),(∀v∈vs,(aE v).length=s)->i<=vs.length->(aG vs).take (i*s)=aG (vs.take i)
 |vs,0,_,_=>by simp[aG]
 |[],i+1,_,h=>by simp at h
 |v::vs,i+1,h,hi=>by
  have h1:=Gp vs i (fun u hu=>h u (aJ _ hu)) (by simpa using hi);have h2:=h v aQ;unfold aG at*;simp only[bJ,qM,nV];rw[List.take_append,h2,cR (by rw[h2,fL];omega),fL,mJ,h1]
def Cq{s:Nat}: ∀(vs:List Value) (i:Nat),(∀v∈vs,(aE v).length=s)->i<=vs.length->(aG vs).drop (i*s)=aG (vs.drop i)
 |vs,0,_,_=>by simp
 |[],i+1,_,h=>by simp at h
 |v::vs,i+1,h,hi=>by
  have h1:=Cq vs i (fun u hu=>h u (aJ _ hu)) (by simpa using hi);have h2:=h v aQ;unfold aG at*;simp only[bJ,qM,sT];rw[lN,h2,kJ (by rw[h2,fL];omega),fL,mJ,h1,cZ]
def GF{s:Nat}{vs rest:List Value}(h: ∀v∈vs,(aE v).length=s){i:Nat}(hi:i<vs.length):cA (aG vs++rest) (i*s) s=some (aE vs[i]):=by
 have hl:=ez vs h;have hle:i*s+s<=vs.length*s:=by rw[<-fL];exact bV _ hi
 rw[jC _ _ _ (by simp only[aL];omega)];congr 1;rw[jM (by omega),Cq vs i h (by omega),cW hi];have h2:=h vs[i] (iZ hi);rw[show(vs[i]::vs.drop (i+1))=[vs[i]]++vs.drop (i+1) from J,oc,ug,cN,fV (by omega),cR (by omega)]
def eB.of_flat{G:Gh}{b c s:Nat}{vs rest:List Value}(h: ∀v∈vs,(aE v).length=s)(hg:G b=some (aG vs++rest))(hc:vs.length<=c):eB G s ⟨some ⟨b,0,none⟩,vs.length,c⟩ vs:=
 ⟨J,hc, .inr ⟨b,0,_,J,hg,fun i hi=>by rw[dL];exact GF h hi⟩⟩
section
variable {P:Program} {C:aC} {n:Nat} {fr:Fr} {own own':List au} {G:Gh} {Φ:Act->World->Prop}
variable {dst:Option Nat} {ty':TypeId} {pos:String} {af:Array Edge} {gd:Option (Nat×Bool)} {x y:Operand} {tys:Array TypeId}
def Ab{ops:Array Oper}{Q:Exit->Act->World->Prop}(own0:List au)(fin:Nat->Bool)(π:List (Nat×Bool)){id:Nat}(hm:P.follows .mixedOrders=true)(ho:(ph ops fin π (Array.replicate ops.size false)&&Nat.ble π.length ops.size)=true)
  (h:St C n fr own G (gu P ops (gi Q) (HS C own0 G) fin π)):St C n fr own G ((Code.region id ops true).wp P Q):=by
 simp only[aM] at ho;intro a w rl;exact wp_mono (wp_region_any hm (Df _ _ _ _ (yQ (fun _ _ _ _ _ h=>h) π _ a _ ho.1 (h a _ (rl.heap rl.h.drew)) _ (by simpa using ho.2)))) gi.imp
end
section
variable {P:Program} {ops:Array Oper} {Q:Exit->Act->World->Prop} {S:World->Prop} {fin:Nat->Bool} {π₂:List (Nat×Bool)}
def kj(l:List Nat)(k:Nat):List Nat:=l.filter fun j=>!Nat.beq j k
def DC{l:List Nat}{k:Nat}(h:k∈l):(kj l k).length<l.length:=by
 unfold kj;rw[pQ];exact⟨k,h,by simp⟩
def yD(ops:Array Oper)(fin:Nat->Bool)(π₂:List (Nat×Bool)):Nat->List Nat->List (Nat×Bool)->Array Bool->Bool
 |0,_,_,_=>false
 |_+1,[],[],listed=>ph ops fin π₂ listed
 |n+1,k::ks,[],listed=>!(Region.ready .any ops listed).isEmpty&&(Region.ready .any ops listed).all (fun j=>(k::ks).contains j)&&(k::ks).all fun j=>yD ops fin π₂ n (kj (k::ks) j) [] (listed.setIfInBounds j true)
 |n+1,ks,(i,true)::r,listed=>wP ops fin listed i&&yD ops fin π₂ n ks r (listed.setIfInBounds i true)
 |n+1,ks,(i,false)::r,listed=>!(Region.ready .any ops listed).isEmpty&&(Region.ready .any ops listed).all (fun j=>Nat.beq j i||ks.contains j)&&yD ops fin π₂ n ks r (listed.setIfInBounds i true)&&ks.all fun j=>yD ops fin π₂ n (kj ks j) ((i,false)::r) (listed.setIfInBounds j true)
def xC(P:Program)(ops:Array Oper)(Q:Exit->Act->World->Prop)(S:World->Prop)(fin:Nat->Bool)(π₂:List (Nat×Bool)):List Nat->List (Nat×Bool)->Act->World->Prop
 |[],[],a,w=>gu P ops Q S fin π₂ a w
 |k::ks,[],a,w=> ∀j,(h:j∈k::ks)->wpOp P ops Q j (fun a' w'=>(fin j=true\/S w')/\xC P ops Q S fin π₂ (kj (k::ks) j) [] a' w') a w
 |ks,(i,true)::r,a,w=> ∃o v,ops[i]? =some o/\S w/\YieldsIf P ops S o v a/\xC P ops Q S fin π₂ ks r (a.put o.dst v) w
 |ks,(i,false)::r,a,w=>wpOp P ops Q i (fun a' w'=>(fin i=true\/S w')/\xC P ops Q S fin π₂ ks r a' w') a w/\
   ∀j,(h:j∈ks)->wpOp P ops Q j (fun a' w'=>(fin j=true\/S w')/\xC P ops Q S fin π₂ (kj ks j) ((i,false)::r) a' w') a w
termination_by ks π=>ks.length+π.length
decreasing_by
 all_goals (first|(have:=DC h;simp only[bY,kS] at*;omega)|(simp only[bY];omega))
end
structure FD where
 k:Nat
 d:Nat
 t:TypeId
 z:Value
abbrev Fs:=Nat->Option Nat
def DI:List FD->Fs->Fr
 |[],_=>[]
 |f::r,fs=>fF f.d (fs f.k)++DI r fs
def DJ:List FD->Fs->List au
 |[],_=>[]
 |f::r,fs=>fO f.t f.z (fs f.k)++DJ r fs
def DX(fd:List FD)(fs:Fs):List Nat:=(fd.filter fun f=>(fs f.k).isNone).map (·.k)
def aKX(fs:Fs)(k b:Nat):Fs:=fun j=>if j=k then some b else fs j
structure aK9 (P:Program) (ops:Array Oper) (n:Nat) (fd:List FD):Prop where
 op: ∀f∈fd,∃ty' pos af,ops[f.k]? =some ⟨some f.d, .alloc f.t,ty',pos,af,none⟩/\cg n (some f.d)=true
 z: ∀f∈fd,gk P f.t f.z
 nd:(fd.map (·.k)).Nodup
 dd: ∀f∈fd,∀g∈fd,f.d=g.d->f.k=g.k
section
variable {P:Program} {C:aC} {n:Nat} {fr:Fr} {own own0:List au} {G G0:Gh} {ops:Array Oper} {Q:Exit->Act->World->Prop} {fin:Nat->Bool} {π π₂:List (Nat×Bool)} {fd:List FD}
def dwH(P:Program)(ops:Array Oper)(Q:Exit->Act->World->Prop)(S:World->Prop)(fin:Nat->Bool)(π₂:List (Nat×Bool))(fd:List FD)(fs:Fs)(π:List (Nat×Bool)):Act->World->Prop:=xC P ops Q S fin π₂ (DX fd fs) π
end
end Go.Sx
end
