import Derived.Test.YtjpdfobnjmflkaaGreatDoorMk1
import Derived.Test.YtjpdfobnjmflkaaGreatDoorProg
import Derived.Shelf.Small.Bits
import Derived.Shelf.Strconv.Itoa0
import Derived.Shelf.Bits.Mul64
import Derived.Scope
set_option linter.all false
set_option maxRecDepth 100000
section
namespace Go.Sx
open Go
variable {P:Program}{t t' ty' ty:TypeId}{d n b f off ft k m e s by_ len cap l2 c2 cap2 i j:Nat}{C:aF}{fr:Fr}{own' own1 own0:List aA}{G G0 A:Gh}{Φ K:Act->World->Prop}{dst:Option Nat}{pos:String}{af:Array Edge}{x y:Operand}{w:World}{p ad ad2:Option Addr}{q lo c:Bool}{v z:Value}{l out ys xs rest:List Value}{o:Oper}{ops:Array Oper}{Q:Exit->Act->World->Prop}{fin:Nat->Bool}{op:Op}
def HP{d:TypeDesc}(h:P.underlying t=some d)(w:World):(underlying t).run P w= .ok d w:=by
 simp[underlying,program,Sem.run_bind,Sem.run,h,run_pure]
class IU (P:Program) (t:TypeId):Prop where u: ∀w,(underlying t).run P w= .ok .bool w
class JP (P:Program) (t:TypeId):Prop where u: ∃e,∀w,(underlying t).run P w= .ok (.pointer e) w
class IW (P:Program) (t:TypeId):Prop where u: ∃ms,∀w,(underlying t).run P w= .ok (.interface ms) w
class Hh (P:Program) (t:TypeId) (f:Nat) (off ft:outParam Nat):Prop where
 u: ∃fs fd,(∀w,(underlying t).run P w= .ok (.struct fs) w)/\fs[f]? =some fd/\fd.offset=off/\fd.type=ft
class jn (P:Program) (t:TypeId):Prop where
 un: ∃e,P.underlying t=some (.slice e)
section
variable {own:List aA}
variable {gd:Option (Nat×Bool)}
def qG{p q:Value}{b:Bool}(h:(Op.equalIn (9999+1) t p q).run P w= .ok b w):(Op.equal t p q).run P w= .ok b w:=h
def WZ[hT:IU P t]{p:Bool}(hx:aB fr x=some (.bool p))(hy:aB fr y=some (.bool q)):Yd P C fr own G ⟨dst, .binOp .eql t x y t',ty',pos,af,gd⟩ (.bool (p==q)):=by
 intro a w hf hh;simp only[execOp,bB hf hx,bB hf hy];have h1:(Op.equal t (.bool p) (.bool q)).run P w= .ok (p==q) w:=qG (by unfold Op.equalIn;rw[aP (hT.u w)];rfl);have h2:(eqGuard .eql t x y (.bool p) (.bool q)).run P w= .ok () w:=J;have h3:(binOp .eql t (.bool p) (.bool q)).run P w= .ok (.bool (p==q)) w:=by simp only[binOp];rw[aP h1];rfl
 exact c6 (by rw[aP h2];exact h3)
def V1[hT:IU P t]{p:Bool}(hx:aB fr x=some (.bool p))(hy:aB fr y=some (.bool q)):Yd P C fr own G ⟨dst, .binOp .neq t x y t',ty',pos,af,gd⟩ (.bool (!(p==q))):=by
 intro a w hf hh;simp only[execOp,bB hf hx,bB hf hy];have h1:(Op.equal t (.bool p) (.bool q)).run P w= .ok (p==q) w:=qG (by unfold Op.equalIn;rw[aP (hT.u w)];rfl);have h2:(eqGuard .neq t x y (.bool p) (.bool q)).run P w= .ok () w:=J;have h3:(binOp .neq t (.bool p) (.bool q)).run P w= .ok (.bool (!(p==q))) w:=by simp only[binOp];rw[aP h1];rfl
 exact c6 (by rw[aP h2];exact h3)
def BY[hT:JP P t](hx:aB fr x=some (.pointer p))(hy:aB fr y=some (.pointer none)):Yd P C fr own G ⟨dst, .binOp .eql t x y t',ty',pos,af,gd⟩ (.bool p.isNone):=by
 obtain⟨e,he⟩:=hT.u;intro a w hf hh;simp only[execOp,bB hf hx,bB hf hy];have h1:(Op.equal t (.pointer p) (.pointer none)).run P w= .ok p.isNone w:=qG (by unfold Op.equalIn;rw[aP (he w)];cases p<;>rfl);have h2:(eqGuard .eql t x y (.pointer p) (.pointer none)).run P w= .ok () w:=by cases p<;>rfl
 have h3:(binOp .eql t (.pointer p) (.pointer none)).run P w= .ok (.bool p.isNone) w:=by cases p<;>(simp only[binOp];rw[aP h1];rfl)
 exact c6 (by rw[aP h2];exact h3)
def D8[hT:JP P t](hx:aB fr x=some (.pointer p))(hy:aB fr y=some (.pointer none)):Yd P C fr own G ⟨dst, .binOp .neq t x y t',ty',pos,af,gd⟩ (.bool (!p.isNone)):=by
 obtain⟨e,he⟩:=hT.u;intro a w hf hh;simp only[execOp,bB hf hx,bB hf hy];have h1:(Op.equal t (.pointer p) (.pointer none)).run P w= .ok p.isNone w:=qG (by unfold Op.equalIn;rw[aP (he w)];cases p<;>rfl);have h2:(eqGuard .neq t x y (.pointer p) (.pointer none)).run P w= .ok () w:=by cases p<;>rfl
 have h3:(binOp .neq t (.pointer p) (.pointer none)).run P w= .ok (.bool (!p.isNone)) w:=by cases p<;>(simp only[binOp];rw[aP h1];rfl)
 exact c6 (by rw[aP h2];exact h3)
def LC[hT:IW P t](hv:v= .nilIface\/ ∃k u,v= .iface k u)(hx:aB fr x=some v):
  Yd P C fr own G ⟨dst, .binOp .eql t x (.const .nilIface) t',ty',pos,af,gd⟩ (.bool (match v with| .nilIface=>true|_=>false)):=by
 obtain⟨e,he⟩:=hT.u;intro a w hf hh;simp only[execOp,bB hf hx,show a.eval (.const .nilIface)= .nilIface from J];rcases hv with rfl|⟨k,u,rfl⟩
 .have h1:(Op.equal t .nilIface .nilIface).run P w= .ok true w:=qG (by unfold Op.equalIn;rw[aP (he w)];rfl)
  have h2:(eqGuard .eql t x (.const .nilIface) .nilIface .nilIface).run P w= .ok () w:=by cases x<;>rfl
  exact c6 (by rw[aP h2];simp only[binOp];rw[aP h1];rfl)
 .have h1:(Op.equal t (.iface k u) .nilIface).run P w= .ok false w:=qG (by unfold Op.equalIn;rw[aP (he w)];rfl)
  exact c6 (by rw[aP (a:=()) (w':=w) J];simp only[binOp];rw[aP h1];rfl)
def NY[hT:IW P t](hv:v= .nilIface\/ ∃k u,v= .iface k u)(hx:aB fr x=some v):
  Yd P C fr own G ⟨dst, .binOp .neq t x (.const .nilIface) t',ty',pos,af,gd⟩ (.bool (match v with| .nilIface=>false|_=>true)):=by
 obtain⟨e,he⟩:=hT.u;intro a w hf hh;simp only[execOp,bB hf hx,show a.eval (.const .nilIface)= .nilIface from J];rcases hv with rfl|⟨k,u,rfl⟩
 .have h1:(Op.equal t .nilIface .nilIface).run P w= .ok true w:=qG (by unfold Op.equalIn;rw[aP (he w)];rfl)
  have h2:(eqGuard .neq t x (.const .nilIface) .nilIface .nilIface).run P w= .ok () w:=by cases x<;>rfl
  exact c6 (by rw[aP h2];simp only[binOp];rw[aP h1];rfl)
 .have h1:(Op.equal t (.iface k u) .nilIface).run P w= .ok false w:=qG (by unfold Op.equalIn;rw[aP (he w)];rfl)
  exact c6 (by rw[aP (a:=()) (w':=w) J];simp only[binOp];rw[aP h1];rfl)
def auw{cs:List Value}[hF:Hh P t f off ft][hA:ks P ft k](hx:aB fr x=some (.agg ⟨cs⟩))(hl:cx cs off k=some l):Yd P C fr own G ⟨dst, .field t x f,ty',pos,af,gd⟩ (.agg ⟨l⟩):=by
 obtain⟨fs,fd,h1,h2,h3,h4⟩:=hF.u;intro a w hf hh;simp only[execOp,bB hf hx];have:(Instr.field t (.agg ⟨cs⟩) f).run P w= .ok (.agg ⟨l⟩) w:=by
  unfold Instr.field;rw[aP (h1 w)];simp only[h2,h3,h4,asAgg];rw[aP (run_pure _ _ _)];unfold part;rw[aP (hA.agg w)];simp only[if_true];rw[aP (hA.siz w)];obtain⟨k1,k2⟩:=qf _ _ _ _ hl;have:(⟨cs⟩:Array Value).extract off (off+k)=⟨l⟩:=by
   apply Array.ext';rw[Array.toList_extract];apply lS;intro i;rw[List.extract_eq_take_drop,oM];split
   .rw[mK];exact k2 i (by omega)
   .exact(eK (show l.length<=i by omega)).symm
  rw[this];rfl
 exact c6 this
def avk{cs:List Value}[hF:Hh P t f off ft][hA:j' P ft](hx:aB fr x=some (.agg ⟨cs⟩))(hl:cs[off]? =some v):Yd P C fr own G ⟨dst, .field t x f,ty',pos,af,gd⟩ v:=by
 obtain⟨fs,fd,h1,h2,h3,h4⟩:=hF.u;intro a w hf hh;simp only[execOp,bB hf hx];have:(Instr.field t (.agg ⟨cs⟩) f).run P w= .ok v w:=by
  unfold Instr.field;rw[aP (h1 w)];simp only[h2,h3,h4,asAgg];rw[aP (run_pure _ _ _)];unfold part;rw[aP (hA.agg w)];have:(⟨cs⟩:Array Value)[off]? =some v:=by simpa using hl
  simp only[kW,if_false,this];rfl
 exact c6 this
class An (P:Program) (t:TypeId) (offs:outParam (List (Nat×Nat))):Prop where
 u: ∃fs:Array Field,(∀w,(underlying t).run P w= .ok (.struct fs) w)/\(∀w,(fs.mapM (m:=Sem) fun f=>do pure (f.offset,<-sizeOf f.type)).run P w= .ok ⟨offs⟩ w)
def uJ(fr:Fr)(offs:List (Nat×Nat)):List Value->List (Nat×Operand)->Option (List Value)
 |cs,[]=>some cs
 |cs,(i,x)::r=>match offs[i]?,aB fr x with
  |some (off,k),some v=>if(aG v).length=k/\off+k<=cs.length then uJ fr offs (cA cs off (aG v)) r else none
  |_,_=>none
def B5: ∀(vs:List Value) (cs:Array Value) (off j:Nat),(vs.zipIdx j).foldl (fun cs (c,j)=>cs.setIfInBounds (off+j) c) cs=⟨cA cs.toList (off+j) vs⟩
 |[],cs,off,j=>rfl
 |v::vs,cs,off,j=>by
  simp only[List.zipIdx_cons,iS];rw[B5 vs _ off (j+1)];simp[cA,lX]
def JZ{a:Act}(hf:kB fr a)(offs:List (Nat×Nat)): ∀(ps:List (Nat×Operand)) (cs out:List Value),uJ fr offs cs ps=some out->
  Instr.fill ((⟨offs⟩:Array (Nat×Nat))[·]?) ⟨cs⟩ (ps.map fun(i,x)=>(i,a.eval x))=some ⟨out⟩
 |[],cs,out,h=>by simp only[uJ] at h;cases h;rfl
 |(i,x)::ps,cs,out,h=>by
  simp only[uJ] at h;split at h
  .rename_i off k v ho hv
   split at h
   .rename_i hc
    simp only[bU,Instr.fill];have:(⟨offs⟩:Array (Nat×Nat))[i]? =some (off,k):=by simpa using ho
    simp only[this,bB hf hv,oC];have h1: ¬((⟨aG v⟩:Array Value).size≠k):=by simp[hc.1]
    have h2: ¬(off+(⟨aG v⟩:Array Value).size>(⟨cs⟩:Array Value).size):=by simp only[pV,hc.1];omega
    rw[if_neg (by simp only[fN,decide_eq_true_eq,not_or];exact⟨by simpa using h1,by simpa using h2⟩)];have e:=B5 (aG v) ⟨cs⟩ off 0;have e':(⟨aG v⟩:Array Value).zipIdx.foldl (fun cs (c,j)=>cs.setIfInBounds (off+j) c) (⟨cs⟩:Array Value)=⟨cA cs off (aG v)⟩:=by
     rw[<-rJ,tX];simpa using e
    rw[e'];exact JZ hf offs ps _ _ h
   .cases h
  .cases h
def vO{parts:Array (Nat×Operand)}{offs:List (Nat×Nat)}[hT:An P t offs][hz:gj P t z](hb:uJ fr offs (aG z) parts.toList=some out):Yd P C fr own G ⟨dst, .build t parts,ty',pos,af,gd⟩ (.agg ⟨out⟩):=by
 obtain⟨fs,h1,h2⟩:=hT.u;intro a w hf hh;simp only[execOp];have:(Instr.build t (parts.map fun(i,x)=>(i,a.eval x))).run P w= .ok (.agg ⟨out⟩) w:=by
  unfold Instr.build;rw[aP (hz.zero w),oC];rw[aP (h1 w)];simp only[];rw[aP (h2 w)];have:=JZ hf offs parts.toList _ _ hb;simp only[pT,this];rfl
 exact c6 this
end
def dm(z:Value)(k:Nat):List Value:=(List.replicate k (aG z)).flatten
def Gr{α:Type}(l:List α): ∀(k i:Nat),i<k*l.length->(List.replicate k l).flatten[i]? =l[i%l.length]?
 |0,i,h=>by omega
 |k+1,i,h=>by
  rw[tJ,rR];by_cases hi:i<l.length
  .rw[jS hi,kZ hi]
  .rw[jU (by omega),Gr l k (i-l.length) (by rw[dY] at h;omega)]
   rw[Nat.mod_eq_sub_mod (Nat.ge_of_not_lt hi)]
def oh(z:Value)(k:Nat):(dm z k).length=k*(aG z).length:=by simp[dm]
def Aj(h:m=k*(aG z).length):((Array.range m).map fun i=>(⟨aG z⟩:Array Value)[i%(⟨aG z⟩:Array Value).size]!)=⟨dm z k⟩:=by
 subst h;apply Array.ext';apply lS;intro i;simp only[pT,Array.toList_range,cR,pV];by_cases hi:i<k*(aG z).length
 .rw[qJ hi]
  simp only[lK];have h1:=Gr (aG z) k i hi;have hpos:0<(aG z).length:=by
   rcases fT (aG z).length with h|h
   .rw[h,tY] at hi;omega
   .exact h
  have hm:=dK i hpos;show _=(dm z k)[i]?;unfold dm;rw[h1];simp[hm]
 .rw[eK (by simpa using hi)]
  rw[eK (by show(dm z k).length<=i;rw[oh];omega)];rfl
section
variable {own:List aA}
variable {gd:Option (Nat×Bool)}
def Qc[hT:cw P t e s by_](w:World): ∃i:TypeInfo,(typeInfo e).run P w= .ok i w/\i.bytes=by_:=by
 obtain⟨i,h1,_,h2⟩:=hT.info;exact⟨i,by simp[typeInfo,program,Sem.run_bind,Sem.run,h1,run_pure],h2⟩
def F0[hT:cw P t e s by_]{z:Value}[hz:gj P e z]{k k':IntKind}{l:Int}(hx:aB fr x=some (.int k l))(hy:aB fr y=some (.int k' l))(h0:0<=l)(hb:by_*l<=2^47)(hl:l<=2^60)(hs:(aG z).length=s)(hd:ce n dst=true)
  (h: ∀b,St C n (put fr dst (.slice (some ⟨b,0,none⟩) l.toNat l.toNat)) (⟨b,dm z l.toNat,e,true⟩::own) G Φ):
  Ch P C n fr own G ⟨dst, .makeSlice t x y,ty',pos,af,gd⟩ Φ:=by
 intro a w Q rl;have h1:(Instr.makeSlice t (a.eval x) (a.eval y)).run P w= .ok (.slice (some ⟨w.heap.size,0,none⟩) l.toNat l.toNat) (w.alloc (.cells ⟨dm z l.toNat⟩ e)):=by
  obtain⟨i,hi,hib⟩:=Qc (P:=P) (t:=t) (e:=e) (s:=s) (by_:=by_) w;rw[bB rl.fr hx,bB rl.fr hy];unfold Instr.makeSlice;rw[aP (hT.u w)];simp only[asInt,asIntOf];rw[aP (a:=l) (w':=w) J,aP (a:=l) (w':=w) J,aP hi,hib];have hw:IntKind.i64.wrap l=l:=tq (by simp[IntKind.min,IntKind.max,IntKind.signed,IntKind.bits];omega);simp only[hw];have c1: ¬((by_:Int)*l>2^48):=by
   have:(2:Int)^47<=2^48:=by decide
   omega
  have c2:(decide (l<0)||decide ((by_:Int)*l>2^48))=false:=by simp[c1];omega
  simp only[c2,Int.lt_irrefl,decide_false,Bool.or_false,Bool.false_or];have c3:decide (l<0)=false:=by simp;omega
  simp only[c3,kW,if_false,gt_iff_lt,Int.lt_irrefl,decide_false,Bool.or_false];have hr: ¬(l.toNat*by_>roomBytes):=by
   unfold roomBytes;have:((l.toNat*by_:Nat):Int)=by_*l:=by rw[iL,qK h0,rS]
   have h47:((2^47:Nat):Int)=2^47:=by decide
   omega
  unfold askRoom;simp only[hr,if_false];rw[aP (run_pure _ _ _),aP (hT.siz w)];have hn:l.toNat*s=l.toNat*(aG z).length:=by rw[hs]
  by_cases h00:l.toNat*s=0
  .rw[if_pos h00,aP (run_pure _ _ _)]
   have e0:dm z l.toNat=[]:=cV (by rw[oh,hs];exact h00);rw[h00,e0,show(Array.range 0)= #[] from J,Array.map_empty];rfl
  .rw[if_neg h00,aP (hz.zero w),oC]
   rw[aP (run_pure _ _ _),Aj hn];rfl
 refine(fun hk=>?_:Φ (a.put dst (.slice (some ⟨w.heap.size,0,none⟩) l.toNat l.toNat)) (w.alloc (.cells ⟨dm z l.toNat⟩ e))->_) (h w.heap.size _ _ ((rl.heap (rl.h.alloc _ _)).put _ hd));exact kr (v:= .slice (some ⟨w.heap.size,0,none⟩) l.toNat l.toNat) (c6 h1) hk
def KV: ∀(vs cs pre:List Value),vs.length=cs.length->cA (pre++cs) pre.length vs=pre++vs
 |[],cs,pre,h=>by have:cs=[]:=cV h.symm;subst this;rfl
 |v::vs,[],pre,h=>by simp at h
 |v::vs,c::cs,pre,h=>by
  simp only[cA,nR _ _ (bW _),pR,List.set_cons_zero];have:=KV vs cs (pre++[v]) (by simpa using h);simpa using this
def Rp[hT:cw P t e s by_][hz:gj P e z](hx:aB fr x=some v)(hs:(aG z).length=s)(hv:(aG v).length=s)(hsm:s<=1000)(hs0:0<s)(hd:ce n dst=true)
  (h: ∀b,St C n (put fr dst (.slice (some ⟨b,0,none⟩) 1 1)) (⟨b,aG v,e,true⟩::own) G Φ):
  Ch P C n fr own G ⟨dst, .buildSlice t 1 #[(0,x)],ty',pos,af,gd⟩ Φ:=by
 intro a w Q rl;have h1:(Instr.buildSlice t 1 #[(0,v)]).run P w= .ok (.slice (some ⟨w.heap.size,0,none⟩) 1 1) (w.alloc (.cells ⟨aG v⟩ e)):=by
  unfold Instr.buildSlice;rw[aP (hT.u w)];simp only[];rw[aP (hT.siz w)];have c1: ¬(1*s>2^24):=by omega
  have c2: ¬(1*s=0):=by omega
  simp only[c1,if_false];rw[if_neg c2,aP (hz.zero w),oC,aP (run_pure _ _ _)];rw[Aj (k:=1) (by rw[hs])];have hzl:(dm z 1).length=s:=by rw[oh,hs,nJ]
  have hf:Instr.fill (fun i=>some (i*s,s)) ⟨dm z 1⟩ [(0,v)]=some ⟨aG v⟩:=by
   simp only[Instr.fill,oC];rw[if_neg (by simp[hv,hzl])];have e1:=B5 (aG v) ⟨dm z 1⟩ (0*s) 0;have e2:(⟨aG v⟩:Array Value).zipIdx.foldl (fun cs (c,j)=>cs.setIfInBounds (0*s+j) c) (⟨dm z 1⟩:Array Value)=⟨aG v⟩:=by
    rw[<-rJ,tX];have e3:=KV (aG v) (dm z 1) [] (by rw[hv,hzl]);simp only[jM,eY] at e3;rw[kK,eJ] at e1;rw[e3] at e1;simpa using e1
   rw[e2]
  simp only[hf];rfl
 refine kr (v:= .slice (some ⟨w.heap.size,0,none⟩) 1 1) (w':=w.alloc (.cells ⟨aG v⟩ e)) ?_ (h w.heap.size _ _ ((rl.heap (rl.h.alloc _ _)).put _ hd));simp only[execOp,iT,bU,iZ,bB rl.fr hx];exact c6 h1
end
section
variable {own:List aA}
variable {gd:Option (Nat×Bool)}
def vn(fr:Fr)(s:Nat):List Value->List (Nat×Operand)->Option (List Value)
 |cs,[]=>some cs
 |cs,(i,x)::r=>match aB fr x with
  |some v=>if(aG v).length=s/\i*s+s<=cs.length then vn fr s (cA cs (i*s) (aG v)) r else none
  |none=>none
def Ke{a:Act}(hf:kB fr a)(s:Nat): ∀(ps:List (Nat×Operand)) (cs out:List Value),vn fr s cs ps=some out->
  Instr.fill (fun i=>some (i*s,s)) ⟨cs⟩ (ps.map fun(i,x)=>(i,a.eval x))=some ⟨out⟩
 |[],cs,out,h=>by simp only[vn] at h;cases h;rfl
 |(i,x)::ps,cs,out,h=>by
  simp only[vn] at h;split at h
  .rename_i v hv
   split at h
   .rename_i hc
    simp only[bU,Instr.fill,bB hf hv,oC];have h1: ¬((⟨aG v⟩:Array Value).size≠s):=by simp[hc.1]
    have h2: ¬(i*s+(⟨aG v⟩:Array Value).size>(⟨cs⟩:Array Value).size):=by simp only[pV,hc.1];omega
    rw[if_neg (by simp only[fN,decide_eq_true_eq,not_or];exact⟨by simpa using h1,by simpa using h2⟩)];have e:=B5 (aG v) ⟨cs⟩ (i*s) 0;have e':(⟨aG v⟩:Array Value).zipIdx.foldl (fun cs (c,j)=>cs.setIfInBounds (i*s+j) c) (⟨cs⟩:Array Value)=⟨cA cs (i*s) (aG v)⟩:=by
     rw[<-rJ,tX];simpa using e
    rw[e'];exact Ke hf s ps _ _ h
   .cases h
  .cases h
def RY[hT:cw P t e s by_][hz:gj P e z]{parts:Array (Nat×Operand)}(hs:(aG z).length=s)(hb:vn fr s (dm z len) parts.toList=some out)(hsm:Nat.ble (len*s) 1000=true)(hs0:Nat.blt 0 (len*s)=true)(hd:ce n dst=true)
  (h: ∀b,St C n (put fr dst (.slice (some ⟨b,0,none⟩) len len)) (⟨b,out,e,true⟩::own) G Φ):
  Ch P C n fr own G ⟨dst, .buildSlice t len parts,ty',pos,af,gd⟩ Φ:=by
 intro a w Q rl;have hsm':len*s<=1000:=by simpa using hsm
 have hs0':0<len*s:=by simpa[kL] using hs0
 have h1:(Instr.buildSlice t len (parts.map fun(i,x)=>(i,a.eval x))).run P w= .ok (.slice (some ⟨w.heap.size,0,none⟩) len len) (w.alloc (.cells ⟨out⟩ e)):=by
  unfold Instr.buildSlice;rw[aP (hT.u w)];simp only[];rw[aP (hT.siz w)];have c1: ¬(len*s>2^24):=by omega
  have c2: ¬(len*s=0):=by omega
  simp only[c1,if_false];rw[if_neg c2,aP (hz.zero w),oC,aP (run_pure _ _ _)];rw[Aj (k:=len) (by rw[hs])];have hf:=Ke rl.fr s parts.toList _ _ hb;simp only[pT,hf];rfl
 refine kr (v:= .slice (some ⟨w.heap.size,0,none⟩) len len) (w':=w.alloc (.cells ⟨out⟩ e)) ?_ (h w.heap.size _ _ ((rl.heap (rl.h.alloc _ _)).put _ hd));simp only[execOp];exact c6 h1
def PS[hT:cw P t e s by_](hd:ce n dst=true)(h: ∀b,St C n (put fr dst (.slice (some ⟨b,0,none⟩) 0 0)) (⟨b,[],e,true⟩::own) G Φ):
  Ch P C n fr own G ⟨dst, .buildSlice t 0 #[],ty',pos,af,gd⟩ Φ:=by
 intro a w Q rl;have h1:(Instr.buildSlice t 0 #[]).run P w= .ok (.slice (some ⟨w.heap.size,0,none⟩) 0 0) (w.alloc (.cells ⟨[]⟩ e)):=by
  unfold Instr.buildSlice;rw[aP (hT.u w)];simp only[];rw[aP (hT.siz w)];simp only[kK,gt_iff_lt,tQ,if_false,if_true];rw[aP (run_pure _ _ _),show(Array.range 0)= #[] from J,Array.map_empty];rfl
 refine kr (v:= .slice (some ⟨w.heap.size,0,none⟩) 0 0) (w':=w.alloc (.cells ⟨[]⟩ e)) ?_ (h w.heap.size _ _ ((rl.heap (rl.h.alloc _ _)).put _ hd));simp only[execOp,iT,iZ];exact c6 h1
def Sv[hT:cw P t e s by_](hx:aB fr x=some (.slice ad len cap))(hy:aB fr y=some (.slice none l2 c2)):Yd P C fr own G ⟨dst, .binOp .eql t x y t',ty',pos,af,gd⟩ (.bool ad.isNone):=by
 intro a w hf hh;simp only[execOp,bB hf hx,bB hf hy];have h1:(Op.equal t (.slice ad len cap) (.slice none l2 c2)).run P w= .ok ad.isNone w:=qG (by unfold Op.equalIn;rw[aP (hT.u w)];cases ad<;>rfl);have h2:(eqGuard .eql t x y (.slice ad len cap) (.slice none l2 c2)).run P w= .ok () w:=J;have h3:(binOp .eql t (.slice ad len cap) (.slice none l2 c2)).run P w= .ok (.bool ad.isNone) w:=by simp only[binOp];rw[aP h1];rfl
 exact c6 (by rw[aP h2];exact h3)
def aHi[hT:cw P t e s by_](hx:aB fr x=some (.slice ad len cap))(hy:aB fr y=some (.slice none l2 c2)):Yd P C fr own G ⟨dst, .binOp .neq t x y t',ty',pos,af,gd⟩ (.bool (!ad.isNone)):=by
 intro a w hf hh;simp only[execOp,bB hf hx,bB hf hy];have h1:(Op.equal t (.slice ad len cap) (.slice none l2 c2)).run P w= .ok ad.isNone w:=qG (by unfold Op.equalIn;rw[aP (hT.u w)];cases ad<;>rfl);have h2:(eqGuard .neq t x y (.slice ad len cap) (.slice none l2 c2)).run P w= .ok () w:=J;have h3:(binOp .neq t (.slice ad len cap) (.slice none l2 c2)).run P w= .ok (.bool (!ad.isNone)) w:=by simp only[binOp];rw[aP h1];rfl
 exact c6 (by rw[aP h2];exact h3)
end
def kH: ∀(cs:List Value) (off k:Nat),off+k<=cs.length->cx cs off k=some ((cs.drop off).take k)
 |cs,0,0,_=>by cases cs<;>rfl
 |[],0,k+1,h=>by simp at h
 |v::t,0,k+1,h=>by
  simp only[cx,kH t 0 k (by simp at h;omega)];simp
 |[],_+1,k,h=>by simp at h
 |_::t,off+1,k,h=>by
  simp only[cx,kH t off k (by simp at h;omega)];simp
section
variable {own:List aA}
variable {gd:Option (Nat×Bool)}
def mm(P:Program)(C:aF)(own:List aA)(G:Gh)(s m:Nat)(v:Value)(ys:List Value):Prop:=
 ∀w,bF C own G w->(Builtin.firstCells s m v).run P w= .ok ⟨ys⟩ w
def Fk{cs:List Value}{fz:Nat×Nat}(h:w.heap[b]? =some (.cells ⟨cs⟩ ty fz))(hl:cx cs off k=some l):(loadCells ⟨b,off,none⟩ k).run P w= .ok ⟨l⟩ w:=by
 obtain⟨h1,h2⟩:=qf _ _ _ _ hl;unfold loadCells;rw[JJ (l:=l) k 0 #[] (fun j hj=>by rw[B4 h];simpa using h2 j hj) (by omega)];simp[<-h1]
def zg{cs:List Value}(ho:iB own b cs ty lo)(hl:cx cs off (m*s)=some ys):mm P C own G s m (.slice (some ⟨b,off,none⟩) len cap) ys:=
 fun w h=>Fk (h.hown _ ho.mem).1 hl
def ME{cs:List Value}(hg:G b=some cs)(hl:cx cs off (m*s)=some ys):mm P C own G s m (.slice (some ⟨b,off,none⟩) len cap) ys:=
 fun w h=>by obtain⟨ty,fz,hb⟩:=h.sub _ _ hg;exact Fk hb hl
def tP:mm P C own G s 0 (.slice ad len cap) []:=fun w _=>by
 cases ad with
 |none=>rfl
 |some a=>unfold Builtin.firstCells loadCells;simp[loadCellsFrom,run_pure]
def To(z:Value)(k:Nat):Builtin.zeroCells ⟨aG z⟩ k=⟨dm z k⟩:=by
 unfold Builtin.zeroCells;exact Aj J
def Gt{w':World}[hT:cw P t e s by_][hN:jn P t'][hz:gj P e z]
  (hsx:(Builtin.firstCells s len (.slice ad len cap)).run P w.drew= .ok ⟨xs⟩ w.drew)(hsy:(Builtin.firstCells s m (.slice ad2 m cap2)).run P w.drew= .ok ⟨ys⟩ w.drew)
  (hneed:cap<len+m)(hby:0<by_)(hb:(len+m)*by_<=140737488355328):
  (Builtin.append_ #[t,t'] ty' #[.slice ad len cap, .slice ad2 m cap2]).run P w=
   .ok (.slice (some ⟨w.heap.size,0,none⟩) (len+m) (grownCap w (len+m) cap e)) (w.drew.alloc (.cells ⟨xs++ys++dm z (grownCap w (len+m) cap e-(len+m))⟩ e)):=by
 obtain⟨d,hd1⟩:=hN.un;obtain⟨i,hi,his,hib⟩:=hT.info;obtain⟨i',hi',hiz⟩:=hz.info;rw[hi] at hi';cases hi';have hfit:=growslice_fits (old:=cap) (need:=len+m) (bytes:=by_) hneed hb;have hlen:len+m<=140737488355328:=cN (mU _ hby) hb;have hn: ¬(len+m<=cap):=by omega
 have h63': ¬(9223372036854775807<((len:Int)+(m:Int))):=by omega
 have h48': ¬(281474976710656<Builtin.nextslicecap (len+m) cap*i.bytes):=by rw[hib];omega
 subst his;simp[Builtin.append_,run_underlying hT.un,run_underlying hd1,sizeOf,typeInfo,zeroValue,hi,hiz,Builtin.lenOf,hn,h63',h48',Question.forced,hsx,hsy,newRow,grownCap];congr 2;apply Array.ext';rw[oC,To];simp[dV]
def ES[hT:cw P t e s by_][hN:jn P t'][hz:gj P e z]
  (hx:aB fr x=some (.slice ad len cap))(hy:aB fr y=some (.slice ad2 m cap2))(hsx:mm P C own G s len (.slice ad len cap) xs)(hsy:mm P C own G s m (.slice ad2 m cap2) ys)
  (hneed:cap<len+m)(hby:0<by_)(hb:(len+m)*by_<=140737488355328)(hd:ce n dst=true)
  (h: ∀b cap',len+m<=cap'->St C n (put fr dst (.slice (some ⟨b,0,none⟩) (len+m) cap')) (⟨b,xs++ys++dm z (cap'-(len+m)),e,true⟩::own) G Φ):
  Ch P C n fr own G ⟨dst, .call ⟨.builtin .append, #[x,y], #[t,t']⟩,ty',pos,af,gd⟩ Φ:=by
 intro a w Q rl;have hcap:len+m<=grownCap w (len+m) cap e:=by unfold grownCap;simp only[Question.cut];omega
 have hrun:=Gt (P:=P) (t:=t) (t':=t') (ty':=ty') (w:=w) (w':=w) (hsx _ rl.h.drew) (hsy _ rl.h.drew) hneed hby hb;refine kr (v:= .slice (some ⟨w.heap.size,0,none⟩) (len+m) (grownCap w (len+m) cap e)) (w':=w.drew.alloc (.cells ⟨xs++ys++dm z (grownCap w (len+m) cap e-(len+m))⟩ e)) ?_ ?_
 .simp only[execOp,resolve,iT,bU,iZ,bB rl.fr hx,bB rl.fr hy]
  exact c6 hrun
 .exact h w.heap.size _ hcap _ _ ((rl.heap ((rl.h.drew).alloc _ _)).put _ hd)
def jq.perm{o:aA}(h:jq own o own1):own.Perm (o::own1):=by
 induction h with
 |hd o t=>exact List.Perm.refl _
 |tl x t t' o h ih=>exact(List.Perm.cons x ih).trans (List.Perm.swap _ _ _)
def Iu[hT:cw P t e s by_][hN:jn P t']{cs:List Value}
  (hb:w.heap[b]? =some (.cells ⟨cs⟩ e (0,0)))(hcs:cs.length=cap*s)(hsy:(Builtin.firstCells s m (.slice ad2 m cap2)).run P w= .ok ⟨ys⟩ w)(hys:ys.length=m*s)(hf: ∀v∈ys,flat v=true)
  (hneed:len+m<=cap):
  (Builtin.append_ #[t,t'] ty' #[.slice (some ⟨b,0,none⟩) len cap, .slice ad2 m cap2]).run P w=
   .ok (.slice (some ⟨b,0,none⟩) (len+m) cap) (gO w b (.cells ⟨cA cs (len*s) ys⟩ e (0,0))):=by
 obtain⟨d,hd1⟩:=hN.un;obtain⟨i,hi,his,hib⟩:=hT.info;subst his;have hl:len*i.size+ys.length<=cs.length:=by rw[hys,hcs,<-dY];exact bS _ hneed
 have hst:=zj (P:=P) ys w (len*i.size) 0 cs hf hb (by omega);rw[gJ] at hst;simp[Builtin.append_,run_underlying hT.un,run_underlying hd1,sizeOf,typeInfo,hi,Builtin.lenOf,hneed,hsy,rG,hst]
def AG: ∀(vs cs:List Value) (off:Nat),(cA cs off vs).length=cs.length
 |[],cs,off=>rfl
 |v::vs,cs,off=>by simp[cA,AG vs]
def pq: ∀(vs cs:List Value) (off:Nat),off+vs.length<=cs.length->cA cs off vs=cs.take off++vs++cs.drop (off+vs.length)
 |[],cs,off,h=>by simp[cA]
 |v::vs,cs,off,h=>by
  simp only[bZ] at h;rw[cA,pq vs _ _ (by simp;omega)];rw[List.take_set,tK (by omega)];have h1:(cs.take (off+1)).set off v=cs.take off++[v]:=by
   rw[iJ (by omega),nR _ _ (by simp;omega)];simp[jN (by omega:off<=cs.length)]
  rw[h1];simp only[bZ,dV,gN,jM];congr 4;omega
def Nb[hT:cw P t e s by_][hN:jn P t'][hz:gj P e z]
  (hx:aB fr x=some (.slice (some ⟨b,0,none⟩) len cap))(hy:aB fr y=some (.slice ad2 m cap2))(hr:jq own ⟨b,xs++rest,e,true⟩ own1)(hxs:xs.length=len*s)(hcap:xs.length+rest.length=cap*s)(hlc:len<=cap)
  (hsy:mm P C own G s m (.slice ad2 m cap2) ys)(hys:ys.length=m*s)(hf: ∀v∈ys,flat v=true)
  (hby:0<by_)(hb:(len+m)*by_<=140737488355328)(hzs:(aG z).length=s)(hd:ce n dst=true)
  (h: ∀b cap' rest',len+m<=cap'->rest'.length+(len+m)*s=cap'*s->St C n (put fr dst (.slice (some ⟨b,0,none⟩) (len+m) cap')) (⟨b,xs++ys++rest',e,true⟩::own1) G Φ):
  Ch P C n fr own G ⟨dst, .call ⟨.builtin .append, #[x,y], #[t,t']⟩,ty',pos,af,gd⟩ Φ:=by
 intro a w Q rl;have hp:=rl.h.perm hr.perm;have hblk:=(hp.hown _ aQ).1;simp only[] at hblk;by_cases hneed:len+m<=cap
 .have hcs:(xs++rest).length=cap*s:=by simp;omega
  have hrun:=Iu (P:=P) (t:=t) (t':=t') (ty':=ty') (w:=w) (len:=len) hblk hcs (hsy w rl.h) hys hf hneed;have hle:len*s+m*s<=cap*s:=by rw[<-dY];exact bS _ hneed
  have hov:cA (xs++rest) (len*s) ys=xs++ys++rest.drop (m*s):=by
   rw[pq _ _ _ (by rw[hys];omega),<-hxs];simp[hys,nK]
  refine kr (v:= .slice (some ⟨b,0,none⟩) (len+m) cap) (w':=gO w b (.cells ⟨cA (xs++rest) (len*s) ys⟩ e (0,0))) ?_ ?_
  .simp only[execOp,resolve,iT,bU,iZ,bB rl.fr hx,bB rl.fr hy]
   exact c6 hrun
  .rw[hov]
   refine h b cap (rest.drop (m*s)) hneed ?_ _ _ ((rl.heap (hp.store (.hd ..))).put _ hd);rw[gV,dY];omega
 .have hx':mm P C own G s len (.slice (some ⟨b,0,none⟩) len cap) xs:=fun w' hw'=>by
   have hb':=(((hw'.perm hr.perm).hown _ aQ).1);refine Fk hb' ?_;rw[kH _ _ _ (by simp;omega),<-hxs];simp
  have hcap':len+m<=grownCap w (len+m) cap e:=by unfold grownCap;simp only[Question.cut];omega
  have hrun:=Gt (P:=P) (t:=t) (t':=t') (ty':=ty') (w:=w) (w':=w) (hx' _ rl.h.drew) (hsy _ rl.h.drew) (by omega) hby hb;refine kr (v:= .slice (some ⟨w.heap.size,0,none⟩) (len+m) (grownCap w (len+m) cap e)) (w':=w.drew.alloc (.cells ⟨xs++ys++dm z (grownCap w (len+m) cap e-(len+m))⟩ e)) ?_ ?_
  .simp only[execOp,resolve,iT,bU,iZ,bB rl.fr hx,bB rl.fr hy]
   exact c6 hrun
  .refine h w.heap.size _ _ hcap' ?_ _ _ ((rl.heap (((hp.drew).drop (nZ _ _)).alloc _ _)).put _ hd)
   rw[oh,hzs,<-dY];congr 1;omega
end
section
variable {S:World->Prop}
def s7(ops:Array Oper)(fin:Nat->Bool):List (Nat×Bool)->Array Bool->Bool
 |[],listed=>(Region.ready .any ops listed).isEmpty
 |(i,true)::r,listed=>QS ops fin listed i&&s7 ops fin r (listed.setIfInBounds i true)
 |(i,false)::r,listed=>(Region.ready .any ops listed==[i])&&s7 ops fin r (listed.setIfInBounds i true)
def iA(P:Program)(ops:Array Oper)(Q:Exit->Act->World->Prop)(S:World->Prop)(fin:Nat->Bool):List (Nat×Bool)->Act->World->Prop
 |[],a,w=>Q .normal a w
 |(i,true)::r,a,w=> ∃o v,ops[i]? =some o/\S w/\YieldsIf P ops S o v a/\iA P ops Q S fin r (a.put o.dst v) w
 |(i,false)::r,a,w=>wpOp P ops Q i (fun a' w'=>(fin i=true\/S w')/\iA P ops Q S fin r a' w') a w
def A8(hQ: ∀c a d v w,Q (.panic c) (Act.put a d v) w->Q (.panic c) a w): ∀(π:List (Nat×Bool)) (listed:Array Bool) (a:Act) (w:World),s7 ops fin π listed=true->iA P ops Q S fin π a w-> ∀fuel,π.length<=fuel->tG P ops Q S fin fuel listed a w
 |[],listed,a,w,ho,h,fuel,hf=>by
  have hr:Region.ready .any ops listed=[]:=by simpa[s7] using ho
  cases fuel with
  |zero=>exact⟨hr,h⟩
  |succ k=>exact⟨fun _=>h,by rw[hr];simp⟩
 |(i,true)::r,listed,a,w,ho,h,0,hf=>by simp at hf
 |(i,false)::r,listed,a,w,ho,h,0,hf=>by simp at hf
 |(i,true)::r,listed,a,w,ho,h,fuel+1,hf=>by
  obtain⟨o,v,hoi,hS,hy,hk⟩:=h;simp only[s7,QS,bK] at ho;obtain⟨⟨⟨⟨h1,h2⟩,h3⟩,h4⟩,h5⟩:=ho;obtain⟨h6,h7⟩:=Yj h4;exact V' hoi (Region.noSelect_spec h1) (fun c a w=>hQ c a _ _ w) h6 h7 fuel listed a w (Region.free_spec hoi h2) (by simpa using h3) hy hS
   (A8 hQ r _ _ _ h5 hk fuel (by simpa using hf))
 |(i,false)::r,listed,a,w,ho,h,fuel+1,hf=>by
  simp only[s7,bK,beq_iff_eq] at ho;exact as5 ho.1 (wpOp_mono (fun a' w' h'=>⟨h'.1,A8 hQ r _ _ _ ho.2 h'.2 fuel (by simpa using hf)⟩) h)
end
section
variable {own:List aA}{π:List (Nat×Bool)}
def dr(fin:Nat->Bool)(π:List (Nat×Bool)){id:Nat}(hm:P.follows .mixedOrders=true)(ho:(s7 ops fin π (Array.replicate ops.size false)&&Nat.ble π.length ops.size)=true)
  (h:St C n fr own G (iA P ops (gu Q) (HS C own G) fin π)):St C n fr own G ((Code.region id ops true).wp P Q):=by
 simp only[bK] at ho;refine at7 fin hm fun a w rl=>A8 (fun _ _ _ _ _ h=>h) π _ a w ho.1 (h a w rl) _ (by simpa using ho.2)
def dy(ho:ops[i]? =some o)(hy: ∀G':Gh,[GE G0 G']->Yd P C fr own0 G' o v)(hg:o.guard=none)(hd:ce n o.dst=true)[hs:lu own0 own][hl:GL G0 G]
  (h:St C n (put fr o.dst v) own G (iA P ops (gu Q) (HS C own0 G0) fin π)):St C n fr own G (iA P ops (gu Q) (HS C own0 G0) fin ((i,true)::π)):=
 fun a w rl=>⟨o,v,ho,⟨G,hl.le,rl.h.drop hs.s⟩, .inl ⟨by simp[Region.wanted,hg],fun w' ⟨G',hle,hr⟩=> @hy G' ⟨hle⟩ a w' rl.fr hr⟩,h _ _ (rl.put v hd)⟩
def dM(ho:ops[i]? =some ⟨dst, .move x,ty',pos,af,none⟩)(hx:aB fr x=some v)(hd:ce n dst=true)[hs:lu own0 own][hl:GL G0 G]
  (h:St C n (put fr dst v) own G (iA P ops (gu Q) (HS C own0 G0) fin π)):St C n fr own G (iA P ops (gu Q) (HS C own0 G0) fin ((i,true)::π)):=dy ho (fun _ _=>ly hx) J hd h
def dA(ho:ops[i]? =some ⟨dst, .assign x,ty',pos,af,none⟩)(hx:aB fr x=some v)(hd:ce n dst=true)[hs:lu own0 own][hl:GL G0 G]
  (h:St C n (put fr dst v) own G (iA P ops (gu Q) (HS C own0 G0) fin π)):St C n fr own G (iA P ops (gu Q) (HS C own0 G0) fin ((i,true)::π)):=dy ho (fun _ _=>Ft hx) J hd h
def dF{o:Nat}[hF:kE P t f off](ho:ops[i]? =some ⟨dst, .fieldAddr t x f,ty',pos,af,none⟩)(hx:aB fr x=some (.pointer (some ⟨b,o,none⟩)))(hd:ce n dst=true)[hs:lu own0 own][hl:GL G0 G]
  (h:St C n (put fr dst (.pointer (some ⟨b,o+off,none⟩))) own G (iA P ops (gu Q) (HS C own0 G0) fin π)):St C n fr own G (iA P ops (gu Q) (HS C own0 G0) fin ((i,true)::π)):=dy ho (fun _ _=>qA hx) J hd h
def dL{cs:List Value}(ho:ops[i]? =some ⟨dst, .load t x,ty',pos,af,none⟩)(hx:aB fr x=some (.pointer (some ⟨b,off,none⟩)))[hw:iB own0 b cs ty lo][ks P t k](hv:cx cs off k=some l)(hd:ce n dst=true)[hs:lu own0 own][hl:GL G0 G]
  (h:St C n (put fr dst (.agg ⟨l⟩)) own G (iA P ops (gu Q) (HS C own0 G0) fin π)):St C n fr own G (iA P ops (gu Q) (HS C own0 G0) fin ((i,true)::π)):=dy ho (fun _ _=>BV hx hv) J hd h
def pn{cs:List Value}(ho:ops[i]? =some ⟨dst, .load t x,ty',pos,af,none⟩)(hx:aB fr x=some (.pointer (some ⟨b,off,none⟩)))[hw:iB own0 b cs ty lo][j' P t](hv:cs[off]? =some v)(hd:ce n dst=true)[hs:lu own0 own][hl:GL G0 G]
  (h:St C n (put fr dst v) own G (iA P ops (gu Q) (HS C own0 G0) fin π)):St C n fr own G (iA P ops (gu Q) (HS C own0 G0) fin ((i,true)::π)):=dy ho (fun _ _=>n8 hx hv) J hd h
def uN(ho:ops[i]? =some o){b:Bool}(hg:o.guard=some (j,b))(hj:(ops[j]?).bind (·.dst)=some d)(hlk:iq fr d=some (.bool b))(hy: ∀G':Gh,[GE G0 G']->Yd P C fr own0 G' o v)(hd:ce n o.dst=true)[hs:lu own0 own][hl:GL G0 G]
  (h:St C n (put fr o.dst v) own G (iA P ops (gu Q) (HS C own0 G0) fin π)):St C n fr own G (iA P ops (gu Q) (HS C own0 G0) fin ((i,true)::π)):=
 fun a w rl=>⟨o,v,ho,⟨G,hl.le,rl.h.drop hs.s⟩, .inl ⟨by simp[Region.wanted,hg,Gv rl.fr hj hlk],fun w' ⟨G',hle,hr⟩=> @hy G' ⟨hle⟩ a w' rl.fr hr⟩,h _ _ (rl.put v hd)⟩
def dc(ho:ops[i]? =some o)(hg:o.guard=none)(hc:Ch P C n fr own G o (fun a w=>(fin i=true\/HS C own0 G0 w)/\iA P ops (gu Q) (HS C own0 G0) fin π a w)):St C n fr own G (iA P ops (gu Q) (HS C own0 G0) fin ((i,false)::π)):=by
 intro a w rl;show wpOp P ops (gu Q) i _ a w;unfold wpOp;simp only[ho,Region.wanted,hg,if_true];exact .inl (hc a w _ rl)
def dn(h:St C n fr own G (Q .normal)):St C n fr own G (iA P ops (gu Q) (HS C own0 G0) fin []):=h
def ve{cs:List Value}[h:r8 A b cs][k:GL A G]:G b=some cs:=k.le _ _ h.h
variable {r:List Oper}
def sm(hx:aB fr x=some v)(hd:ce n dst=true)(h:St C n (put fr dst v) own G (c9 P ops Q r)):St C n fr own G (c9 P ops Q (⟨dst, .move x,ty',pos,af,none⟩::r)):=pu (ly hx) J hd h
def sa(hx:aB fr x=some v)(hd:ce n dst=true)(h:St C n (put fr dst v) own G (c9 P ops Q r)):St C n fr own G (c9 P ops Q (⟨dst, .assign x,ty',pos,af,none⟩::r)):=pu (Ft hx) J hd h
def sn{ad:Addr}(hx:aB fr x=some (.pointer (some ad)))(hd:ce n dst=true)(h:St C n (put fr dst (.pointer (some ad))) own G (c9 P ops Q r)):St C n fr own G (c9 P ops Q (⟨dst, .nilCheck x,ty',pos,af,none⟩::r)):=pu (m8 hx) J hd h
def sf{o:Nat}[hF:kE P t f off](hx:aB fr x=some (.pointer (some ⟨b,o,none⟩)))(hd:ce n dst=true)(h:St C n (put fr dst (.pointer (some ⟨b,o+off,none⟩))) own G (c9 P ops Q r)):St C n fr own G (c9 P ops Q (⟨dst, .fieldAddr t x f,ty',pos,af,none⟩::r)):=pu (qA hx) J hd h
def Df{cs:List Value}(hx:aB fr x=some (.pointer (some ⟨b,off,none⟩)))[ho:iB own b cs ty lo][ks P t k](hl:cx cs off k=some l)(hd:ce n dst=true)
  (h:St C n (put fr dst (.agg ⟨l⟩)) own G (c9 P ops Q r)):St C n fr own G (c9 P ops Q (⟨dst, .load t x,ty',pos,af,none⟩::r)):=pu (BV hx hl) J hd h
def mF{cs:List Value}(hx:aB fr x=some (.pointer (some ⟨b,off,none⟩)))[ho:iB own b cs ty lo][j' P t](hl:cs[off]? =some v)(hd:ce n dst=true)
  (h:St C n (put fr dst v) own G (c9 P ops Q r)):St C n fr own G (c9 P ops Q (⟨dst, .load t x,ty',pos,af,none⟩::r)):=pu (n8 hx hl) J hd h
def YR{cs:List Value}(hx:aB fr x=some (.pointer (some ⟨b,off,none⟩)))[hg:r8 A b cs][hk:GL A G][ks P t k](hl:cx cs off k=some l)(hd:ce n dst=true)
  (h:St C n (put fr dst (.agg ⟨l⟩)) own G (c9 P ops Q r)):St C n fr own G (c9 P ops Q (⟨dst, .load t x,ty',pos,af,none⟩::r)):=pu (CG hx (hk.le _ _ hg.h) hl) J hd h
def Vt{cs:List Value}(hx:aB fr x=some (.pointer (some ⟨b,off,none⟩)))[hg:r8 A b cs][hk:GL A G][j' P t](hl:cs[off]? =some v)(hd:ce n dst=true)
  (h:St C n (put fr dst v) own G (c9 P ops Q r)):St C n fr own G (c9 P ops Q (⟨dst, .load t x,ty',pos,af,none⟩::r)):=pu (qD hx (hk.le _ _ hg.h) hl) J hd h
def sP[hT:cw P t e s by_](hx:aB fr x=some (.slice ad len cap))(hd:ce n dst=true)
  (h:St C n (put fr dst (.int .i64 len)) own G (c9 P ops Q r)):St C n fr own G (c9 P ops Q (⟨dst, .call ⟨.builtin .len, #[x], #[t]⟩,ty',pos,af,none⟩::r)):=pu (uV hx) J hd h
def sx{vs:Array Value}(hx:aB fr x=some (.tuple vs))(hv:vs[i]? =some v)(hd:ce n dst=true)(h:St C n (put fr dst v) own G (c9 P ops Q r)):St C n fr own G (c9 P ops Q (⟨dst, .extract x i,ty',pos,af,none⟩::r)):=pu (wi hx hv) J hd h
def Dd{own:List aA}{id:Nat}(h:St C n fr own G (Q (.exit id))):St C n fr own G (Exit.then K Q (.exit id)):=h
def fA{b:Bool}(hj:(ops[j]?).bind (·.dst)=some d)(hl:iq fr d=some (.bool b))(hy:Yd P C fr own G ⟨dst,op,ty',pos,af,some (j,b)⟩ v)(hd:ce n dst=true)(h:St C n (put fr dst v) own G (c9 P ops Q r)):St C n fr own G (c9 P ops Q (⟨dst,op,ty',pos,af,some (j,b)⟩::r)):=T3 J hj hl hy hd h
def ss{b:Bool}(hj:(ops[j]?).bind (·.dst)=some d)(hl:iq fr d=some (.bool c))(hbc:(c==b)=false)(hd:ce n dst=true)(h:St C n (put fr dst undef) own G (c9 P ops Q r)):St C n fr own G (c9 P ops Q (⟨dst,op,ty',pos,af,some (j,b)⟩::r)):=ZV J hj hl hbc hd h
def sy(hy:Yd P C fr own G ⟨dst,op,ty',pos,af,none⟩ v)(hd:ce n dst=true)(h:St C n (put fr dst v) own G (c9 P ops Q r)):St C n fr own G (c9 P ops Q (⟨dst,op,ty',pos,af,none⟩::r)):=pu hy J hd h
def sc{op:Op}(hc:Ch P C n fr own G ⟨dst,op,ty',pos,af,none⟩ (c9 P ops Q r)):St C n fr own G (c9 P ops Q (⟨dst,op,ty',pos,af,none⟩::r)):=Z' J hc
end
def Fn.of_calls{f:FuncId}{vs:List Value}(ha:rB P f)(h: ∀w,Calls P f ⟨vs⟩ w fun e w'=>e= .returned v/\w'=w):Fn P f vs G (fun u _=>u=v):=
 ⟨ha,fun w hw=>(h w).mono fun e w' ⟨he,hww⟩=>⟨v,G,he,by
  subst hww;exact⟨J,J,J,bW _,fun _ _ _=>J,hw,bI.refl _,fun _ _=>J,fun o ho=>(by cases ho), .nil,bW _,fun p hp=>by cases hp⟩,J⟩⟩
end Go.Sx
end
section
namespace Go.Sx
open Go Go.Proofs Tryz
instance:j' prog 3:=⟨fun _=>by kernel_rfl,fun _=>by kernel_rfl⟩
instance:gj prog 3 (.int .i64 0):=⟨by kernel_rfl⟩
instance:j' prog 4:=⟨fun _=>by kernel_rfl,fun _=>by kernel_rfl⟩
instance:gj prog 4 (.bool false):=⟨by kernel_rfl⟩
instance:j' prog 29:=⟨fun _=>by kernel_rfl,fun _=>by kernel_rfl⟩
instance:cw prog 29 105 8 112:=⟨by kernel_rfl,by kernel_rfl⟩
instance:jn prog 29:=⟨105,by kernel_rfl⟩
instance:ks prog 31 2:=⟨fun _=>by kernel_rfl,fun _=>by kernel_rfl⟩
instance:gj prog 31 (.agg ⟨[.int .i64 0, .slice none 0 0]⟩):=⟨by kernel_rfl⟩
instance:kE prog 31 0 0:=⟨fun _ _ _=>by kernel_rfl⟩
instance:kE prog 31 1 1:=⟨fun _ _ _=>by kernel_rfl⟩
instance:ks prog 55 6:=⟨fun _=>by kernel_rfl,fun _=>by kernel_rfl⟩
instance:gj prog 55 (.agg ⟨[.bool false, .slice none 0 0, .bool false, .slice none 0 0, .bool false, .slice none 0 0]⟩):=⟨by kernel_rfl⟩
instance:cw prog 73 208 1 4:=⟨by kernel_rfl,by kernel_rfl⟩
instance:jn prog 73:=⟨208,by kernel_rfl⟩
instance:gj prog 89 (.agg ⟨[.bool false, .bool false, .bool false, .slice none 0 0, .bool false, .slice none 0 0, .bool false, .slice none 0 0, .pointer none, .pointer none]⟩):=⟨by kernel_rfl⟩
instance:An prog 89 [(0,1),(1,1),(2,6),(8,1),(9,1)]:=⟨_,fun _=>HP underlying89 _,fun _=>by kernel_rfl⟩
instance:ks prog 103 6:=⟨fun _=>by kernel_rfl,fun _=>by kernel_rfl⟩
instance:ks prog 105 8:=⟨fun _=>by kernel_rfl,fun _=>by kernel_rfl⟩
instance:gj prog 105 (.agg ⟨[.bool false, .slice none 0 0, .bool false, .slice none 0 0, .bool false, .slice none 0 0, .int .i64 0, .int .i64 0]⟩):=⟨by kernel_rfl⟩
instance:kE prog 105 0 0:=⟨fun _ _ _=>by kernel_rfl⟩
instance:kE prog 105 1 6:=⟨fun _ _ _=>by kernel_rfl⟩
instance:kE prog 105 2 7:=⟨fun _ _ _=>by kernel_rfl⟩
instance:An prog 105 [(0,6),(6,1),(7,1)]:=⟨_,fun _=>HP underlying105 _,fun _=>by kernel_rfl⟩
instance:cw prog 126 220 17 128:=⟨by kernel_rfl,by kernel_rfl⟩
instance:jn prog 126:=⟨220,by kernel_rfl⟩
instance:cw prog 127 220 17 128:=⟨by kernel_rfl,by kernel_rfl⟩
instance:j' prog 152:=⟨fun _=>by kernel_rfl,fun _=>by kernel_rfl⟩
instance:gj prog 152 (.pointer none):=⟨by kernel_rfl⟩
instance:cw prog 177 152 1 8:=⟨by kernel_rfl,by kernel_rfl⟩
instance:jn prog 177:=⟨152,by kernel_rfl⟩
instance:j' prog 186:=⟨fun _=>by kernel_rfl,fun _=>by kernel_rfl⟩
instance:cw prog 186 4 1 1:=⟨by kernel_rfl,by kernel_rfl⟩
instance:gj prog 208 (.int .u32 0):=⟨by kernel_rfl⟩
instance:ks prog 213 9:=⟨fun _=>by kernel_rfl,fun _=>by kernel_rfl⟩
instance:gj prog 213 (.agg ⟨[.int .i64 0, .int .i64 0, .pointer none, .int .i64 0, .int .i64 0, .pointer none, .int .i64 0, .int .i64 0, .pointer none]⟩):=⟨by kernel_rfl⟩
instance:gj prog 258 (.agg ⟨[.slice none 0 0, .slice none 0 0, .int .i64 0, .bool false]⟩):=⟨by kernel_rfl⟩
instance:kE prog 258 0 0:=⟨fun _ _ _=>by kernel_rfl⟩
instance:kE prog 258 1 1:=⟨fun _ _ _=>by kernel_rfl⟩
instance:kE prog 258 2 2:=⟨fun _ _ _=>by kernel_rfl⟩
instance:kE prog 258 3 3:=⟨fun _ _ _=>by kernel_rfl⟩
instance:An prog 258 [(0,1),(1,1),(2,1),(3,1)]:=⟨_,fun _=>HP underlying258 _,fun _=>by kernel_rfl⟩
instance:j' prog 275:=⟨fun _=>by kernel_rfl,fun _=>by kernel_rfl⟩
instance:gj prog 275 (.nilFunc):=⟨by kernel_rfl⟩
instance:kE prog 277 0 0:=⟨fun _ _ _=>by kernel_rfl⟩
instance:kE prog 277 1 9:=⟨fun _ _ _=>by kernel_rfl⟩
instance:kE prog 277 2 10:=⟨fun _ _ _=>by kernel_rfl⟩
instance:kE prog 277 3 11:=⟨fun _ _ _=>by kernel_rfl⟩
def follows:prog.follows .mixedOrders=true:=by kernel_rfl
end Go.Sx
end
section
namespace Go.Sx
def dv:List Nat->Nat
 |[]=>0
 |d::t=>d+4294967296*dv t
def bD(ds:List Nat):Prop:= ∀d∈ds,d<4294967296
def e7(ds:List Nat):Prop:=ds.getLast? ≠some 0
instance (ds:List Nat):Decidable (e7 ds):=inferInstanceAs (Decidable (ds.getLast? ≠some 0))
def bD.nil:bD []:=fun _ h=>by cases h
def bD.cons{d:Nat}{ds:List Nat}(h:d<4294967296)(k:bD ds):bD (d::ds):=fun x hx=>by
 rcases aW.1 hx with rfl|h'
 .exact h
 .exact k _ h'
def bD.head{d:Nat}{ds:List Nat}(h:bD (d::ds)):d<4294967296:=h d aQ
def bD.tail{d:Nat}{ds:List Nat}(h:bD (d::ds)):bD ds:=fun x hx=>h x (aJ _ hx)
def bD.append{a b:List Nat}(h:bD a)(k:bD b):bD (a++b):=fun x hx=>by
 rcases bJ.1 hx with h'|h'
 .exact h _ h'
 .exact k _ h'
def bD.take{a:List Nat}(h:bD a)(n:Nat):bD (a.take n):=fun x hx=>h x (eM hx)
def bD.drop{a:List Nat}(h:bD a)(n:Nat):bD (a.drop n):=fun x hx=>h x (gW hx)
def bD.get{a:List Nat}(h:bD a)(i:Nat):a.getD i 0<4294967296:=by
 rw[aV]
 cases hi:a[i]? with
 |none=>simp
 |some d=>exact h d (aK hi)
def bD.set{a:List Nat}(h:bD a)(i:Nat){d:Nat}(hd:d<4294967296):bD (a.set i d):=fun x hx=>by
 rcases qQ hx with h'|rfl
 .exact h _ h'
 .exact hd
def bD.replicate(n:Nat):bD (List.replicate n 0):=fun x hx=>by
 rw[List.eq_of_mem_replicate hx];omega
def ya(a b:List Nat):dv (a++b)=dv a+4294967296^a.length*dv b:=by
 induction a with
 |nil=>simp[dv]
 |cons d t ih=>
  simp only[gN,dv,ih,bZ,gT];rw[fQ,<-lX,<-cW,cK 4294967296 (4294967296^t.length)]
def l7{ds:List Nat}(h:bD ds):dv ds<4294967296^ds.length:=by
 induction ds with
 |nil=>simp[dv]
 |cons d t ih=>
  have h1:=h.head;have h2:=ih h.tail;simp only[dv,bZ,gT];omega
def wM(n:Nat):dv (List.replicate n 0)=0:=by
 induction n with
 |zero=>rfl
 |succ n ih=>simp[tJ,dv,ih]
def n4(ds:List Nat)(i:Nat):dv (ds.take (i+1))=dv (ds.take i)+4294967296^i*ds.getD i 0:=by
 by_cases h:i<ds.length
 .rw[iJ h,ya]
  simp[dv,jN (gK h),aV,h]
 .have:ds.getD i 0=0:=by rw[aV,eK (by omega)];rfl
  rw[this,cX (by omega),cX (by omega)];simp
def A9(ds:List Nat)(i:Nat)(h:i<=ds.length:=by omega):dv ds=dv (ds.take i)+4294967296^i*dv (ds.drop i):=by
 have:=ya (ds.take i) (ds.drop i);rw[kX] at this;rw[this];simp[jN h]
def trimD:List Nat->List Nat
 |[]=>[]
 |d::t=>match trimD t with
  |[]=>if d=0 then [] else [d]
  |t'=>d::t'
def wj(d:Nat)(t:List Nat):trimD (d::t)=if trimD t=[]/\d=0 then [] else d::trimD t:=by
 simp only[trimD]
 cases h:trimD t with
 |nil=>by_cases hd:d=0<;>simp[hd]
 |cons a b=>simp
def aya(ds:List Nat):dv (trimD ds)=dv ds:=by
 induction ds with
 |nil=>rfl
 |cons d t ih=>
  rw[wj];split
  .rename_i h
   rw[h.1] at ih;simp[dv,<-ih,h.2]
  .simp[dv,ih]
def Zt(ds:List Nat):trimD (ds++[0])=trimD ds:=by
 induction ds with
 |nil=>rfl
 |cons d t ih=>rw[gN,wj,wj,ih]
def Kz{ds:List Nat}{d:Nat}(h:d≠0):trimD (ds++[d])=ds++[d]:=by
 induction ds with
 |nil=>simp[trimD,h]
 |cons e t ih=>rw[gN,wj,ih];simp
def e7.trimD(ds:List Nat):e7 (trimD ds):=by
 induction ds with
 |nil=>simp[e7,Sx.trimD]
 |cons d t ih=>
  rw[wj];split
  .simp[e7]
  .rename_i h
   unfold e7 at*;rw[List.getLast?_cons]
   cases ht:(Sx.trimD t).getLast? with
   |none=>
    have:Sx.trimD t=[]:=by simpa using ht
    simp only[Option.getD_none,ne_eq,Option.some.injEq];exact fun hd=>h ⟨this,hd⟩
   |some x=>rw[ht] at ih;simpa using ih
def Ui(ds:List Nat):(trimD ds).length<=ds.length:=by
 induction ds with
 |nil=>simp[trimD]
 |cons d t ih=>
  rw[wj];split
  .simp
  .simp;omega
def Zu(ds:List Nat):trimD ds=ds.take (trimD ds).length:=by
 induction ds with
 |nil=>rfl
 |cons d t ih=>
  rw[wj];split
  .rfl
  .simp only[bZ,oV];rw[<-ih]
def bD.trimD{ds:List Nat}(h:bD ds):bD (trimD ds):=by rw[Zu];exact h.take _
def auh{ds:List Nat}(h:e7 ds):trimD ds=ds:=by
 rcases nS ds with rfl|⟨l,d,rfl⟩
 .rfl
 .rw[nL] at*
  exact Kz (fun e=>by subst e;simp[e7] at h)
def wJ{ds:List Nat}(h:e7 ds)(hne:ds≠[]):4294967296^(ds.length-1)<=dv ds:=by
 rcases nS ds with rfl|⟨l,d,rfl⟩
 .exact absurd J hne
 .rw[nL] at*
  have hd:d≠0:=fun e=>by subst e;simp[e7] at h
  rw[ya];simp only[aY,bZ,eY,dv];have:4294967296^(l.length+(0+1)-1)=4294967296^l.length:=by congr 1
  rw[this];have h1:4294967296^l.length*1<=4294967296^l.length*(d+4294967296*0):=fR _ (by omega);omega
def yg{a b:List Nat}(ha:bD a)(hb:e7 b)(h:a.length<b.length):dv a<dv b:=by
 have h1:=l7 ha;have h2:=wJ hb (fun e=>by subst e;simp at h);have h3:4294967296^a.length<=4294967296^(b.length-1):=bY (by omega) (by omega);omega
def O': ∀{a b:List Nat},bD a->bD b->a.length=b.length->dv a=dv b->a=b
 |[],[],_,_,_,_=>rfl
 |d::t,e::u,ha,hb,hl,h=>by
  have h1:=ha.head;have h2:=hb.head;simp only[dv] at h;have:d=e:=by omega
  subst this;rw[O' ha.tail hb.tail (by simpa using hl) (by omega)]
def XN{a b:List Nat}(ha:bD a)(hb:bD b)(na:e7 a)(nb:e7 b)(h:dv a=dv b):a=b:=by
 refine O' ha hb ?_ h;rcases rL a.length b.length with h'|h'|h'
 .have:=yg ha nb h';omega
 .exact h'
 .have:=yg hb na h';omega
def L6{a b:List Nat}(ha:bD a)(hb:bD b)(i:Nat)(hia:i<a.length)(hib:i<b.length)(hl:a.length=b.length)(hs:a.drop (i+1)=b.drop (i+1))(h:a.getD i 0<b.getD i 0):dv a<dv b:=by
 rw[A9 a (i+1),A9 b (i+1),hs,n4,n4];have h1:=l7 (ha.take i);rw[bT,jN (by omega)] at h1;have h2:4294967296^i*(a.getD i 0+1)<=4294967296^i*b.getD i 0:=fR _ h;rw[fQ] at h2;omega
def aCW{ds:List Nat}{k:Nat}(h:e7 ds)(hk:dv ds<2^k):32*ds.length<=k+31:=by
 by_cases hne:ds=[]
 .subst hne;simp
 .have h1:=wJ h hne
  have h2:(4294967296:Nat)^(ds.length-1)=2^(32*(ds.length-1)):=by
   rw[tN]
  rw[h2] at h1;have h3:2^(32*(ds.length-1))<2^k:=dR h1 hk;have h4:=(oJ (by omega:1<2)).1 h3;have:0<ds.length:=by cases ds with|nil=>exact absurd J hne|cons _ _=>simp
  omega
def dg(x:Nat):List Nat:=if h:x=0 then [] else(x%4294967296)::dg (x/4294967296)
termination_by x
decreasing_by omega
def fI(x:Nat):dv (dg x)=x/\bD (dg x)/\e7 (dg x):=by
 induction x using Nat.strongRecOn with
 |_ x ih=>
  unfold dg;split
  .rename_i h;subst h;exact⟨rfl, .nil,by simp[e7]⟩
  .rename_i h
   obtain⟨h1,h2,h3⟩:=ih (x/4294967296) (by omega);refine⟨by rw[dv,h1];omega, .cons (by omega) h2,?_⟩;unfold e7 at*;rw[List.getLast?_cons]
   cases hl:(dg (x/4294967296)).getLast? with
   |none=>
    have:dg (x/4294967296)=[]:=by simpa using hl
    rw[this] at h1;simp only[Option.getD_none,ne_eq,Option.some.injEq];simp only[dv] at h1;omega
   |some y=>rw[hl] at h3;simpa using h3
def aHR{ds:List Nat}(h:bD ds)(n:e7 ds):dg (dv ds)=ds:=XN (fI _).2.1 h (fI _).2.2 n (fI _).1
def Cn{ds:List Nat}(h:bD ds):dg (dv ds)=trimD ds:=by rw[<-aya];exact aHR h.trimD (e7.trimD _)
def vS: ∀(ws:List Nat) (j d:Nat),j<ws.length->dv (ws.set j d)+4294967296^j*ws.getD j 0=dv ws+4294967296^j*d
 |[],j,d,h=>by simp at h
 |w::t,0,d,h=>by simp[dv];omega
 |w::t,j+1,d,h=>by
  have ih:=vS t j d (by simpa using h);simp only[List.set_cons_succ,dv,oW,gT];have h1:4294967296^j*4294967296*t.getD j 0=4294967296*(4294967296^j*t.getD j 0):=by rw[cK (4294967296^j),cW]
  have h2:4294967296^j*4294967296*d=4294967296*(4294967296^j*d):=by rw[cK (4294967296^j),cW]
  rw[h1,h2];omega
def vV{ws:List Nat}{k d:Nat}(h:k<ws.length:=by omega):dv ((ws.set k d).take (k+1))=dv (ws.take k)+4294967296^k*d:=by
 rw[iJ (by simpa using h),List.take_set_of_le (bW _),ya];simp[dv,jN (gK h)]
def SP(p x:Nat):p*x=p*(x%4294967296)+p*4294967296*(x/4294967296):=by
 have h:p*x=p*(4294967296*(x/4294967296)+x%4294967296):=by rw[qN]
 rw[fQ,<-cW] at h;omega
def aze{p A E W c a b:Nat}(h:W+p*c=A+E):(W+p*((c+a+b)%4294967296))+(p*4294967296)*((c+a+b)/4294967296)=(A+p*a)+(E+p*b):=by
 have h1:=SP p (c+a+b);rw[fQ,fQ] at h1;omega
def ZN{p A E W bo b a:Nat}(h:W+E=A+p*bo)(hle:bo+b<=a):(W+p*(a-(bo+b)))+(E+p*b)=(A+p*a)+p*4294967296*0:=by
 have h1:p*a=p*(a-(bo+b))+p*bo+p*b:=by
  rw[<-fQ,<-fQ];congr 1;omega
 omega
def aDP{p A E W bo b a:Nat}(h:W+E=A+p*bo)(hle:a<bo+b)(hb:bo+b<=a+4294967296):(W+p*(a+4294967296-(bo+b)))+(E+p*b)=(A+p*a)+p*4294967296*1:=by
 have h1:p*a+p*4294967296=p*(a+4294967296-(bo+b))+p*bo+p*b:=by
  rw[<-fQ,<-fQ,<-fQ];congr 1;omega
 omega
def XB{p W W' T c m w:Nat}(hs:W'+p*w=W+p*((c+m+w)%4294967296))(h:W+p*c=T):W'+(p*4294967296)*((c+m+w)/4294967296)=T+p*m:=by
 have h1:=SP p (c+m+w);rw[fQ,fQ] at h1;omega
end Go.Sx
end
section
namespace Go.Sx
open Go
variable {A G:Gh}{s e by_ b:Nat}{es l:List Value}{P:Program}{C:aF}{fr:Fr}{own':List aA}{Φ:Act->World->Prop}{dst:Option Nat}{t t' ty':TypeId}{pos:String}{af:Array Edge}{y:Operand}{k k':IntKind}{i p q:Int}{ds:List Nat}
structure SV where
 a:Option Addr
 n:Nat
 c:Nat
variable {x z:SV}
def SV.v(x:SV):Value:= .slice x.a x.n x.c
structure gg (G:Gh) (s:Nat) (x:SV) (es:List Value):Prop where
 len:x.n=es.length
 cap:x.n<=x.c
 mem:es=[]\/ ∃b off cs,x.a=some ⟨b,off,none⟩/\G b=some cs/\ ∀i (h:i<es.length),cx cs (off+i*s) s=some (aG es[i])
def gg.up'(h:gg A s x es)(k:bI A G):gg G s x es:=
 ⟨h.len,h.cap,h.mem.imp id (fun⟨b,off,cs,h1,h2,h3⟩=>⟨b,off,cs,h1,k _ _ h2,h3⟩)⟩
def gg.up(h:gg A s x es)[k:GL A G]:gg G s x es:=h.up' k.le
def gg.nil(G:Gh)(s:Nat):gg G s ⟨none,0,0⟩ []:=⟨J,bW _, .inl J⟩
def BT(a:Option Addr)(k:Nat):Option Addr:=a.map (·.add k)
section
variable {n:Nat}{own:List aA}
variable {gd:Option (Nat×Bool)}{x:Operand}
def UH[hT:cw P t e s by_](hs:gg A s z es)(hx:aB fr x=some (.slice z.a z.n z.c))(hy:aB fr y=some (.int k i))(h0:0<=i)(h1:i<z.n):
  Yd P C fr own G ⟨dst, .indexAddr t x y,ty',pos,af,gd⟩ (.pointer (BT z.a (i.toNat*s))):=by
 rcases hs.mem with h|⟨b,off,cs,ha,hg,hc⟩
 .have:=hs.len;rw[h] at this;simp at this;omega
 .rw[ha] at hx
  have:=vw (P:=P) (C:=C) (own:=own) (G:=G) (t:=t) (dst:=dst) (ty':=ty') (pos:=pos) (af:=af) (gd:=gd) (by_:=by_) hx hy h0 h1;rw[ha];simpa[BT,rG] using this
def VR[hA:ks P t s]{i:Nat}(hs:gg A s z es)[hl:GL A G](hx:aB fr x=some (.pointer (BT z.a (i*s))))(h1:i<es.length)(he:es[i]? =some (.agg ⟨l⟩)):
  Yd P C fr own G ⟨dst, .load t x,ty',pos,af,gd⟩ (.agg ⟨l⟩):=by
 rcases hs.mem with h|⟨b,off,cs,ha,hg,hc⟩
 .rw[h] at h1;simp at h1
 .rw[ha] at hx
  have h2:=hc i h1;rw[aZ h1] at he;have he':es[i]= .agg ⟨l⟩:=by simpa using he
  rw[he'] at h2;exact CG (by simpa[BT,rG] using hx) (hl.le _ _ hg) h2
end
def dI(d:Nat):Value:= .int .u32 (d:Int)
structure mz (G:Gh) (x:SV) (ds:List Nat):Prop where
 ok:bD ds
 sl:gg G 1 x (ds.map dI)
def mz.len{G:Gh}{x:SV}{ds:List Nat}(h:mz G x ds):x.n=ds.length:=by simpa using h.sl.len
def mz.up{A G:Gh}{x:SV}{ds:List Nat}(h:mz A x ds)[k:GL A G]:mz G x ds:=⟨h.ok,h.sl.up⟩
def mz.nil(G:Gh):mz G ⟨none,0,0⟩ []:=⟨.nil, .nil G 1⟩
def mz.of_block{c k:Nat}{cs:List Value}(ok:bD ds)(hg:G b=some cs)(hk:k=ds.length)(hc:k<=c)(hcs:cs.take ds.length=ds.map dI):mz G ⟨some ⟨b,0,none⟩,k,c⟩ ds:=by
 refine⟨ok,by simpa using hk,hc, .inr ⟨b,0,cs,J,hg,fun i hi=>?_⟩⟩;have hi':i<ds.length:=by simpa using hi
 have hl:ds.length<=cs.length:=by
  have:=congrArg List.length hcs;simp at this;omega
 rw[kH _ _ _ (by omega)];congr 1;have h1:(cs.take ds.length)[i]? =(ds.map dI)[i]? :=by rw[hcs]
 rw[oM,if_pos hi',cR,aZ hi',aZ (by omega)] at h1;have h2:cs[i]=dI ds[i]:=by simpa using h1
 rw[eJ,jX,bX (by omega),oV,tM,h2,pS];rfl
structure Bs (k:Nat) (G:Gh) (x:SV) (v:Nat):Prop where
 d:mz G x (dg v)
 lt:v<2^k
def Bs.up{k:Nat}{A G:Gh}{x:SV}{v:Nat}(h:Bs k A x v)[GL A G]:Bs k G x v:=⟨h.d.up,h.lt⟩
section
variable {n:Nat}{own:List aA}
variable {gd:Option (Nat×Bool)}{x:Operand}
def aIm(h:mz A z ds)[hl:GL A G]:mm P C own G 1 z.n (.slice z.a z.n z.c) (ds.map dI):=by
 intro w hw;by_cases hne:ds=[]
 .rw[h.len]
  subst hne;exact tP w hw
 rcases h.sl.mem with h0|⟨b,off,cs,ha,hg,hc⟩
 .exact absurd (by simpa using h0) hne
 .rw[ha]
  have hn:=h.len;refine ME (hl.le _ _ hg) ?_ w hw;rw[jX];have hel: ∀i,i<ds.length->cs[off+i]? =some (dI (ds.getD i 0)):=fun i hi=>by
   have h1:=hc i (by simpa using hi);obtain⟨_,h2⟩:=qf _ _ _ _ h1;have h3:=h2 0 (by omega);rw[jX,gJ] at h3;rw[h3,pS,aV,aZ hi];rfl
  by_cases h00:ds.length=0
  .exact absurd h00 (fun e=>hne (cV e))
  .have hlast:=hel (ds.length-1) (by omega)
   have hle:off+ds.length<=cs.length:=by
    have:=(aR.1 hlast).1;omega
   rw[hn,kH _ _ _ hle];congr 1;apply lS;intro i;rw[oM];split
   .rename_i hi
    rw[mK,hel i hi,cR,aV,aZ hi];rfl
   .rename_i hi
    rw[eK (by simpa using hi)]
def t7[hT:cw P t e s by_]{len cap:Nat}(hx:aB fr x=some (.slice (some ⟨b,0,none⟩) len cap))(hy:aB fr y=some (.int k i))(h0:0<=i:=by omega)(h1:i<len:=by omega):
  Yd P C fr own G ⟨dst, .indexAddr t x y,ty',pos,af,gd⟩ (.pointer (some ⟨b,i.toNat*s,none⟩)):=by
 have:=vw (P:=P) (C:=C) (own:=own) (G:=G) (t:=t) (dst:=dst) (ty':=ty') (pos:=pos) (af:=af) (gd:=gd) (by_:=by_) hx hy h0 h1;rwa [eJ] at this
def vK(hx:aB fr x=some (.int .i64 p))(hy:aB fr y=some (.int .i64 q))(h0: -9223372036854775808<=p+q:=by omega)(h1:p+q<=9223372036854775807:=by omega):Yd P C fr own G ⟨dst, .binOp .add t x y t',ty',pos,af,gd⟩ (.int .i64 (p+q)):=N0 hx hy ⟨h0,h1⟩
def Vd(hx:aB fr x=some (.int .i64 p))(hy:aB fr y=some (.int .i64 q))(h0: -9223372036854775808<=p-q:=by omega)(h1:p-q<=9223372036854775807:=by omega):Yd P C fr own G ⟨dst, .binOp .sub t x y t',ty',pos,af,gd⟩ (.int .i64 (p-q)):=LJ hx hy ⟨h0,h1⟩
def UU(hx:aB fr x=some (.int k p))(hy:aB fr y=some (.int k' q))(h0:0<=q):Yd P C fr own G ⟨dst, .binOp .shr t x y t',ty',pos,af,gd⟩ (.int k (p.fdiv (2^min q.toNat k.bits))):=by
 intro a w hf hh;simp only[execOp,bB hf hx,bB hf hy];have h1:(eqGuard .shr t x y (.int k p) (.int k' q)).run P w= .ok () w:=J;have h2:(binOp .shr t (.int k p) (.int k' q)).run P w= .ok (.int k (p.fdiv (2^min q.toNat k.bits))) w:=by
  simp[binOp,Op.shift,Int.not_lt.2 h0,run_pure]
 exact c6 (by rw[aP h1];exact h2)
def aEv(hx:aB fr x=some (.int k p))(hy:aB fr y=some (.int k' q))(h0:0<=q):Yd P C fr own G ⟨dst, .binOp .shl t x y t',ty',pos,af,gd⟩ (.int k (k.wrap (p*2^min q.toNat k.bits))):=by
 intro a w hf hh;simp only[execOp,bB hf hx,bB hf hy];have h1:(eqGuard .shl t x y (.int k p) (.int k' q)).run P w= .ok () w:=J;have h2:(binOp .shl t (.int k p) (.int k' q)).run P w= .ok (.int k (k.wrap (p*2^min q.toNat k.bits))) w:=by
  simp[binOp,Op.shift,Int.not_lt.2 h0,run_pure]
 exact c6 (by rw[aP h1];exact h2)
def so(p:Int):IntKind.u32.wrap p=p%4294967296:=by simp[IntKind.wrap,IntKind.bits,IntKind.signed]
def qz(p:Int):IntKind.u64.wrap p=p%18446744073709551616:=by simp[IntKind.wrap,IntKind.bits,IntKind.signed]
def TU[hs:vL P t k][hd:vL P t' .u32](hx:aB fr x=some (.int k p)):Yd P C fr own G ⟨dst, .convert t t' x,ty',pos,af,gd⟩ (.int .u32 (p%4294967296)):=by
 have:=Cu (P:=P) (C:=C) (own:=own) (G:=G) (dst:=dst) (ty':=ty') (pos:=pos) (af:=af) (gd:=gd) (t:=t) (t':=t') hx;rwa [so] at this
def S2(hx:aB fr x=some (.int k p))(hy:aB fr y=some (.int k q))(h0:0<=p)(h:q≠0):Yd P C fr own G ⟨dst, .binOp .rem t x y t',ty',pos,af,gd⟩ (.int k (p%q)):=by
 have:=Kv (P:=P) (C:=C) (own:=own) (G:=G) (dst:=dst) (ty':=ty') (pos:=pos) (af:=af) (gd:=gd) (t:=t) (t':=t') hx hy h;rwa [Int.tmod_eq_emod_of_nonneg h0] at this
def aDD(hx:aB fr x=some (.int .u64 p))(hy:aB fr y=some (.int .u64 q))(h0:0<=p)(h1:p<=18446744073709551615)(h:0<q):Yd P C fr own G ⟨dst, .binOp .quo t x y t',ty',pos,af,gd⟩ (.int .u64 (p/q)):=by
 have:=Ki (P:=P) (C:=C) (own:=own) (G:=G) (dst:=dst) (ty':=ty') (pos:=pos) (af:=af) (gd:=gd) (t:=t) (t':=t') hx hy (by omega);rw[Int.tdiv_eq_ediv_of_nonneg h0,qz,Int.emod_eq_of_lt (Int.ediv_nonneg h0 (by omega)) (by have:=Int.ediv_le_self q h0;omega)] at this;exact this
def O5{Q:Exit->Act->World->Prop}{p:Prop}{inst:Decidable p}{c:Operand}{x y:Code}(hc:aB fr c=some (.bool (@decide p inst)))(h2: ¬p->St C n fr own G (y.wp P Q))(h1:p->St C n fr own G (x.wp P Q)):
  St C n fr own G ((Code.cond c x y).wp P Q):=ut hc h1 h2
end
end Go.Sx
end
section
namespace Go.Sx
open Go Go.Proofs Tryz
def WU(ds:List Nat): ∀v∈ds.map dI,flat v=true:=fun v hv=>by
 obtain⟨d,_,rfl⟩:=aT.1 hv;rfl
def atz{A G:Gh}{x:SV}{ds:List Nat}(hx:mz A x ds)[GL A G](hb:ds.length<=1125899906842):Fn prog 303 [x.v] G (fun v G'=> ∃z:SV,v=z.v/\mz G' z ds):=by
 have hlen:=hx.len;refine Fn.intro func303 J J ntmps303 J ?_;intro C _ _;refine sR<|sa J J<|zE<|eO<|sR<|sm J J<|sy (Sv J J) J<|zE<|?_;refine Yq J (fun hc=>?_) (fun hc=>?_)
 .refine sR<|sa J J<|zE<|lf<|?_
  refine zD (.tmp J .nil) ⟨⟨none,0,0⟩,J,?_⟩;rcases hx.sl.mem with h|⟨b,off,cs,ha,_⟩
  .have:ds=[]:=by simpa using h
   subst this;exact .nil _
  .rw[ha] at hc;cases hc
 refine zK<|sR<|?_;refine sc (PS J ?_);intro b1;refine sm J J<|?_;refine sc (Nb (xs:=[]) (rest:=[]) (ys:=ds.map dI) J J (.hd ..) J J (bW _) (aIm hx) (by simp[hlen]) (WU ds) (by decide) (by omega) J J ?_);intro b cap rest h1 h2;refine sa J J<|zE<|AA b (.hd ..) (fun G' _ hgb=>?_);refine lf<|?_;refine zD (.tmp J .nil) ⟨⟨some ⟨b,0,none⟩,x.n,cap⟩,by simp[nv,SV.v],?_⟩;exact .of_block hx.ok hgb.h hlen (by omega) (by simp)
end Go.Sx
end
section
namespace Go.Proofs
open Go.Shelf
def Tryz.lays133_ren:Go.Shelf.Ren:=⟨fun|133=>243|128=>295|n=>n,fun|51=>208|3=>3|4=>4|46=>209|5=>5|9=>9|n=>n,fun|n=>n⟩
def Tryz.lays133:Go.Proofs.Lays.n133 Tryz.prog Tryz.lays133_ren:={
 mixed:=by kernel_rfl
 f128:=Tryz.func295.trans (congrArg some (by kernel_rfl))
 f133:=Tryz.func243.trans (congrArg some (by kernel_rfl))
 t3:=Tryz.underlying3
 a3:=Tryz.isAgg3
 z3:=Tryz.sizeOf3
 v3:=Tryz.zeroValue3
 t4:=Tryz.underlying4
 a4:=Tryz.isAgg4
 z4:=Tryz.sizeOf4
 v4:=Tryz.zeroValue4
 t5:=Tryz.underlying5
 a5:=Tryz.isAgg5
 z5:=Tryz.sizeOf5
 v5:=Tryz.zeroValue5
 t9:=Tryz.underlying9
 a9:=Tryz.isAgg9
 z9:=Tryz.sizeOf9
 v9:=Tryz.zeroValue9
 t46:=Tryz.underlying209
 a46:=Tryz.isAgg209
 z46:=Tryz.sizeOf209
 v46:=Tryz.zeroValue209
 t51:=Tryz.underlying208
 a51:=Tryz.isAgg208
 z51:=Tryz.sizeOf208
 v51:=Tryz.zeroValue208}
def Tryz.bits_LeadingZeros32(x:Int)(w:World)(h0:0<=x)(h1:x<=4294967295):
  Calls Tryz.prog 243 #[.int .u32 x] w fun e w'=>e= .returned (.int .i64 (32-(Lib.bitLen x.toNat:Int)))/\w'=w:=Any.bits_LeadingZeros32 Tryz.lays133 x w h0 h1
def Tryz.lays264_ren:Go.Shelf.Ren:=⟨fun|264=>267|n=>n,fun|53=>115|46=>209|n=>n,fun|n=>n⟩
def Tryz.lays264:Go.Proofs.Lays.n264 Tryz.prog Tryz.lays264_ren:={
 mixed:=by kernel_rfl
 f264:=Tryz.func267.trans (congrArg some (by kernel_rfl))
 t46:=Tryz.underlying209
 a46:=Tryz.isAgg209
 z46:=Tryz.sizeOf209
 v46:=Tryz.zeroValue209
 t53:=Tryz.underlying115
 a53:=Tryz.isAgg115
 z53:=Tryz.sizeOf115
 v53:=Tryz.zeroValue115}
open Go.RowKit Go.Lib in
def Tryz.bits_Mul64(x y:Nat)(hx:x<18446744073709551616)(hy:y<18446744073709551616)(w:World):
  Calls Tryz.prog 267 #[.int .u64 x, .int .u64 y] w fun e w'=>e= .returned (.tuple #[.int .u64 ((x*y/18446744073709551616:Nat):Int), .int .u64 ((x*y%18446744073709551616:Nat):Int)])/\w'=w:=Any.bits_Mul64 Tryz.lays264 x y hx hy w
end Go.Proofs
end
section
namespace Go.Sx
open Go Go.Proofs Tryz
variable {x k n:Nat}{P:Program}{G:Gh}{q:Int}
def bl(x:Nat):Nat:=if x=0 then 0 else Nat.log2 x+1
def Dv(x:Nat):x<2^bl x:=by
 unfold bl;split
 .rename_i h;subst h;decide
 .exact Nat.lt_log2_self
def nH{x k:Nat}:bl x<=k↔x<2^k:=by
 constructor
 .intro h;exact cM (Dv x) (bY (by omega) h)
 .intro h
  unfold bl;split
  .omega
  .rename_i h0
   have:=(Nat.log2_lt h0).2 h;omega
def Wp(h:x≠0):bl x=1+bl (x/2):=by
 have h1: ∀k,bl x<=k+1↔bl (x/2)<=k:=fun k=>by
  rw[nH,nH,gT];omega
 have h2:bl x≠0:=fun e=>by
  have:=Dv x;rw[e] at this;simp at this;exact h this
 have h3:=(h1 (bl (x/2))).2 (bW _);have h4:=(h1 (bl x-1)).1 (by omega);omega
def Kq: ∀(f x:Nat),x<2^f->Lib.bitLenAux f x=bl x
 |0,x,h=>by
  have:x=0:=by simpa using h
  subst this;rfl
 |f+1,x,h=>by
  unfold Lib.bitLenAux;split
  .rename_i h0;subst h0;rfl
  .rename_i h0
   rw[Kq f (x/2) (by rw[gT] at h;omega),Wp h0]
def Td(h:x<2^64):Lib.bitLen x=bl x:=Kq 64 x h
def X6(d:Nat)(h:x<2^k)(hd:d≠0):bl (x+2^k*d)=k+bl d:=by
 have h1: ∀j,bl (x+2^k*d)<=k+j↔bl d<=j:=fun j=>by
  rw[nH,nH,fZ];constructor
  .intro h'
   exact Nat.lt_of_mul_lt_mul_left (a:=2^k) (by omega)
  .intro h'
   have:2^k*(d+1)<=2^k*2^j:=fR _ h';rw[fQ] at this;omega
 have h2:k<bl (x+2^k*d):=by
  rcases jK k (bl (x+2^k*d)) with h'|h'
  .exact h'
  .have:=nH.1 h'
   have h3:2^k*1<=2^k*d:=fR _ (by omega);omega
 have h3:=(h1 (bl d)).2 (bW _);have h4:=(h1 (bl (x+2^k*d)-k)).1 (by omega);omega
def aIQ{ds:List Nat}(h:bD ds)(hn:e7 ds)(hne:ds≠[]):bl (dv ds)=32*(ds.length-1)+bl (ds.getD (ds.length-1) 0):=by
 rcases nS ds with rfl|⟨l,d,rfl⟩
 .exact absurd J hne
 .rw[nL] at*
  have hd:d≠0:=fun e=>by subst e;simp[e7] at hn
  have hl:bD l:=fun x hx=>h x (bR _ hx);have h1:=l7 hl;rw[ya];have h2:(4294967296:Nat)^l.length=2^(32*l.length):=by rw[tN]
  rw[h2] at h1⊢;have h3:dv [d]=d:=by simp[dv]
  rw[h3,X6 d h1 hd];have h4:(l++[d]).length-1=l.length:=by simp
  rw[h4,aV,jU (bW _)];simp
def N6{f:FuncId}{fn:Func}{c:Code}(h:P.funcs[f]? =some fn)(hb:fn.body=some c)(hn:(fn.name== "runtime.NumGoroutine")=false):rB P f:=⟨fn,h,hn,by rw[hb];rfl⟩
def TX(hx:x<4294967296):Fn prog 243 [.int .u32 (x:Int)] G (fun v _=>v= .int .i64 (32-(bl x:Int))):=by
 have h:=Fn.of_calls (G:=G) (N6 func243 J J) (fun w=>Tryz.bits_LeadingZeros32 (x:Int) w (by omega) (by omega));rw[bM,Td (tU hx (by decide))] at h;exact h
def iE(a b:Nat):Int:=if a<b then-1 else if a=b then 0 else 1


def po(d k:Nat)(hk:k<64)(h:d*2^k<18446744073709551616)(hq:q.toNat=k:=by omega):IntKind.u64.wrap ((d:Int)*2^min q.toNat IntKind.u64.bits)=((d*2^k:Nat):Int):=by
 rw[hq,jN (by show k<=64;omega),qz];have e2:(d:Int)*2^k=((d*2^k:Nat):Int):=by push_cast;rfl
 rw[e2];omega
def Qu(d k:Nat)(hk:k<64:=by omega)(hq:q.toNat=k:=by omega):(d:Int).fdiv (2^min q.toNat IntKind.u64.bits)=((d/2^k:Nat):Int):=by
 rw[hq,jN (by show k<=64;omega),kY _ (pL (Int.pow_pos (by decide)))];push_cast;rfl
section
variable {C:aF}{fr:Fr}{own:List aA}{dst:Option Nat}{t t1 t2 ty':TypeId}{pos:String}{af:Array Edge}{gd:Option (Nat×Bool)}{x y:Operand}
end
end Go.Sx
end
section
namespace Go.Sx
def wF(i:Nat):(4294967296:Nat)^(i+1)=4294967296^i*4294967296:=gT ..
def SZ{U p V T S first third:Nat}(hU:U<(first*4294967296+third+1)*p)(h3:third<4294967296)(hV:(T*4294967296+S)*p<=V)(hT:0<T):
  U<(first/T+1)*V:=by
 have h1:first+1<=(first/T+1)*T:=by
  have:=Nat.lt_mul_div_succ first hT
  rw[cK];omega
 calc U<(first*4294967296+third+1)*p:=hU
  _<=((first+1)*4294967296)*p:=bS _ (by omega)
  _<=(((first/T+1)*T)*4294967296)*p:=bS _ (bS _ h1)
  _=(first/T+1)*((T*4294967296)*p):=by rw[cW (first/T+1),cW (first/T+1)]
  _<=(first/T+1)*V:=fR _ (cN (bS _ (oU _ _)) hV)
def aKe{U p V T S first third v0:Nat}(hU:(first*4294967296+third)*p<=U)(hV:V=(T*4294967296+S)*p+v0)(hv:v0<p)(hlt:U<V*4294967296):first<=T*4294967296+S:=by
 rcases jK (T*4294967296+S) first with h|h
 .exfalso
  have h1:(T*4294967296+S+1)*p<=first*p:=bS p h
  rw[dY _ 1,nJ] at h1;rw[dY,nW] at hU;have:0<=third*p:=aM _;omega
 .exact h
def H6{U p V T S first third g r:Nat}(hU:U<(first*4294967296+third+1)*p)(hV:(T*4294967296+S)*p<=V)(hg:first=g*T+r)(hc:r*4294967296+third<g*S:=by omega):U<g*V:=by
 refine cM hU (cN (bS p (m:=g*(T*4294967296+S)) ?_) ?_)
 .rw[fQ,<-cW,hg,dY];omega
 .rw[cW];exact fR _ hV
def Hg{U p V T S first third g r v0:Nat}(hU:(first*4294967296+third)*p<=U)(hV:V=(T*4294967296+S)*p+v0)(hv:v0<p)(hT:0<T)(hg:first=g*T+r)(hgB:g<4294967296)(hc:g*S<=r*4294967296+third):g*V<U+V:=by
 have h1:g*((T*4294967296+S)*p)<=U:=by
  rw[<-cW];refine cN (bS p ?_) hU;rw[fQ,<-cW,hg,dY];omega
 have h2:g*v0<=4294967295*v0:=bS _ (by omega);have h3:4294967296*p<=V:=by
  rw[hV];refine cN (bS p ?_) (oU _ _);omega
 have h4:g*V=g*((T*4294967296+S)*p)+g*v0:=by rw[<-fQ,<-hV]
 omega
def aDK{U V R g:Nat}(h:U<(g+1)*V)(hr:R+g*V=U):R<V:=by
 rw[dY,nJ] at h;omega
def aBB{U V R R' g w M:Nat}(h2:g*V<U+V)(hr:R+g*V=U+M)(hb:R'+w*M=R+V)(hR:R<M)(hR':R'<M)(hw:w<=1)(hg:0<g):R'+(g-1)*V=U/\R'<V:=by
 have hgv:g*V=(g-1)*V+V:=by
  conv=>lhs;rw[show g=(g-1)+1 by omega,dY,nJ]
 have:w=1:=by
  rcases jK w 1 with h|h
  .have:w=0:=by omega
   subst this;omega
  .omega
 subst this;omega
def xh(us:List Nat)(i:Nat):dv (us.drop i)=us.getD i 0+4294967296*dv (us.drop (i+1)):=by
 rcases jK i us.length with h|h
 .rw[bX h];simp[dv,List.getD,aZ h]
 .rw[iY h,iY (by omega)]
  simp[dv,eK h,List.getD]
def wK(us:List Nat)(i:Nat):dv us=dv (us.take i)+4294967296^i*dv (us.drop i):=by
 rcases jK us.length i with h|h
 .rw[cX (by omega),iY (by omega)];simp[dv]
 .exact A9 us i h
def EZ{us:List Nat}(h:bD us)(i:Nat):dv (us.take i)<4294967296^i:=by
 refine cM (l7 (h.take i)) (bY (by decide) ?_);simp[bT];omega
def Ai{us:List Nat}{i:Nat}(hd:dv us<4294967296^i):dv (us.drop i)=0:=by
 have h:=wK us i;rcases fT (dv (us.drop i)) with h0|h0
 .exact h0
 .have:=fR (4294967296^i) h0
  omega
def aBp{W W' U E p u x bo b c c1 g d:Nat}(hs:W'+p*u=W+p*x)(hw:W+E=U+(bo+c)*p)(hc:c1=c+g*d)(hx:x+(c1%4294967296+bo)=u+b*4294967296):
  W'+(E+g*d*p)=U+(b+c1/4294967296)*(p*4294967296):=by
 have h1:=congrArg (p* ·) hx;simp only[fQ] at h1;have h2:p*c1=p*(c1%4294967296)+p*(c1/4294967296)*4294967296:=by
  rw[cW,<-fQ,Nat.mod_add_div']
 have h3:p*c1=p*c+p*(g*d):=by rw[hc,fQ]
 rw[dY,cK bo,cK c] at hw;rw[cK (g*d),dY,<-cW b,<-cW (c1/4294967296),cK b,cK (c1/4294967296)];rw[<-cW] at h1;omega
def aDt{W W' U E p u x bo b c:Nat}(hs:W'+p*u=W+p*x)(hw:W+E=U+(bo+c)*p)(hx:x+(c+bo)=u+b*4294967296):W'+E=U+b*(p*4294967296):=by
 have h1:=congrArg (p* ·) hx;simp only[fQ] at h1;rw[dY,cK bo,cK c] at hw;rw[<-cW b,cK b];rw[<-cW] at h1;omega
def Zr{W W' R E p u d c:Nat}(hs:W'+p*u=W+p*((c+(u+d))%4294967296))(hw:W+c*p=R+E):W'+(c+(u+d))/4294967296*(p*4294967296)=R+(E+d*p):=by
 have h2:p*(c+(u+d))=p*((c+(u+d))%4294967296)+p*((c+(u+d))/4294967296)*4294967296:=by
  rw[cW,<-fQ,Nat.mod_add_div']
 rw[fQ p c,fQ p u] at h2;rw[cK c] at hw;rw[cK d,<-cW,cK _ p];omega
def Xo{W W' R p u c:Nat}(hs:W'+p*u=W+p*((u+c)%4294967296))(hw:W+c*p=R):W'+(u+c)/4294967296*(p*4294967296)=R:=by
 have h2:p*(u+c)=p*((u+c)%4294967296)+p*((u+c)/4294967296)*4294967296:=by
  rw[cW,<-fQ,Nat.mod_add_div']
 rw[fQ p u] at h2;rw[cK c] at hw;rw[<-cW,cK _ p];omega
def aIr{us:List Nat}(h:bD us)(i:Nat)(hd:dv us<4294967296^(i+3)):
  dv us=((us.getD (i+2) 0*4294967296+us.getD (i+1) 0)*4294967296+us.getD i 0)*4294967296^i+dv (us.take i):=by
 have h0:=Ai hd;rw[wK us i,xh us i,xh us (i+1),xh us (i+2),h0,kR,cK];congr 2;omega
def aIJ{us:List Nat}(h:bD us)(i:Nat)(hd:dv us<4294967296^(i+2)):
  dv us=(us.getD (i+1) 0*4294967296+us.getD i 0)*4294967296^i+dv (us.take i):=by
 have h0:=Ai hd;rw[wK us i,xh us i,xh us (i+1),h0,kR,cK];congr 2;omega
def DA{us:List Nat}{k i d:Nat}(h:bD us)(hd:d<4294967296)(hk:dv us<4294967296^k)(hi:i<k:=by omega):dv (us.set i d)<4294967296^k:=by
 rw[wK _ k,List.drop_set,if_pos hi,Ai hk,tY,gJ];exact EZ (h.set i hd) k
end Go.Sx
end
section
namespace Go.Sx
open Go Go.Proofs

end Go.Sx
end
section
namespace Go.Sx
open Go
section
variable {P:Program}{C:aF}{n:Nat}{fr:Fr}{own:List aA}{G:Gh}
def RU:Exit->Bool
 | .goto _=>false
 |_=>true
end
end Go.Sx
end
section
namespace Go.Sx
open Go Go.Proofs Tryz
variable {V t s u k g e x y:Nat}{q:Rat}
def V5{n:Nat}(h1:4294967296^(n-1)<=V)(h2:V<4294967296^n)(hn:0<n):(dg V).length=n:=by
 obtain⟨e,hk,hr⟩:=fI V;have hne:dg V≠[]:=fun h=>by
  rw[h] at e;have:0<4294967296^(n-1):=gQ (by decide);simp[dv] at e;omega
 have h3:=wJ hr hne;have h4:=l7 hk;rw[e] at h3 h4;have h5:=(oJ (a:=4294967296) (by decide)).1 (dR h3 h2);have h6:=(oJ (a:=4294967296) (by decide)).1 (dR h1 h4);omega
def Vn(h0:0<t)(ht:t<4294967296)(hs:s=32-bl t):s<32/\2147483648<=t*2^s/\(t+1)*2^s<=4294967296:=by
 have h1:bl t<=32:=nH.2 ht;have h2:bl t≠0:=fun h=>by
  have:=Dv t;rw[h] at this;omega
 have h3:=Dv t;have h4: ¬t<2^(bl t-1):=fun h=>by
  have:=nH.2 h;omega
 have e1:2^(bl t-1)*2^s=2147483648:=by rw[<-fZ,show bl t-1+s=31 by omega]
 have e2:2^bl t*2^s=4294967296:=by rw[<-fZ,show bl t+s=32 by omega]
 refine⟨by omega,?_,?_⟩
 .rw[<-e1];exact bS _ (by omega)
 .rw[<-e2];exact bS _ h3
def WX{us:List Nat}(h:bD us)(i:Nat)(hd:us.length=i+1):dv us=us.getD i 0*4294967296^i+dv (us.take i):=by
 have h0:dv (us.drop (i+1))=0:=by rw[iY (by omega)];rfl
 rw[wK us i,xh us i,h0,kR,cK];rfl
def NV{b:List Nat}(h:e7 b)(i:Nat)(hi:b.length=i+1):0<b.getD i 0:=by
 rcases fT (b.getD i 0) with h0|h0
 .exfalso
  apply h;rw[nM,hi,show i+1-1=i from J];rw[List.getD,aZ (by omega)] at h0;rw[aZ (by omega)];simpa using h0
 .exact h0
def ayh(a:List Nat)(k:Nat):dv (a++List.replicate k 0)=dv a:=by rw[ya,wM];simp
def tE(u m bo:Nat):Nat:=if m+bo<=u then u-(m+bo) else u+18446744073709551616-(m+bo)
def CU(u m bo:Nat)(hu:u<4294967296)(hm:m<4294967296)(hb:bo<=1):IntKind.u64.wrap (IntKind.u64.wrap ((u:Int)-(m:Int))-(bo:Int))=((tE u m bo:Nat):Int):=by
 rw[qz,qz];unfold tE;split<;>omega
def Sm(u m bo:Nat)(hu:u<4294967296)(hm:m<4294967296)(hb:bo<=1):tE u m bo%4294967296+(m+bo)=u+tE u m bo/9223372036854775808*4294967296/\tE u m bo/9223372036854775808<=1/\tE u m bo<18446744073709551616:=by
 unfold tE;split<;>omega
def jC(h:u<2^k):32*(dg u).length<=k+31:=aCW (fI u).2.2 (by rw[(fI u).1];exact h)
structure IV where
 neg:Bool
 a:SV
def IV.v(z:IV):Value:= .agg ⟨[.bool z.neg, .slice z.a.a z.a.n z.a.c]⟩
def zv(neg:Bool)(u:Nat):Int:=if neg then-(u:Int) else u
def q8(neg:Bool)(u:Nat):(zv neg u).natAbs=u:=by cases neg<;>simp[zv]
def aFY(neg:Bool)(u:Nat):zv (!neg) u= -zv neg u:=by cases neg<;>simp[zv]
def Pr(n m:Bool)(u w:Nat):zv (n !=m) (u*w)=zv n u*zv m w:=by cases n<;>cases m<;>simp[zv,Int.neg_mul,Int.mul_neg]
def KM(neg:Bool)(u:Nat):decide (zv neg u<0)=(neg&&decide (0<u)):=by
 cases neg<;>simp[zv]
def lC(m:Int):zv (decide (m<0)) m.natAbs=m:=by
 unfold zv;by_cases h:m<0<;>simp[h]<;>omega
structure pH (k:Nat) (G:Gh) (z:IV) (m:Int):Prop where
 neg:z.neg=decide (m<0)
 abs:Bs k G z.a m.natAbs
def pH.up{k:Nat}{A G:Gh}{z:IV}{m:Int}(h:pH k A z m)[GL A G]:pH k G z m:=⟨h.neg,h.abs.up⟩
def VY(n:Bool)(u w:Nat):zv n (u+w)=zv n u+zv n w:=by cases n<;>simp[zv]<;>omega
def FQ(p:Int):IntKind.i64.wrap p=(p+9223372036854775808)%18446744073709551616-9223372036854775808:=by
 have e:IntKind.i64.wrap p=if(true&&decide (p%2^64>=2^(64-1)))=true then p%2^64-2^64 else p%2^64:=J
 rw[e,show(2:Int)^64=18446744073709551616 by decide,show(2:Int)^(64-1)=9223372036854775808 by decide,sT];by_cases h:p%18446744073709551616>=9223372036854775808
 .rw[decide_eq_true h,if_pos J];omega
 .rw[decide_eq_false h,if_neg (by decide)];omega
structure RV where
 n:Int
 d:Int
 p:Option Addr
def RV.v(z:RV):Value:= .agg ⟨[.int .i64 z.n, .int .i64 z.d, .pointer z.p]⟩
def U7{neg:Bool}(h:g∣u):zv neg (u/g)=zv neg u/(g:Int):=by
 cases neg
 .simp[zv]
 .simp only[zv,if_true]
  rw[Int.neg_ediv_of_dvd (rY.2 h),sY]
def Rl{m:Int}(he:0<e):(mkRat m e).num=m/((Nat.gcd m.natAbs e:Nat):Int)/\(mkRat m e).den=e/Nat.gcd m.natAbs e:=by
 rw[Rat.num_mkRat,Rat.den_mkRat,if_neg (by omega),if_neg (by omega),jV];exact⟨J,J⟩
def YN:(((bl x:Nat):Int)<=62)↔x<4611686018427387904:=by
 have:bl x<=62↔x<2^62:=nH;omega

def ap4{G:Gh}(hx:x<18446744073709551616)(hy:y<18446744073709551616):Fn prog 267 [.int .u64 (x:Nat), .int .u64 (y:Nat)] G (fun v _=>v= .tuple #[.int .u64 ((x*y/18446744073709551616:Nat):Int), .int .u64 ((x*y%18446744073709551616:Nat):Int)]):=
 Fn.of_calls (G:=G) (N6 func267 J J) (fun w=>Tryz.bits_Mul64 x y hx hy w)
def MH(a b:Int):a*b=if(a<0)↔(b<0) then((a.natAbs*b.natAbs:Nat):Int) else-((a.natAbs*b.natAbs:Nat):Int):=by
 rcases(by omega:a<0\/0<=a) with h|h<;>rcases(by omega:b<0\/0<=b) with h2|h2
 .rw[if_pos (by simp[h,h2]),iL,lL (pL h),lL (pL h2),Int.neg_mul_neg]
 .rw[if_neg (by simp[h];omega),iL,lL (pL h),oQ h2,Int.neg_mul,Int.neg_neg]
 .rw[if_neg (by simp[h2];omega),iL,oQ h,lL (pL h2),Int.mul_neg,Int.neg_neg]
 .rw[if_pos (by constructor<;>intro<;>omega),iL,oQ h,oQ h2]
def avF{p:Int}(h:p.natAbs<9223372036854775808):IntKind.i64.wrap p=p:=by rw[FQ];omega

def WD{n:Int}{d:Nat}(h:n<0):mkRat (-(d:Int)) n.natAbs=Rat.divInt (d:Int) n:=by
 rw[<-Rat.divInt_ofNat,lL (pL h),Rat.neg_divInt_neg]
def KI(h:q.num<0):(q⁻¹).num= -(q.den:Int)/\(q⁻¹).den=q.num.natAbs:=by
 rw[Rat.num_inv,Rat.den_inv,if_neg (by omega),eX h];omega
def SW(h:0<q.num):(q⁻¹).num=(q.den:Int)/\(q⁻¹).den=q.num.natAbs:=by
 rw[Rat.num_inv,Rat.den_inv,if_neg (by omega),fU h];omega
end Go.Sx
end
