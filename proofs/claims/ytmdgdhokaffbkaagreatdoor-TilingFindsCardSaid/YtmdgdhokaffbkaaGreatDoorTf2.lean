import Derived.Test.YtmdgdhokaffbkaaGreatDoorTf1
import Derived.Scope
import Derived.Laws.Externs
import Derived.Lib.Overlaps
set_option linter.all false
set_option maxRecDepth 100000
section
namespace Go.Sx
open Go
variable {P:Program}{t t' ty' ty:TypeId}{d n b f off ft k m e s by_ len cap l2 c2 cap2 i j:Nat}{C:aD}{fr:Fr}{own' own1 own0:List av}{G G0 A:Gh}{Φ:Act->World->Prop}{dst:Option Nat}{pos:String}{af:Array Edge}{x y:Operand}{w:World}{p ad ad2:Option Addr}{q lo c:Bool}{v z:Value}{l out ys xs rest:List Value}{o:Oper}{ops:Array Oper}{Q:Exit->Act->World->Prop}{fin:Nat->Bool}{op:Op}
def YD{d:TypeDesc}(h:P.underlying t=some d)(w:World):(underlying t).run P w= .ok d w:=by
 simp[underlying,program,Sem.run_bind,Sem.run,h,run_pure]
class DC (P:Program) (t:TypeId):Prop where u: ∀w,(underlying t).run P w= .ok .bool w
class Fg (P:Program) (t:TypeId):Prop where u: ∃e,∀w,(underlying t).run P w= .ok (.pointer e) w
class F2 (P:Program) (t:TypeId):Prop where u: ∃ms,∀w,(underlying t).run P w= .ok (.interface ms) w
class FL (P:Program) (t:TypeId) (f:Nat) (off ft:outParam Nat):Prop where
 u: ∃fs fd,(∀w,(underlying t).run P w= .ok (.struct fs) w)/\fs[f]? =some fd/\fd.offset=off/\fd.type=ft
class jh (P:Program) (t:TypeId):Prop where
 un: ∃e,P.underlying t=some (.slice e)
section
variable {own:List av}
variable {gd:Option (Nat×Bool)}
def pi{p q:Value}{b:Bool}(h:(Op.equalIn (9999+1) t p q).run P w= .ok b w):(Op.equal t p q).run P w= .ok b w:=h
theorem oke{p:Prop}(h:p:=by rw[aP h2];exact h3):p:=h
def Us[hT:DC P t]{p:Bool}(hx:aB fr x=some (.bool p))(hy:aB fr y=some (.bool q)):Yd P C fr own G ⟨dst, .binOp .eql t x y t',ty',pos,af,gd⟩ (.bool (p==q)):=by
 intro a w hf hh;simp only[execOp,bg hf hx,bg hf hy];have h1:(Op.equal t (.bool p) (.bool q)).run P w= .ok (p==q) w:=pi (by unfold Op.equalIn;rw[aP (hT.u w)];rfl);have h2:(eqGuard .eql t x y (.bool p) (.bool q)).run P w= .ok () w:=J;have h3:(binOp .eql t (.bool p) (.bool q)).run P w= .ok (.bool (p==q)) w:=by simp only[binOp];rw[aP h1];rfl
 exact cA oke
def aCF[hT:DC P t]{p:Bool}(hx:aB fr x=some (.bool p))(hy:aB fr y=some (.bool q)):Yd P C fr own G ⟨dst, .binOp .neq t x y t',ty',pos,af,gd⟩ (.bool (!(p==q))):=by
 intro a w hf hh;simp only[execOp,bg hf hx,bg hf hy];have h1:(Op.equal t (.bool p) (.bool q)).run P w= .ok (p==q) w:=pi (by unfold Op.equalIn;rw[aP (hT.u w)];rfl);have h2:(eqGuard .neq t x y (.bool p) (.bool q)).run P w= .ok () w:=J;have h3:(binOp .neq t (.bool p) (.bool q)).run P w= .ok (.bool (!(p==q))) w:=by simp only[binOp];rw[aP h1];rfl
 exact cA oke
theorem ozs{p:Prop}(h:p:=by unfold Op.equalIn;rw[aP (he w)];cases p<;>rfl):p:=h
def AS[hT:Fg P t](hx:aB fr x=some (.pointer p))(hy:aB fr y=some (.pointer none)):Yd P C fr own G ⟨dst, .binOp .eql t x y t',ty',pos,af,gd⟩ (.bool p.isNone):=by
 obtain⟨e,he⟩:=hT.u;intro a w hf hh;simp only[execOp,bg hf hx,bg hf hy];have h1:(Op.equal t (.pointer p) (.pointer none)).run P w= .ok p.isNone w:=pi ozs;have h2:(eqGuard .eql t x y (.pointer p) (.pointer none)).run P w= .ok () w:=by cases p<;>rfl
 have h3:(binOp .eql t (.pointer p) (.pointer none)).run P w= .ok (.bool p.isNone) w:=by cases p<;>(simp only[binOp];rw[aP h1];rfl)
 exact cA oke
def Cp[hT:Fg P t](hx:aB fr x=some (.pointer p))(hy:aB fr y=some (.pointer none)):Yd P C fr own G ⟨dst, .binOp .neq t x y t',ty',pos,af,gd⟩ (.bool (!p.isNone)):=by
 obtain⟨e,he⟩:=hT.u;intro a w hf hh;simp only[execOp,bg hf hx,bg hf hy];have h1:(Op.equal t (.pointer p) (.pointer none)).run P w= .ok p.isNone w:=pi ozs;have h2:(eqGuard .neq t x y (.pointer p) (.pointer none)).run P w= .ok () w:=by cases p<;>rfl
 have h3:(binOp .neq t (.pointer p) (.pointer none)).run P w= .ok (.bool (!p.isNone)) w:=by cases p<;>(simp only[binOp];rw[aP h1];rfl)
 exact cA oke
theorem omU{p:Prop}(h:p:=by unfold Op.equalIn;rw[aP (he w)];rfl):p:=h
theorem okX{p:Prop}(h:p:=by rw[aP (a:=()) (w':=w) J];simp only[binOp];rw[aP h1];rfl):p:=h
def Iq[hT:F2 P t](hv:v= .nilIface\/ ∃k u,v= .iface k u)(hx:aB fr x=some v):
  Yd P C fr own G ⟨dst, .binOp .eql t x (.const .nilIface) t',ty',pos,af,gd⟩ (.bool (match v with| .nilIface=>true|_=>false)):=by
 obtain⟨e,he⟩:=hT.u;intro a w hf hh;simp only[execOp,bg hf hx,show a.eval (.const .nilIface)= .nilIface from J];rcases hv with rfl|⟨k,u,rfl⟩
 .have h1:(Op.equal t .nilIface .nilIface).run P w= .ok true w:=pi omU
  have h2:(eqGuard .eql t x (.const .nilIface) .nilIface .nilIface).run P w= .ok () w:=by cases x<;>rfl
  exact cA (by rw[aP h2];simp only[binOp];rw[aP h1];rfl)
 .have h1:(Op.equal t (.iface k u) .nilIface).run P w= .ok false w:=pi omU
  exact cA okX
def JU[hT:F2 P t](hv:v= .nilIface\/ ∃k u,v= .iface k u)(hx:aB fr x=some v):
  Yd P C fr own G ⟨dst, .binOp .neq t x (.const .nilIface) t',ty',pos,af,gd⟩ (.bool (match v with| .nilIface=>false|_=>true)):=by
 obtain⟨e,he⟩:=hT.u;intro a w hf hh;simp only[execOp,bg hf hx,show a.eval (.const .nilIface)= .nilIface from J];rcases hv with rfl|⟨k,u,rfl⟩
 .have h1:(Op.equal t .nilIface .nilIface).run P w= .ok true w:=pi omU
  have h2:(eqGuard .neq t x (.const .nilIface) .nilIface .nilIface).run P w= .ok () w:=by cases x<;>rfl
  exact cA (by rw[aP h2];simp only[binOp];rw[aP h1];rfl)
 .have h1:(Op.equal t (.iface k u) .nilIface).run P w= .ok false w:=pi omU
  exact cA okX
def VE{cs:List Value}[hF:FL P t f off ft][hA:la P ft k](hx:aB fr x=some (.agg ⟨cs⟩))(hl:co cs off k=some l):Yd P C fr own G ⟨dst, .field t x f,ty',pos,af,gd⟩ (.agg ⟨l⟩):=by
 obtain⟨fs,fd,h1,h2,h3,h4⟩:=hF.u;intro a w hf hh;simp only[execOp,bg hf hx];have:(Instr.field t (.agg ⟨cs⟩) f).run P w= .ok (.agg ⟨l⟩) w:=by
  unfold Instr.field;rw[aP (h1 w)];simp only[h2,h3,h4,asAgg];rw[aP (run_pure _ _ _)];unfold part;rw[aP (hA.agg w)];simp only[if_true];rw[aP (hA.siz w)];obtain⟨k1,k2⟩:=pf _ _ _ _ hl;have:(⟨cs⟩:Array Value).extract off (off+k)=⟨l⟩:=by
   apply Array.ext';rw[Array.toList_extract];apply lR;intro i;rw[List.extract_eq_take_drop,qW];split
   .rw[oZ];exact k2 i pb
   .exact(dR (show l.length<=i by omega)).symm
  rw[this];rfl
 exact cA this
def WW{cs:List Value}[hF:FL P t f off ft][hA:kI P ft](hx:aB fr x=some (.agg ⟨cs⟩))(hl:cs[off]? =some v):Yd P C fr own G ⟨dst, .field t x f,ty',pos,af,gd⟩ v:=by
 obtain⟨fs,fd,h1,h2,h3,h4⟩:=hF.u;intro a w hf hh;simp only[execOp,bg hf hx];have:(Instr.field t (.agg ⟨cs⟩) f).run P w= .ok v w:=by
  unfold Instr.field;rw[aP (h1 w)];simp only[h2,h3,h4,asAgg];rw[aP (run_pure _ _ _)];unfold part;rw[aP (hA.agg w)];have:(⟨cs⟩:Array Value)[off]? =some v:=by simpa using hl
  simp only[iL,if_false,this];rfl
 exact cA this
class DI (P:Program) (t:TypeId) (offs:outParam (List (Nat×Nat))):Prop where
 u: ∃fs:Array Field,(∀w,(underlying t).run P w= .ok (.struct fs) w)/\(∀w,(fs.mapM (m:=Sem) fun f=>do pure (f.offset,<-sizeOf f.type)).run P w= .ok ⟨offs⟩ w)
def s5(fr:Fr)(offs:List (Nat×Nat)):List Value->List (Nat×Operand)->Option (List Value)
 |cs,[]=>some cs
 |cs,(i,x)::r=>match offs[i]?,aB fr x with
  |some (off,k),some v=>if(aH v).length=k/\off+k<=cs.length then s5 fr offs (ck cs off (aH v)) r else none
  |_,_=>none
def F4: ∀(vs:List Value) (cs:Array Value) (off j:Nat),(vs.zipIdx j).foldl (fun cs (c,j)=>cs.setIfInBounds (off+j) c) cs=⟨ck cs.toList (off+j) vs⟩
 |[],cs,off,j=>rfl
 |v::vs,cs,off,j=>by
  simp only[List.zipIdx_cons,iM];rw[F4 vs _ off (j+1)];simp[ck,kX]
theorem okt{p:Prop}(h:p:=by simp only[gR,decide_eq_true_eq,not_or];exact⟨by simpa using h1,by simpa using h2⟩):p:=h
def DT{a:Act}(hf:kh fr a)(offs:List (Nat×Nat)): ∀(ps:List (Nat×Operand)) (cs out:List Value),s5 fr offs cs ps=some out->
  Instr.fill ((⟨offs⟩:Array (Nat×Nat))[·]?) ⟨cs⟩ (ps.map fun(i,x)=>(i,a.eval x))=some ⟨out⟩
 |[],cs,out,h=>by simp only[s5] at h;cases h;rfl
 |(i,x)::ps,cs,out,h=>by
  simp only[s5] at h;split at h
  .rename_i off k v ho hv
   split at h
   .rename_i hc
    simp only[cZ,Instr.fill];have:(⟨offs⟩:Array (Nat×Nat))[i]? =some (off,k):=by simpa using ho
    simp only[this,bg hf hv,pG];have h1: ¬((⟨aH v⟩:Array Value).size≠k):=by simp[hc.1]
    have h2: ¬(off+(⟨aH v⟩:Array Value).size>(⟨cs⟩:Array Value).size):=by simp only[oN,hc.1];omega
    rw[if_neg okt];have e:=F4 (aH v) ⟨cs⟩ off 0;have e':(⟨aH v⟩:Array Value).zipIdx.foldl (fun cs (c,j)=>cs.setIfInBounds (off+j) c) (⟨cs⟩:Array Value)=⟨ck cs off (aH v)⟩:=by
     rw[<-Array.foldl_toList,Array.toList_zipIdx];simpa using e
    rw[e'];exact DT hf offs ps _ _ h
   .cases h
  .cases h
def EX{parts:Array (Nat×Operand)}{offs:List (Nat×Nat)}[hT:DI P t offs][hz:iv P t z](hb:s5 fr offs (aH z) parts.toList=some out):Yd P C fr own G ⟨dst, .build t parts,ty',pos,af,gd⟩ (.agg ⟨out⟩):=by
 obtain⟨fs,h1,h2⟩:=hT.u;intro a w hf hh;simp only[execOp];have:(Instr.build t (parts.map fun(i,x)=>(i,a.eval x))).run P w= .ok (.agg ⟨out⟩) w:=by
  unfold Instr.build;rw[aP (hz.zero w),pG];rw[aP (h1 w)];simp only[];rw[aP (h2 w)];have:=DT hf offs parts.toList _ _ hb;simp only[pJ,this];rfl
 exact cA this
end
def dE(z:Value)(k:Nat):List Value:=(List.replicate k (aH z)).flatten
def EO{α:Type}(l:List α): ∀(k i:Nat),i<k*l.length->(List.replicate k l).flatten[i]? =l[i%l.length]?
 |0,i,h=>by omega
 |k+1,i,h=>by
  rw[sV,qS];by_cases hi:i<l.length
  .rw[fV hi,gQ hi]
  .rw[jU pb,EO l k (i-l.length) (by rw[cN] at h;omega)]
   rw[Nat.mod_eq_sub_mod (Nat.ge_of_not_lt hi)]
def nA(z:Value)(k:Nat):(dE z k).length=k*(aH z).length:=by simp[dE]
theorem omW{p:Prop}(h:p:=by simpa using hi):p:=h
def Df(h:m=k*(aH z).length):((Array.range m).map fun i=>(⟨aH z⟩:Array Value)[i%(⟨aH z⟩:Array Value).size]!)=⟨dE z k⟩:=by
 subst h;apply Array.ext';apply lR;intro i;simp only[pJ,Array.toList_range,cY,oN];by_cases hi:i<k*(aH z).length
 .rw[nU hi]
  simp only[jS];have h1:=EO (aH z) k i hi;have hpos:0<(aH z).length:=by
   rcases fJ (aH z).length with h|h
   .rw[h,sS] at hi;omega
   .exact h
  have hm:=cR i hpos;show _=(dE z k)[i]?;unfold dE;rw[h1];simp[hm]
 .rw[dR omW]
  rw[dR (by show(dE z k).length<=i;rw[nA];omega)];rfl
section
variable {own:List av}
variable {gd:Option (Nat×Bool)}
def JG[hT:cg P t e s by_](w:World): ∃i:TypeInfo,(typeInfo e).run P w= .ok i w/\i.bytes=by_:=by
 obtain⟨i,h1,_,h2⟩:=hT.info;exact⟨i,by simp[typeInfo,program,Sem.run_bind,Sem.run,h1,run_pure],h2⟩
theorem okK{p:Prop}(h:p:=by simp[IntKind.min,IntKind.max,IntKind.signed,IntKind.bits];omega):p:=h
def I7[hT:cg P t e s by_]{z:Value}[hz:iv P e z]{k k':IntKind}{l:Int}(hx:aB fr x=some (.int k l))(hy:aB fr y=some (.int k' l))(h0:0<=l)(hb:by_*l<=2^47)(hl:l<=2^60)(hs:(aH z).length=s)(hd:bP n dst=true)
  (h: ∀b,St C n (put fr dst (.slice (some ⟨b,0,none⟩) l.toNat l.toNat)) (⟨b,dE z l.toNat,e,true⟩::own) G Φ):
  Ch P C n fr own G ⟨dst, .makeSlice t x y,ty',pos,af,gd⟩ Φ:=by
 intro a w Q rl;have h1:(Instr.makeSlice t (a.eval x) (a.eval y)).run P w= .ok (.slice (some ⟨w.heap.size,0,none⟩) l.toNat l.toNat) (w.alloc (.cells ⟨dE z l.toNat⟩ e)):=by
  obtain⟨i,hi,hib⟩:=JG (P:=P) (t:=t) (e:=e) (s:=s) (by_:=by_) w;rw[bg rl.fr hx,bg rl.fr hy];unfold Instr.makeSlice;rw[aP (hT.u w)];simp only[asInt,asIntOf];rw[aP (a:=l) (w':=w) J,aP (a:=l) (w':=w) J,aP hi,hib];have hw:IntKind.i64.wrap l=l:=qr okK;simp only[hw];have c1: ¬((by_:Int)*l>2^48):=by
   have:(2:Int)^47<=2^48:=by decide
   omega
  have c2:(decide (l<0)||decide ((by_:Int)*l>2^48))=false:=by simp[c1];omega
  simp only[c2,Int.lt_irrefl,decide_false,Bool.or_false,Bool.false_or];have c3:decide (l<0)=false:=by simp;omega
  simp only[c3,iL,if_false,gt_iff_lt,Int.lt_irrefl,decide_false,Bool.or_false];have hr: ¬(l.toNat*by_>roomBytes):=by
   unfold roomBytes;have:((l.toNat*by_:Nat):Int)=by_*l:=by rw[gM,pT h0,Int.mul_comm]
   have h47:((2^47:Nat):Int)=2^47:=by decide
   omega
  unfold askRoom;simp only[hr,if_false];rw[aP (run_pure _ _ _),aP (hT.siz w)];have hn:l.toNat*s=l.toNat*(aH z).length:=by rw[hs]
  by_cases h00:l.toNat*s=0
  .rw[if_pos h00,aP (run_pure _ _ _)]
   have e0:dE z l.toNat=[]:=cV (by rw[nA,hs];exact h00);rw[h00,e0,show(Array.range 0)= #[] from J,Array.map_empty];rfl
  .rw[if_neg h00,aP (hz.zero w),pG]
   rw[aP (run_pure _ _ _),Df hn];rfl
 refine(fun hk=>?_:Φ (a.put dst (.slice (some ⟨w.heap.size,0,none⟩) l.toNat l.toNat)) (w.alloc (.cells ⟨dE z l.toNat⟩ e))->_) (h w.heap.size _ _ ((rl.heap (rl.h.alloc _ _)).put _ hd));exact j0 (v:= .slice (some ⟨w.heap.size,0,none⟩) l.toNat l.toNat) (cA h1) hk
end
section
variable {own:List av}
variable {gd:Option (Nat×Bool)}
def tf(fr:Fr)(s:Nat):List Value->List (Nat×Operand)->Option (List Value)
 |cs,[]=>some cs
 |cs,(i,x)::r=>match aB fr x with
  |some v=>if(aH v).length=s/\i*s+s<=cs.length then tf fr s (ck cs (i*s) (aH v)) r else none
  |none=>none
def KB{a:Act}(hf:kh fr a)(s:Nat): ∀(ps:List (Nat×Operand)) (cs out:List Value),tf fr s cs ps=some out->
  Instr.fill (fun i=>some (i*s,s)) ⟨cs⟩ (ps.map fun(i,x)=>(i,a.eval x))=some ⟨out⟩
 |[],cs,out,h=>by simp only[tf] at h;cases h;rfl
 |(i,x)::ps,cs,out,h=>by
  simp only[tf] at h;split at h
  .rename_i v hv
   split at h
   .rename_i hc
    simp only[cZ,Instr.fill,bg hf hv,pG];have h1: ¬((⟨aH v⟩:Array Value).size≠s):=by simp[hc.1]
    have h2: ¬(i*s+(⟨aH v⟩:Array Value).size>(⟨cs⟩:Array Value).size):=by simp only[oN,hc.1];omega
    rw[if_neg okt];have e:=F4 (aH v) ⟨cs⟩ (i*s) 0;have e':(⟨aH v⟩:Array Value).zipIdx.foldl (fun cs (c,j)=>cs.setIfInBounds (i*s+j) c) (⟨cs⟩:Array Value)=⟨ck cs (i*s) (aH v)⟩:=by
     rw[<-Array.foldl_toList,Array.toList_zipIdx];simpa using e
    rw[e'];exact KB hf s ps _ _ h
   .cases h
  .cases h
def ZH[hT:cg P t e s by_][hz:iv P e z]{parts:Array (Nat×Operand)}(hs:(aH z).length=s)(hb:tf fr s (dE z len) parts.toList=some out)(hsm:Nat.ble (len*s) 1000=true)(hs0:Nat.blt 0 (len*s)=true)(hd:bP n dst=true)
  (h: ∀b,St C n (put fr dst (.slice (some ⟨b,0,none⟩) len len)) (⟨b,out,e,true⟩::own) G Φ):
  Ch P C n fr own G ⟨dst, .buildSlice t len parts,ty',pos,af,gd⟩ Φ:=by
 intro a w Q rl;have hsm':len*s<=1000:=by simpa using hsm
 have hs0':0<len*s:=by simpa[jN] using hs0
 have h1:(Instr.buildSlice t len (parts.map fun(i,x)=>(i,a.eval x))).run P w= .ok (.slice (some ⟨w.heap.size,0,none⟩) len len) (w.alloc (.cells ⟨out⟩ e)):=by
  unfold Instr.buildSlice;rw[aP (hT.u w)];simp only[];rw[aP (hT.siz w)];have c1: ¬(len*s>2^24):=by omega
  have c2: ¬(len*s=0):=by omega
  simp only[c1,if_false];rw[if_neg c2,aP (hz.zero w),pG,aP (run_pure _ _ _)];rw[Df (k:=len) (by rw[hs])];have hf:=KB rl.fr s parts.toList _ _ hb;simp only[pJ,hf];rfl
 refine j0 (v:= .slice (some ⟨w.heap.size,0,none⟩) len len) (w':=w.alloc (.cells ⟨out⟩ e)) ?_ (h w.heap.size _ _ ((rl.heap (rl.h.alloc _ _)).put _ hd));simp only[execOp];exact cA h1
def N8[hT:cg P t e s by_](hd:bP n dst=true)(h: ∀b,St C n (put fr dst (.slice (some ⟨b,0,none⟩) 0 0)) (⟨b,[],e,true⟩::own) G Φ):
  Ch P C n fr own G ⟨dst, .buildSlice t 0 #[],ty',pos,af,gd⟩ Φ:=by
 intro a w Q rl;have h1:(Instr.buildSlice t 0 #[]).run P w= .ok (.slice (some ⟨w.heap.size,0,none⟩) 0 0) (w.alloc (.cells ⟨[]⟩ e)):=by
  unfold Instr.buildSlice;rw[aP (hT.u w)];simp only[];rw[aP (hT.siz w)];simp only[kK,gt_iff_lt,pN,if_false,if_true];rw[aP (run_pure _ _ _),show(Array.range 0)= #[] from J,Array.map_empty];rfl
 refine j0 (v:= .slice (some ⟨w.heap.size,0,none⟩) 0 0) (w':=w.alloc (.cells ⟨[]⟩ e)) ?_ (h w.heap.size _ _ ((rl.heap (rl.h.alloc _ _)).put _ hd));simp only[execOp,gN,kJ];exact cA h1
theorem ozl{p:Prop}(h:p:=by unfold Op.equalIn;rw[aP (hT.u w)];cases ad<;>rfl):p:=h
def Lr[hT:cg P t e s by_](hx:aB fr x=some (.slice ad len cap))(hy:aB fr y=some (.slice none l2 c2)):Yd P C fr own G ⟨dst, .binOp .eql t x y t',ty',pos,af,gd⟩ (.bool ad.isNone):=by
 intro a w hf hh;simp only[execOp,bg hf hx,bg hf hy];have h1:(Op.equal t (.slice ad len cap) (.slice none l2 c2)).run P w= .ok ad.isNone w:=pi ozl;have h2:(eqGuard .eql t x y (.slice ad len cap) (.slice none l2 c2)).run P w= .ok () w:=J;have h3:(binOp .eql t (.slice ad len cap) (.slice none l2 c2)).run P w= .ok (.bool ad.isNone) w:=by simp only[binOp];rw[aP h1];rfl
 exact cA oke
def VC[hT:cg P t e s by_](hx:aB fr x=some (.slice ad len cap))(hy:aB fr y=some (.slice none l2 c2)):Yd P C fr own G ⟨dst, .binOp .neq t x y t',ty',pos,af,gd⟩ (.bool (!ad.isNone)):=by
 intro a w hf hh;simp only[execOp,bg hf hx,bg hf hy];have h1:(Op.equal t (.slice ad len cap) (.slice none l2 c2)).run P w= .ok ad.isNone w:=pi ozl;have h2:(eqGuard .neq t x y (.slice ad len cap) (.slice none l2 c2)).run P w= .ok () w:=J;have h3:(binOp .neq t (.slice ad len cap) (.slice none l2 c2)).run P w= .ok (.bool (!ad.isNone)) w:=by simp only[binOp];rw[aP h1];rfl
 exact cA oke
end
def ks: ∀(cs:List Value) (off k:Nat),off+k<=cs.length->co cs off k=some ((cs.drop off).take k)
 |cs,0,0,_=>by cases cs<;>rfl
 |[],0,k+1,h=>by simp at h
 |v::t,0,k+1,h=>by
  simp only[co,ks t 0 k (by simp at h;omega)];simp
 |[],_+1,k,h=>by simp at h
 |_::t,off+1,k,h=>by
  simp only[co,ks t off k (by simp at h;omega)];simp
section
variable {own:List av}
variable {gd:Option (Nat×Bool)}
def l6(P:Program)(C:aD)(own:List av)(G:Gh)(s m:Nat)(v:Value)(ys:List Value):Prop:=
 ∀w,bu C own G w->(Builtin.firstCells s m v).run P w= .ok ⟨ys⟩ w
def Bi{cs:List Value}{fz:Nat×Nat}(h:w.heap[b]? =some (.cells ⟨cs⟩ ty fz))(hl:co cs off k=some l):(loadCells ⟨b,off,none⟩ k).run P w= .ok ⟨l⟩ w:=by
 obtain⟨h1,h2⟩:=pf _ _ _ _ hl;unfold loadCells;rw[Dv (l:=l) k 0 #[] (fun j hj=>by rw[AA h];simpa using h2 j hj) pb];simp[<-h1]
def AX{cs:List Value}(ho:gA own b cs ty lo)(hl:co cs off (m*s)=some ys):l6 P C own G s m (.slice (some ⟨b,off,none⟩) len cap) ys:=
 fun w h=>Bi (h.hown _ ho.mem).1 hl
def Ir{cs:List Value}(hg:G b=some cs)(hl:co cs off (m*s)=some ys):l6 P C own G s m (.slice (some ⟨b,off,none⟩) len cap) ys:=
 fun w h=>by obtain⟨ty,fz,hb⟩:=h.sub _ _ hg;exact Bi hb hl
def sA:l6 P C own G s 0 (.slice ad len cap) []:=fun w _=>by
 cases ad with
 |none=>rfl
 |some a=>unfold Builtin.firstCells loadCells;simp[loadCellsFrom,run_pure]
def Wu(z:Value)(k:Nat):Builtin.zeroCells ⟨aH z⟩ k=⟨dE z k⟩:=by
 unfold Builtin.zeroCells;exact Df J
def Eb{w':World}[hT:cg P t e s by_][hN:jh P t'][hz:iv P e z]
  (hsx:(Builtin.firstCells s len (.slice ad len cap)).run P w.drew= .ok ⟨xs⟩ w.drew)(hsy:(Builtin.firstCells s m (.slice ad2 m cap2)).run P w.drew= .ok ⟨ys⟩ w.drew)
  (hneed:cap<len+m)(hby:0<by_)(hb:(len+m)*by_<=140737488355328):
  (Builtin.append_ #[t,t'] ty' #[.slice ad len cap, .slice ad2 m cap2]).run P w=
   .ok (.slice (some ⟨w.heap.size,0,none⟩) (len+m) (grownCap w (len+m) cap e)) (w.drew.alloc (.cells ⟨xs++ys++dE z (grownCap w (len+m) cap e-(len+m))⟩ e)):=by
 obtain⟨d,hd1⟩:=hN.un;obtain⟨i,hi,his,hib⟩:=hT.info;obtain⟨i',hi',hiz⟩:=hz.info;rw[hi] at hi';cases hi';have hfit:=growslice_fits (old:=cap) (need:=len+m) (bytes:=by_) hneed hb;have hlen:len+m<=140737488355328:=cJ (qU _ hby) hb;have hn: ¬(len+m<=cap):=by omega
 have h63': ¬(9223372036854775807<((len:Int)+(m:Int))):=by omega
 have h48': ¬(281474976710656<Builtin.nextslicecap (len+m) cap*i.bytes):=by rw[hib];omega
 subst his;simp[Builtin.append_,run_underlying hT.un,run_underlying hd1,sizeOf,typeInfo,zeroValue,hi,hiz,Builtin.lenOf,hn,h63',h48',Question.forced,hsx,hsy,newRow,grownCap];congr 2;apply Array.ext';rw[pG,Wu];simp[fK]
def Bo[hT:cg P t e s by_][hN:jh P t'][hz:iv P e z]
  (hx:aB fr x=some (.slice ad len cap))(hy:aB fr y=some (.slice ad2 m cap2))(hsx:l6 P C own G s len (.slice ad len cap) xs)(hsy:l6 P C own G s m (.slice ad2 m cap2) ys)
  (hneed:cap<len+m)(hby:0<by_)(hb:(len+m)*by_<=140737488355328)(hd:bP n dst=true)
  (h: ∀b cap',len+m<=cap'->St C n (put fr dst (.slice (some ⟨b,0,none⟩) (len+m) cap')) (⟨b,xs++ys++dE z (cap'-(len+m)),e,true⟩::own) G Φ):
  Ch P C n fr own G ⟨dst, .call ⟨.builtin .append, #[x,y], #[t,t']⟩,ty',pos,af,gd⟩ Φ:=by
 intro a w Q rl;have hcap:len+m<=grownCap w (len+m) cap e:=by unfold grownCap;simp only[Question.cut];omega
 have hrun:=Eb (P:=P) (t:=t) (t':=t') (ty':=ty') (w:=w) (w':=w) (hsx _ rl.h.drew) (hsy _ rl.h.drew) hneed hby hb;refine j0 (v:= .slice (some ⟨w.heap.size,0,none⟩) (len+m) (grownCap w (len+m) cap e)) (w':=w.drew.alloc (.cells ⟨xs++ys++dE z (grownCap w (len+m) cap e-(len+m))⟩ e)) ?_ ?_
 .simp only[execOp,resolve,gN,cZ,kJ,bg rl.fr hx,bg rl.fr hy]
  exact cA hrun
 .exact h w.heap.size _ hcap _ _ ((rl.heap ((rl.h.drew).alloc _ _)).put _ hd)
def iC.perm{o:av}(h:iC own o own1):own.Perm (o::own1):=by
 induction h with
 |hd o t=>exact List.Perm.refl _
 |tl x t t' o h ih=>exact(List.Perm.cons x ih).trans (List.Perm.swap _ _ _)
def DS[hT:cg P t e s by_][hN:jh P t']{cs:List Value}
  (hb:w.heap[b]? =some (.cells ⟨cs⟩ e (0,0)))(hcs:cs.length=cap*s)(hsy:(Builtin.firstCells s m (.slice ad2 m cap2)).run P w= .ok ⟨ys⟩ w)(hys:ys.length=m*s)(hf: ∀v∈ys,flat v=true)
  (hneed:len+m<=cap):
  (Builtin.append_ #[t,t'] ty' #[.slice (some ⟨b,0,none⟩) len cap, .slice ad2 m cap2]).run P w=
   .ok (.slice (some ⟨b,0,none⟩) (len+m) cap) (ge w b (.cells ⟨ck cs (len*s) ys⟩ e (0,0))):=by
 obtain⟨d,hd1⟩:=hN.un;obtain⟨i,hi,his,hib⟩:=hT.info;subst his;have hl:len*i.size+ys.length<=cs.length:=by rw[hys,hcs,<-cN];exact bX _ hneed
 have hst:=wo (P:=P) ys w (len*i.size) 0 cs hf hb pb;rw[gW] at hst;simp[Builtin.append_,run_underlying hT.un,run_underlying hd1,sizeOf,typeInfo,hi,Builtin.lenOf,hneed,hsy,qb,hst]
def xf: ∀(vs cs:List Value) (off:Nat),(ck cs off vs).length=cs.length
 |[],cs,off=>rfl
 |v::vs,cs,off=>by simp[ck,xf vs]
def n4: ∀(vs cs:List Value) (off:Nat),off+vs.length<=cs.length->ck cs off vs=cs.take off++vs++cs.drop (off+vs.length)
 |[],cs,off,h=>by simp[ck]
 |v::vs,cs,off,h=>by
  simp only[bY] at h;rw[ck,n4 vs _ _ omk];rw[List.take_set,sW pb];have h1:(cs.take (off+1)).set off v=cs.take off++[v]:=by
   rw[iZ pb,List.set_append_right _ _ omk];simp[iN (by omega:off<=cs.length)]
  rw[h1];simp only[bY,fK,iT,kN];congr 4;omega
def DF[hT:cg P t e s by_][hN:jh P t'][hz:iv P e z]
  (hx:aB fr x=some (.slice (some ⟨b,0,none⟩) len cap))(hy:aB fr y=some (.slice ad2 m cap2))(hr:iC own ⟨b,xs++rest,e,true⟩ own1)(hxs:xs.length=len*s)(hcap:xs.length+rest.length=cap*s)(hlc:len<=cap)
  (hsy:l6 P C own G s m (.slice ad2 m cap2) ys)(hys:ys.length=m*s)(hf: ∀v∈ys,flat v=true)
  (hby:0<by_)(hb:(len+m)*by_<=140737488355328)(hzs:(aH z).length=s)(hd:bP n dst=true)
  (h: ∀b cap' rest',len+m<=cap'->rest'.length+(len+m)*s=cap'*s->St C n (put fr dst (.slice (some ⟨b,0,none⟩) (len+m) cap')) (⟨b,xs++ys++rest',e,true⟩::own1) G Φ):
  Ch P C n fr own G ⟨dst, .call ⟨.builtin .append, #[x,y], #[t,t']⟩,ty',pos,af,gd⟩ Φ:=by
 intro a w Q rl;have hp:=rl.h.perm hr.perm;have hblk:=(hp.hown _ aZ).1;simp only[] at hblk;by_cases hneed:len+m<=cap
 .have hcs:(xs++rest).length=cap*s:=by simp;omega
  have hrun:=DS (P:=P) (t:=t) (t':=t') (ty':=ty') (w:=w) (len:=len) hblk hcs (hsy w rl.h) hys hf hneed;have hle:len*s+m*s<=cap*s:=by rw[<-cN];exact bX _ hneed
  have hov:ck (xs++rest) (len*s) ys=xs++ys++rest.drop (m*s):=by
   rw[n4 _ _ _ (by rw[hys];omega),<-hxs];simp[hys,mX]
  refine j0 (v:= .slice (some ⟨b,0,none⟩) (len+m) cap) (w':=ge w b (.cells ⟨ck (xs++rest) (len*s) ys⟩ e (0,0))) ?_ ?_
  .simp only[execOp,resolve,gN,cZ,kJ,bg rl.fr hx,bg rl.fr hy]
   exact cA hrun
  .rw[hov]
   refine h b cap (rest.drop (m*s)) hneed ?_ _ _ ((rl.heap (hp.store (.hd ..))).put _ hd);rw[gU,cN];omega
 .have hx':l6 P C own G s len (.slice (some ⟨b,0,none⟩) len cap) xs:=fun w' hw'=>by
   have hb':=(((hw'.perm hr.perm).hown _ aZ).1);refine Bi hb' ?_;rw[ks _ _ _ omk,<-hxs];simp
  have hcap':len+m<=grownCap w (len+m) cap e:=by unfold grownCap;simp only[Question.cut];omega
  have hrun:=Eb (P:=P) (t:=t) (t':=t') (ty':=ty') (w:=w) (w':=w) (hx' _ rl.h.drew) (hsy _ rl.h.drew) pb hby hb;refine j0 (v:= .slice (some ⟨w.heap.size,0,none⟩) (len+m) (grownCap w (len+m) cap e)) (w':=w.drew.alloc (.cells ⟨xs++ys++dE z (grownCap w (len+m) cap e-(len+m))⟩ e)) ?_ ?_
  .simp only[execOp,resolve,gN,cZ,kJ,bg rl.fr hx,bg rl.fr hy]
   exact cA hrun
  .refine h w.heap.size _ _ hcap' ?_ _ _ ((rl.heap (((hp.drew).drop (List.sublist_cons_self _ _)).alloc _ _)).put _ hd)
   rw[nA,hzs,<-cN];congr 1;omega
end
section
variable {S:World->Prop}
def rj(ops:Array Oper)(fin:Nat->Bool):List (Nat×Bool)->Array Bool->Bool
 |[],listed=>(Region.ready .any ops listed).isEmpty
 |(i,true)::r,listed=>Oe ops fin listed i&&rj ops fin r (listed.setIfInBounds i true)
 |(i,false)::r,listed=>(Region.ready .any ops listed==[i])&&rj ops fin r (listed.setIfInBounds i true)
def gz(P:Program)(ops:Array Oper)(Q:Exit->Act->World->Prop)(S:World->Prop)(fin:Nat->Bool):List (Nat×Bool)->Act->World->Prop
 |[],a,w=>Q .normal a w
 |(i,true)::r,a,w=> ∃o v,ops[i]? =some o/\S w/\YieldsIf P ops S o v a/\gz P ops Q S fin r (a.put o.dst v) w
 |(i,false)::r,a,w=>wpOp P ops Q i (fun a' w'=>(fin i=true\/S w')/\gz P ops Q S fin r a' w') a w
def wC(hQ: ∀c a d v w,Q (.panic c) (Act.put a d v) w->Q (.panic c) a w): ∀(π:List (Nat×Bool)) (listed:Array Bool) (a:Act) (w:World),rj ops fin π listed=true->gz P ops Q S fin π a w-> ∀fuel,π.length<=fuel->tj P ops Q S fin fuel listed a w
 |[],listed,a,w,ho,h,fuel,hf=>by
  have hr:Region.ready .any ops listed=[]:=by simpa[rj] using ho
  cases fuel with
  |zero=>exact⟨hr,h⟩
  |succ k=>exact⟨fun _=>h,by rw[hr];simp⟩
 |(i,true)::r,listed,a,w,ho,h,0,hf=>by simp at hf
 |(i,false)::r,listed,a,w,ho,h,0,hf=>by simp at hf
 |(i,true)::r,listed,a,w,ho,h,fuel+1,hf=>by
  obtain⟨o,v,hoi,hS,hy,hk⟩:=h;simp only[rj,Oe,bV] at ho;obtain⟨⟨⟨⟨h1,h2⟩,h3⟩,h4⟩,h5⟩:=ho;obtain⟨h6,h7⟩:=Vr h4;exact Sh hoi (Region.noSelect_spec h1) (fun c a w=>hQ c a _ _ w) h6 h7 fuel listed a w (Region.free_spec hoi h2) (by simpa using h3) hy hS
   (wC hQ r _ _ _ h5 hk fuel ozp)
 |(i,false)::r,listed,a,w,ho,h,fuel+1,hf=>by
  simp only[rj,bV,beq_iff_eq] at ho;exact aqV ho.1 (wpOp_mono (fun a' w' h'=>⟨h'.1,wC hQ r _ _ _ ho.2 h'.2 fuel ozp⟩) h)
end
section
variable {own:List av}{π:List (Nat×Bool)}
def dr(fin:Nat->Bool)(π:List (Nat×Bool)){id:Nat}(hm:P.follows .mixedOrders=true)(ho:(rj ops fin π (Array.replicate ops.size false)&&Nat.ble π.length ops.size)=true)
  (h:St C n fr own G (gz P ops (fI Q) (HS C own G) fin π)):St C n fr own G ((Code.region id ops true).wp P Q):=by
 simp only[bV] at ho;refine WB fin hm fun a w rl=>wC (fun _ _ _ _ _ h=>h) π _ a w ho.1 (h a w rl) _ (by simpa using ho.2)
def dy(ho:ops[i]? =some o)(hy: ∀G':Gh,[GE G0 G']->Yd P C fr own0 G' o v)(hg:o.guard=none)(hd:bP n o.dst=true)[hs:ke own0 own][hl:GL G0 G]
  (h:St C n (put fr o.dst v) own G (gz P ops (fI Q) (HS C own0 G0) fin π)):St C n fr own G (gz P ops (fI Q) (HS C own0 G0) fin ((i,true)::π)):=
 fun a w rl=>⟨o,v,ho,⟨G,hl.le,rl.h.drop hs.s⟩, .inl ⟨by simp[Region.wanted,hg],fun w' ⟨G',hle,hr⟩=> @hy G' ⟨hle⟩ a w' rl.fr hr⟩,h _ _ (rl.put v hd)⟩
def dM(ho:ops[i]? =some ⟨dst, .move x,ty',pos,af,none⟩)(hx:aB fr x=some v)(hd:bP n dst=true)[hs:ke own0 own][hl:GL G0 G]
  (h:St C n (put fr dst v) own G (gz P ops (fI Q) (HS C own0 G0) fin π)):St C n fr own G (gz P ops (fI Q) (HS C own0 G0) fin ((i,true)::π)):=dy ho (fun _ _=>pA hx) J hd h
def dA(ho:ops[i]? =some ⟨dst, .assign x,ty',pos,af,none⟩)(hx:aB fr x=some v)(hd:bP n dst=true)[hs:ke own0 own][hl:GL G0 G]
  (h:St C n (put fr dst v) own G (gz P ops (fI Q) (HS C own0 G0) fin π)):St C n fr own G (gz P ops (fI Q) (HS C own0 G0) fin ((i,true)::π)):=dy ho (fun _ _=>Hp hx) J hd h
def dF{o:Nat}[hF:mo P t f off](ho:ops[i]? =some ⟨dst, .fieldAddr t x f,ty',pos,af,none⟩)(hx:aB fr x=some (.pointer (some ⟨b,o,none⟩)))(hd:bP n dst=true)[hs:ke own0 own][hl:GL G0 G]
  (h:St C n (put fr dst (.pointer (some ⟨b,o+off,none⟩))) own G (gz P ops (fI Q) (HS C own0 G0) fin π)):St C n fr own G (gz P ops (fI Q) (HS C own0 G0) fin ((i,true)::π)):=dy ho (fun _ _=>qC hx) J hd h
def dL{cs:List Value}(ho:ops[i]? =some ⟨dst, .load t x,ty',pos,af,none⟩)(hx:aB fr x=some (.pointer (some ⟨b,off,none⟩)))[hw:gA own0 b cs ty lo][la P t k](hv:co cs off k=some l)(hd:bP n dst=true)[hs:ke own0 own][hl:GL G0 G]
  (h:St C n (put fr dst (.agg ⟨l⟩)) own G (gz P ops (fI Q) (HS C own0 G0) fin π)):St C n fr own G (gz P ops (fI Q) (HS C own0 G0) fin ((i,true)::π)):=dy ho (fun _ _=>CV hx hv) J hd h
def Au{cs:List Value}(ho:ops[i]? =some ⟨dst, .load t x,ty',pos,af,none⟩)(hx:aB fr x=some (.pointer (some ⟨b,off,none⟩)))[hw:gA own0 b cs ty lo][kI P t](hv:cs[off]? =some v)(hd:bP n dst=true)[hs:ke own0 own][hl:GL G0 G]
  (h:St C n (put fr dst v) own G (gz P ops (fI Q) (HS C own0 G0) fin π)):St C n fr own G (gz P ops (fI Q) (HS C own0 G0) fin ((i,true)::π)):=dy ho (fun _ _=>rh hx hv) J hd h
def sH(ho:ops[i]? =some o){b:Bool}(hg:o.guard=some (j,b))(hj:(ops[j]?).bind (·.dst)=some d)(hlk:iq fr d=some (.bool b))(hy: ∀G':Gh,[GE G0 G']->Yd P C fr own0 G' o v)(hd:bP n o.dst=true)[hs:ke own0 own][hl:GL G0 G]
  (h:St C n (put fr o.dst v) own G (gz P ops (fI Q) (HS C own0 G0) fin π)):St C n fr own G (gz P ops (fI Q) (HS C own0 G0) fin ((i,true)::π)):=
 fun a w rl=>⟨o,v,ho,⟨G,hl.le,rl.h.drop hs.s⟩, .inl ⟨by simp[Region.wanted,hg,Fc rl.fr hj hlk],fun w' ⟨G',hle,hr⟩=> @hy G' ⟨hle⟩ a w' rl.fr hr⟩,h _ _ (rl.put v hd)⟩
def dc(ho:ops[i]? =some o)(hg:o.guard=none)(hc:Ch P C n fr own G o (fun a w=>(fin i=true\/HS C own0 G0 w)/\gz P ops (fI Q) (HS C own0 G0) fin π a w)):St C n fr own G (gz P ops (fI Q) (HS C own0 G0) fin ((i,false)::π)):=by
 intro a w rl;show wpOp P ops (fI Q) i _ a w;unfold wpOp;simp only[ho,Region.wanted,hg,if_true];exact .inl (hc a w _ rl)
def dn(h:St C n fr own G (Q .normal)):St C n fr own G (gz P ops (fI Q) (HS C own0 G0) fin []):=h
def Qq{cs:List Value}[h:GI A b cs][k:GL A G]:G b=some cs:=k.le _ _ h.h
variable {r:List Oper}
def sm(hx:aB fr x=some v)(hd:bP n dst=true)(h:St C n (put fr dst v) own G (de P ops Q r)):St C n fr own G (de P ops Q (⟨dst, .move x,ty',pos,af,none⟩::r)):=qB (pA hx) J hd h
def sa(hx:aB fr x=some v)(hd:bP n dst=true)(h:St C n (put fr dst v) own G (de P ops Q r)):St C n fr own G (de P ops Q (⟨dst, .assign x,ty',pos,af,none⟩::r)):=qB (Hp hx) J hd h
def sn{ad:Addr}(hx:aB fr x=some (.pointer (some ad)))(hd:bP n dst=true)(h:St C n (put fr dst (.pointer (some ad))) own G (de P ops Q r)):St C n fr own G (de P ops Q (⟨dst, .nilCheck x,ty',pos,af,none⟩::r)):=qB (qD hx) J hd h
def sf{o:Nat}[hF:mo P t f off](hx:aB fr x=some (.pointer (some ⟨b,o,none⟩)))(hd:bP n dst=true)(h:St C n (put fr dst (.pointer (some ⟨b,o+off,none⟩))) own G (de P ops Q r)):St C n fr own G (de P ops Q (⟨dst, .fieldAddr t x f,ty',pos,af,none⟩::r)):=qB (qC hx) J hd h
def XD{cs:List Value}(hx:aB fr x=some (.pointer (some ⟨b,off,none⟩)))[ho:gA own b cs ty lo][la P t k](hl:co cs off k=some l)(hd:bP n dst=true)
  (h:St C n (put fr dst (.agg ⟨l⟩)) own G (de P ops Q r)):St C n fr own G (de P ops Q (⟨dst, .load t x,ty',pos,af,none⟩::r)):=qB (CV hx hl) J hd h
def ve{cs:List Value}(hx:aB fr x=some (.pointer (some ⟨b,off,none⟩)))[ho:gA own b cs ty lo][kI P t](hl:cs[off]? =some v)(hd:bP n dst=true)
  (h:St C n (put fr dst v) own G (de P ops Q r)):St C n fr own G (de P ops Q (⟨dst, .load t x,ty',pos,af,none⟩::r)):=qB (rh hx hl) J hd h
def Ft[hT:cg P t e s by_](hx:aB fr x=some (.slice ad len cap))(hd:bP n dst=true)
  (h:St C n (put fr dst (.int .i64 len)) own G (de P ops Q r)):St C n fr own G (de P ops Q (⟨dst, .call ⟨.builtin .len, #[x], #[t]⟩,ty',pos,af,none⟩::r)):=qB (ue hx) J hd h
def sx{vs:Array Value}(hx:aB fr x=some (.tuple vs))(hv:vs[i]? =some v)(hd:bP n dst=true)(h:St C n (put fr dst v) own G (de P ops Q r)):St C n fr own G (de P ops Q (⟨dst, .extract x i,ty',pos,af,none⟩::r)):=qB (Dl hx hv) J hd h
def jt{b:Bool}(hj:(ops[j]?).bind (·.dst)=some d)(hl:iq fr d=some (.bool b))(hy:Yd P C fr own G ⟨dst,op,ty',pos,af,some (j,b)⟩ v)(hd:bP n dst=true)(h:St C n (put fr dst v) own G (de P ops Q r)):St C n fr own G (de P ops Q (⟨dst,op,ty',pos,af,some (j,b)⟩::r)):=Q3 J hj hl hy hd h
def ss{b:Bool}(hj:(ops[j]?).bind (·.dst)=some d)(hl:iq fr d=some (.bool c))(hbc:(c==b)=false)(hd:bP n dst=true)(h:St C n (put fr dst undef) own G (de P ops Q r)):St C n fr own G (de P ops Q (⟨dst,op,ty',pos,af,some (j,b)⟩::r)):=Vp J hj hl hbc hd h
def sy(hy:Yd P C fr own G ⟨dst,op,ty',pos,af,none⟩ v)(hd:bP n dst=true)(h:St C n (put fr dst v) own G (de P ops Q r)):St C n fr own G (de P ops Q (⟨dst,op,ty',pos,af,none⟩::r)):=qB hy J hd h
def sc{op:Op}(hc:Ch P C n fr own G ⟨dst,op,ty',pos,af,none⟩ (de P ops Q r)):St C n fr own G (de P ops Q (⟨dst,op,ty',pos,af,none⟩::r)):=Wh J hc
end
def Fn.of_calls{f:FuncId}{vs:List Value}(ha:qm P f)(h: ∀w,Calls P f ⟨vs⟩ w fun e w'=>e= .returned v/\w'=w):Fn P f vs G (fun u _=>u=v):=
 ⟨ha,fun w hw=>(h w).mono fun e w' ⟨he,hww⟩=>⟨v,G,he,by
  subst hww;exact⟨J,J,J,bZ _,fun _ _ _=>J,hw,bA.refl _,fun _ _=>J,fun o ho=>(by cases ho), .nil,bZ _,fun p hp=>by cases hp⟩,J⟩⟩
end Go.Sx
end
section
namespace Go.Sx
def dv:List Nat->Nat
 |[]=>0
 |d::t=>d+4294967296*dv t
def bt(ds:List Nat):Prop:= ∀d∈ds,d<4294967296
def fk(ds:List Nat):Prop:=ds.getLast? ≠some 0
instance (ds:List Nat):Decidable (fk ds):=inferInstanceAs (Decidable (ds.getLast? ≠some 0))
def bt.nil:bt []:=fun _ h=>by cases h
def bt.cons{d:Nat}{ds:List Nat}(h:d<4294967296)(k:bt ds):bt (d::ds):=fun x hx=>by
 rcases aT.1 hx with rfl|h'
 .exact h
 .exact k _ h'
def bt.head{d:Nat}{ds:List Nat}(h:bt (d::ds)):d<4294967296:=h d aZ
def bt.tail{d:Nat}{ds:List Nat}(h:bt (d::ds)):bt ds:=fun x hx=>h x (aK _ hx)
def bt.append{a b:List Nat}(h:bt a)(k:bt b):bt (a++b):=fun x hx=>by
 rcases bJ.1 hx with h'|h'
 .exact h _ h'
 .exact k _ h'
def bt.take{a:List Nat}(h:bt a)(n:Nat):bt (a.take n):=fun x hx=>h x (dW hx)
def bt.drop{a:List Nat}(h:bt a)(n:Nat):bt (a.drop n):=fun x hx=>h x (gK hx)
def bt.get{a:List Nat}(h:bt a)(i:Nat):a.getD i 0<4294967296:=by
 rw[aJ]
 cases hi:a[i]? with
 |none=>simp
 |some d=>exact h d (aV hi)
def bt.set{a:List Nat}(h:bt a)(i:Nat){d:Nat}(hd:d<4294967296):bt (a.set i d):=fun x hx=>by
 rcases pY hx with h'|rfl
 .exact h _ h'
 .exact hd
def bt.replicate(n:Nat):bt (List.replicate n 0):=fun x hx=>by
 rw[List.eq_of_mem_replicate hx];omega
def vQ(a b:List Nat):dv (a++b)=dv a+4294967296^a.length*dv b:=by
 induction a with
 |nil=>simp[dv]
 |cons d t ih=>
  simp only[iT,dv,ih,bY,gJ];rw[eJ,<-kX,<-cX,bM 4294967296 (4294967296^t.length)]
def lu{ds:List Nat}(h:bt ds):dv ds<4294967296^ds.length:=by
 induction ds with
 |nil=>simp[dv]
 |cons d t ih=>
  have h1:=h.head;have h2:=ih h.tail;simp only[dv,bY,gJ];omega
def uY(n:Nat):dv (List.replicate n 0)=0:=by
 induction n with
 |zero=>rfl
 |succ n ih=>simp[sV,dv,ih]
def mv(ds:List Nat)(i:Nat):dv (ds.take (i+1))=dv (ds.take i)+4294967296^i*ds.getD i 0:=by
 by_cases h:i<ds.length
 .rw[iZ h,vQ]
  simp[dv,iN (lW h),aJ,h]
 .have:ds.getD i 0=0:=by rw[aJ,dR pb];rfl
  rw[this,bK pb,bK pb];simp
def wE(ds:List Nat)(i:Nat)(h:i<=ds.length:=by omega):dv ds=dv (ds.take i)+4294967296^i*dv (ds.drop i):=by
 have:=vQ (ds.take i) (ds.drop i);rw[jK] at this;rw[this];simp[iN h]
def trimD:List Nat->List Nat
 |[]=>[]
 |d::t=>match trimD t with
  |[]=>if d=0 then [] else [d]
  |t'=>d::t'
def tI(d:Nat)(t:List Nat):trimD (d::t)=if trimD t=[]/\d=0 then [] else d::trimD t:=by
 simp only[trimD]
 cases h:trimD t with
 |nil=>by_cases hd:d=0<;>simp[hd]
 |cons a b=>simp
def VR(ds:List Nat):dv (trimD ds)=dv ds:=by
 induction ds with
 |nil=>rfl
 |cons d t ih=>
  rw[tI];split
  .rename_i h
   rw[h.1] at ih;simp[dv,<-ih,h.2]
  .simp[dv,ih]
def Xb(ds:List Nat):trimD (ds++[0])=trimD ds:=by
 induction ds with
 |nil=>rfl
 |cons d t ih=>rw[iT,tI,tI,ih]
def IX{ds:List Nat}{d:Nat}(h:d≠0):trimD (ds++[d])=ds++[d]:=by
 induction ds with
 |nil=>simp[trimD,h]
 |cons e t ih=>rw[iT,tI,ih];simp
def fk.trimD(ds:List Nat):fk (trimD ds):=by
 induction ds with
 |nil=>simp[fk,Sx.trimD]
 |cons d t ih=>
  rw[tI];split
  .simp[fk]
  .rename_i h
   unfold fk at*;rw[List.getLast?_cons]
   cases ht:(Sx.trimD t).getLast? with
   |none=>
    have:Sx.trimD t=[]:=by simpa using ht
    simp only[Option.getD_none,ne_eq,Option.some.injEq];exact fun hd=>h ⟨this,hd⟩
   |some x=>rw[ht] at ih;simpa using ih
def VU(ds:List Nat):(trimD ds).length<=ds.length:=by
 induction ds with
 |nil=>simp[trimD]
 |cons d t ih=>
  rw[tI];split
  .simp
  .simp;omega
def ZS(ds:List Nat):trimD ds=ds.take (trimD ds).length:=by
 induction ds with
 |nil=>rfl
 |cons d t ih=>
  rw[tI];split
  .rfl
  .simp only[bY,nY];rw[<-ih]
def bt.trimD{ds:List Nat}(h:bt ds):bt (trimD ds):=by rw[ZS];exact h.take _
def Xn{ds:List Nat}(h:fk ds):trimD ds=ds:=by
 rcases rJ ds with rfl|⟨l,d,rfl⟩
 .rfl
 .rw[rK] at*
  exact IX (fun e=>by subst e;simp[fk] at h)
def um{ds:List Nat}(h:fk ds)(hne:ds≠[]):4294967296^(ds.length-1)<=dv ds:=by
 rcases rJ ds with rfl|⟨l,d,rfl⟩
 .exact absurd J hne
 .rw[rK] at*
  have hd:d≠0:=fun e=>by subst e;simp[fk] at h
  rw[vQ];simp only[aU,bY,iQ,dv];have:4294967296^(l.length+(0+1)-1)=4294967296^l.length:=by congr 1
  rw[this];have h1:4294967296^l.length*1<=4294967296^l.length*(d+4294967296*0):=dY _ pb;omega
def vx{a b:List Nat}(ha:bt a)(hb:fk b)(h:a.length<b.length):dv a<dv b:=by
 have h1:=lu ha;have h2:=um hb (fun e=>by subst e;simp at h);have h3:4294967296^a.length<=4294967296^(b.length-1):=bU pb pb;omega
def IH: ∀{a b:List Nat},bt a->bt b->a.length=b.length->dv a=dv b->a=b
 |[],[],_,_,_,_=>rfl
 |d::t,e::u,ha,hb,hl,h=>by
  have h1:=ha.head;have h2:=hb.head;simp only[dv] at h;have:d=e:=by omega
  subst this;rw[IH ha.tail hb.tail (by simpa using hl) pb]
def RM{a b:List Nat}(ha:bt a)(hb:bt b)(na:fk a)(nb:fk b)(h:dv a=dv b):a=b:=by
 refine IH ha hb ?_ h;rcases qL a.length b.length with h'|h'|h'
 .have:=vx ha nb h';omega
 .exact h'
 .have:=vx hb na h';omega
def Oj{a b:List Nat}(ha:bt a)(hb:bt b)(i:Nat)(hia:i<a.length)(hib:i<b.length)(hl:a.length=b.length)(hs:a.drop (i+1)=b.drop (i+1))(h:a.getD i 0<b.getD i 0):dv a<dv b:=by
 rw[wE a (i+1),wE b (i+1),hs,mv,mv];have h1:=lu (ha.take i);rw[bR,iN pb] at h1;have h2:4294967296^i*(a.getD i 0+1)<=4294967296^i*b.getD i 0:=dY _ h;rw[eJ] at h2;omega
def SL{ds:List Nat}{k:Nat}(h:fk ds)(hk:dv ds<2^k):32*ds.length<=k+31:=by
 by_cases hne:ds=[]
 .subst hne;simp
 .have h1:=um h hne
  have h2:(4294967296:Nat)^(ds.length-1)=2^(32*(ds.length-1)):=by
   rw[tX]
  rw[h2] at h1;have h3:2^(32*(ds.length-1))<2^k:=gX h1 hk;have h4:=(nK (by omega:1<2)).1 h3;have:0<ds.length:=by cases ds with|nil=>exact absurd J hne|cons _ _=>simp
  omega
def dg(x:Nat):List Nat:=if h:x=0 then [] else(x%4294967296)::dg (x/4294967296)
termination_by x
decreasing_by omega
def f6(x:Nat):dv (dg x)=x/\bt (dg x)/\fk (dg x):=by
 induction x using Nat.strongRecOn with
 |_ x ih=>
  unfold dg;split
  .rename_i h;subst h;exact⟨rfl, .nil,by simp[fk]⟩
  .rename_i h
   obtain⟨h1,h2,h3⟩:=ih (x/4294967296) pb;refine⟨by rw[dv,h1];omega, .cons pb h2,?_⟩;unfold fk at*;rw[List.getLast?_cons]
   cases hl:(dg (x/4294967296)).getLast? with
   |none=>
    have:dg (x/4294967296)=[]:=by simpa using hl
    rw[this] at h1;simp only[Option.getD_none,ne_eq,Option.some.injEq];simp only[dv] at h1;omega
   |some y=>rw[hl] at h3;simpa using h3
def VL{ds:List Nat}(h:bt ds)(n:fk ds):dg (dv ds)=ds:=RM (f6 _).2.1 h (f6 _).2.2 n (f6 _).1
def B6{ds:List Nat}(h:bt ds):dg (dv ds)=trimD ds:=by rw[<-VR];exact VL h.trimD (fk.trimD _)
def tU: ∀(ws:List Nat) (j d:Nat),j<ws.length->dv (ws.set j d)+4294967296^j*ws.getD j 0=dv ws+4294967296^j*d
 |[],j,d,h=>by simp at h
 |w::t,0,d,h=>by simp[dv];omega
 |w::t,j+1,d,h=>by
  have ih:=tU t j d omu;simp only[List.set_cons_succ,dv,kM,gJ];have h1:4294967296^j*4294967296*t.getD j 0=4294967296*(4294967296^j*t.getD j 0):=by rw[bM (4294967296^j),cX]
  have h2:4294967296^j*4294967296*d=4294967296*(4294967296^j*d):=by rw[bM (4294967296^j),cX]
  rw[h1,h2];omega
def t6{ws:List Nat}{k d:Nat}(h:k<ws.length:=by omega):dv ((ws.set k d).take (k+1))=dv (ws.take k)+4294967296^k*d:=by
 rw[iZ omu,List.take_set_of_le (bZ _),vQ];simp[dv,iN (lW h)]
def LS(p x:Nat):p*x=p*(x%4294967296)+p*4294967296*(x/4294967296):=by
 have h:p*x=p*(4294967296*(x/4294967296)+x%4294967296):=by rw[qZ]
 rw[eJ,<-cX] at h;omega
def XZ{p A E W c a b:Nat}(h:W+p*c=A+E):(W+p*((c+a+b)%4294967296))+(p*4294967296)*((c+a+b)/4294967296)=(A+p*a)+(E+p*b):=by
 have h1:=LS p (c+a+b);rw[eJ,eJ] at h1;omega
def Y0{p A E W bo b a:Nat}(h:W+E=A+p*bo)(hle:bo+b<=a):(W+p*(a-(bo+b)))+(E+p*b)=(A+p*a)+p*4294967296*0:=by
 have h1:p*a=p*(a-(bo+b))+p*bo+p*b:=by
  rw[<-eJ,<-eJ];congr 1;omega
 omega
def Rt{p A E W bo b a:Nat}(h:W+E=A+p*bo)(hle:a<bo+b)(hb:bo+b<=a+4294967296):(W+p*(a+4294967296-(bo+b)))+(E+p*b)=(A+p*a)+p*4294967296*1:=by
 have h1:p*a+p*4294967296=p*(a+4294967296-(bo+b))+p*bo+p*b:=by
  rw[<-eJ,<-eJ,<-eJ];congr 1;omega
 omega
def Zu{p W W' T c m w:Nat}(hs:W'+p*w=W+p*((c+m+w)%4294967296))(h:W+p*c=T):W'+(p*4294967296)*((c+m+w)/4294967296)=T+p*m:=by
 have h1:=LS p (c+m+w);rw[eJ,eJ] at h1;omega
end Go.Sx
end
section
namespace Go.Sx
open Go
variable {P:Program}{C:aD}{fr:Fr}{G G0 G' A:Gh}{ops:Array Oper}{Q:Exit->Act->World->Prop}{S:World->Prop}{fin:Nat->Bool}{own0 M own' own1 B:List av}{rest vs c1 es l cs' ys xs cs1 cs2:List Value}{w w':World}{f:FuncId}{m c2 s e by_ b off l2 cap2:Nat}{K:Value->List av->Gh->Prop}{Φ:Act->World->Prop}{dst:Option Nat}{t' ty' ty tS tR t1 t2:TypeId}{pos:String}{af:Array Edge}{x y fo:Operand}{args:Array Operand}{tys:Array TypeId}{i p q:Int}{ds:List Nat}{k':IntKind}{lo lo1 lo2:Bool}{ad ad2:Option Addr}
section
variable {n:Nat}{own:List av}
def PJ:Exit->Bool
 | .goto _=>false
 |_=>true
end
section
variable {k:Nat}{π₂:List (Nat×Bool)}
end
section
variable {n:Nat}{own:List av}{k:Nat}{π π₂:List (Nat×Bool)}
def fF(d:Nat):Option Nat->Fr
 |none=>[]
 |some b=>[(d, .pointer (some ⟨b,0,none⟩))]
def fO(t:TypeId)(z:Value):Option Nat->List av
 |none=>[]
 |some b=>[⟨b,aH z,t,true⟩]
end
def relo(fl:Nat->Bool)(o:av):av:={o with lo:=fl o.b}
structure lc (P:Program) (f:FuncId) (vs:List Value) (M:List av) (G:Gh) (K:Value->List av->Gh->Prop):Prop where
 able:qm P f
 run: ∀w,bu ⟨w,G,M.map (·.b),[],[],none,fun _=>none⟩ (asB M) G w->
  Calls P f ⟨vs⟩ w fun e w'=> ∃v own' G',e= .returned v/\bu ⟨w,G,M.map (·.b),[],[],none,fun _=>none⟩ own' G' w'/\K v own' G'
def gt(M:List av)(b:Nat):Bool:=M.all fun m=>!Nat.beq m.b b||m.lo
def bu.calledO{rest:List av}(h:bu C (M++rest) G w)(k:bu ⟨w,G,M.map (·.b),[],[],none,fun _=>none⟩ own' G' w'):
  bu C (own'.map (relo (gt M))++rest) G' w':=by
 have hsz:w.heap.size<=w'.heap.size:=k.size;have hnd:=h.nd;have inM: ∀b,b∈M.map (·.b)-> ∀o∈rest,o.b≠b:=fun b hb o ho e=>by
  obtain⟨m,hm,rfl⟩:=aN.1 hb;exact(eY.1 hnd).2.2 m hm o ho e.symm
 have bnd: ∀o∈own',o.b∉M.map (·.b)->w.heap.size<=o.b:=fun o ho hb=>by
  obtain⟨_,_,h3,h4⟩:=k.hown o ho
  cases hlo:o.lo with
  |true=>exact h3 hlo
  |false=>exact absurd (h4 hlo) hb
 refine⟨k.os.trans h.os,k.tape.trans h.tape,k.output.trans h.output,cJ h.size hsz,?_,k.sub,h.gle.trans k.gle,?_,?_,?_,cJ h.dr k.dr,fun p hp=>⟨(h.ext p hp).1,by rw[k.keep _ (gq (h.ext p hp).2) (h.extM hp)];exact(h.ext p hp).2⟩⟩
 .intro b hb hm
  have hs:=h.size;have hnM:b∉M.map (·.b):=fun hb'=>by
   obtain⟨m,hmM,rfl⟩:=aN.1 hb';obtain⟨_,_,h3,h4⟩:=h.hown m (bS _ hmM)
   cases hlo:m.lo with
   |true=>have:=h3 hlo;omega
   |false=>exact hm (h4 hlo)
  rw[k.keep b omF hnM];exact h.keep b hb hm
 .intro b hb;have:=h.size;rw[k.gold b omF];exact h.gold b hb
 .intro o ho
  have hs:=h.size;rcases bJ.1 ho with ho|ho
  .obtain⟨o',ho',rfl⟩:=aN.1 ho
   obtain⟨k1,k2,k3,k4⟩:=k.hown _ ho';refine⟨k1,k2,fun hl=>?_,fun hl=>?_⟩
   .show C.w0.heap.size<=o'.b
    by_cases hb:o'.b∈M.map (·.b)
    .obtain⟨m,hm,hmb⟩:=aN.1 hb
     have hl':gt M o'.b=true:=hl;have:=dZ.1 hl' m hm;simp only[hmb,gR,fN,kS] at this;obtain⟨_,_,h3,_⟩:=h.hown m (bS _ hm);rw[<-hmb];exact h3 (by rcases this with h|h;(cases h);(exact h))
    .have:=bnd o' ho' hb;omega
   .show o'.b∈C.mb
    have hl':gt M o'.b=false:=hl;obtain⟨m,hm,hmb⟩:=List.all_eq_false.1 hl';simp only[gR,fN,not_or] at hmb;obtain⟨h1,h2⟩:=hmb;have e:m.b=o'.b:=by
     cases hq:Nat.beq m.b o'.b with
     |true=>exact aR hq
     |false=>exact absurd hq h1
    obtain⟨_,_,_,h4⟩:=h.hown m (bS _ hm);rw[<-e];exact h4 (by cases hq:m.lo with
     |true=>exact absurd hq h2
     |false=>rfl)
  .obtain⟨h1,h2,h3⟩:=h.hown o (cW _ ho)
   have hnM:o.b∉M.map (·.b):=fun hb=>inM _ hb o ho J;exact⟨by rw[k.keep _ (gq h1) hnM];exact h1,by rw[k.gold _ (gq h1)];exact h2,h3⟩
 .refine eY.2 ⟨?_,(eY.1 hnd).2.1,?_⟩
  .rw[List.pairwise_map];exact k.nd
  .intro x hx y hy
   obtain⟨o',ho',rfl⟩:=aN.1 hx;show o'.b≠y.b;by_cases hb:o'.b∈M.map (·.b)
   .exact fun e=>inM _ hb y hy e.symm
   .have h1:=bnd o' ho' hb
    have h2:=gq (h.hown y (cW _ hy)).1;omega
def qj(C:aD)(K:Value->List av->Gh->Prop):Ending->World->Prop:=fun e w'=> ∃v own' G',e= .returned v/\bu C own' G' w'/\K v own' G'
def lc.introR{fn:Func}{c:Code}(hf:P.funcs[f]? =some fn)(hb:fn.body=some c)(hn:(fn.name== "runtime.NumGoroutine")=false)(hm:fn.ntmps=m)(hlen:Nat.ble vs.length m=true)
  (h: ∀C:aD,C.G0=G->C.mb=M.map (·.b)->C.rd=none->(C.fx=fun _=>none)->St C m (mG 0 vs) (asB M) G (c.wp P (dx C P fn (qj C K)))):lc P f vs M G K:=by
 refine⟨⟨fn,hf,hn,by simp[hb]⟩,fun w hw=>?_⟩;have hlen':vs.length<=m:=by simpa using hlen
 have:=calls_of_wp (P:=P) (f:=f) (args:=⟨vs⟩) (w:=w) (R:=qj ⟨w,G,M.map (·.b),[],[],none,fun _=>none⟩ K) hf hb (wp_mono (h ⟨w,G,M.map (·.b),[],[],none,fun _=>none⟩ J J J J _ w
  ⟨hw,by simp;omega,fun k v hk=>by
   obtain⟨j,rfl,hj⟩:=tG vs 0 k v hk;have hj':=(aS.1 hj).1;rw[kR omG];simpa using hj,J⟩) fun _ _ _ k=>k J)
 exact this
section
variable {n:Nat}{own:List av}
variable {t:TypeId}{gd:Option (Nat×Bool)}
def wK{fn:Func}(hr:jn P fr own fn.results.toList vs)(own2 own3:List av)(hp:own.Perm own2)(hs:own3.Sublist own2)(hk:K (my vs) own3 G):St C n fr own G (dx C P fn (qj C K) .ret):=
 fun a w rl hmk=>⟨rl.df.trans hmk,_,rI hr rl.fr rl.h,_,own3,G,J,(rl.h.perm hp).drop hs,hk⟩
def Y3{c2:List Value}{rest:List av}(ho:aB fr fo=some (.func (.func f) ⟨c1⟩ ⟨c2⟩))(hv:fm fr args.toList=some vs)
  (hp:own.Perm (M++rest))(hF:lc P f (c1++vs++c2) M G K)(hd:bP n dst=true)(h: ∀v own1 (G':Gh),[GE G G']->K v own1 G'->St C n (put fr dst v) (own1.map (relo (gt M))++rest) G' Φ):
  Ch P C n fr own G ⟨dst, .call ⟨.value fo,args,tys⟩,ty',pos,af,gd⟩ Φ:=by
 intro a w Q rl;have h2:=A8 (P:=P) (dst:=dst) (ty':=ty') (pos:=pos) (af:=af) (gd:=gd) (tys:=tys) (w:=w) hF.able rl.fr ho hv;simp only[Oper.wp,h2,Oper.upon];have hh0:=rl.h.perm hp;refine(hF.run w hh0.lend).mono ?_;rintro e w' ⟨v,own1,G',rfl,hh,hK⟩;exact @h v own1 G' ⟨hh.gle⟩ hK _ _ ((rl.heap (hh0.calledO hh)).put _ hd)
def r6{rest:List av}(ho:aB fr fo=some (.func (.func f) #[] #[]))(hv:fm fr args.toList=some vs)
  (hp:own.Perm (M++rest))(hF:lc P f vs M G K)(hd:bP n dst=true)(h: ∀v own1 (G':Gh),[GE G G']->K v own1 G'->St C n (put fr dst v) (own1.map (relo (gt M))++rest) G' Φ):
  Ch P C n fr own G ⟨dst, .call ⟨.value fo,args,tys⟩,ty',pos,af,gd⟩ Φ:=
 Y3 (c1:=[]) (c2:=[]) ho hv hp (by simpa using hF) hd h
end
structure SV where
 a:Option Addr
 n:Nat
 c:Nat
def SV.v(x:SV):Value:= .slice x.a x.n x.c
structure gy (G:Gh) (s:Nat) (x:SV) (es:List Value):Prop where
 len:x.n=es.length
 cap:x.n<=x.c
 mem:es=[]\/ ∃b off cs,x.a=some ⟨b,off,none⟩/\G b=some cs/\ ∀i (h:i<es.length),co cs (off+i*s) s=some (aH es[i])
def gy.up'{x:SV}(h:gy A s x es)(k:bA A G):gy G s x es:=
 ⟨h.len,h.cap,h.mem.imp id (fun⟨b,off,cs,h1,h2,h3⟩=>⟨b,off,cs,h1,k _ _ h2,h3⟩)⟩
def gy.nil(G:Gh)(s:Nat):gy G s ⟨none,0,0⟩ []:=⟨J,bZ _, .inl J⟩
def A3(a:Option Addr)(k:Nat):Option Addr:=a.map (·.add k)
section
variable {n:Nat}{own:List av}
variable {t:TypeId}{gd:Option (Nat×Bool)}
def P3[hT:cg P t e s by_]{k:IntKind}{z:SV}(hs:gy A s z es)(hx:aB fr x=some (.slice z.a z.n z.c))(hy:aB fr y=some (.int k i))(h0:0<=i)(h1:i<z.n):
  Yd P C fr own G ⟨dst, .indexAddr t x y,ty',pos,af,gd⟩ (.pointer (A3 z.a (i.toNat*s))):=by
 rcases hs.mem with h|⟨b,off,cs,ha,hg,hc⟩
 .have:=hs.len;rw[h] at this;simp at this;omega
 .rw[ha] at hx
  have:=Bv (P:=P) (C:=C) (own:=own) (G:=G) (t:=t) (dst:=dst) (ty':=ty') (pos:=pos) (af:=af) (gd:=gd) (by_:=by_) hx hy h0 h1;rw[ha];simpa[A3,qb] using this
def Xp[hA:la P t s]{z:SV}{i:Nat}(hs:gy A s z es)[hl:GL A G](hx:aB fr x=some (.pointer (A3 z.a (i*s))))(h1:i<es.length)(he:es[i]? =some (.agg ⟨l⟩)):
  Yd P C fr own G ⟨dst, .load t x,ty',pos,af,gd⟩ (.agg ⟨l⟩):=by
 rcases hs.mem with h|⟨b,off,cs,ha,hg,hc⟩
 .rw[h] at h1;simp at h1
 .rw[ha] at hx
  have h2:=hc i h1;rw[aQ h1] at he;have he':es[i]= .agg ⟨l⟩:=by simpa using he
  rw[he'] at h2;exact Jb (by simpa[A3,qb] using hx) (hl.le _ _ hg) h2
end
def dI(d:Nat):Value:= .int .u32 (d:Int)
structure pz (G:Gh) (x:SV) (ds:List Nat):Prop where
 ok:bt ds
 sl:gy G 1 x (ds.map dI)
def pz.len{G:Gh}{x:SV}{ds:List Nat}(h:pz G x ds):x.n=ds.length:=by simpa using h.sl.len
def pz.nil(G:Gh):pz G ⟨none,0,0⟩ []:=⟨.nil, .nil G 1⟩
def pz.of_block{c k:Nat}{cs:List Value}(ok:bt ds)(hg:G b=some cs)(hk:k=ds.length)(hc:k<=c)(hcs:cs.take ds.length=ds.map dI):pz G ⟨some ⟨b,0,none⟩,k,c⟩ ds:=by
 refine⟨ok,by simpa using hk,hc, .inr ⟨b,0,cs,J,hg,fun i hi=>?_⟩⟩;have hi':i<ds.length:=by simpa using hi
 have hl:ds.length<=cs.length:=by
  have:=congrArg List.length hcs;simp at this;omega
 rw[ks _ _ _ pb];congr 1;have h1:(cs.take ds.length)[i]? =(ds.map dI)[i]? :=by rw[hcs]
 rw[qW,if_pos hi',cY,aQ hi',aQ pb] at h1;have h2:cs[i]=dI ds[i]:=by simpa using h1
 rw[eX,kY,bW pb,nY,tQ,h2,kU];rfl
section
variable {n:Nat}{own:List av}
variable {t:TypeId}{gd:Option (Nat×Bool)}
def Rd{z:SV}(h:pz A z ds)[hl:GL A G]:l6 P C own G 1 z.n (.slice z.a z.n z.c) (ds.map dI):=by
 intro w hw;by_cases hne:ds=[]
 .rw[h.len]
  subst hne;exact sA w hw
 rcases h.sl.mem with h0|⟨b,off,cs,ha,hg,hc⟩
 .exact absurd (by simpa using h0) hne
 .rw[ha]
  have hn:=h.len;refine Ir (hl.le _ _ hg) ?_ w hw;rw[kY];have hel: ∀i,i<ds.length->cs[off+i]? =some (dI (ds.getD i 0)):=fun i hi=>by
   have h1:=hc i omW;obtain⟨_,h2⟩:=pf _ _ _ _ h1;have h3:=h2 0 pb;rw[kY,gW] at h3;rw[h3,kU,aJ,aQ hi];rfl
  by_cases h00:ds.length=0
  .exact absurd h00 (fun e=>hne (cV e))
  .have hlast:=hel (ds.length-1) pb
   have hle:off+ds.length<=cs.length:=by
    have:=(aS.1 hlast).1;omega
   rw[hn,ks _ _ _ hle];congr 1;apply lR;intro i;rw[qW];split
   .rename_i hi
    rw[oZ,hel i hi,cY,aJ,aQ hi];rfl
   .rename_i hi
    rw[dR omW]
def M2[hT:cg P t e s by_]{k:IntKind}{len cap:Nat}(hx:aB fr x=some (.slice (some ⟨b,0,none⟩) len cap))(hy:aB fr y=some (.int k i))(h0:0<=i:=by omega)(h1:i<len:=by omega):
  Yd P C fr own G ⟨dst, .indexAddr t x y,ty',pos,af,gd⟩ (.pointer (some ⟨b,i.toNat*s,none⟩)):=by
 have:=Bv (P:=P) (C:=C) (own:=own) (G:=G) (t:=t) (dst:=dst) (ty':=ty') (pos:=pos) (af:=af) (gd:=gd) (by_:=by_) hx hy h0 h1;rwa [eX] at this
def wS(hx:aB fr x=some (.int .i64 p))(hy:aB fr y=some (.int .i64 q))(h0: -9223372036854775808<=p+q:=by omega)(h1:p+q<=9223372036854775807:=by omega):Yd P C fr own G ⟨dst, .binOp .add t x y t',ty',pos,af,gd⟩ (.int .i64 (p+q)):=ML hx hy ⟨h0,h1⟩
def Zz{k:IntKind}(hx:aB fr x=some (.int k p))(hy:aB fr y=some (.int k' q))(h0:0<=q):Yd P C fr own G ⟨dst, .binOp .shr t x y t',ty',pos,af,gd⟩ (.int k (p.fdiv (2^min q.toNat k.bits))):=by
 intro a w hf hh;simp only[execOp,bg hf hx,bg hf hy];have h1:(eqGuard .shr t x y (.int k p) (.int k' q)).run P w= .ok () w:=J;have h2:(binOp .shr t (.int k p) (.int k' q)).run P w= .ok (.int k (p.fdiv (2^min q.toNat k.bits))) w:=by
  simp[binOp,Op.shift,Int.not_lt.2 h0,run_pure]
 exact cA (by rw[aP h1];exact h2)
def Yq{k:IntKind}(hx:aB fr x=some (.int k p))(hy:aB fr y=some (.int k' q))(h0:0<=q):Yd P C fr own G ⟨dst, .binOp .shl t x y t',ty',pos,af,gd⟩ (.int k (k.wrap (p*2^min q.toNat k.bits))):=by
 intro a w hf hh;simp only[execOp,bg hf hx,bg hf hy];have h1:(eqGuard .shl t x y (.int k p) (.int k' q)).run P w= .ok () w:=J;have h2:(binOp .shl t (.int k p) (.int k' q)).run P w= .ok (.int k (k.wrap (p*2^min q.toNat k.bits))) w:=by
  simp[binOp,Op.shift,Int.not_lt.2 h0,run_pure]
 exact cA (by rw[aP h1];exact h2)
def rk(p:Int):IntKind.u32.wrap p=p%4294967296:=by simp[IntKind.wrap,IntKind.bits,IntKind.signed]
def pq(p:Int):IntKind.u64.wrap p=p%18446744073709551616:=by simp[IntKind.wrap,IntKind.bits,IntKind.signed]
def XT{k:IntKind}[hs:tO P t k][hd:tO P t' .u32](hx:aB fr x=some (.int k p)):Yd P C fr own G ⟨dst, .convert t t' x,ty',pos,af,gd⟩ (.int .u32 (p%4294967296)):=by
 have:=CL (P:=P) (C:=C) (own:=own) (G:=G) (dst:=dst) (ty':=ty') (pos:=pos) (af:=af) (gd:=gd) (t:=t) (t':=t') hx;rwa [rk] at this
def XK{k:IntKind}(hx:aB fr x=some (.int k p))(hy:aB fr y=some (.int k q))(h0:0<=p)(h:q≠0):Yd P C fr own G ⟨dst, .binOp .rem t x y t',ty',pos,af,gd⟩ (.int k (p%q)):=by
 have:=Po (P:=P) (C:=C) (own:=own) (G:=G) (dst:=dst) (ty':=ty') (pos:=pos) (af:=af) (gd:=gd) (t:=t) (t':=t') hx hy h;rwa [Int.tmod_eq_emod_of_nonneg h0] at this
def X7(hx:aB fr x=some (.int .u64 p))(hy:aB fr y=some (.int .u64 q))(h0:0<=p)(h1:p<=18446744073709551615)(h:0<q):Yd P C fr own G ⟨dst, .binOp .quo t x y t',ty',pos,af,gd⟩ (.int .u64 (p/q)):=by
 have:=Pe (P:=P) (C:=C) (own:=own) (G:=G) (dst:=dst) (ty':=ty') (pos:=pos) (af:=af) (gd:=gd) (t:=t) (t':=t') hx hy pb;rw[Int.tdiv_eq_ediv_of_nonneg h0,pq,Int.emod_eq_of_lt (Int.ediv_nonneg h0 pb) (by have:=Int.ediv_le_self q h0;omega)] at this;exact this
end
section
variable {n:Nat}{own:List av}
variable {t:TypeId}{gd:Option (Nat×Bool)}
def I4{v:Value}{k:Nat}{cs:List Value}(hx:aB fr x=some (.pointer (some ⟨b,off,none⟩)))(hy:aB fr y=some v)[hs:la P t k][ho:gA own b cs ty lo]
  (hc:ck cs off (aH v)=cs')(hu:gv own b cs ty lo cs' own')(hk:(aH v).length=k)(hl:off+k<=cs.length)(hf:(aH v).all flat=true)(hd:bP n dst=true)(h:St C n (put fr dst undef) own' G Φ):
  Ch P C n fr own G ⟨dst, .store t x y,ty',pos,af,gd⟩ Φ:=AM hx hy (hc▸hu) hk hl hf hd h
def Z7{v:Value}{cs:List Value}(hx:aB fr x=some (.pointer (some ⟨b,off,none⟩)))(hy:aB fr y=some v)[hs:kI P t][ho:gA own b cs ty lo]
  (hc:cs.set off v=cs')(hu:gv own b cs ty lo cs' own')(hl:off<cs.length)(hf:flat v=true)(hd:bP n dst=true)(h:St C n (put fr dst undef) own' G Φ):
  Ch P C n fr own G ⟨dst, .store t x y,ty',pos,af,gd⟩ Φ:=xW hx hy (hc▸hu) hl hf hd h
def Qj[hT:cg P t e s by_]{len cap:Nat}(hx:aB fr x=some (.slice ad len cap)):
  Yd P C fr own G ⟨dst, .call ⟨.builtin .cap, #[x], #[t]⟩,ty',pos,af,gd⟩ (.int .i64 cap):=by
 intro a w hf hh;simp only[execOp,resolve,gN,cZ,kJ,bg hf hx];have h1:(Builtin.cap_ #[t] ty' #[.slice ad len cap]).run P w= .ok (.int .i64 cap) w:=by
  simp only[Builtin.cap_];show(underlying t>>=_).run P w=_;rw[aP (hT.u w)];rfl
 exact cA h1
def Wr[hT:cg P t e s by_]{l c:Nat}{cs:List Value}(hm:Nat.min l2 l=m)
  (hb:w.heap[b]? =some (.cells ⟨cs⟩ ty (0,0)))(hsy:(Builtin.firstCells s m (.slice ad2 l2 c2)).run P w= .ok ⟨ys⟩ w)(hf: ∀v∈ys,flat v=true)(hl:off+ys.length<=cs.length):
  (Builtin.copy_ #[t,t'] ty' #[.slice (some ⟨b,off,none⟩) l c, .slice ad2 l2 c2]).run P w=
   .ok (.int .i64 m) (ge w b (.cells ⟨ck cs off ys⟩ ty (0,0))):=by
 obtain⟨i,hi,his,hib⟩:=hT.info;subst his;have hst:=wo (P:=P) ys w off 0 cs hf hb pb;rw[gW] at hst;subst hm;simp[Builtin.copy_,run_underlying hT.un,sizeOf,typeInfo,hi,Builtin.lenOf,hsy,hst];rfl
def Kw[hT:cg P t e s by_]{l c:Nat}{cs:List Value}(hx:aB fr x=some (.slice (some ⟨b,off,none⟩) l c))(hy:aB fr y=some (.slice ad2 l2 c2))
  (hm:Nat.min l2 l=m)(hsy:l6 P C own G s m (.slice ad2 l2 c2) ys)(hf: ∀v∈ys,flat v=true)(hl:off+ys.length<=cs.length)(hu:gv own b cs ty lo (ck cs off ys) own')(hd:bP n dst=true)
  (h:St C n (put fr dst (.int .i64 m)) own' G Φ):Ch P C n fr own G ⟨dst, .call ⟨.builtin .copy, #[x,y], #[t,t']⟩,ty',pos,af,gd⟩ Φ:=by
 intro a w Q rl;have hb:=(rl.h.hown _ (hu.spec rl.h.nd).1).1;refine j0 (v:= .int .i64 m) (w':=ge w b (.cells ⟨ck cs off ys⟩ ty (0,0))) ?_ (h _ _ ((rl.heap (rl.h.store hu)).put _ hd));simp only[execOp,resolve,gN,cZ,kJ,bg rl.fr hx,bg rl.fr hy];exact cA (Wr hm hb (hsy w rl.h) hf hl)
def MJ[hT:cg P t e s by_][hN:jh P t']{len cap:Nat}{cs:List Value}
  (hx:aB fr x=some (.slice (some ⟨b,0,none⟩) len cap))(hy:aB fr y=some (.slice ad2 m cap2))(hu:gv own b cs e lo (ck cs (len*s) ys) own')(hcs:cs.length=cap*s)
  (hsy:l6 P C own G s m (.slice ad2 m cap2) ys)(hys:ys.length=m*s)(hf: ∀v∈ys,flat v=true)(hneed:len+m<=cap)(hd:bP n dst=true)
  (h:St C n (put fr dst (.slice (some ⟨b,0,none⟩) (len+m) cap)) own' G Φ):
  Ch P C n fr own G ⟨dst, .call ⟨.builtin .append, #[x,y], #[t,t']⟩,ty',pos,af,gd⟩ Φ:=by
 intro a w Q rl;have hb:=(rl.h.hown _ (hu.spec rl.h.nd).1).1;refine j0 (v:= .slice (some ⟨b,0,none⟩) (len+m) cap) (w':=ge w b (.cells ⟨ck cs (len*s) ys⟩ e (0,0))) ?_ (h _ _ ((rl.heap (rl.h.store hu)).put _ hd));simp only[execOp,resolve,gN,cZ,kJ,bg rl.fr hx,bg rl.fr hy];exact cA (DS hb hcs (hsy w rl.h) hys hf hneed)
def YI[hT:cg P t e s by_][hN:jh P t']{z:Value}[hz:iv P e z]{len cap:Nat}
  (hx:aB fr x=some (.slice (some ⟨b,0,none⟩) len cap))(hy:aB fr y=some (.slice ad2 m cap2))(hr:iC own ⟨b,xs++rest,e,lo⟩ own1)(hxs:xs.length=len*s)(hcap:xs.length+rest.length=cap*s)(hlc:len<=cap)
  (hsy:l6 P C own G s m (.slice ad2 m cap2) ys)(hys:ys.length=m*s)(hf: ∀v∈ys,flat v=true)
  (hby:0<by_)(hb:(len+m)*by_<=140737488355328)(hzs:(aH z).length=s)(hd:bP n dst=true)
  (h: ∀b lo' cap' rest',len+m<=cap'->rest'.length+(len+m)*s=cap'*s->St C n (put fr dst (.slice (some ⟨b,0,none⟩) (len+m) cap')) (⟨b,xs++ys++rest',e,lo'⟩::own1) G Φ):
  Ch P C n fr own G ⟨dst, .call ⟨.builtin .append, #[x,y], #[t,t']⟩,ty',pos,af,gd⟩ Φ:=by
 intro a w Q rl;have hp:=rl.h.perm hr.perm;have hblk:=(hp.hown _ aZ).1;simp only[] at hblk;by_cases hneed:len+m<=cap
 .have hcs:(xs++rest).length=cap*s:=by simp;omega
  have hrun:=DS (P:=P) (t:=t) (t':=t') (ty':=ty') (w:=w) (len:=len) hblk hcs (hsy w rl.h) hys hf hneed;have hle:len*s+m*s<=cap*s:=by rw[<-cN];exact bX _ hneed
  have hov:ck (xs++rest) (len*s) ys=xs++ys++rest.drop (m*s):=by
   rw[n4 _ _ _ (by rw[hys];omega),<-hxs];simp[hys,mX]
  refine j0 (v:= .slice (some ⟨b,0,none⟩) (len+m) cap) (w':=ge w b (.cells ⟨ck (xs++rest) (len*s) ys⟩ e (0,0))) ?_ ?_
  .simp only[execOp,resolve,gN,cZ,kJ,bg rl.fr hx,bg rl.fr hy]
   exact cA hrun
  .rw[hov]
   refine h b lo cap (rest.drop (m*s)) hneed ?_ _ _ ((rl.heap (hp.store (.hd ..))).put _ hd);rw[gU,cN];omega
 .have hx':l6 P C own G s len (.slice (some ⟨b,0,none⟩) len cap) xs:=fun w' hw'=>by
   have hb':=(((hw'.perm hr.perm).hown _ aZ).1);refine Bi hb' ?_;rw[ks _ _ _ omk,<-hxs];simp
  have hcap':len+m<=grownCap w (len+m) cap e:=by unfold grownCap;simp only[Question.cut];omega
  have hrun:=Eb (P:=P) (t:=t) (t':=t') (ty':=ty') (w:=w) (w':=w) (hx' _ rl.h.drew) (hsy _ rl.h.drew) pb hby hb;refine j0 (v:= .slice (some ⟨w.heap.size,0,none⟩) (len+m) (grownCap w (len+m) cap e)) (w':=w.drew.alloc (.cells ⟨xs++ys++dE z (grownCap w (len+m) cap e-(len+m))⟩ e)) ?_ ?_
  .simp only[execOp,resolve,gN,cZ,kJ,bg rl.fr hx,bg rl.fr hy]
   exact cA hrun
  .refine h w.heap.size _ _ _ hcap' ?_ _ _ ((rl.heap (((hp.drew).drop (List.sublist_cons_self _ _)).alloc _ _)).put _ hd)
   rw[nA,hzs,<-cN];congr 1;omega
def RA{fn:Func}(hf:P.funcs[f]? =some fn)(hname:(fn.name== "runtime.NumGoroutine")=false)(hb:fn.body.isNone=true)(hn:Extern.findNext fn=none)
  (he:Extern.find fn=some (Extern.SlicesOverlaps.overlaps #[tS,tS] #[tR]))[hT:cg P tS e s by_]
  {b1 b2 o1 o2 l1 c1:Nat}(ho:aB fr fo=some (.func (.func f) #[] #[]))
  (hv:fm fr args.toList=some [.slice (some ⟨b1,o1,none⟩) l1 c1, .slice (some ⟨b2,o2,none⟩) l2 c2])[h1:gA own b1 cs1 t1 lo1][h2:gA own b2 cs2 t2 lo2](hne:b1≠b2)(hc2:cs2≠[]):
  Yd P C fr own G ⟨dst, .call ⟨.value fo,args,tys⟩,ty',pos,af,gd⟩ (.bool false):=by
 intro a w hfr hh;have e1:=(hh.hown _ h1.mem).1;have e2:=(hh.hown _ h2.mem).1;have ev:args.map a.eval=⟨[.slice (some ⟨b1,o1,none⟩) l1 c1, .slice (some ⟨b2,o2,none⟩) l2 c2]⟩:=by apply Array.ext';simpa using Bx hfr hv
 simp only[] at e1 e2;have hrun:=Lib.run_overlaps_apart (P:=P) w tS tR e hT.un s hT.siz ⟨b1,o1,none⟩ ⟨b2,o2,none⟩ l1 c1 l2 c2 hne t1 t2 cs1.length cs2.length
  (by simp[World.shape?,e1]) (by simp[World.shape?,e2]) (by simpa using hc2) (by simp[World.frozen?,e1]) (by simp[World.frozen?,e1])
 simp only[execOp,resolve,bg hfr ho,ev,Deferred.ofValue];show(invoke (.fn (.func f) #[]) _).run P w=_;simp only[invoke];have h3:=run_callFunc_extern (P:=P) hf hname hb hn he;rw[h3];simp[hrun,Result.andThen]
end
instance ke.cons2 (l m:List av) (o:av) [h:ke l m]:ke (o::l) (o::m):=⟨h.s.cons_cons o⟩
def Ub{n:Nat}{own:List av}{cs:List Value}(fin:Nat->Bool)(π:List (Nat×Bool)){id:Nat}(hm:P.follows .mixedOrders=true)(_hr:iC own ⟨b,cs,ty,lo⟩ own0)(ho:(rj ops fin π (Array.replicate ops.size false)&&Nat.ble π.length ops.size)=true)
  (h:St C n fr own G (gz P ops (fI Q) (HS C own0 G) fin π)):St C n fr own G ((Code.region id ops true).wp P Q):=by
 simp only[bV] at ho;intro a w rl;exact wp_mono (wp_region_any hm (z7 _ _ _ _ (wC (fun _ _ _ _ _ h=>h) π _ a _ ho.1 (h a _ (rl.heap rl.h.drew)) _ (by simpa using ho.2)))) fI.imp
def aG(vs:List Value):List Value:=(vs.map aH).flatten
def d6{s:Nat}: ∀(vs:List Value),(∀v∈vs,(aH v).length=s)->(aG vs).length=vs.length*s
 |[],_=>by simp[aG]
 |v::vs,h=>by
  have h1:=d6 vs (fun u hu=>h u (aK _ hu));have h2:=h v aZ;unfold aG at*;simp only[cZ,qS,aU,bY,h1,h2,iX];omega
def pg(us vs:List Value):aG (us++vs)=aG us++aG vs:=by simp[aG]
def DB(v:Value):aG [v]=aH v:=by simp[aG]
def FB{s:Nat}: ∀(vs:List Value) (i:Nat),(∀v∈vs,(aH v).length=s)->i<=vs.length->(aG vs).take (i*s)=aG (vs.take i)
 |vs,0,_,_=>by simp[aG]
 |[],i+1,_,h=>by simp at h
 |v::vs,i+1,h,hi=>by
  have h1:=FB vs i (fun u hu=>h u (aK _ hu)) omW;have h2:=h v aZ;unfold aG at*;simp only[cZ,qS,nY];rw[List.take_append,h2,bK (by rw[h2,iX];omega),iX,lJ,h1]
def BC{s:Nat}: ∀(vs:List Value) (i:Nat),(∀v∈vs,(aH v).length=s)->i<=vs.length->(aG vs).drop (i*s)=aG (vs.drop i)
 |vs,0,_,_=>by simp
 |[],i+1,_,h=>by simp at h
 |v::vs,i+1,h,hi=>by
  have h1:=BC vs i (fun u hu=>h u (aK _ hu)) omW;have h2:=h v aZ;unfold aG at*;simp only[cZ,qS,sY];rw[mX,h2,jL (by rw[h2,iX];omega),iX,lJ,h1,kN]
theorem okO{p:Prop}(h:p:=by simp only[aU];omega):p:=h
def Es(h: ∀v∈vs,(aH v).length=s){i:Nat}(hi:i<vs.length):co (aG vs++rest) (i*s) s=some (aH vs[i]):=by
 have hl:=d6 vs h;have hle:i*s+s<=vs.length*s:=by rw[<-iX];exact bX _ hi
 rw[ks _ _ _ okO];congr 1;rw[kZ pb,BC vs i h pb,bW hi];have h2:=h vs[i] (bL hi);rw[show(vs[i]::vs.drop (i+1))=[vs[i]]++vs.drop (i+1) from J,pg,DB,fK,fY pb,bK pb]
def gy.of_flat{c:Nat}(h: ∀v∈vs,(aH v).length=s)(hg:G b=some (aG vs++rest))(hc:vs.length<=c):gy G s ⟨some ⟨b,0,none⟩,vs.length,c⟩ vs:=
 ⟨J,hc, .inr ⟨b,0,_,J,hg,fun i hi=>by rw[eX];exact Es h hi⟩⟩
section
variable {n:Nat}{own:List av}
variable {gd:Option (Nat×Bool)}
def Ud(own0:List av)(fin:Nat->Bool)(π:List (Nat×Bool)){id:Nat}(hm:P.follows .mixedOrders=true)(ho:(rj ops fin π (Array.replicate ops.size false)&&Nat.ble π.length ops.size)=true)
  (h:St C n fr own G (gz P ops (fI Q) (HS C own0 G) fin π)):St C n fr own G ((Code.region id ops true).wp P Q):=by
 simp only[bV] at ho;intro a w rl;exact wp_mono (wp_region_any hm (z7 _ _ _ _ (wC (fun _ _ _ _ _ h=>h) π _ a _ ho.1 (h a _ (rl.heap rl.h.drew)) _ (by simpa using ho.2)))) fI.imp
end
section
variable {π₂:List (Nat×Bool)}
end
structure FD where
 k:Nat
 d:Nat
 t:TypeId
 z:Value
abbrev Fs:=Nat->Option Nat
def EM:List FD->Fs->Fr
 |[],_=>[]
 |f::r,fs=>fF f.d (fs f.k)++EM r fs
def GS:List FD->Fs->List av
 |[],_=>[]
 |f::r,fs=>fO f.t f.z (fs f.k)++GS r fs
def M8(fd:List FD)(fs:Fs):List Nat:=(fd.filter fun f=>(fs f.k).isNone).map (·.k)
section
variable {n:Nat}{own:List av}{π π₂:List (Nat×Bool)}{fd:List FD}
end
def i4(s:Nat)(ty:TypeId)(x:SV)(vs:List Value)(B:List av):Prop:=
 (vs=[]/\x=⟨none,0,0⟩/\B=[])\/
 ∃b rest lo,x=⟨some ⟨b,0,none⟩,vs.length,x.c⟩/\B=[⟨b,aG vs++rest,ty,lo⟩]/\(aG vs).length=vs.length*s/\(aG vs).length+rest.length=x.c*s/\vs.length<=x.c
def i4.nil(s:Nat)(ty:TypeId):i4 s ty ⟨none,0,0⟩ [] []:= .inl ⟨J,J,J⟩
def i4.relo{s:Nat}{ty:TypeId}{x:SV}{vs:List Value}{B:List av}(h:i4 s ty x vs B)(fl:Nat->Bool):i4 s ty x vs (B.map (Go.Sx.relo fl)):=by
 rcases h with⟨h1,h2,h3⟩|⟨b,rest,lo,h1,h2,h3,h4,h5⟩
 .exact .inl ⟨h1,h2,by rw[h3];rfl⟩
 .exact .inr ⟨b,rest,fl b,h1,by rw[h2];rfl,h3,h4,h5⟩
def i4.asB{s:Nat}{ty:TypeId}{x:SV}{vs:List Value}{B:List av}(h:i4 s ty x vs B):i4 s ty x vs (asB B):=by
 rcases h with⟨h1,h2,h3⟩|⟨b,rest,lo,h1,h2,h3,h4,h5⟩
 .exact .inl ⟨h1,h2,by rw[h3];rfl⟩
 .exact .inr ⟨b,rest,false,h1,by rw[h2];rfl,h3,h4,h5⟩
def i4.len{x:SV}(h:i4 s ty x vs B):x.n=vs.length:=by
 rcases h with⟨h1,h2,h3⟩|⟨b,rest,lo,h1,h2,h3,h4,h5⟩
 .rw[h2,h1];rfl
 .rw[h1]
def D2(b:Nat)(h: ∀m∈M,m.lo=true):gt M b=true:=by
 refine dZ.2 fun m hm=>?_;simp[h m hm]
section
variable {n:Nat}{own:List av}
variable {t:TypeId}{gd:Option (Nat×Bool)}
end
instance ke.nil (l:List av):ke [] l:=⟨kW l⟩
end Go.Sx
end
