import Derived.Test.YthhjilnhmkheeaaGreatDoorMr1
import Derived.Test.YthhjilnhmkheeaaGreatDoorProg
import Derived.Shelf.Small.Bits
import Derived.Shelf.Strconv.Itoa0
import Derived.Shelf.Bits.Mul64
import Derived.Scope
set_option linter.all false
set_option maxRecDepth 100000
section
namespace Go.Sx
open Go
def aG5{P:Program}{t:TypeId}{d:TypeDesc}(h:P.underlying t=some d)(w:World):(underlying t).run P w= .ok d w:=by
 simp[underlying,program,Sem.run_bind,Sem.run,h,run_pure]
class J5 (P:Program) (t:TypeId):Prop where u: ∀w,(underlying t).run P w= .ok .bool w
class Ki (P:Program) (t:TypeId):Prop where u: ∃e,∀w,(underlying t).run P w= .ok (.pointer e) w
class JL (P:Program) (t:TypeId):Prop where u: ∃ms,∀w,(underlying t).run P w= .ok (.interface ms) w
class KY (P:Program) (t:TypeId) (f:Nat) (off ft:outParam Nat):Prop where
 u: ∃fs fd,(∀w,(underlying t).run P w= .ok (.struct fs) w)/\fs[f]? =some fd/\fd.offset=off/\fd.type=ft
class mA (P:Program) (t:TypeId):Prop where
 un: ∃e,P.underlying t=some (.slice e)
section
variable {P:Program} {C:aH} {n:Nat} {fr:Fr} {own own':List az} {G:Gh} {Φ:Act->World->Prop}
variable {dst:Option Nat} {t t' ty':TypeId} {pos:String} {af:Array Edge} {gd:Option (Nat×Bool)} {x y:Operand}
def tH{w:World}{p q:Value}{b:Bool}(h:(Op.equalIn (9999+1) t p q).run P w= .ok b w):(Op.equal t p q).run P w= .ok b w:=h
theorem okd{p:Prop}(h:p:=by rw[bc h2];exact h3):p:=h
def Wh[hT:J5 P t]{p q:Bool}(hx:aF fr x=some (.bool p))(hy:aF fr y=some (.bool q)):Yd P C fr own G ⟨dst, .binOp .eql t x y t',ty',pos,af,gd⟩ (.bool (p==q)):=by
 intro a w hf hh;simp only[execOp,bu hf hx,bu hf hy];have h1:(Op.equal t (.bool p) (.bool q)).run P w= .ok (p==q) w:=tH (by unfold Op.equalIn;rw[bc (hT.u w)];rfl);have h2:(eqGuard .eql t x y (.bool p) (.bool q)).run P w= .ok () w:=J;have h3:(binOp .eql t (.bool p) (.bool q)).run P w= .ok (.bool (p==q)) w:=by simp only[binOp];rw[bc h1];rfl
 exact dC okd
def ZC[hT:J5 P t]{p q:Bool}(hx:aF fr x=some (.bool p))(hy:aF fr y=some (.bool q)):Yd P C fr own G ⟨dst, .binOp .neq t x y t',ty',pos,af,gd⟩ (.bool (!(p==q))):=by
 intro a w hf hh;simp only[execOp,bu hf hx,bu hf hy];have h1:(Op.equal t (.bool p) (.bool q)).run P w= .ok (p==q) w:=tH (by unfold Op.equalIn;rw[bc (hT.u w)];rfl);have h2:(eqGuard .neq t x y (.bool p) (.bool q)).run P w= .ok () w:=J;have h3:(binOp .neq t (.bool p) (.bool q)).run P w= .ok (.bool (!(p==q))) w:=by simp only[binOp];rw[bc h1];rfl
 exact dC okd
theorem ozs{p:Prop}(h:p:=by unfold Op.equalIn;rw[bc (he w)];cases p<;>rfl):p:=h
def EV[hT:Ki P t]{p:Option Addr}(hx:aF fr x=some (.pointer p))(hy:aF fr y=some (.pointer none)):Yd P C fr own G ⟨dst, .binOp .eql t x y t',ty',pos,af,gd⟩ (.bool p.isNone):=by
 obtain⟨e,he⟩:=hT.u;intro a w hf hh;simp only[execOp,bu hf hx,bu hf hy];have h1:(Op.equal t (.pointer p) (.pointer none)).run P w= .ok p.isNone w:=tH ozs;have h2:(eqGuard .eql t x y (.pointer p) (.pointer none)).run P w= .ok () w:=by cases p<;>rfl
 have h3:(binOp .eql t (.pointer p) (.pointer none)).run P w= .ok (.bool p.isNone) w:=by cases p<;>(simp only[binOp];rw[bc h1];rfl)
 exact dC okd
def Fa[hT:Ki P t]{p:Option Addr}(hx:aF fr x=some (.pointer p))(hy:aF fr y=some (.pointer none)):Yd P C fr own G ⟨dst, .binOp .neq t x y t',ty',pos,af,gd⟩ (.bool (!p.isNone)):=by
 obtain⟨e,he⟩:=hT.u;intro a w hf hh;simp only[execOp,bu hf hx,bu hf hy];have h1:(Op.equal t (.pointer p) (.pointer none)).run P w= .ok p.isNone w:=tH ozs;have h2:(eqGuard .neq t x y (.pointer p) (.pointer none)).run P w= .ok () w:=by cases p<;>rfl
 have h3:(binOp .neq t (.pointer p) (.pointer none)).run P w= .ok (.bool (!p.isNone)) w:=by cases p<;>(simp only[binOp];rw[bc h1];rfl)
 exact dC okd
theorem omU{p:Prop}(h:p:=by unfold Op.equalIn;rw[bc (he w)];rfl):p:=h
theorem okZ{p:Prop}(h:p:=by rw[bc (a:=()) (w':=w) J];simp only[binOp];rw[bc h1];rfl):p:=h
def Nw{v:Value}[hT:JL P t](hv:v= .nilIface\/ ∃k u,v= .iface k u)(hx:aF fr x=some v):
  Yd P C fr own G ⟨dst, .binOp .eql t x (.const .nilIface) t',ty',pos,af,gd⟩ (.bool (match v with| .nilIface=>true|_=>false)):=by
 obtain⟨e,he⟩:=hT.u;intro a w hf hh;simp only[execOp,bu hf hx,show a.eval (.const .nilIface)= .nilIface from J];rcases hv with rfl|⟨k,u,rfl⟩
 .have h1:(Op.equal t .nilIface .nilIface).run P w= .ok true w:=tH omU
  have h2:(eqGuard .eql t x (.const .nilIface) .nilIface .nilIface).run P w= .ok () w:=by cases x<;>rfl
  exact dC (by rw[bc h2];simp only[binOp];rw[bc h1];rfl)
 .have h1:(Op.equal t (.iface k u) .nilIface).run P w= .ok false w:=tH omU
  exact dC okZ
def Qa{v:Value}[hT:JL P t](hv:v= .nilIface\/ ∃k u,v= .iface k u)(hx:aF fr x=some v):
  Yd P C fr own G ⟨dst, .binOp .neq t x (.const .nilIface) t',ty',pos,af,gd⟩ (.bool (match v with| .nilIface=>false|_=>true)):=by
 obtain⟨e,he⟩:=hT.u;intro a w hf hh;simp only[execOp,bu hf hx,show a.eval (.const .nilIface)= .nilIface from J];rcases hv with rfl|⟨k,u,rfl⟩
 .have h1:(Op.equal t .nilIface .nilIface).run P w= .ok true w:=tH omU
  have h2:(eqGuard .neq t x (.const .nilIface) .nilIface .nilIface).run P w= .ok () w:=by cases x<;>rfl
  exact dC (by rw[bc h2];simp only[binOp];rw[bc h1];rfl)
 .have h1:(Op.equal t (.iface k u) .nilIface).run P w= .ok false w:=tH omU
  exact dC okZ
def XR{cs l:List Value}{f off ft k:Nat}[hF:KY P t f off ft][hA:nf P ft k](hx:aF fr x=some (.agg ⟨cs⟩))(hl:dh cs off k=some l):Yd P C fr own G ⟨dst, .field t x f,ty',pos,af,gd⟩ (.agg ⟨l⟩):=by
 obtain⟨fs,fd,h1,h2,h3,h4⟩:=hF.u;intro a w hf hh;simp only[execOp,bu hf hx];have:(Instr.field t (.agg ⟨cs⟩) f).run P w= .ok (.agg ⟨l⟩) w:=by
  unfold Instr.field;rw[bc (h1 w)];simp only[h2,h3,h4,asAgg];rw[bc (run_pure _ _ _)];unfold part;rw[bc (hA.agg w)];simp only[if_true];rw[bc (hA.siz w)];obtain⟨k1,k2⟩:=rA _ _ _ _ hl;have:(⟨cs⟩:Array Value).extract off (off+k)=⟨l⟩:=by
   apply Array.ext';rw[Array.toList_extract];apply kZ;intro i;rw[List.extract_eq_take_drop,pV];split
   .rw[mQ];exact k2 i we
   .exact(eJ (show l.length<=i by omega)).symm
  rw[this];rfl
 exact dC this
def awN{cs:List Value}{f off ft:Nat}{v:Value}[hF:KY P t f off ft][hA:nF P ft](hx:aF fr x=some (.agg ⟨cs⟩))(hl:cs[off]? =some v):Yd P C fr own G ⟨dst, .field t x f,ty',pos,af,gd⟩ v:=by
 obtain⟨fs,fd,h1,h2,h3,h4⟩:=hF.u;intro a w hf hh;simp only[execOp,bu hf hx];have:(Instr.field t (.agg ⟨cs⟩) f).run P w= .ok v w:=by
  unfold Instr.field;rw[bc (h1 w)];simp only[h2,h3,h4,asAgg];rw[bc (run_pure _ _ _)];unfold part;rw[bc (hA.agg w)];have:(⟨cs⟩:Array Value)[off]? =some v:=by simpa using hl
  simp only[fT,if_false,this];rfl
 exact dC this
class H2 (P:Program) (t:TypeId) (offs:outParam (List (Nat×Nat))):Prop where
 u: ∃fs:Array Field,(∀w,(underlying t).run P w= .ok (.struct fs) w)/\(∀w,(fs.mapM (m:=Sem) fun f=>do pure (f.offset,<-sizeOf f.type)).run P w= .ok ⟨offs⟩ w)
def vK(fr:Fr)(offs:List (Nat×Nat)):List Value->List (Nat×Operand)->Option (List Value)
 |cs,[]=>some cs
 |cs,(i,x)::r=>match offs[i]?,aF fr x with
  |some (off,k),some v=>if(aP v).length=k/\off+k<=cs.length then vK fr offs (dd cs off (aP v)) r else none
  |_,_=>none
def GO: ∀(vs:List Value) (cs:Array Value) (off j:Nat),(vs.zipIdx j).foldl (fun cs (c,j)=>cs.setIfInBounds (off+j) c) cs=⟨dd cs.toList (off+j) vs⟩
 |[],cs,off,j=>rfl
 |v::vs,cs,off,j=>by
  simp only[List.zipIdx_cons,jV];rw[GO vs _ off (j+1)];simp[dd,kM]
theorem okq{p:Prop}(h:p:=by simp only[fU,decide_eq_true_eq,not_or];exact⟨by simpa using h1,by simpa using h2⟩):p:=h
def I8{a:Act}(hf:ng fr a)(offs:List (Nat×Nat)): ∀(ps:List (Nat×Operand)) (cs out:List Value),vK fr offs cs ps=some out->
  Instr.fill ((⟨offs⟩:Array (Nat×Nat))[·]?) ⟨cs⟩ (ps.map fun(i,x)=>(i,a.eval x))=some ⟨out⟩
 |[],cs,out,h=>by simp only[vK] at h;cases h;rfl
 |(i,x)::ps,cs,out,h=>by
  simp only[vK] at h;split at h
  .rename_i off k v ho hv
   split at h
   .rename_i hc
    simp only[cJ,Instr.fill];have:(⟨offs⟩:Array (Nat×Nat))[i]? =some (off,k):=by simpa using ho
    simp only[this,bu hf hv,ry];have h1: ¬((⟨aP v⟩:Array Value).size≠k):=by simp[hc.1]
    have h2: ¬(off+(⟨aP v⟩:Array Value).size>(⟨cs⟩:Array Value).size):=by simp only[nS,hc.1];omega
    rw[if_neg okq];have e:=GO (aP v) ⟨cs⟩ off 0;have e':(⟨aP v⟩:Array Value).zipIdx.foldl (fun cs (c,j)=>cs.setIfInBounds (off+j) c) (⟨cs⟩:Array Value)=⟨dd cs off (aP v)⟩:=by
     rw[<-Array.foldl_toList,Array.toList_zipIdx];simpa using e
    rw[e'];exact I8 hf offs ps _ _ h
   .cases h
  .cases h
def F3{parts:Array (Nat×Operand)}{offs:List (Nat×Nat)}{z:Value}{out:List Value}[hT:H2 P t offs][hz:jC P t z](hb:vK fr offs (aP z) parts.toList=some out):Yd P C fr own G ⟨dst, .build t parts,ty',pos,af,gd⟩ (.agg ⟨out⟩):=by
 obtain⟨fs,h1,h2⟩:=hT.u;intro a w hf hh;simp only[execOp];have:(Instr.build t (parts.map fun(i,x)=>(i,a.eval x))).run P w= .ok (.agg ⟨out⟩) w:=by
  unfold Instr.build;rw[bc (hz.zero w),ry];rw[bc (h1 w)];simp only[];rw[bc (h2 w)];have:=I8 hf offs parts.toList _ _ hb;simp only[oN,this];rfl
 exact dC this
end
def fe(z:Value)(k:Nat):List Value:=(List.replicate k (aP z)).flatten
def IT{α:Type}(l:List α): ∀(k i:Nat),i<k*l.length->(List.replicate k l).flatten[i]? =l[i%l.length]?
 |0,i,h=>by omega
 |k+1,i,h=>by
  rw[lL,mK];by_cases hi:i<l.length
  .rw[dY hi,dZ hi]
  .rw[fL we,IT l k (i-l.length) (by rw[dW] at h;omega)]
   rw[Nat.mod_eq_sub_mod (Nat.ge_of_not_lt hi)]
def qy(z:Value)(k:Nat):(fe z k).length=k*(aP z).length:=by simp[fe]
theorem omR{p:Prop}(h:p:=by simpa using hi):p:=h
def D9{z:Value}{k m:Nat}(h:m=k*(aP z).length):((Array.range m).map fun i=>(⟨aP z⟩:Array Value)[i%(⟨aP z⟩:Array Value).size]!)=⟨fe z k⟩:=by
 subst h;apply Array.ext';apply kZ;intro i;simp only[oN,Array.toList_range,cV,nS];by_cases hi:i<k*(aP z).length
 .rw[oU hi]
  simp only[jN];have h1:=IT (aP z) k i hi;have hpos:0<(aP z).length:=by
   rcases fW (aP z).length with h|h
   .rw[h,tZ] at hi;omega
   .exact h
  have hm:=dQ i hpos;show _=(fe z k)[i]?;unfold fe;rw[h1];simp[hm]
 .rw[eJ omR]
  rw[eJ (by show(fe z k).length<=i;rw[qy];omega)];rfl
section
variable {P:Program} {C:aH} {n:Nat} {fr:Fr} {own own':List az} {G:Gh} {Φ:Act->World->Prop}
variable {dst:Option Nat} {t t' ty':TypeId} {pos:String} {af:Array Edge} {gd:Option (Nat×Bool)} {x y:Operand} {e s by_:Nat}
def MV[hT:cO P t e s by_](w:World): ∃i:TypeInfo,(typeInfo e).run P w= .ok i w/\i.bytes=by_:=by
 obtain⟨i,h1,_,h2⟩:=hT.info;exact⟨i,by simp[typeInfo,program,Sem.run_bind,Sem.run,h1,run_pure],h2⟩
theorem okJ{p:Prop}(h:p:=by simp[IntKind.min,IntKind.max,IntKind.signed,IntKind.bits];omega):p:=h
def LT[hT:cO P t e s by_]{z:Value}[hz:jC P e z]{k k':IntKind}{l:Int}(hx:aF fr x=some (.int k l))(hy:aF fr y=some (.int k' l))(h0:0<=l)(hb:by_*l<=2^47)(hl:l<=2^60)(hs:(aP z).length=s)(hd:cA n dst=true)
  (h: ∀b,St C n (put fr dst (.slice (some ⟨b,0,none⟩) l.toNat l.toNat)) (⟨b,fe z l.toNat,e,true⟩::own) G Φ):
  Ch P C n fr own G ⟨dst, .makeSlice t x y,ty',pos,af,gd⟩ Φ:=by
 intro a w Q rl;have h1:(Instr.makeSlice t (a.eval x) (a.eval y)).run P w= .ok (.slice (some ⟨w.heap.size,0,none⟩) l.toNat l.toNat) (w.alloc (.cells ⟨fe z l.toNat⟩ e)):=by
  obtain⟨i,hi,hib⟩:=MV (P:=P) (t:=t) (e:=e) (s:=s) (by_:=by_) w;rw[bu rl.fr hx,bu rl.fr hy];unfold Instr.makeSlice;rw[bc (hT.u w)];simp only[asInt,asIntOf];rw[bc (a:=l) (w':=w) J,bc (a:=l) (w':=w) J,bc hi,hib];have hw:IntKind.i64.wrap l=l:=ud okJ;simp only[hw];have c1: ¬((by_:Int)*l>2^48):=by
   have:(2:Int)^47<=2^48:=by decide
   omega
  have c2:(decide (l<0)||decide ((by_:Int)*l>2^48))=false:=by simp[c1];omega
  simp only[c2,Int.lt_irrefl,decide_false,sY,sW];have c3:decide (l<0)=false:=by simp;omega
  simp only[c3,fT,if_false,gt_iff_lt,Int.lt_irrefl,decide_false,sY];have hr: ¬(l.toNat*by_>roomBytes):=by
   unfold roomBytes;have:((l.toNat*by_:Nat):Int)=by_*l:=by rw[iY,qW h0,Int.mul_comm]
   have h47:((2^47:Nat):Int)=2^47:=by decide
   omega
  unfold askRoom;simp only[hr,if_false];rw[bc (run_pure _ _ _),bc (hT.siz w)];have hn:l.toNat*s=l.toNat*(aP z).length:=by rw[hs]
  by_cases h00:l.toNat*s=0
  .rw[if_pos h00,bc (run_pure _ _ _)]
   have e0:fe z l.toNat=[]:=cW (by rw[qy,hs];exact h00);rw[h00,e0,show(Array.range 0)= #[] from J,Array.map_empty];rfl
  .rw[if_neg h00,bc (hz.zero w),ry]
   rw[bc (run_pure _ _ _),D9 hn];rfl
 refine(fun hk=>?_:Φ (a.put dst (.slice (some ⟨w.heap.size,0,none⟩) l.toNat l.toNat)) (w.alloc (.cells ⟨fe z l.toNat⟩ e))->_) (h w.heap.size _ _ ((rl.heap (rl.h.alloc _ _)).put _ hd));exact ly (v:= .slice (some ⟨w.heap.size,0,none⟩) l.toNat l.toNat) (dC h1) hk
end
section
variable {P:Program} {C:aH} {n:Nat} {fr:Fr} {own own':List az} {G:Gh} {Φ:Act->World->Prop}
variable {dst:Option Nat} {t t' ty':TypeId} {pos:String} {af:Array Edge} {gd:Option (Nat×Bool)} {x y:Operand} {e s by_:Nat}
def vH(fr:Fr)(s:Nat):List Value->List (Nat×Operand)->Option (List Value)
 |cs,[]=>some cs
 |cs,(i,x)::r=>match aF fr x with
  |some v=>if(aP v).length=s/\i*s+s<=cs.length then vH fr s (dd cs (i*s) (aP v)) r else none
  |none=>none
def TS{a:Act}(hf:ng fr a)(s:Nat): ∀(ps:List (Nat×Operand)) (cs out:List Value),vH fr s cs ps=some out->
  Instr.fill (fun i=>some (i*s,s)) ⟨cs⟩ (ps.map fun(i,x)=>(i,a.eval x))=some ⟨out⟩
 |[],cs,out,h=>by simp only[vH] at h;cases h;rfl
 |(i,x)::ps,cs,out,h=>by
  simp only[vH] at h;split at h
  .rename_i v hv
   split at h
   .rename_i hc
    simp only[cJ,Instr.fill,bu hf hv,ry];have h1: ¬((⟨aP v⟩:Array Value).size≠s):=by simp[hc.1]
    have h2: ¬(i*s+(⟨aP v⟩:Array Value).size>(⟨cs⟩:Array Value).size):=by simp only[nS,hc.1];omega
    rw[if_neg okq];have e:=GO (aP v) ⟨cs⟩ (i*s) 0;have e':(⟨aP v⟩:Array Value).zipIdx.foldl (fun cs (c,j)=>cs.setIfInBounds (i*s+j) c) (⟨cs⟩:Array Value)=⟨dd cs (i*s) (aP v)⟩:=by
     rw[<-Array.foldl_toList,Array.toList_zipIdx];simpa using e
    rw[e'];exact TS hf s ps _ _ h
   .cases h
  .cases h
def U4[hT:cO P t e s by_]{z:Value}[hz:jC P e z]{len:Nat}{parts:Array (Nat×Operand)}{out:List Value}(hs:(aP z).length=s)(hb:vH fr s (fe z len) parts.toList=some out)(hsm:Nat.ble (len*s) 1000=true)(hs0:Nat.blt 0 (len*s)=true)(hd:cA n dst=true)
  (h: ∀b,St C n (put fr dst (.slice (some ⟨b,0,none⟩) len len)) (⟨b,out,e,true⟩::own) G Φ):
  Ch P C n fr own G ⟨dst, .buildSlice t len parts,ty',pos,af,gd⟩ Φ:=by
 intro a w Q rl;have hsm':len*s<=1000:=by simpa using hsm
 have hs0':0<len*s:=by simpa[lJ] using hs0
 have h1:(Instr.buildSlice t len (parts.map fun(i,x)=>(i,a.eval x))).run P w= .ok (.slice (some ⟨w.heap.size,0,none⟩) len len) (w.alloc (.cells ⟨out⟩ e)):=by
  unfold Instr.buildSlice;rw[bc (hT.u w)];simp only[];rw[bc (hT.siz w)];have c1: ¬(len*s>2^24):=by omega
  have c2: ¬(len*s=0):=by omega
  simp only[c1,if_false];rw[if_neg c2,bc (hz.zero w),ry,bc (run_pure _ _ _)];rw[D9 (k:=len) (by rw[hs])];have hf:=TS rl.fr s parts.toList _ _ hb;simp only[oN,hf];rfl
 refine ly (v:= .slice (some ⟨w.heap.size,0,none⟩) len len) (w':=w.alloc (.cells ⟨out⟩ e)) ?_ (h w.heap.size _ _ ((rl.heap (rl.h.alloc _ _)).put _ hd));simp only[execOp];exact dC h1
def Ss[hT:cO P t e s by_](hd:cA n dst=true)(h: ∀b,St C n (put fr dst (.slice (some ⟨b,0,none⟩) 0 0)) (⟨b,[],e,true⟩::own) G Φ):
  Ch P C n fr own G ⟨dst, .buildSlice t 0 #[],ty',pos,af,gd⟩ Φ:=by
 intro a w Q rl;have h1:(Instr.buildSlice t 0 #[]).run P w= .ok (.slice (some ⟨w.heap.size,0,none⟩) 0 0) (w.alloc (.cells ⟨[]⟩ e)):=by
  unfold Instr.buildSlice;rw[bc (hT.u w)];simp only[];rw[bc (hT.siz w)];simp only[kN,gt_iff_lt,Nat.not_lt_zero,if_false,if_true];rw[bc (run_pure _ _ _),show(Array.range 0)= #[] from J,Array.map_empty];rfl
 refine ly (v:= .slice (some ⟨w.heap.size,0,none⟩) 0 0) (w':=w.alloc (.cells ⟨[]⟩ e)) ?_ (h w.heap.size _ _ ((rl.heap (rl.h.alloc _ _)).put _ hd));simp only[execOp,iW,kR];exact dC h1
theorem ozm{p:Prop}(h:p:=by unfold Op.equalIn;rw[bc (hT.u w)];cases ad<;>rfl):p:=h
def Ry[hT:cO P t e s by_]{ad:Option Addr}{len cap l2 c2:Nat}(hx:aF fr x=some (.slice ad len cap))(hy:aF fr y=some (.slice none l2 c2)):Yd P C fr own G ⟨dst, .binOp .eql t x y t',ty',pos,af,gd⟩ (.bool ad.isNone):=by
 intro a w hf hh;simp only[execOp,bu hf hx,bu hf hy];have h1:(Op.equal t (.slice ad len cap) (.slice none l2 c2)).run P w= .ok ad.isNone w:=tH ozm;have h2:(eqGuard .eql t x y (.slice ad len cap) (.slice none l2 c2)).run P w= .ok () w:=J;have h3:(binOp .eql t (.slice ad len cap) (.slice none l2 c2)).run P w= .ok (.bool ad.isNone) w:=by simp only[binOp];rw[bc h1];rfl
 exact dC okd
def aHZ[hT:cO P t e s by_]{ad:Option Addr}{len cap l2 c2:Nat}(hx:aF fr x=some (.slice ad len cap))(hy:aF fr y=some (.slice none l2 c2)):Yd P C fr own G ⟨dst, .binOp .neq t x y t',ty',pos,af,gd⟩ (.bool (!ad.isNone)):=by
 intro a w hf hh;simp only[execOp,bu hf hx,bu hf hy];have h1:(Op.equal t (.slice ad len cap) (.slice none l2 c2)).run P w= .ok ad.isNone w:=tH ozm;have h2:(eqGuard .neq t x y (.slice ad len cap) (.slice none l2 c2)).run P w= .ok () w:=J;have h3:(binOp .neq t (.slice ad len cap) (.slice none l2 c2)).run P w= .ok (.bool (!ad.isNone)) w:=by simp only[binOp];rw[bc h1];rfl
 exact dC okd
end
def m9: ∀(cs:List Value) (off k:Nat),off+k<=cs.length->dh cs off k=some ((cs.drop off).take k)
 |cs,0,0,_=>by cases cs<;>rfl
 |[],0,k+1,h=>by simp at h
 |v::t,0,k+1,h=>by
  simp only[dh,m9 t 0 k (by simp at h;omega)];simp
 |[],_+1,k,h=>by simp at h
 |_::t,off+1,k,h=>by
  simp only[dh,m9 t off k (by simp at h;omega)];simp
section
variable {P:Program} {C:aH} {n:Nat} {fr:Fr} {own own' own1:List az} {G:Gh} {Φ:Act->World->Prop}
variable {dst:Option Nat} {t t' ty':TypeId} {pos:String} {af:Array Edge} {gd:Option (Nat×Bool)} {x y:Operand} {e s by_:Nat}
def ow(P:Program)(C:aH)(own:List az)(G:Gh)(s m:Nat)(v:Value)(ys:List Value):Prop:=
 ∀w,bC C own G w->(Builtin.firstCells s m v).run P w= .ok ⟨ys⟩ w
def CD{w:World}{b off k:Nat}{cs l:List Value}{ty:TypeId}{fz:Nat×Nat}(h:w.heap[b]? =some (.cells ⟨cs⟩ ty fz))(hl:dh cs off k=some l):(loadCells ⟨b,off,none⟩ k).run P w= .ok ⟨l⟩ w:=by
 obtain⟨h1,h2⟩:=rA _ _ _ _ hl;unfold loadCells;rw[F0 (l:=l) k 0 #[] (fun j hj=>by rw[Bo h];simpa using h2 j hj) we];simp[<-h1]
def FC{b off m len cap:Nat}{cs ys:List Value}{ty:TypeId}{lo:Bool}(ho:jf own b cs ty lo)(hl:dh cs off (m*s)=some ys):ow P C own G s m (.slice (some ⟨b,off,none⟩) len cap) ys:=
 fun w h=>CD (h.hown _ ho.mem).1 hl
def QN{b off m len cap:Nat}{cs ys:List Value}(hg:G b=some cs)(hl:dh cs off (m*s)=some ys):ow P C own G s m (.slice (some ⟨b,off,none⟩) len cap) ys:=
 fun w h=>by obtain⟨ty,fz,hb⟩:=h.sub _ _ hg;exact CD hb hl
def xo{ad:Option Addr}{len cap:Nat}:ow P C own G s 0 (.slice ad len cap) []:=fun w _=>by
 cases ad with
 |none=>rfl
 |some a=>unfold Builtin.firstCells loadCells;simp[loadCellsFrom,run_pure]
def P4(z:Value)(k:Nat):Builtin.zeroCells ⟨aP z⟩ k=⟨fe z k⟩:=by
 unfold Builtin.zeroCells;exact D9 J
def JD{w w':World}[hT:cO P t e s by_][hN:mA P t']{z:Value}[hz:jC P e z]{ad:Option Addr}{len cap m cap2:Nat}{ad2:Option Addr}{xs ys:List Value}
  (hsx:(Builtin.firstCells s len (.slice ad len cap)).run P w.drew= .ok ⟨xs⟩ w.drew)(hsy:(Builtin.firstCells s m (.slice ad2 m cap2)).run P w.drew= .ok ⟨ys⟩ w.drew)
  (hneed:cap<len+m)(hby:0<by_)(hb:(len+m)*by_<=140737488355328):
  (Builtin.append_ #[t,t'] ty' #[.slice ad len cap, .slice ad2 m cap2]).run P w=
   .ok (.slice (some ⟨w.heap.size,0,none⟩) (len+m) (grownCap w (len+m) cap e)) (w.drew.alloc (.cells ⟨xs++ys++fe z (grownCap w (len+m) cap e-(len+m))⟩ e)):=by
 obtain⟨d,hd1⟩:=hN.un;obtain⟨i,hi,his,hib⟩:=hT.info;obtain⟨i',hi',hiz⟩:=hz.info;rw[hi] at hi';cases hi';have hfit:=growslice_fits (old:=cap) (need:=len+m) (bytes:=by_) hneed hb;have hlen:len+m<=140737488355328:=dJ (rJ _ hby) hb;have hn: ¬(len+m<=cap):=by omega
 have h63': ¬(9223372036854775807<((len:Int)+(m:Int))):=by omega
 have h48': ¬(281474976710656<Builtin.nextslicecap (len+m) cap*i.bytes):=by rw[hib];omega
 subst his;simp[Builtin.append_,run_underlying hT.un,run_underlying hd1,sizeOf,typeInfo,zeroValue,hi,hiz,Builtin.lenOf,hn,h63',h48',Question.forced,hsx,hsy,newRow,grownCap];congr 2;apply Array.ext';rw[ry,P4];simp[gX]
def I1[hT:cO P t e s by_][hN:mA P t']{z:Value}[hz:jC P e z]{ad:Option Addr}{len cap m cap2:Nat}{ad2:Option Addr}{xs ys:List Value}
  (hx:aF fr x=some (.slice ad len cap))(hy:aF fr y=some (.slice ad2 m cap2))(hsx:ow P C own G s len (.slice ad len cap) xs)(hsy:ow P C own G s m (.slice ad2 m cap2) ys)
  (hneed:cap<len+m)(hby:0<by_)(hb:(len+m)*by_<=140737488355328)(hd:cA n dst=true)
  (h: ∀b cap',len+m<=cap'->St C n (put fr dst (.slice (some ⟨b,0,none⟩) (len+m) cap')) (⟨b,xs++ys++fe z (cap'-(len+m)),e,true⟩::own) G Φ):
  Ch P C n fr own G ⟨dst, .call ⟨.builtin .append, #[x,y], #[t,t']⟩,ty',pos,af,gd⟩ Φ:=by
 intro a w Q rl;have hcap:len+m<=grownCap w (len+m) cap e:=by unfold grownCap;simp only[Question.cut];omega
 have hrun:=JD (P:=P) (t:=t) (t':=t') (ty':=ty') (w:=w) (w':=w) (hsx _ rl.h.drew) (hsy _ rl.h.drew) hneed hby hb;refine ly (v:= .slice (some ⟨w.heap.size,0,none⟩) (len+m) (grownCap w (len+m) cap e)) (w':=w.drew.alloc (.cells ⟨xs++ys++fe z (grownCap w (len+m) cap e-(len+m))⟩ e)) ?_ ?_
 .simp only[execOp,resolve,iW,cJ,kR,bu rl.fr hx,bu rl.fr hy]
  exact dC hrun
 .exact h w.heap.size _ hcap _ _ ((rl.heap ((rl.h.drew).alloc _ _)).put _ hd)
def kI.perm{o:az}(h:kI own o own1):own.Perm (o::own1):=by
 induction h with
 |hd o t=>exact List.Perm.refl _
 |tl x t t' o h ih=>exact(List.Perm.cons x ih).trans (List.Perm.swap _ _ _)
def GI{w:World}[hT:cO P t e s by_][hN:mA P t']{b len cap m cap2:Nat}{ad2:Option Addr}{cs ys:List Value}
  (hb:w.heap[b]? =some (.cells ⟨cs⟩ e (0,0)))(hcs:cs.length=cap*s)(hsy:(Builtin.firstCells s m (.slice ad2 m cap2)).run P w= .ok ⟨ys⟩ w)(hys:ys.length=m*s)(hf: ∀v∈ys,flat v=true)
  (hneed:len+m<=cap):
  (Builtin.append_ #[t,t'] ty' #[.slice (some ⟨b,0,none⟩) len cap, .slice ad2 m cap2]).run P w=
   .ok (.slice (some ⟨b,0,none⟩) (len+m) cap) (io w b (.cells ⟨dd cs (len*s) ys⟩ e (0,0))):=by
 obtain⟨d,hd1⟩:=hN.un;obtain⟨i,hi,his,hib⟩:=hT.info;subst his;have hl:len*i.size+ys.length<=cs.length:=by rw[hys,hcs,<-dW];exact bR _ hneed
 have hst:=yf (P:=P) ys w (len*i.size) 0 cs hf hb we;rw[gW] at hst;simp[Builtin.append_,run_underlying hT.un,run_underlying hd1,sizeOf,typeInfo,hi,Builtin.lenOf,hneed,hsy,rH,hst]
def Ax: ∀(vs cs:List Value) (off:Nat),(dd cs off vs).length=cs.length
 |[],cs,off=>rfl
 |v::vs,cs,off=>by simp[dd,Ax vs]
def qg: ∀(vs cs:List Value) (off:Nat),off+vs.length<=cs.length->dd cs off vs=cs.take off++vs++cs.drop (off+vs.length)
 |[],cs,off,h=>by simp[dd]
 |v::vs,cs,off,h=>by
  simp only[bZ] at h;rw[dd,qg vs _ _ omo];rw[List.take_set,qY we];have h1:(cs.take (off+1)).set off v=cs.take off++[v]:=by
   rw[iM we,List.set_append_right _ _ omo];simp[iU (by omega:off<=cs.length)]
  rw[h1];simp only[bZ,gX,jW,lQ];congr 4;omega
def PP[hT:cO P t e s by_][hN:mA P t']{z:Value}[hz:jC P e z]{b len cap m cap2:Nat}{ad2:Option Addr}{xs ys rest:List Value}
  (hx:aF fr x=some (.slice (some ⟨b,0,none⟩) len cap))(hy:aF fr y=some (.slice ad2 m cap2))(hr:kI own ⟨b,xs++rest,e,true⟩ own1)(hxs:xs.length=len*s)(hcap:xs.length+rest.length=cap*s)(hlc:len<=cap)
  (hsy:ow P C own G s m (.slice ad2 m cap2) ys)(hys:ys.length=m*s)(hf: ∀v∈ys,flat v=true)
  (hby:0<by_)(hb:(len+m)*by_<=140737488355328)(hzs:(aP z).length=s)(hd:cA n dst=true)
  (h: ∀b cap' rest',len+m<=cap'->rest'.length+(len+m)*s=cap'*s->St C n (put fr dst (.slice (some ⟨b,0,none⟩) (len+m) cap')) (⟨b,xs++ys++rest',e,true⟩::own1) G Φ):
  Ch P C n fr own G ⟨dst, .call ⟨.builtin .append, #[x,y], #[t,t']⟩,ty',pos,af,gd⟩ Φ:=by
 intro a w Q rl;have hp:=rl.h.perm hr.perm;have hblk:=(hp.hown _ aQ).1;simp only[] at hblk;by_cases hneed:len+m<=cap
 .have hcs:(xs++rest).length=cap*s:=by simp;omega
  have hrun:=GI (P:=P) (t:=t) (t':=t') (ty':=ty') (w:=w) (len:=len) hblk hcs (hsy w rl.h) hys hf hneed;have hle:len*s+m*s<=cap*s:=by rw[<-dW];exact bR _ hneed
  have hov:dd (xs++rest) (len*s) ys=xs++ys++rest.drop (m*s):=by
   rw[qg _ _ _ (by rw[hys];omega),<-hxs];simp[hys,nZ]
  refine ly (v:= .slice (some ⟨b,0,none⟩) (len+m) cap) (w':=io w b (.cells ⟨dd (xs++rest) (len*s) ys⟩ e (0,0))) ?_ ?_
  .simp only[execOp,resolve,iW,cJ,kR,bu rl.fr hx,bu rl.fr hy]
   exact dC hrun
  .rw[hov]
   refine h b cap (rest.drop (m*s)) hneed ?_ _ _ ((rl.heap (hp.store (.hd ..))).put _ hd);rw[gN,dW];omega
 .have hx':ow P C own G s len (.slice (some ⟨b,0,none⟩) len cap) xs:=fun w' hw'=>by
   have hb':=(((hw'.perm hr.perm).hown _ aQ).1);refine CD hb' ?_;rw[m9 _ _ _ omo,<-hxs];simp
  have hcap':len+m<=grownCap w (len+m) cap e:=by unfold grownCap;simp only[Question.cut];omega
  have hrun:=JD (P:=P) (t:=t) (t':=t') (ty':=ty') (w:=w) (w':=w) (hx' _ rl.h.drew) (hsy _ rl.h.drew) we hby hb;refine ly (v:= .slice (some ⟨w.heap.size,0,none⟩) (len+m) (grownCap w (len+m) cap e)) (w':=w.drew.alloc (.cells ⟨xs++ys++fe z (grownCap w (len+m) cap e-(len+m))⟩ e)) ?_ ?_
  .simp only[execOp,resolve,iW,cJ,kR,bu rl.fr hx,bu rl.fr hy]
   exact dC hrun
  .refine h w.heap.size _ _ hcap' ?_ _ _ ((rl.heap (((hp.drew).drop (List.sublist_cons_self _ _)).alloc _ _)).put _ hd)
   rw[qy,hzs,<-dW];congr 1;omega
end
section
variable {P:Program} {ops:Array Oper} {Q:Exit->Act->World->Prop} {S:World->Prop} {fin:Nat->Bool}
def uY(ops:Array Oper)(fin:Nat->Bool):List (Nat×Bool)->Array Bool->Bool
 |[],listed=>(Region.ready .any ops listed).isEmpty
 |(i,true)::r,listed=>S6 ops fin listed i&&uY ops fin r (listed.setIfInBounds i true)
 |(i,false)::r,listed=>(Region.ready .any ops listed==[i])&&uY ops fin r (listed.setIfInBounds i true)
def jr(P:Program)(ops:Array Oper)(Q:Exit->Act->World->Prop)(S:World->Prop)(fin:Nat->Bool):List (Nat×Bool)->Act->World->Prop
 |[],a,w=>Q .normal a w
 |(i,true)::r,a,w=> ∃o v,ops[i]? =some o/\S w/\YieldsIf P ops S o v a/\jr P ops Q S fin r (a.put o.dst v) w
 |(i,false)::r,a,w=>wpOp P ops Q i (fun a' w'=>(fin i=true\/S w')/\jr P ops Q S fin r a' w') a w
def Br(hQ: ∀c a d v w,Q (.panic c) (Act.put a d v) w->Q (.panic c) a w): ∀(π:List (Nat×Bool)) (listed:Array Bool) (a:Act) (w:World),uY ops fin π listed=true->jr P ops Q S fin π a w-> ∀fuel,π.length<=fuel->wA P ops Q S fin fuel listed a w
 |[],listed,a,w,ho,h,fuel,hf=>by
  have hr:Region.ready .any ops listed=[]:=by simpa[uY] using ho
  cases fuel with
  |zero=>exact⟨hr,h⟩
  |succ k=>exact⟨fun _=>h,by rw[hr];simp⟩
 |(i,true)::r,listed,a,w,ho,h,0,hf=>by simp at hf
 |(i,false)::r,listed,a,w,ho,h,0,hf=>by simp at hf
 |(i,true)::r,listed,a,w,ho,h,fuel+1,hf=>by
  obtain⟨o,v,hoi,hS,hy,hk⟩:=h;simp only[uY,S6,bT] at ho;obtain⟨⟨⟨⟨h1,h2⟩,h3⟩,h4⟩,h5⟩:=ho;obtain⟨h6,h7⟩:=Yf h4;exact apo hoi (Region.noSelect_spec h1) (fun c a w=>hQ c a _ _ w) h6 h7 fuel listed a w (Region.free_spec hoi h2) (by simpa using h3) hy hS
   (Br hQ r _ _ _ h5 hk fuel ozp)
 |(i,false)::r,listed,a,w,ho,h,fuel+1,hf=>by
  simp only[uY,bT,beq_iff_eq] at ho;exact aux ho.1 (wpOp_mono (fun a' w' h'=>⟨h'.1,Br hQ r _ _ _ ho.2 h'.2 fuel ozp⟩) h)
end
section
variable {P:Program} {C:aH} {n:Nat} {fr:Fr} {own own0:List az} {G G0:Gh} {ops:Array Oper} {Q:Exit->Act->World->Prop} {fin:Nat->Bool} {π:List (Nat×Bool)}
def dr(fin:Nat->Bool)(π:List (Nat×Bool)){id:Nat}(hm:P.follows .mixedOrders=true)(ho:(uY ops fin π (Array.replicate ops.size false)&&Nat.ble π.length ops.size)=true)
  (h:St C n fr own G (jr P ops (iv Q) (HS C own G) fin π)):St C n fr own G ((Code.region id ops true).wp P Q):=by
 simp only[bT] at ho;refine awt fin hm fun a w rl=>Br (fun _ _ _ _ _ h=>h) π _ a w ho.1 (h a w rl) _ (by simpa using ho.2)
def dy{i:Nat}{o:Oper}{v:Value}(ho:ops[i]? =some o)(hy: ∀G':Gh,[GE G0 G']->Yd P C fr own0 G' o v)(hg:o.guard=none)(hd:cA n o.dst=true)[hs:nj own0 own][hl:GL G0 G]
  (h:St C n (put fr o.dst v) own G (jr P ops (iv Q) (HS C own0 G0) fin π)):St C n fr own G (jr P ops (iv Q) (HS C own0 G0) fin ((i,true)::π)):=
 fun a w rl=>⟨o,v,ho,⟨G,hl.le,rl.h.drop hs.s⟩, .inl ⟨by simp[Region.wanted,hg],fun w' ⟨G',hle,hr⟩=> @hy G' ⟨hle⟩ a w' rl.fr hr⟩,h _ _ (rl.put v hd)⟩
def dM{i:Nat}{dst:Option Nat}{ty':TypeId}{pos:String}{af:Array Edge}{x:Operand}{v:Value}(ho:ops[i]? =some ⟨dst, .move x,ty',pos,af,none⟩)(hx:aF fr x=some v)(hd:cA n dst=true)[hs:nj own0 own][hl:GL G0 G]
  (h:St C n (put fr dst v) own G (jr P ops (iv Q) (HS C own0 G0) fin π)):St C n fr own G (jr P ops (iv Q) (HS C own0 G0) fin ((i,true)::π)):=dy ho (fun _ _=>sH hx) J hd h
def dA{i:Nat}{dst:Option Nat}{ty':TypeId}{pos:String}{af:Array Edge}{x:Operand}{v:Value}(ho:ops[i]? =some ⟨dst, .assign x,ty',pos,af,none⟩)(hx:aF fr x=some v)(hd:cA n dst=true)[hs:nj own0 own][hl:GL G0 G]
  (h:St C n (put fr dst v) own G (jr P ops (iv Q) (HS C own0 G0) fin π)):St C n fr own G (jr P ops (iv Q) (HS C own0 G0) fin ((i,true)::π)):=dy ho (fun _ _=>JR hx) J hd h
def dF{i b o f off:Nat}{dst:Option Nat}{ty':TypeId}{pos:String}{af:Array Edge}{x:Operand}{t:TypeId}[hF:qd P t f off](ho:ops[i]? =some ⟨dst, .fieldAddr t x f,ty',pos,af,none⟩)(hx:aF fr x=some (.pointer (some ⟨b,o,none⟩)))(hd:cA n dst=true)[hs:nj own0 own][hl:GL G0 G]
  (h:St C n (put fr dst (.pointer (some ⟨b,o+off,none⟩))) own G (jr P ops (iv Q) (HS C own0 G0) fin π)):St C n fr own G (jr P ops (iv Q) (HS C own0 G0) fin ((i,true)::π)):=dy ho (fun _ _=>uN hx) J hd h
def dL{i b off k:Nat}{dst:Option Nat}{ty':TypeId}{pos:String}{af:Array Edge}{x:Operand}{t ty:TypeId}{cs l:List Value}{lo:Bool}(ho:ops[i]? =some ⟨dst, .load t x,ty',pos,af,none⟩)(hx:aF fr x=some (.pointer (some ⟨b,off,none⟩)))[hw:jf own0 b cs ty lo][nf P t k](hv:dh cs off k=some l)(hd:cA n dst=true)[hs:nj own0 own][hl:GL G0 G]
  (h:St C n (put fr dst (.agg ⟨l⟩)) own G (jr P ops (iv Q) (HS C own0 G0) fin π)):St C n fr own G (jr P ops (iv Q) (HS C own0 G0) fin ((i,true)::π)):=dy ho (fun _ _=>Ag hx hv) J hd h
def Fh{i b off:Nat}{dst:Option Nat}{ty':TypeId}{pos:String}{af:Array Edge}{x:Operand}{t ty:TypeId}{cs:List Value}{v:Value}{lo:Bool}(ho:ops[i]? =some ⟨dst, .load t x,ty',pos,af,none⟩)(hx:aF fr x=some (.pointer (some ⟨b,off,none⟩)))[hw:jf own0 b cs ty lo][nF P t](hv:cs[off]? =some v)(hd:cA n dst=true)[hs:nj own0 own][hl:GL G0 G]
  (h:St C n (put fr dst v) own G (jr P ops (iv Q) (HS C own0 G0) fin π)):St C n fr own G (jr P ops (iv Q) (HS C own0 G0) fin ((i,true)::π)):=dy ho (fun _ _=>ue hx hv) J hd h
def vy{i:Nat}{o:Oper}{v:Value}(ho:ops[i]? =some o){j d:Nat}{b:Bool}(hg:o.guard=some (j,b))(hj:(ops[j]?).bind (·.dst)=some d)(hlk:j0 fr d=some (.bool b))(hy: ∀G':Gh,[GE G0 G']->Yd P C fr own0 G' o v)(hd:cA n o.dst=true)[hs:nj own0 own][hl:GL G0 G]
  (h:St C n (put fr o.dst v) own G (jr P ops (iv Q) (HS C own0 G0) fin π)):St C n fr own G (jr P ops (iv Q) (HS C own0 G0) fin ((i,true)::π)):=
 fun a w rl=>⟨o,v,ho,⟨G,hl.le,rl.h.drop hs.s⟩, .inl ⟨by simp[Region.wanted,hg,Gq rl.fr hj hlk],fun w' ⟨G',hle,hr⟩=> @hy G' ⟨hle⟩ a w' rl.fr hr⟩,h _ _ (rl.put v hd)⟩
def dc{i:Nat}{o:Oper}(ho:ops[i]? =some o)(hg:o.guard=none)(hc:Ch P C n fr own G o (fun a w=>(fin i=true\/HS C own0 G0 w)/\jr P ops (iv Q) (HS C own0 G0) fin π a w)):St C n fr own G (jr P ops (iv Q) (HS C own0 G0) fin ((i,false)::π)):=by
 intro a w rl;show wpOp P ops (iv Q) i _ a w;unfold wpOp;simp only[ho,Region.wanted,hg,if_true];exact .inl (hc a w _ rl)
def dn(h:St C n fr own G (Q .normal)):St C n fr own G (jr P ops (iv Q) (HS C own0 G0) fin []):=h
variable {dst:Option Nat} {t t' ty':TypeId} {pos:String} {af:Array Edge} {x y:Operand} {r:List Oper}
def sm{v:Value}(hx:aF fr x=some v)(hd:cA n dst=true)(h:St C n (put fr dst v) own G (e7 P ops Q r)):St C n fr own G (e7 P ops Q (⟨dst, .move x,ty',pos,af,none⟩::r)):=ub (sH hx) J hd h
def sa{v:Value}(hx:aF fr x=some v)(hd:cA n dst=true)(h:St C n (put fr dst v) own G (e7 P ops Q r)):St C n fr own G (e7 P ops Q (⟨dst, .assign x,ty',pos,af,none⟩::r)):=ub (JR hx) J hd h
def sn{ad:Addr}(hx:aF fr x=some (.pointer (some ad)))(hd:cA n dst=true)(h:St C n (put fr dst (.pointer (some ad))) own G (e7 P ops Q r)):St C n fr own G (e7 P ops Q (⟨dst, .nilCheck x,ty',pos,af,none⟩::r)):=ub (uI hx) J hd h
def sf{b o f off:Nat}[hF:qd P t f off](hx:aF fr x=some (.pointer (some ⟨b,o,none⟩)))(hd:cA n dst=true)(h:St C n (put fr dst (.pointer (some ⟨b,o+off,none⟩))) own G (e7 P ops Q r)):St C n fr own G (e7 P ops Q (⟨dst, .fieldAddr t x f,ty',pos,af,none⟩::r)):=ub (uN hx) J hd h
def slo{b off k:Nat}{cs l:List Value}{lo:Bool}{ty:TypeId}(hx:aF fr x=some (.pointer (some ⟨b,off,none⟩)))[ho:jf own b cs ty lo][nf P t k](hl:dh cs off k=some l)(hd:cA n dst=true)
  (h:St C n (put fr dst (.agg ⟨l⟩)) own G (e7 P ops Q r)):St C n fr own G (e7 P ops Q (⟨dst, .load t x,ty',pos,af,none⟩::r)):=ub (Ag hx hl) J hd h
def y4{b off:Nat}{cs:List Value}{v:Value}{lo:Bool}{ty:TypeId}(hx:aF fr x=some (.pointer (some ⟨b,off,none⟩)))[ho:jf own b cs ty lo][nF P t](hl:cs[off]? =some v)(hd:cA n dst=true)
  (h:St C n (put fr dst v) own G (e7 P ops Q r)):St C n fr own G (e7 P ops Q (⟨dst, .load t x,ty',pos,af,none⟩::r)):=ub (ue hx hl) J hd h
def FY{e s by_:Nat}{ad:Option Addr}{len cap:Nat}[hT:cO P t e s by_](hx:aF fr x=some (.slice ad len cap))(hd:cA n dst=true)
  (h:St C n (put fr dst (.int .i64 len)) own G (e7 P ops Q r)):St C n fr own G (e7 P ops Q (⟨dst, .call ⟨.builtin .len, #[x], #[t]⟩,ty',pos,af,none⟩::r)):=ub (vZ hx) J hd h
def sx{vs:Array Value}{i:Nat}{v:Value}(hx:aF fr x=some (.tuple vs))(hv:vs[i]? =some v)(hd:cA n dst=true)(h:St C n (put fr dst v) own G (e7 P ops Q r)):St C n fr own G (e7 P ops Q (⟨dst, .extract x i,ty',pos,af,none⟩::r)):=ub (Kw hx hv) J hd h
def lv{op:Op}{v:Value}{j d:Nat}{b:Bool}(hj:(ops[j]?).bind (·.dst)=some d)(hl:j0 fr d=some (.bool b))(hy:Yd P C fr own G ⟨dst,op,ty',pos,af,some (j,b)⟩ v)(hd:cA n dst=true)(h:St C n (put fr dst v) own G (e7 P ops Q r)):St C n fr own G (e7 P ops Q (⟨dst,op,ty',pos,af,some (j,b)⟩::r)):=aK9 J hj hl hy hd h
def ss{op:Op}{j d:Nat}{b c:Bool}(hj:(ops[j]?).bind (·.dst)=some d)(hl:j0 fr d=some (.bool c))(hbc:(c==b)=false)(hd:cA n dst=true)(h:St C n (put fr dst undef) own G (e7 P ops Q r)):St C n fr own G (e7 P ops Q (⟨dst,op,ty',pos,af,some (j,b)⟩::r)):=WM J hj hl hbc hd h
def sy{op:Op}{v:Value}(hy:Yd P C fr own G ⟨dst,op,ty',pos,af,none⟩ v)(hd:cA n dst=true)(h:St C n (put fr dst v) own G (e7 P ops Q r)):St C n fr own G (e7 P ops Q (⟨dst,op,ty',pos,af,none⟩::r)):=ub hy J hd h
def sc{op:Op}(hc:Ch P C n fr own G ⟨dst,op,ty',pos,af,none⟩ (e7 P ops Q r)):St C n fr own G (e7 P ops Q (⟨dst,op,ty',pos,af,none⟩::r)):=Y2 J hc
end
def Fn.of_calls{P:Program}{f:FuncId}{vs:List Value}{G:Gh}{v:Value}(ha:ta P f)(h: ∀w,Calls P f ⟨vs⟩ w fun e w'=>e= .returned v/\w'=w):Fn P f vs G (fun u _=>u=v):=
 ⟨ha,fun w hw=>(h w).mono fun e w' ⟨he,hww⟩=>⟨v,G,he,by
  subst hww;exact⟨J,J,J,bV _,fun _ _ _=>J,hw,cc.refl _,fun _ _=>J,fun o ho=>(by cases ho), .nil,bV _,fun p hp=>by cases hp⟩,J⟩⟩
end Go.Sx
end
section
namespace Go.Sx
open Go Go.Proofs Tryz
instance:nF prog 3:=⟨fun _=>by kernel_rfl,fun _=>by kernel_rfl⟩
instance:nF prog 4:=⟨fun _=>by kernel_rfl,fun _=>by kernel_rfl⟩
instance:jC prog 4 (.bool false):=⟨omd⟩
instance:nF prog 30:=⟨fun _=>by kernel_rfl,fun _=>by kernel_rfl⟩
instance:cO prog 30 166 8 112:=⟨omd,omd⟩
instance:qd prog 32 0 0:=⟨fun _ _ _=>by kernel_rfl⟩
instance:qd prog 32 1 1:=⟨fun _ _ _=>by kernel_rfl⟩
instance:cO prog 44 227 1 4:=⟨omd,omd⟩
instance:mA prog 44:=⟨227,omd⟩
instance:nf prog 163 6:=⟨fun _=>by kernel_rfl,fun _=>by kernel_rfl⟩
instance:nf prog 166 8:=⟨fun _=>by kernel_rfl,fun _=>by kernel_rfl⟩
instance:jC prog 166 (.agg ⟨[.bool false, .slice none 0 0, .bool false, .slice none 0 0, .bool false, .slice none 0 0, .int .i64 0, .int .i64 0]⟩):=⟨omd⟩
instance:qd prog 166 0 0:=⟨fun _ _ _=>by kernel_rfl⟩
instance:qd prog 166 1 6:=⟨fun _ _ _=>by kernel_rfl⟩
instance:qd prog 166 2 7:=⟨fun _ _ _=>by kernel_rfl⟩
instance:nF prog 186:=⟨fun _=>by kernel_rfl,fun _=>by kernel_rfl⟩
instance:cO prog 186 4 1 1:=⟨omd,omd⟩
instance:jC prog 188 (.agg ⟨[.slice none 0 0, .slice none 0 0, .int .i64 0, .bool false]⟩):=⟨omd⟩
instance:qd prog 188 0 0:=⟨fun _ _ _=>by kernel_rfl⟩
instance:qd prog 188 1 1:=⟨fun _ _ _=>by kernel_rfl⟩
instance:qd prog 188 2 2:=⟨fun _ _ _=>by kernel_rfl⟩
instance:qd prog 188 3 3:=⟨fun _ _ _=>by kernel_rfl⟩
instance:H2 prog 188 [(0,1),(1,1),(2,1),(3,1)]:=⟨_,fun _=>aG5 underlying188 _,fun _=>by kernel_rfl⟩
instance:cO prog 213 273 17 128:=⟨omd,omd⟩
instance:mA prog 213:=⟨273,omd⟩
instance:cO prog 214 273 17 128:=⟨omd,omd⟩
instance:jC prog 227 (.int .u32 0):=⟨omd⟩
instance:nf prog 258 9:=⟨fun _=>by kernel_rfl,fun _=>by kernel_rfl⟩
instance:jC prog 258 (.agg ⟨[.int .i64 0, .int .i64 0, .pointer none, .int .i64 0, .int .i64 0, .pointer none, .int .i64 0, .int .i64 0, .pointer none]⟩):=⟨omd⟩
def follows:prog.follows .mixedOrders=true:=by kernel_rfl
end Go.Sx
end
section
namespace Go.Sx
def dv:List Nat->Nat
 |[]=>0
 |d::t=>d+4294967296*dv t
def bB(ds:List Nat):Prop:= ∀d∈ds,d<4294967296
def gG(ds:List Nat):Prop:=ds.getLast? ≠some 0
instance (ds:List Nat):Decidable (gG ds):=inferInstanceAs (Decidable (ds.getLast? ≠some 0))
def bB.nil:bB []:=fun _ h=>by cases h
def bB.cons{d:Nat}{ds:List Nat}(h:d<4294967296)(k:bB ds):bB (d::ds):=fun x hx=>by
 rcases aW.1 hx with rfl|h'
 .exact h
 .exact k _ h'
def bB.head{d:Nat}{ds:List Nat}(h:bB (d::ds)):d<4294967296:=h d aQ
def bB.tail{d:Nat}{ds:List Nat}(h:bB (d::ds)):bB ds:=fun x hx=>h x (aX _ hx)
def bB.append{a b:List Nat}(h:bB a)(k:bB b):bB (a++b):=fun x hx=>by
 rcases bJ.1 hx with h'|h'
 .exact h _ h'
 .exact k _ h'
def bB.take{a:List Nat}(h:bB a)(n:Nat):bB (a.take n):=fun x hx=>h x (dT hx)
def bB.drop{a:List Nat}(h:bB a)(n:Nat):bB (a.drop n):=fun x hx=>h x (gS hx)
def bB.get{a:List Nat}(h:bB a)(i:Nat):a.getD i 0<4294967296:=by
 rw[aJ]
 cases hi:a[i]? with
 |none=>simp
 |some d=>exact h d (aT hi)
def bB.set{a:List Nat}(h:bB a)(i:Nat){d:Nat}(hd:d<4294967296):bB (a.set i d):=fun x hx=>by
 rcases List.mem_or_eq_of_mem_set hx with h'|rfl
 .exact h _ h'
 .exact hd
def bB.replicate(n:Nat):bB (List.replicate n 0):=fun x hx=>by
 rw[mZ hx];omega
def yY(a b:List Nat):dv (a++b)=dv a+4294967296^a.length*dv b:=by
 induction a with
 |nil=>simp[dv]
 |cons d t ih=>
  simp only[jW,dv,ih,bZ,iQ];rw[fY,<-kM,<-cM,cK 4294967296 (4294967296^t.length)]
def oH{ds:List Nat}(h:bB ds):dv ds<4294967296^ds.length:=by
 induction ds with
 |nil=>simp[dv]
 |cons d t ih=>
  have h1:=h.head;have h2:=ih h.tail;simp only[dv,bZ,iQ];omega
def z8(n:Nat):dv (List.replicate n 0)=0:=by
 induction n with
 |zero=>rfl
 |succ n ih=>simp[lL,dv,ih]
def pE(ds:List Nat)(i:Nat):dv (ds.take (i+1))=dv (ds.take i)+4294967296^i*ds.getD i 0:=by
 by_cases h:i<ds.length
 .rw[iM h,yY]
  simp[dv,iU (mX h),aJ,h]
 .have:ds.getD i 0=0:=by rw[aJ,eJ we];rfl
  rw[this,cZ we,cZ we];simp
def AY(ds:List Nat)(i:Nat)(h:i<=ds.length:=by omega):dv ds=dv (ds.take i)+4294967296^i*dv (ds.drop i):=by
 have:=yY (ds.take i) (ds.drop i);rw[jZ] at this;rw[this];simp[iU h]
def trimD:List Nat->List Nat
 |[]=>[]
 |d::t=>match trimD t with
  |[]=>if d=0 then [] else [d]
  |t'=>d::t'
def w6(d:Nat)(t:List Nat):trimD (d::t)=if trimD t=[]/\d=0 then [] else d::trimD t:=by
 simp only[trimD]
 cases h:trimD t with
 |nil=>by_cases hd:d=0<;>simp[hd]
 |cons a b=>simp
def aBp(ds:List Nat):dv (trimD ds)=dv ds:=by
 induction ds with
 |nil=>rfl
 |cons d t ih=>
  rw[w6];split
  .rename_i h
   rw[h.1] at ih;simp[dv,<-ih,h.2]
  .simp[dv,ih]
def aqA(ds:List Nat):trimD (ds++[0])=trimD ds:=by
 induction ds with
 |nil=>rfl
 |cons d t ih=>rw[jW,w6,w6,ih]
def LZ{ds:List Nat}{d:Nat}(h:d≠0):trimD (ds++[d])=ds++[d]:=by
 induction ds with
 |nil=>simp[trimD,h]
 |cons e t ih=>rw[jW,w6,ih];simp
def gG.trimD(ds:List Nat):gG (trimD ds):=by
 induction ds with
 |nil=>simp[gG,Sx.trimD]
 |cons d t ih=>
  rw[w6];split
  .simp[gG]
  .rename_i h
   unfold gG at*;rw[List.getLast?_cons]
   cases ht:(Sx.trimD t).getLast? with
   |none=>
    have:Sx.trimD t=[]:=by simpa using ht
    simp only[Option.getD_none,ne_eq,Option.some.injEq];exact fun hd=>h ⟨this,hd⟩
   |some x=>rw[ht] at ih;simpa using ih
def av7(ds:List Nat):(trimD ds).length<=ds.length:=by
 induction ds with
 |nil=>simp[trimD]
 |cons d t ih=>
  rw[w6];split
  .simp
  .simp;omega
def aud(ds:List Nat):trimD ds=ds.take (trimD ds).length:=by
 induction ds with
 |nil=>rfl
 |cons d t ih=>
  rw[w6];split
  .rfl
  .simp only[bZ,mT];rw[<-ih]
def bB.trimD{ds:List Nat}(h:bB ds):bB (trimD ds):=by rw[aud];exact h.take _
def au3{ds:List Nat}(h:gG ds):trimD ds=ds:=by
 rcases rN ds with rfl|⟨l,d,rfl⟩
 .rfl
 .rw[sQ] at*
  exact LZ (fun e=>by subst e;simp[gG] at h)
def xl{ds:List Nat}(h:gG ds)(hne:ds≠[]):4294967296^(ds.length-1)<=dv ds:=by
 rcases rN ds with rfl|⟨l,d,rfl⟩
 .exact absurd J hne
 .rw[sQ] at*
  have hd:d≠0:=fun e=>by subst e;simp[gG] at h
  rw[yY];simp only[aR,bZ,gQ,dv];have:4294967296^(l.length+(0+1)-1)=4294967296^l.length:=by congr 1
  rw[this];have h1:4294967296^l.length*1<=4294967296^l.length*(d+4294967296*0):=fV _ we;omega
def yu{a b:List Nat}(ha:bB a)(hb:gG b)(h:a.length<b.length):dv a<dv b:=by
 have h1:=oH ha;have h2:=xl hb (fun e=>by subst e;simp at h);have h3:4294967296^a.length<=4294967296^(b.length-1):=cY we we;omega
def Qq: ∀{a b:List Nat},bB a->bB b->a.length=b.length->dv a=dv b->a=b
 |[],[],_,_,_,_=>rfl
 |d::t,e::u,ha,hb,hl,h=>by
  have h1:=ha.head;have h2:=hb.head;simp only[dv] at h;have:d=e:=by omega
  subst this;rw[Qq ha.tail hb.tail (by simpa using hl) we]
def aF1{a b:List Nat}(ha:bB a)(hb:bB b)(na:gG a)(nb:gG b)(h:dv a=dv b):a=b:=by
 refine Qq ha hb ?_ h;rcases pL a.length b.length with h'|h'|h'
 .have:=yu ha nb h';omega
 .exact h'
 .have:=yu hb na h';omega
def S7{a b:List Nat}(ha:bB a)(hb:bB b)(i:Nat)(hia:i<a.length)(hib:i<b.length)(hl:a.length=b.length)(hs:a.drop (i+1)=b.drop (i+1))(h:a.getD i 0<b.getD i 0):dv a<dv b:=by
 rw[AY a (i+1),AY b (i+1),hs,pE,pE];have h1:=oH (ha.take i);rw[cR,iU we] at h1;have h2:4294967296^i*(a.getD i 0+1)<=4294967296^i*b.getD i 0:=fV _ h;rw[fY] at h2;omega
def V6{ds:List Nat}{k:Nat}(h:gG ds)(hk:dv ds<2^k):32*ds.length<=k+31:=by
 by_cases hne:ds=[]
 .subst hne;simp
 .have h1:=xl h hne
  have h2:(4294967296:Nat)^(ds.length-1)=2^(32*(ds.length-1)):=by
   rw[tY]
  rw[h2] at h1;have h3:2^(32*(ds.length-1))<2^k:=gU h1 hk;have h4:=(oK (by omega:1<2)).1 h3;have:0<ds.length:=by cases ds with|nil=>exact absurd J hne|cons _ _=>simp
  omega
def dg(x:Nat):List Nat:=if h:x=0 then [] else(x%4294967296)::dg (x/4294967296)
termination_by x
decreasing_by omega
def i8(x:Nat):dv (dg x)=x/\bB (dg x)/\gG (dg x):=by
 induction x using Nat.strongRecOn with
 |_ x ih=>
  unfold dg;split
  .rename_i h;subst h;exact⟨rfl, .nil,by simp[gG]⟩
  .rename_i h
   obtain⟨h1,h2,h3⟩:=ih (x/4294967296) we;refine⟨by rw[dv,h1];omega, .cons we h2,?_⟩;unfold gG at*;rw[List.getLast?_cons]
   cases hl:(dg (x/4294967296)).getLast? with
   |none=>
    have:dg (x/4294967296)=[]:=by simpa using hl
    rw[this] at h1;simp only[Option.getD_none,ne_eq,Option.some.injEq];simp only[dv] at h1;omega
   |some y=>rw[hl] at h3;simpa using h3
def aKb{ds:List Nat}(h:bB ds)(n:gG ds):dg (dv ds)=ds:=aF1 (i8 _).2.1 h (i8 _).2.2 n (i8 _).1
def Eq{ds:List Nat}(h:bB ds):dg (dv ds)=trimD ds:=by rw[<-aBp];exact aKb h.trimD (gG.trimD _)
def wN: ∀(ws:List Nat) (j d:Nat),j<ws.length->dv (ws.set j d)+4294967296^j*ws.getD j 0=dv ws+4294967296^j*d
 |[],j,d,h=>by simp at h
 |w::t,0,d,h=>by simp[dv];omega
 |w::t,j+1,d,h=>by
  have ih:=wN t j d omy;simp only[List.set_cons_succ,dv,jJ,iQ];have h1:4294967296^j*4294967296*t.getD j 0=4294967296*(4294967296^j*t.getD j 0):=by rw[cK (4294967296^j),cM]
  have h2:4294967296^j*4294967296*d=4294967296*(4294967296^j*d):=by rw[cK (4294967296^j),cM]
  rw[h1,h2];omega
def xE{ws:List Nat}{k d:Nat}(h:k<ws.length:=by omega):dv ((ws.set k d).take (k+1))=dv (ws.take k)+4294967296^k*d:=by
 rw[iM omy,List.take_set_of_le (bV _),yY];simp[dv,iU (mX h)]
def Pq(p x:Nat):p*x=p*(x%4294967296)+p*4294967296*(x/4294967296):=by
 have h:p*x=p*(4294967296*(x/4294967296)+x%4294967296):=by rw[qM]
 rw[fY,<-cM] at h;omega
def aAz{p A E W c a b:Nat}(h:W+p*c=A+E):(W+p*((c+a+b)%4294967296))+(p*4294967296)*((c+a+b)/4294967296)=(A+p*a)+(E+p*b):=by
 have h1:=Pq p (c+a+b);rw[fY,fY] at h1;omega
def aHN{p A E W bo b a:Nat}(h:W+E=A+p*bo)(hle:bo+b<=a):(W+p*(a-(bo+b)))+(E+p*b)=(A+p*a)+p*4294967296*0:=by
 have h1:p*a=p*(a-(bo+b))+p*bo+p*b:=by
  rw[<-fY,<-fY];congr 1;omega
 omega
def W9{p A E W bo b a:Nat}(h:W+E=A+p*bo)(hle:a<bo+b)(hb:bo+b<=a+4294967296):(W+p*(a+4294967296-(bo+b)))+(E+p*b)=(A+p*a)+p*4294967296*1:=by
 have h1:p*a+p*4294967296=p*(a+4294967296-(bo+b))+p*bo+p*b:=by
  rw[<-fY,<-fY,<-fY];congr 1;omega
 omega
def aBv{p W W' T c m w:Nat}(hs:W'+p*w=W+p*((c+m+w)%4294967296))(h:W+p*c=T):W'+(p*4294967296)*((c+m+w)/4294967296)=T+p*m:=by
 have h1:=Pq p (c+m+w);rw[fY,fY] at h1;omega
end Go.Sx
end
section
namespace Go.Sx
open Go
structure SV where
 a:Option Addr
 n:Nat
 c:Nat
def SV.v(x:SV):Value:= .slice x.a x.n x.c
structure jl (G:Gh) (s:Nat) (x:SV) (es:List Value):Prop where
 len:x.n=es.length
 cap:x.n<=x.c
 mem:es=[]\/ ∃b off cs,x.a=some ⟨b,off,none⟩/\G b=some cs/\ ∀i (h:i<es.length),dh cs (off+i*s) s=some (aP es[i])
def jl.up'{A G:Gh}{s:Nat}{x:SV}{es:List Value}(h:jl A s x es)(k:cc A G):jl G s x es:=
 ⟨h.len,h.cap,h.mem.imp id (fun⟨b,off,cs,h1,h2,h3⟩=>⟨b,off,cs,h1,k _ _ h2,h3⟩)⟩
def jl.nil(G:Gh)(s:Nat):jl G s ⟨none,0,0⟩ []:=⟨J,bV _, .inl J⟩
def Ee(a:Option Addr)(k:Nat):Option Addr:=a.map (·.add k)
section
variable {P:Program} {C:aH} {n:Nat} {fr:Fr} {own own':List az} {G:Gh} {Φ:Act->World->Prop}
variable {dst:Option Nat} {t t' ty':TypeId} {pos:String} {af:Array Edge} {gd:Option (Nat×Bool)} {x y:Operand} {e s by_:Nat}
def aLg{A:Gh}[hT:cO P t e s by_]{k:IntKind}{z:SV}{es:List Value}{i:Int}(hs:jl A s z es)(hx:aF fr x=some (.slice z.a z.n z.c))(hy:aF fr y=some (.int k i))(h0:0<=i)(h1:i<z.n):
  Yd P C fr own G ⟨dst, .indexAddr t x y,ty',pos,af,gd⟩ (.pointer (Ee z.a (i.toNat*s))):=by
 rcases hs.mem with h|⟨b,off,cs,ha,hg,hc⟩
 .have:=hs.len;rw[h] at this;simp at this;omega
 .rw[ha] at hx
  have:=Af (P:=P) (C:=C) (own:=own) (G:=G) (t:=t) (dst:=dst) (ty':=ty') (pos:=pos) (af:=af) (gd:=gd) (by_:=by_) hx hy h0 h1;rw[ha];simpa[Ee,rH] using this
def aH3{A:Gh}[hA:nf P t s]{z:SV}{es:List Value}{i:Nat}{l:List Value}(hs:jl A s z es)[hl:GL A G](hx:aF fr x=some (.pointer (Ee z.a (i*s))))(h1:i<es.length)(he:es[i]? =some (.agg ⟨l⟩)):
  Yd P C fr own G ⟨dst, .load t x,ty',pos,af,gd⟩ (.agg ⟨l⟩):=by
 rcases hs.mem with h|⟨b,off,cs,ha,hg,hc⟩
 .rw[h] at h1;simp at h1
 .rw[ha] at hx
  have h2:=hc i h1;rw[aZ h1] at he;have he':es[i]= .agg ⟨l⟩:=by simpa using he
  rw[he'] at h2;exact P2 (by simpa[Ee,rH] using hx) (hl.le _ _ hg) h2
end
def dI(d:Nat):Value:= .int .u32 (d:Int)
structure sI (G:Gh) (x:SV) (ds:List Nat):Prop where
 ok:bB ds
 sl:jl G 1 x (ds.map dI)
def sI.len{G:Gh}{x:SV}{ds:List Nat}(h:sI G x ds):x.n=ds.length:=by simpa using h.sl.len
def sI.nil(G:Gh):sI G ⟨none,0,0⟩ []:=⟨.nil, .nil G 1⟩
def sI.of_block{G:Gh}{b c k:Nat}{cs:List Value}{ds:List Nat}(ok:bB ds)(hg:G b=some cs)(hk:k=ds.length)(hc:k<=c)(hcs:cs.take ds.length=ds.map dI):sI G ⟨some ⟨b,0,none⟩,k,c⟩ ds:=by
 refine⟨ok,by simpa using hk,hc, .inr ⟨b,0,cs,J,hg,fun i hi=>?_⟩⟩;have hi':i<ds.length:=by simpa using hi
 have hl:ds.length<=cs.length:=by
  have:=congrArg List.length hcs;simp at this;omega
 rw[m9 _ _ _ we];congr 1;have h1:(cs.take ds.length)[i]? =(ds.map dI)[i]? :=by rw[hcs]
 rw[pV,if_pos hi',cV,aZ hi',aZ we] at h1;have h2:cs[i]=dI ds[i]:=by simpa using h1
 rw[fX,lY,bU we,mT,rW,h2,lU];rfl
section
variable {P:Program} {C:aH} {n:Nat} {fr:Fr} {own own':List az} {G:Gh} {Φ:Act->World->Prop}
variable {dst:Option Nat} {t t' ty':TypeId} {pos:String} {af:Array Edge} {gd:Option (Nat×Bool)} {x y:Operand} {e s by_:Nat}
def Z6{A:Gh}{z:SV}{ds:List Nat}(h:sI A z ds)[hl:GL A G]:ow P C own G 1 z.n (.slice z.a z.n z.c) (ds.map dI):=by
 intro w hw;by_cases hne:ds=[]
 .rw[h.len]
  subst hne;exact xo w hw
 rcases h.sl.mem with h0|⟨b,off,cs,ha,hg,hc⟩
 .exact absurd (by simpa using h0) hne
 .rw[ha]
  have hn:=h.len;refine QN (hl.le _ _ hg) ?_ w hw;rw[lY];have hel: ∀i,i<ds.length->cs[off+i]? =some (dI (ds.getD i 0)):=fun i hi=>by
   have h1:=hc i omR;obtain⟨_,h2⟩:=rA _ _ _ _ h1;have h3:=h2 0 we;rw[lY,gW] at h3;rw[h3,lU,aJ,aZ hi];rfl
  by_cases h00:ds.length=0
  .exact absurd h00 (fun e=>hne (cW e))
  .have hlast:=hel (ds.length-1) we
   have hle:off+ds.length<=cs.length:=by
    have:=(bQ.1 hlast).1;omega
   rw[hn,m9 _ _ _ hle];congr 1;apply kZ;intro i;rw[pV];split
   .rename_i hi
    rw[mQ,hel i hi,cV,aJ,aZ hi];rfl
   .rename_i hi
    rw[eJ omR]
def TO[hT:cO P t e s by_]{k:IntKind}{b len cap:Nat}{i:Int}(hx:aF fr x=some (.slice (some ⟨b,0,none⟩) len cap))(hy:aF fr y=some (.int k i))(h0:0<=i:=by omega)(h1:i<len:=by omega):
  Yd P C fr own G ⟨dst, .indexAddr t x y,ty',pos,af,gd⟩ (.pointer (some ⟨b,i.toNat*s,none⟩)):=by
 have:=Af (P:=P) (C:=C) (own:=own) (G:=G) (t:=t) (dst:=dst) (ty':=ty') (pos:=pos) (af:=af) (gd:=gd) (by_:=by_) hx hy h0 h1;rwa [fX] at this
def Bx{p q:Int}(hx:aF fr x=some (.int .i64 p))(hy:aF fr y=some (.int .i64 q))(h0: -9223372036854775808<=p+q:=by omega)(h1:p+q<=9223372036854775807:=by omega):Yd P C fr own G ⟨dst, .binOp .add t x y t',ty',pos,af,gd⟩ (.int .i64 (p+q)):=Tn hx hy ⟨h0,h1⟩
def Zl{k k':IntKind}{p q:Int}(hx:aF fr x=some (.int k p))(hy:aF fr y=some (.int k' q))(h0:0<=q):Yd P C fr own G ⟨dst, .binOp .shr t x y t',ty',pos,af,gd⟩ (.int k (p.fdiv (2^min q.toNat k.bits))):=by
 intro a w hf hh;simp only[execOp,bu hf hx,bu hf hy];have h1:(eqGuard .shr t x y (.int k p) (.int k' q)).run P w= .ok () w:=J;have h2:(binOp .shr t (.int k p) (.int k' q)).run P w= .ok (.int k (p.fdiv (2^min q.toNat k.bits))) w:=by
  simp[binOp,Op.shift,Int.not_lt.2 h0,run_pure]
 exact dC (by rw[bc h1];exact h2)
def aHA{k k':IntKind}{p q:Int}(hx:aF fr x=some (.int k p))(hy:aF fr y=some (.int k' q))(h0:0<=q):Yd P C fr own G ⟨dst, .binOp .shl t x y t',ty',pos,af,gd⟩ (.int k (k.wrap (p*2^min q.toNat k.bits))):=by
 intro a w hf hh;simp only[execOp,bu hf hx,bu hf hy];have h1:(eqGuard .shl t x y (.int k p) (.int k' q)).run P w= .ok () w:=J;have h2:(binOp .shl t (.int k p) (.int k' q)).run P w= .ok (.int k (k.wrap (p*2^min q.toNat k.bits))) w:=by
  simp[binOp,Op.shift,Int.not_lt.2 h0,run_pure]
 exact dC (by rw[bc h1];exact h2)
def u7(p:Int):IntKind.u32.wrap p=p%4294967296:=by simp[IntKind.wrap,IntKind.bits,IntKind.signed]
def sG(p:Int):IntKind.u64.wrap p=p%18446744073709551616:=by simp[IntKind.wrap,IntKind.bits,IntKind.signed]
def aAi{k:IntKind}{p:Int}[hs:xF P t k][hd:xF P t' .u32](hx:aF fr x=some (.int k p)):Yd P C fr own G ⟨dst, .convert t t' x,ty',pos,af,gd⟩ (.int .u32 (p%4294967296)):=by
 have:=Ff (P:=P) (C:=C) (own:=own) (G:=G) (dst:=dst) (ty':=ty') (pos:=pos) (af:=af) (gd:=gd) (t:=t) (t':=t') hx;rwa [u7] at this
def aFP{k:IntKind}{p q:Int}(hx:aF fr x=some (.int k p))(hy:aF fr y=some (.int k q))(h0:0<=p)(h:q≠0):Yd P C fr own G ⟨dst, .binOp .rem t x y t',ty',pos,af,gd⟩ (.int k (p%q)):=by
 have:=Ue (P:=P) (C:=C) (own:=own) (G:=G) (dst:=dst) (ty':=ty') (pos:=pos) (af:=af) (gd:=gd) (t:=t) (t':=t') hx hy h;rwa [Int.tmod_eq_emod_of_nonneg h0] at this
def X3{p q:Int}(hx:aF fr x=some (.int .u64 p))(hy:aF fr y=some (.int .u64 q))(h0:0<=p)(h1:p<=18446744073709551615)(h:0<q):Yd P C fr own G ⟨dst, .binOp .quo t x y t',ty',pos,af,gd⟩ (.int .u64 (p/q)):=by
 have:=K9 (P:=P) (C:=C) (own:=own) (G:=G) (dst:=dst) (ty':=ty') (pos:=pos) (af:=af) (gd:=gd) (t:=t) (t':=t') hx hy we;rw[Int.tdiv_eq_ediv_of_nonneg h0,sG,Int.emod_eq_of_lt (Int.ediv_nonneg h0 we) (by have:=Int.ediv_le_self q h0;omega)] at this;exact this
end
end Go.Sx
end
section
namespace Go.Sx
open Go Go.Proofs Tryz
def Yq(ds:List Nat): ∀v∈ds.map dI,flat v=true:=fun v hv=>by
 obtain⟨d,_,rfl⟩:=aS.1 hv;rfl
def awf{A G:Gh}{x:SV}{ds:List Nat}(hx:sI A x ds)[GL A G](hb:ds.length<=1125899906842):Fn prog 205 [x.v] G (fun v G'=> ∃z:SV,v=z.v/\sI G' z ds):=by
 have hlen:=hx.len;refine Fn.intro func205 J J ntmps205 J ?_;intro C _ _;refine sR<|sa J J<|zE<|mG<|sR<|sm J J<|sy (Ry J J) J<|zE<|?_;refine XU J (fun hc=>?_) (fun hc=>?_)
 .refine sR<|sa J J<|zE<|vG<|?_
  refine zD (.tmp J .nil) ⟨⟨none,0,0⟩,J,?_⟩;rcases hx.sl.mem with h|⟨b,off,cs,ha,_⟩
  .have:ds=[]:=by simpa using h
   subst this;exact .nil _
  .rw[ha] at hc;cases hc
 refine zK<|sR<|?_;refine sc (Ss J ?_);intro b1;refine sm J J<|?_;refine sc (PP (xs:=[]) (rest:=[]) (ys:=ds.map dI) J J (.hd ..) J J (bV _) (Z6 hx) (by simp[hlen]) (Yq ds) oma we J J ?_);intro b cap rest h1 h2;refine sa J J<|zE<|axn b (.hd ..) (fun G' _ hgb=>?_);refine vG<|?_;refine zD (.tmp J .nil) ⟨⟨some ⟨b,0,none⟩,x.n,cap⟩,by simp[qo,SV.v],?_⟩;exact .of_block hx.ok hgb.h hlen we omc
end Go.Sx
end
section
namespace Go.Proofs
open Go.Shelf
def Tryz.lays133_ren:Go.Shelf.Ren:=⟨fun|133=>206|128=>227|n=>n,fun|51=>227|3=>3|4=>4|46=>228|5=>5|9=>9|n=>n,fun|n=>n⟩
def Tryz.lays133:Go.Proofs.Lays.n133 Tryz.prog Tryz.lays133_ren:={
 mixed:=by kernel_rfl
 f128:=Tryz.func227.trans (congrArg some (by kernel_rfl))
 f133:=Tryz.func206.trans (congrArg some (by kernel_rfl))
 t3:=Tryz.underlying3
 a3:=Tryz.isAgg3
 z3:=Tryz.sizeOf3
 v3:=Tryz.zeroValue3
 t4:=Tryz.underlying4
 a4:=Tryz.isAgg4
 z4:=Tryz.sizeOf4
 v4:=Tryz.zeroValue4
 t5:=Tryz.underlying5
 a5:=Tryz.isAgg5
 z5:=Tryz.sizeOf5
 v5:=Tryz.zeroValue5
 t9:=Tryz.underlying9
 a9:=Tryz.isAgg9
 z9:=Tryz.sizeOf9
 v9:=Tryz.zeroValue9
 t46:=Tryz.underlying228
 a46:=Tryz.isAgg228
 z46:=Tryz.sizeOf228
 v46:=Tryz.zeroValue228
 t51:=Tryz.underlying227
 a51:=Tryz.isAgg227
 z51:=Tryz.sizeOf227
 v51:=Tryz.zeroValue227}
def Tryz.bits_LeadingZeros32(x:Int)(w:World)(h0:0<=x)(h1:x<=4294967295):
  Calls Tryz.prog 206 #[.int .u32 x] w fun e w'=>e= .returned (.int .i64 (32-(Lib.bitLen x.toNat:Int)))/\w'=w:=Any.bits_LeadingZeros32 Tryz.lays133 x w h0 h1
def Tryz.lays264_ren:Go.Shelf.Ren:=⟨fun|264=>191|n=>n,fun|53=>159|46=>228|n=>n,fun|n=>n⟩
def Tryz.lays264:Go.Proofs.Lays.n264 Tryz.prog Tryz.lays264_ren:={
 mixed:=by kernel_rfl
 f264:=Tryz.func191.trans (congrArg some (by kernel_rfl))
 t46:=Tryz.underlying228
 a46:=Tryz.isAgg228
 z46:=Tryz.sizeOf228
 v46:=Tryz.zeroValue228
 t53:=Tryz.underlying159
 a53:=Tryz.isAgg159
 z53:=Tryz.sizeOf159
 v53:=Tryz.zeroValue159}
open Go.RowKit Go.Lib in
def Tryz.bits_Mul64(x y:Nat)(hx:x<18446744073709551616)(hy:y<18446744073709551616)(w:World):
  Calls Tryz.prog 191 #[.int .u64 x, .int .u64 y] w fun e w'=>e= .returned (.tuple #[.int .u64 ((x*y/18446744073709551616:Nat):Int), .int .u64 ((x*y%18446744073709551616:Nat):Int)])/\w'=w:=Any.bits_Mul64 Tryz.lays264 x y hx hy w
end Go.Proofs
end
section
namespace Go.Sx
open Go Go.Proofs Tryz
def bl(x:Nat):Nat:=if x=0 then 0 else Nat.log2 x+1
def DR(x:Nat):x<2^bl x:=by
 unfold bl;split
 .rename_i h;subst h;decide
 .exact Nat.lt_log2_self
def ph{x k:Nat}:bl x<=k↔x<2^k:=by
 constructor
 .intro h;exact eY (DR x) (cY we h)
 .intro h
  unfold bl;split
  .omega
  .rename_i h0
   have:=(Nat.log2_lt h0).2 h;omega
def aDQ{x:Nat}(h:x≠0):bl x=1+bl (x/2):=by
 have h1: ∀k,bl x<=k+1↔bl (x/2)<=k:=fun k=>by
  rw[ph,ph,iQ];omega
 have h2:bl x≠0:=fun e=>by
  have:=DR x;rw[e] at this;simp at this;exact h this
 have h3:=(h1 (bl (x/2))).2 (bV _);have h4:=(h1 (bl x-1)).1 we;omega
def Rn: ∀(f x:Nat),x<2^f->Lib.bitLenAux f x=bl x
 |0,x,h=>by
  have:x=0:=by simpa using h
  subst this;rfl
 |f+1,x,h=>by
  unfold Lib.bitLenAux;split
  .rename_i h0;subst h0;rfl
  .rename_i h0
   rw[Rn f (x/2) (by rw[iQ] at h;omega),aDQ h0]
def V1{x:Nat}(h:x<2^64):Lib.bitLen x=bl x:=Rn 64 x h
def aA5{x k:Nat}(d:Nat)(h:x<2^k)(hd:d≠0):bl (x+2^k*d)=k+bl d:=by
 have h1: ∀j,bl (x+2^k*d)<=k+j↔bl d<=j:=fun j=>by
  rw[ph,ph,fN];constructor
  .intro h'
   exact Nat.lt_of_mul_lt_mul_left (a:=2^k) we
  .intro h'
   have:2^k*(d+1)<=2^k*2^j:=fV _ h';rw[fY] at this;omega
 have h2:k<bl (x+2^k*d):=by
  rcases jX k (bl (x+2^k*d)) with h'|h'
  .exact h'
  .have:=ph.1 h'
   have h3:2^k*1<=2^k*d:=fV _ we;omega
 have h3:=(h1 (bl d)).2 (bV _);have h4:=(h1 (bl (x+2^k*d)-k)).1 we;omega
def aJ2{ds:List Nat}(h:bB ds)(hn:gG ds)(hne:ds≠[]):bl (dv ds)=32*(ds.length-1)+bl (ds.getD (ds.length-1) 0):=by
 rcases rN ds with rfl|⟨l,d,rfl⟩
 .exact absurd J hne
 .rw[sQ] at*
  have hd:d≠0:=fun e=>by subst e;simp[gG] at hn
  have hl:bB l:=fun x hx=>h x (bK _ hx);have h1:=oH hl;rw[yY];have h2:(4294967296:Nat)^l.length=2^(32*l.length):=by rw[tY]
  rw[h2] at h1⊢;have h3:dv [d]=d:=by simp[dv]
  rw[h3,aA5 d h1 hd];have h4:(l++[d]).length-1=l.length:=by simp
  rw[h4,aJ,fL (bV _)];simp
def Ua{P:Program}{f:FuncId}{fn:Func}{c:Code}(h:P.funcs[f]? =some fn)(hb:fn.body=some c)(hn:(fn.name== "runtime.NumGoroutine")=false):ta P f:=⟨fn,h,hn,by rw[hb];rfl⟩
def Zq{G:Gh}{x:Nat}(hx:x<4294967296):Fn prog 206 [.int .u32 (x:Int)] G (fun v _=>v= .int .i64 (32-(bl x:Int))):=by
 have h:=Fn.of_calls (G:=G) (Ua func206 J J) (fun w=>Tryz.bits_LeadingZeros32 (x:Int) w we we);rw[dR,V1 (tX hx oma)] at h;exact h
def kj(a b:Nat):Int:=if a<b then-1 else if a=b then 0 else 1


def rI(d k:Nat)(hk:k<64)(h:d*2^k<18446744073709551616){q:Int}(hq:q.toNat=k:=by omega):IntKind.u64.wrap ((d:Int)*2^min q.toNat IntKind.u64.bits)=((d*2^k:Nat):Int):=by
 rw[hq,iU (by show k<=64;omega),sG];have e2:(d:Int)*2^k=((d*2^k:Nat):Int):=by push_cast;rfl
 rw[e2];omega
def SL(d k:Nat)(hk:k<64:=by omega){q:Int}(hq:q.toNat=k:=by omega):(d:Int).fdiv (2^min q.toNat IntKind.u64.bits)=((d/2^k:Nat):Int):=by
 rw[hq,iU (by show k<=64;omega),kV _ (qJ (Int.pow_pos oma))];push_cast;rfl
section
variable {P:Program} {C:aH} {n:Nat} {fr:Fr} {own:List az} {G:Gh} {dst:Option Nat} {t t1 t2 ty':TypeId} {pos:String} {af:Array Edge} {gd:Option (Nat×Bool)} {x y:Operand}
end
end Go.Sx
end
section
namespace Go.Sx
def wI(i:Nat):(4294967296:Nat)^(i+1)=4294967296^i*4294967296:=iQ ..
def aFa{U p V T S first third:Nat}(hU:U<(first*4294967296+third+1)*p)(h3:third<4294967296)(hV:(T*4294967296+S)*p<=V)(hT:0<T):
  U<(first/T+1)*V:=by
 have h1:first+1<=(first/T+1)*T:=by
  have:=Nat.lt_mul_div_succ first hT
  rw[cK];omega
 calc U<(first*4294967296+third+1)*p:=hU
  _<=((first+1)*4294967296)*p:=bR _ we
  _<=(((first/T+1)*T)*4294967296)*p:=bR _ (bR _ h1)
  _=(first/T+1)*((T*4294967296)*p):=by rw[cM (first/T+1),cM (first/T+1)]
  _<=(first/T+1)*V:=fV _ (dJ (bR _ (pQ _ _)) hV)
def aMj{U p V T S first third v0:Nat}(hU:(first*4294967296+third)*p<=U)(hV:V=(T*4294967296+S)*p+v0)(hv:v0<p)(hlt:U<V*4294967296):first<=T*4294967296+S:=by
 rcases jX (T*4294967296+S) first with h|h
 .exfalso
  have h1:(T*4294967296+S+1)*p<=first*p:=bR p h
  rw[dW _ 1,nL] at h1;rw[dW,rQ] at hU;have:0<=third*p:=bS _;omega
 .exact h
def HZ{U p V T S first third g r:Nat}(hU:U<(first*4294967296+third+1)*p)(hV:(T*4294967296+S)*p<=V)(hg:first=g*T+r)(hc:r*4294967296+third<g*S:=by omega):U<g*V:=by
 refine eY hU (dJ (bR p (m:=g*(T*4294967296+S)) ?_) ?_)
 .rw[fY,<-cM,hg,dW];omega
 .rw[cM];exact fV _ hV
def HI{U p V T S first third g r v0:Nat}(hU:(first*4294967296+third)*p<=U)(hV:V=(T*4294967296+S)*p+v0)(hv:v0<p)(hT:0<T)(hg:first=g*T+r)(hgB:g<4294967296)(hc:g*S<=r*4294967296+third):g*V<U+V:=by
 have h1:g*((T*4294967296+S)*p)<=U:=by
  rw[<-cM];refine dJ (bR p ?_) hU;rw[fY,<-cM,hg,dW];omega
 have h2:g*v0<=4294967295*v0:=bR _ we;have h3:4294967296*p<=V:=by
  rw[hV];refine dJ (bR p ?_) (pQ _ _);omega
 have h4:g*V=g*((T*4294967296+S)*p)+g*v0:=by rw[<-fY,<-hV]
 omega
def VU{U V R g:Nat}(h:U<(g+1)*V)(hr:R+g*V=U):R<V:=by
 rw[dW,nL] at h;omega
def aDL{U V R R' g w M:Nat}(h2:g*V<U+V)(hr:R+g*V=U+M)(hb:R'+w*M=R+V)(hR:R<M)(hR':R'<M)(hw:w<=1)(hg:0<g):R'+(g-1)*V=U/\R'<V:=by
 have hgv:g*V=(g-1)*V+V:=by
  conv=>lhs;rw[show g=(g-1)+1 by omega,dW,nL]
 have:w=1:=by
  rcases jX w 1 with h|h
  .have:w=0:=by omega
   subst this;omega
  .omega
 subst this;omega
def zf(us:List Nat)(i:Nat):dv (us.drop i)=us.getD i 0+4294967296*dv (us.drop (i+1)):=by
 rcases jX i us.length with h|h
 .rw[bU h];simp[dv,List.getD,aZ h]
 .rw[gT h,gT we]
  simp[dv,eJ h,List.getD]
def xV(us:List Nat)(i:Nat):dv us=dv (us.take i)+4294967296^i*dv (us.drop i):=by
 rcases jX us.length i with h|h
 .rw[cZ we,gT we];simp[dv]
 .exact AY us i h
def EE{us:List Nat}(h:bB us)(i:Nat):dv (us.take i)<4294967296^i:=by
 refine eY (oH (h.take i)) (cY oma ?_);simp[cR];omega
def Ar{us:List Nat}{i:Nat}(hd:dv us<4294967296^i):dv (us.drop i)=0:=by
 have h:=xV us i;rcases fW (dv (us.drop i)) with h0|h0
 .exact h0
 .have:=fV (4294967296^i) h0
  omega
def aDG{W W' U E p u x bo b c c1 g d:Nat}(hs:W'+p*u=W+p*x)(hw:W+E=U+(bo+c)*p)(hc:c1=c+g*d)(hx:x+(c1%4294967296+bo)=u+b*4294967296):
  W'+(E+g*d*p)=U+(b+c1/4294967296)*(p*4294967296):=by
 have h1:=congrArg (p* ·) hx;simp only[fY] at h1;have h2:p*c1=p*(c1%4294967296)+p*(c1/4294967296)*4294967296:=by
  rw[cM,<-fY,Nat.mod_add_div']
 have h3:p*c1=p*c+p*(g*d):=by rw[hc,fY]
 rw[dW,cK bo,cK c] at hw;rw[cK (g*d),dW,<-cM b,<-cM (c1/4294967296),cK b,cK (c1/4294967296)];rw[<-cM] at h1;omega
def aEG{W W' U E p u x bo b c:Nat}(hs:W'+p*u=W+p*x)(hw:W+E=U+(bo+c)*p)(hx:x+(c+bo)=u+b*4294967296):W'+E=U+b*(p*4294967296):=by
 have h1:=congrArg (p* ·) hx;simp only[fY] at h1;rw[dW,cK bo,cK c] at hw;rw[<-cM b,cK b];rw[<-cM] at h1;omega
def VS{W W' R E p u d c:Nat}(hs:W'+p*u=W+p*((c+(u+d))%4294967296))(hw:W+c*p=R+E):W'+(c+(u+d))/4294967296*(p*4294967296)=R+(E+d*p):=by
 have h2:p*(c+(u+d))=p*((c+(u+d))%4294967296)+p*((c+(u+d))/4294967296)*4294967296:=by
  rw[cM,<-fY,Nat.mod_add_div']
 rw[fY p c,fY p u] at h2;rw[cK c] at hw;rw[cK d,<-cM,cK _ p];omega
def Uu{W W' R p u c:Nat}(hs:W'+p*u=W+p*((u+c)%4294967296))(hw:W+c*p=R):W'+(u+c)/4294967296*(p*4294967296)=R:=by
 have h2:p*(u+c)=p*((u+c)%4294967296)+p*((u+c)/4294967296)*4294967296:=by
  rw[cM,<-fY,Nat.mod_add_div']
 rw[fY p u] at h2;rw[cK c] at hw;rw[<-cM,cK _ p];omega
def WF{us:List Nat}(h:bB us)(i:Nat)(hd:dv us<4294967296^(i+3)):
  dv us=((us.getD (i+2) 0*4294967296+us.getD (i+1) 0)*4294967296+us.getD i 0)*4294967296^i+dv (us.take i):=by
 have h0:=Ar hd;rw[xV us i,zf us i,zf us (i+1),zf us (i+2),h0,kX,cK];congr 2;omega
def aKi{us:List Nat}(h:bB us)(i:Nat)(hd:dv us<4294967296^(i+2)):
  dv us=(us.getD (i+1) 0*4294967296+us.getD i 0)*4294967296^i+dv (us.take i):=by
 have h0:=Ar hd;rw[xV us i,zf us i,zf us (i+1),h0,kX,cK];congr 2;omega
def Ef{us:List Nat}{k i d:Nat}(h:bB us)(hd:d<4294967296)(hk:dv us<4294967296^k)(hi:i<k:=by omega):dv (us.set i d)<4294967296^k:=by
 rw[xV _ k,List.drop_set,if_pos hi,Ar hk,tZ,gW];exact EE (h.set i hd) k
end Go.Sx
end
section
namespace Go.Sx
open Go Go.Proofs

end Go.Sx
end
section
namespace Go.Sx
open Go
section
variable {P:Program} {C:aH} {n:Nat} {fr:Fr} {own:List az} {G:Gh}
def Mp:Exit->Bool
 | .goto _=>false
 |_=>true
end
end Go.Sx
end
section
namespace Go.Sx
open Go Go.Proofs Tryz
def aH1{V n:Nat}(h1:4294967296^(n-1)<=V)(h2:V<4294967296^n)(hn:0<n):(dg V).length=n:=by
 obtain⟨e,hk,hr⟩:=i8 V;have hne:dg V≠[]:=fun h=>by
  rw[h] at e;have:0<4294967296^(n-1):=gL oma;simp[dv] at e;omega
 have h3:=xl hr hne;have h4:=oH hk;rw[e] at h3 h4;have h5:=(oK (a:=4294967296) oma).1 (gU h3 h2);have h6:=(oK (a:=4294967296) oma).1 (gU h1 h4);omega
def awR{t s:Nat}(h0:0<t)(ht:t<4294967296)(hs:s=32-bl t):s<32/\2147483648<=t*2^s/\(t+1)*2^s<=4294967296:=by
 have h1:bl t<=32:=ph.2 ht;have h2:bl t≠0:=fun h=>by
  have:=DR t;rw[h] at this;omega
 have h3:=DR t;have h4: ¬t<2^(bl t-1):=fun h=>by
  have:=ph.2 h;omega
 have e1:2^(bl t-1)*2^s=2147483648:=by rw[<-fN,show bl t-1+s=31 by omega]
 have e2:2^bl t*2^s=4294967296:=by rw[<-fN,show bl t+s=32 by omega]
 refine⟨we,?_,?_⟩
 .rw[<-e1];exact bR _ we
 .rw[<-e2];exact bR _ h3
def aKW{us:List Nat}(h:bB us)(i:Nat)(hd:us.length=i+1):dv us=us.getD i 0*4294967296^i+dv (us.take i):=by
 have h0:dv (us.drop (i+1))=0:=by rw[gT we];rfl
 rw[xV us i,zf us i,h0,kX,cK];rfl
def SU{b:List Nat}(h:gG b)(i:Nat)(hi:b.length=i+1):0<b.getD i 0:=by
 rcases fW (b.getD i 0) with h0|h0
 .exfalso
  apply h;rw[lM,hi,show i+1-1=i from J];rw[List.getD,aZ we] at h0;rw[aZ we];simpa using h0
 .exact h0
def azC(a:List Nat)(k:Nat):dv (a++List.replicate k 0)=dv a:=by rw[yY,z8];simp
def uK(u m bo:Nat):Nat:=if m+bo<=u then u-(m+bo) else u+18446744073709551616-(m+bo)
def EN(u m bo:Nat)(hu:u<4294967296)(hm:m<4294967296)(hb:bo<=1):IntKind.u64.wrap (IntKind.u64.wrap ((u:Int)-(m:Int))-(bo:Int))=((uK u m bo:Nat):Int):=by
 rw[sG,sG];unfold uK;split<;>omega
def Su(u m bo:Nat)(hu:u<4294967296)(hm:m<4294967296)(hb:bo<=1):uK u m bo%4294967296+(m+bo)=u+uK u m bo/9223372036854775808*4294967296/\uK u m bo/9223372036854775808<=1/\uK u m bo<18446744073709551616:=by
 unfold uK;split<;>omega
def n9{u k:Nat}(h:u<2^k):32*(dg u).length<=k+31:=V6 (i8 u).2.2 (by rw[(i8 u).1];exact h)
structure IV where
 neg:Bool
 a:SV
def IV.v(z:IV):Value:= .agg ⟨[.bool z.neg, .slice z.a.a z.a.n z.a.c]⟩
def zv(neg:Bool)(u:Nat):Int:=if neg then-(u:Int) else u
def tn(neg:Bool)(u:Nat):(zv neg u).natAbs=u:=by cases neg<;>simp[zv]
def aG1(neg:Bool)(u:Nat):zv (!neg) u= -zv neg u:=by cases neg<;>simp[zv]
def Q8(n m:Bool)(u w:Nat):zv (n !=m) (u*w)=zv n u*zv m w:=by cases n<;>cases m<;>simp[zv,Int.neg_mul,sS]
def Nv(neg:Bool)(u:Nat):decide (zv neg u<0)=(neg&&decide (0<u)):=by
 cases neg<;>simp[zv]
def nk(m:Int):zv (decide (m<0)) m.natAbs=m:=by
 unfold zv;by_cases h:m<0<;>simp[h]<;>omega
def aqX(n:Bool)(u w:Nat):zv n (u+w)=zv n u+zv n w:=by cases n<;>simp[zv]<;>omega
def HY(p:Int):IntKind.i64.wrap p=(p+9223372036854775808)%18446744073709551616-9223372036854775808:=by
 have e:IntKind.i64.wrap p=if(true&&decide (p%2^64>=2^(64-1)))=true then p%2^64-2^64 else p%2^64:=J
 rw[e,show(2:Int)^64=18446744073709551616 by decide,show(2:Int)^(64-1)=9223372036854775808 by decide,qT];by_cases h:p%18446744073709551616>=9223372036854775808
 .rw[decide_eq_true h,if_pos J];omega
 .rw[decide_eq_false h,if_neg oma];omega
structure RV where
 n:Int
 d:Int
 p:Option Addr
def RV.v(z:RV):Value:= .agg ⟨[.int .i64 z.n, .int .i64 z.d, .pointer z.p]⟩
def aGT{neg:Bool}{u g:Nat}(h:g∣u):zv neg (u/g)=zv neg u/(g:Int):=by
 cases neg
 .simp[zv]
 .simp only[zv,if_true]
  rw[Int.neg_ediv_of_dvd (rK.2 h),sJ]
def Qw{m:Int}{e:Nat}(he:0<e):(mkRat m e).num=m/((Nat.gcd m.natAbs e:Nat):Int)/\(mkRat m e).den=e/Nat.gcd m.natAbs e:=by
 rw[Rat.num_mkRat,Rat.den_mkRat,if_neg we,if_neg we,jK];exact⟨J,J⟩
def aGa{x:Nat}:(((bl x:Nat):Int)<=62)↔x<4611686018427387904:=by
 have:bl x<=62↔x<2^62:=ph;omega

def Xh{G:Gh}{x y:Nat}(hx:x<18446744073709551616)(hy:y<18446744073709551616):Fn prog 191 [.int .u64 (x:Nat), .int .u64 (y:Nat)] G (fun v _=>v= .tuple #[.int .u64 ((x*y/18446744073709551616:Nat):Int), .int .u64 ((x*y%18446744073709551616:Nat):Int)]):=
 Fn.of_calls (G:=G) (Ua func191 J J) (fun w=>Tryz.bits_Mul64 x y hx hy w)
def PD(a b:Int):a*b=if(a<0)↔(b<0) then((a.natAbs*b.natAbs:Nat):Int) else-((a.natAbs*b.natAbs:Nat):Int):=by
 rcases(by omega:a<0\/0<=a) with h|h<;>rcases(by omega:b<0\/0<=b) with h2|h2
 .rw[if_pos (by simp[h,h2]),iY,lR (qJ h),lR (qJ h2),Int.neg_mul_neg]
 .rw[if_neg (by simp[h];omega),iY,lR (qJ h),nM h2,Int.neg_mul,Int.neg_neg]
 .rw[if_neg (by simp[h2];omega),iY,nM h,lR (qJ h2),sS,Int.neg_neg]
 .rw[if_pos (by constructor<;>intro<;>omega),iY,nM h,nM h2]
def avb{p:Int}(h:p.natAbs<9223372036854775808):IntKind.i64.wrap p=p:=by rw[HY];omega

def Uo{n:Int}{d:Nat}(h:n<0):mkRat (-(d:Int)) n.natAbs=Rat.divInt (d:Int) n:=by
 rw[<-Rat.divInt_ofNat,lR (qJ h),Rat.neg_divInt_neg]
def Tm{q:Rat}(h:q.num<0):(q⁻¹).num= -(q.den:Int)/\(q⁻¹).den=q.num.natAbs:=by
 rw[Rat.num_inv,Rat.den_inv,if_neg we,fZ h];omega
def MH{q:Rat}(h:0<q.num):(q⁻¹).num=(q.den:Int)/\(q⁻¹).den=q.num.natAbs:=by
 rw[Rat.num_inv,Rat.den_inv,if_neg we,fJ h];omega
end Go.Sx
end
section
namespace Go.Sx
open Go
section
variable {P:Program} {ops:Array Oper} {Q:Exit->Act->World->Prop} {S:World->Prop} {fin:Nat->Bool} {k:Nat} {π₂:List (Nat×Bool)}
end
section
variable {P:Program} {C:aH} {n:Nat} {fr:Fr} {own own0:List az} {G G0:Gh} {ops:Array Oper} {Q:Exit->Act->World->Prop} {fin:Nat->Bool} {k:Nat} {π π₂:List (Nat×Bool)}
def fF(d:Nat):Option Nat->Fr
 |none=>[]
 |some b=>[(d, .pointer (some ⟨b,0,none⟩))]
def fO(t:TypeId)(z:Value):Option Nat->List az
 |none=>[]
 |some b=>[⟨b,aP z,t,true⟩]
end
end Go.Sx
end
section
namespace Go.Sx
open Go Go.Proofs
def D4{q:Rat}(h:q.den=1:=by omega):q=(q.num:Int):=by
 conv=>lhs;rw[<-tV q,h,sU]
def bt(a b:Rat):Int:=if a<b then-1 else if b<a then 1 else 0
def KJ(a b:Rat):(a-b).num<0↔a<b:=by
 rw[<-Rat.not_le,Rat.le_iff_sub_nonneg,<-Rat.num_nonneg];omega
def Og(a b:Rat):0<(a-b).num↔b<a:=by
 have h:=KJ b a;have h2:(b-a).num= -(a-b).num:=by rw[<-nQ,Rat.neg_sub]
 rw[h2] at h;rw[<-h];omega
def Df(a b:Rat):Int.sign (a-b).num=bt a b:=by
 unfold bt;split
 .rename_i h;exact fZ ((KJ a b).2 h)
 .rename_i h
  split
  .rename_i h2;exact fJ ((Og a b).2 h2)
  .rename_i h2
   rw[<-KJ] at h;rw[<-Og] at h2;rw[show(a-b).num=0 by omega];rfl
def RI{a b:Rat}(h:a.den=b.den:=by omega):a<b↔a.num<b.num:=by
 rw[Rat.lt_iff,h];have:(0:Int)<b.den:=by have:=b.den_pos;omega
 exact⟨fun h2=>Int.lt_of_mul_lt_mul_right h2 (qJ this),fun h2=>Int.mul_lt_mul_of_pos_right h2 this⟩
def ou(a b:Rat):bt a b=0↔a=b:=by
 unfold bt;constructor
 .intro h
  split at h
  .omega
  .rename_i h1
   split at h
   .omega
   .rename_i h2
    exact Rat.le_antisymm (Rat.not_lt.1 h2) (Rat.not_lt.1 h1)
 .intro h
  subst h;rw[if_neg (Rat.not_lt.2 dX),if_neg (Rat.not_lt.2 dX)]
def NJ(a b:Rat):0<bt a b↔b<a:=by
 unfold bt;constructor
 .intro h
  split at h
  .omega
  .split at h
   .assumption
   .omega
 .intro h
  rw[if_neg (fun h2=>Rat.not_lt.2 (aN h) h2),if_pos h];decide
def RY(a b:Rat):bt a b<0↔a<b:=by
 unfold bt;constructor
 .intro h
  split at h
  .assumption
  .split at h<;>omega
 .intro h
  rw[if_pos h];decide
def rgcd(a b:Rat):Rat:=mkRat ((Nat.gcd (a.num.natAbs*b.den) (b.num.natAbs*a.den):Nat):Int) (a.den*b.den)
def H0(a b:Int):rgcd a b=((Nat.gcd a.natAbs b.natAbs:Nat):Int):=by
 unfold rgcd;show mkRat ((Nat.gcd (a.natAbs*1) (b.natAbs*1):Nat):Int) (1*1)=_;rw[lY,lY,lY,sU]
def aGZ{a b m:Nat}(ha:a<m)(hb:b<m):Nat.gcd a b<m:=by
 rcases fW a with h|h
 .rw[h,Nat.gcd_zero_left];exact hb
 .exact gU (Nat.gcd_le_left _ h) ha
structure LV where
 a:RV
 b:RV
 c:RV
def LV.v(z:LV):Value:= .agg ⟨[.int .i64 z.a.n, .int .i64 z.a.d, .pointer z.a.p, .int .i64 z.b.n, .int .i64 z.b.d, .pointer z.b.p, .int .i64 z.c.n, .int .i64 z.c.d, .pointer z.c.p]⟩
structure ab where
 a:Int
 b:Int
 c:Int
def ab.ok(l:ab):Prop:= ¬(l.a=0/\l.b=0)/\Nat.gcd (Nat.gcd l.a.natAbs l.b.natAbs) l.c.natAbs=1
structure PV where
 x:RV
 y:RV
def PV.v(z:PV):Value:= .agg ⟨[.int .i64 z.x.n, .int .i64 z.x.d, .pointer z.x.p, .int .i64 z.y.n, .int .i64 z.y.d, .pointer z.y.p]⟩
structure aa where
 x:Rat
 y:Rat
def H'(a:Int): -(a:Rat)=((-a:Int):Rat):=rfl
def ab.rev(l:ab):ab:=⟨-l.a, -l.b, -l.c⟩
def ab.nor(l:ab):aa:=⟨l.a,l.b⟩
def ab.dir(l:ab):aa:=⟨l.b, -(l.a:Rat)⟩
def aa.dot(p q:aa):Rat:=p.x*q.x+p.y*q.y
def aa.cross(p q:aa):Rat:=p.x*q.y-p.y*q.x
def aa.scale(p:aa)(c:Rat):aa:=⟨p.x*c,p.y*c⟩
def aa.add(p q:aa):aa:=⟨p.x+q.x,p.y+q.y⟩
def ab.value(l:ab)(p:aa):Rat:=l.nor.dot p+(l.c:Rat)
def ab.base(l:ab):aa:=l.nor.scale (-(l.c:Rat)/l.nor.dot l.nor)
def ab.at(l:ab)(t:Rat):aa:=l.base.add (l.dir.scale t)
end Go.Sx
end
