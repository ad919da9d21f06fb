import Derived.Test.YtbllnkhngjedjaaGreatDoorPt1
import Derived.Scope
import Derived.Laws.Externs
import Derived.Lib.Overlaps
set_option linter.all false
set_option maxRecDepth 100000
section
namespace Go.Sx
open Go
def Tu{P:Program}{t:TypeId}{d:TypeDesc}(h:P.underlying t=some d)(w:World):(underlying t).run P w= .ok d w:=by
 simp[underlying,program,Sem.run_bind,Sem.run,h,run_pure]
class Hk (P:Program) (t:TypeId):Prop where u: ∀w,(underlying t).run P w= .ok .bool w
class I' (P:Program) (t:TypeId):Prop where u: ∃e,∀w,(underlying t).run P w= .ok (.pointer e) w
class JU (P:Program) (t:TypeId):Prop where u: ∃ms,∀w,(underlying t).run P w= .ok (.interface ms) w
class Fm (P:Program) (t:TypeId) (f:Nat) (off ft:outParam Nat):Prop where
 u: ∃fs fd,(∀w,(underlying t).run P w= .ok (.struct fs) w)/\fs[f]? =some fd/\fd.offset=off/\fd.type=ft
class lO (P:Program) (t:TypeId):Prop where
 un: ∃e,P.underlying t=some (.slice e)
section
variable {P:Program} {C:aD} {n:Nat} {fr:Fr} {own own':List aw} {G:Gh} {Φ:Act->World->Prop}
variable {dst:Option Nat} {t t' ty':TypeId} {pos:String} {af:Array Edge} {gd:Option (Nat×Bool)} {x y:Operand}
def rg{w:World}{p q:Value}{b:Bool}(h:(Op.equalIn (9999+1) t p q).run P w= .ok b w):(Op.equal t p q).run P w= .ok b w:=h
def aHb[hT:Hk P t]{p q:Bool}(hx:aA fr x=some (.bool p))(hy:aA fr y=some (.bool q)):Yd P C fr own G ⟨dst, .binOp .eql t x y t',ty',pos,af,gd⟩ (.bool (p==q)):=by
 intro a w hf hh;simp only[execOp,bh hf hx,bh hf hy];have h1:(Op.equal t (.bool p) (.bool q)).run P w= .ok (p==q) w:=rg (by unfold Op.equalIn;rw[aI (hT.u w)];rfl);have h2:(eqGuard .eql t x y (.bool p) (.bool q)).run P w= .ok () w:=J;have h3:(binOp .eql t (.bool p) (.bool q)).run P w= .ok (.bool (p==q)) w:=by simp only[binOp];rw[aI h1];rfl
 exact c7 (by rw[aI h2];exact h3)
def Tl[hT:Hk P t]{p q:Bool}(hx:aA fr x=some (.bool p))(hy:aA fr y=some (.bool q)):Yd P C fr own G ⟨dst, .binOp .neq t x y t',ty',pos,af,gd⟩ (.bool (!(p==q))):=by
 intro a w hf hh;simp only[execOp,bh hf hx,bh hf hy];have h1:(Op.equal t (.bool p) (.bool q)).run P w= .ok (p==q) w:=rg (by unfold Op.equalIn;rw[aI (hT.u w)];rfl);have h2:(eqGuard .neq t x y (.bool p) (.bool q)).run P w= .ok () w:=J;have h3:(binOp .neq t (.bool p) (.bool q)).run P w= .ok (.bool (!(p==q))) w:=by simp only[binOp];rw[aI h1];rfl
 exact c7 (by rw[aI h2];exact h3)
def Cl[hT:I' P t]{p:Option Addr}(hx:aA fr x=some (.pointer p))(hy:aA fr y=some (.pointer none)):Yd P C fr own G ⟨dst, .binOp .eql t x y t',ty',pos,af,gd⟩ (.bool p.isNone):=by
 obtain⟨e,he⟩:=hT.u;intro a w hf hh;simp only[execOp,bh hf hx,bh hf hy];have h1:(Op.equal t (.pointer p) (.pointer none)).run P w= .ok p.isNone w:=rg (by unfold Op.equalIn;rw[aI (he w)];cases p<;>rfl);have h2:(eqGuard .eql t x y (.pointer p) (.pointer none)).run P w= .ok () w:=by cases p<;>rfl
 have h3:(binOp .eql t (.pointer p) (.pointer none)).run P w= .ok (.bool p.isNone) w:=by cases p<;>(simp only[binOp];rw[aI h1];rfl)
 exact c7 (by rw[aI h2];exact h3)
def EH[hT:I' P t]{p:Option Addr}(hx:aA fr x=some (.pointer p))(hy:aA fr y=some (.pointer none)):Yd P C fr own G ⟨dst, .binOp .neq t x y t',ty',pos,af,gd⟩ (.bool (!p.isNone)):=by
 obtain⟨e,he⟩:=hT.u;intro a w hf hh;simp only[execOp,bh hf hx,bh hf hy];have h1:(Op.equal t (.pointer p) (.pointer none)).run P w= .ok p.isNone w:=rg (by unfold Op.equalIn;rw[aI (he w)];cases p<;>rfl);have h2:(eqGuard .neq t x y (.pointer p) (.pointer none)).run P w= .ok () w:=by cases p<;>rfl
 have h3:(binOp .neq t (.pointer p) (.pointer none)).run P w= .ok (.bool (!p.isNone)) w:=by cases p<;>(simp only[binOp];rw[aI h1];rfl)
 exact c7 (by rw[aI h2];exact h3)
def K0{v:Value}[hT:JU P t](hv:v= .nilIface\/ ∃k u,v= .iface k u)(hx:aA fr x=some v):
  Yd P C fr own G ⟨dst, .binOp .eql t x (.const .nilIface) t',ty',pos,af,gd⟩ (.bool (match v with| .nilIface=>true|_=>false)):=by
 obtain⟨e,he⟩:=hT.u;intro a w hf hh;simp only[execOp,bh hf hx,show a.eval (.const .nilIface)= .nilIface from J];rcases hv with rfl|⟨k,u,rfl⟩
 .have h1:(Op.equal t .nilIface .nilIface).run P w= .ok true w:=rg (by unfold Op.equalIn;rw[aI (he w)];rfl)
  have h2:(eqGuard .eql t x (.const .nilIface) .nilIface .nilIface).run P w= .ok () w:=by cases x<;>rfl
  exact c7 (by rw[aI h2];simp only[binOp];rw[aI h1];rfl)
 .have h1:(Op.equal t (.iface k u) .nilIface).run P w= .ok false w:=rg (by unfold Op.equalIn;rw[aI (he w)];rfl)
  exact c7 (by rw[aI (a:=()) (w':=w) J];simp only[binOp];rw[aI h1];rfl)
def Oc{v:Value}[hT:JU P t](hv:v= .nilIface\/ ∃k u,v= .iface k u)(hx:aA fr x=some v):
  Yd P C fr own G ⟨dst, .binOp .neq t x (.const .nilIface) t',ty',pos,af,gd⟩ (.bool (match v with| .nilIface=>false|_=>true)):=by
 obtain⟨e,he⟩:=hT.u;intro a w hf hh;simp only[execOp,bh hf hx,show a.eval (.const .nilIface)= .nilIface from J];rcases hv with rfl|⟨k,u,rfl⟩
 .have h1:(Op.equal t .nilIface .nilIface).run P w= .ok true w:=rg (by unfold Op.equalIn;rw[aI (he w)];rfl)
  have h2:(eqGuard .neq t x (.const .nilIface) .nilIface .nilIface).run P w= .ok () w:=by cases x<;>rfl
  exact c7 (by rw[aI h2];simp only[binOp];rw[aI h1];rfl)
 .have h1:(Op.equal t (.iface k u) .nilIface).run P w= .ok false w:=rg (by unfold Op.equalIn;rw[aI (he w)];rfl)
  exact c7 (by rw[aI (a:=()) (w':=w) J];simp only[binOp];rw[aI h1];rfl)
def Zf{cs l:List Value}{f off ft k:Nat}[hF:Fm P t f off ft][hA:mC P ft k](hx:aA fr x=some (.agg ⟨cs⟩))(hl:cD cs off k=some l):Yd P C fr own G ⟨dst, .field t x f,ty',pos,af,gd⟩ (.agg ⟨l⟩):=by
 obtain⟨fs,fd,h1,h2,h3,h4⟩:=hF.u;intro a w hf hh;simp only[execOp,bh hf hx];have:(Instr.field t (.agg ⟨cs⟩) f).run P w= .ok (.agg ⟨l⟩) w:=by
  unfold Instr.field;rw[aI (h1 w)];simp only[h2,h3,h4,asAgg];rw[aI (run_pure _ _ _)];unfold part;rw[aI (hA.agg w)];simp only[if_true];rw[aI (hA.siz w)];obtain⟨k1,k2⟩:=qO _ _ _ _ hl;have:(⟨cs⟩:Array Value).extract off (off+k)=⟨l⟩:=by
   apply Array.ext';rw[Array.toList_extract];apply kU;intro i;rw[List.extract_eq_take_drop,rJ];split
   .rw[nT];exact k2 i (by omega)
   .exact(dX (show l.length<=i by omega)).symm
  rw[this];rfl
 exact c7 this
def YN{cs:List Value}{f off ft:Nat}{v:Value}[hF:Fm P t f off ft][hA:jh P ft](hx:aA fr x=some (.agg ⟨cs⟩))(hl:cs[off]? =some v):Yd P C fr own G ⟨dst, .field t x f,ty',pos,af,gd⟩ v:=by
 obtain⟨fs,fd,h1,h2,h3,h4⟩:=hF.u;intro a w hf hh;simp only[execOp,bh hf hx];have:(Instr.field t (.agg ⟨cs⟩) f).run P w= .ok v w:=by
  unfold Instr.field;rw[aI (h1 w)];simp only[h2,h3,h4,asAgg];rw[aI (run_pure _ _ _)];unfold part;rw[aI (hA.agg w)];have:(⟨cs⟩:Array Value)[off]? =some v:=by simpa using hl
  simp only[jT,if_false,this];rfl
 exact c7 this
class GI (P:Program) (t:TypeId) (offs:outParam (List (Nat×Nat))):Prop where
 u: ∃fs:Array Field,(∀w,(underlying t).run P w= .ok (.struct fs) w)/\(∀w,(fs.mapM (m:=Sem) fun f=>do pure (f.offset,<-sizeOf f.type)).run P w= .ok ⟨offs⟩ w)
def uv(fr:Fr)(offs:List (Nat×Nat)):List Value->List (Nat×Operand)->Option (List Value)
 |cs,[]=>some cs
 |cs,(i,x)::r=>match offs[i]?,aA fr x with
  |some (off,k),some v=>if(aG v).length=k/\off+k<=cs.length then uv fr offs (cC cs off (aG v)) r else none
  |_,_=>none
def HE: ∀(vs:List Value) (cs:Array Value) (off j:Nat),(vs.zipIdx j).foldl (fun cs (c,j)=>cs.setIfInBounds (off+j) c) cs=⟨cC cs.toList (off+j) vs⟩
 |[],cs,off,j=>rfl
 |v::vs,cs,off,j=>by
  simp only[List.zipIdx_cons,kV];rw[HE vs _ off (j+1)];simp[cC,kW]
def Jy{a:Act}(hf:mj fr a)(offs:List (Nat×Nat)): ∀(ps:List (Nat×Operand)) (cs out:List Value),uv fr offs cs ps=some out->
  Instr.fill ((⟨offs⟩:Array (Nat×Nat))[·]?) ⟨cs⟩ (ps.map fun(i,x)=>(i,a.eval x))=some ⟨out⟩
 |[],cs,out,h=>by simp only[uv] at h;cases h;rfl
 |(i,x)::ps,cs,out,h=>by
  simp only[uv] at h;split at h
  .rename_i off k v ho hv
   split at h
   .rename_i hc
    simp only[cV,Instr.fill];have:(⟨offs⟩:Array (Nat×Nat))[i]? =some (off,k):=by simpa using ho
    simp only[this,bh hf hv,qG];have h1: ¬((⟨aG v⟩:Array Value).size≠k):=by simp[hc.1]
    have h2: ¬(off+(⟨aG v⟩:Array Value).size>(⟨cs⟩:Array Value).size):=by simp only[oZ,hc.1];omega
    rw[if_neg (by simp only[iV,decide_eq_true_eq,not_or];exact⟨by simpa using h1,by simpa using h2⟩)];have e:=HE (aG v) ⟨cs⟩ off 0;have e':(⟨aG v⟩:Array Value).zipIdx.foldl (fun cs (c,j)=>cs.setIfInBounds (off+j) c) (⟨cs⟩:Array Value)=⟨cC cs off (aG v)⟩:=by
     rw[<-Array.foldl_toList,Array.toList_zipIdx];simpa using e
    rw[e'];exact Jy hf offs ps _ _ h
   .cases h
  .cases h
def HK{parts:Array (Nat×Operand)}{offs:List (Nat×Nat)}{z:Value}{out:List Value}[hT:GI P t offs][hz:iE P t z](hb:uv fr offs (aG z) parts.toList=some out):Yd P C fr own G ⟨dst, .build t parts,ty',pos,af,gd⟩ (.agg ⟨out⟩):=by
 obtain⟨fs,h1,h2⟩:=hT.u;intro a w hf hh;simp only[execOp];have:(Instr.build t (parts.map fun(i,x)=>(i,a.eval x))).run P w= .ok (.agg ⟨out⟩) w:=by
  unfold Instr.build;rw[aI (hz.zero w),qG];rw[aI (h1 w)];simp only[];rw[aI (h2 w)];have:=Jy hf offs parts.toList _ _ hb;simp only[pQ,this];rfl
 exact c7 this
end
def dw(z:Value)(k:Nat):List Value:=(List.replicate k (aG z)).flatten
def Gw{α:Type}(l:List α): ∀(k i:Nat),i<k*l.length->(List.replicate k l).flatten[i]? =l[i%l.length]?
 |0,i,h=>by omega
 |k+1,i,h=>by
  rw[jQ,lW];by_cases hi:i<l.length
  .rw[cN hi,dV hi]
  .rw[gQ (by omega),Gw l k (i-l.length) (by rw[cM] at h;omega)]
   rw[Nat.mod_eq_sub_mod (Nat.ge_of_not_lt hi)]
def pw(z:Value)(k:Nat):(dw z k).length=k*(aG z).length:=by simp[dw]
def BS{z:Value}{k m:Nat}(h:m=k*(aG z).length):((Array.range m).map fun i=>(⟨aG z⟩:Array Value)[i%(⟨aG z⟩:Array Value).size]!)=⟨dw z k⟩:=by
 subst h;apply Array.ext';apply kU;intro i;simp only[pQ,Array.toList_range,cK,oZ];by_cases hi:i<k*(aG z).length
 .rw[oS hi]
  simp only[jX];have h1:=Gw (aG z) k i hi;have hpos:0<(aG z).length:=by
   rcases fT (aG z).length with h|h
   .rw[h,pN] at hi;omega
   .exact h
  have hm:=cS i hpos;show _=(dw z k)[i]?;unfold dw;rw[h1];simp[hm]
 .rw[dX (by simpa using hi)]
  rw[dX (by show(dw z k).length<=i;rw[pw];omega)];rfl
section
variable {P:Program} {C:aD} {n:Nat} {fr:Fr} {own own':List aw} {G:Gh} {Φ:Act->World->Prop}
variable {dst:Option Nat} {t t' ty':TypeId} {pos:String} {af:Array Edge} {gd:Option (Nat×Bool)} {x y:Operand} {e s by_:Nat}
def N7[hT:cp P t e s by_](w:World): ∃i:TypeInfo,(typeInfo e).run P w= .ok i w/\i.bytes=by_:=by
 obtain⟨i,h1,_,h2⟩:=hT.info;exact⟨i,by simp[typeInfo,program,Sem.run_bind,Sem.run,h1,run_pure],h2⟩
def um[hT:cp P t e s by_]{z:Value}[hz:iE P e z]{k k':IntKind}{l:Int}(hx:aA fr x=some (.int k l))(hy:aA fr y=some (.int k' l))(h0:0<=l)(hb:by_*l<=2^47)(hl:l<=2^60)(hs:(aG z).length=s)(hd:b9 n dst=true)
  (h: ∀b,St C n (put fr dst (.slice (some ⟨b,0,none⟩) l.toNat l.toNat)) (⟨b,dw z l.toNat,e,true⟩::own) G Φ):
  Ch P C n fr own G ⟨dst, .makeSlice t x y,ty',pos,af,gd⟩ Φ:=by
 intro a w Q rl;have h1:(Instr.makeSlice t (a.eval x) (a.eval y)).run P w= .ok (.slice (some ⟨w.heap.size,0,none⟩) l.toNat l.toNat) (w.alloc (.cells ⟨dw z l.toNat⟩ e)):=by
  obtain⟨i,hi,hib⟩:=N7 (P:=P) (t:=t) (e:=e) (s:=s) (by_:=by_) w;rw[bh rl.fr hx,bh rl.fr hy];unfold Instr.makeSlice;rw[aI (hT.u w)];simp only[asInt,asIntOf];rw[aI (a:=l) (w':=w) J,aI (a:=l) (w':=w) J,aI hi,hib];have hw:IntKind.i64.wrap l=l:=uj (by simp[IntKind.min,IntKind.max,IntKind.signed,IntKind.bits];omega);simp only[hw];have c1: ¬((by_:Int)*l>2^48):=by
   have:(2:Int)^47<=2^48:=by decide
   omega
  have c2:(decide (l<0)||decide ((by_:Int)*l>2^48))=false:=by simp[c1];omega
  simp only[c2,Int.lt_irrefl,decide_false,sW,Bool.false_or];have c3:decide (l<0)=false:=by simp;omega
  simp only[c3,jT,if_false,gt_iff_lt,Int.lt_irrefl,decide_false,sW];have hr: ¬(l.toNat*by_>roomBytes):=by
   unfold roomBytes;have:((l.toNat*by_:Nat):Int)=by_*l:=by rw[jJ,qY h0,Int.mul_comm]
   have h47:((2^47:Nat):Int)=2^47:=by decide
   omega
  unfold askRoom;simp only[hr,if_false];rw[aI (run_pure _ _ _),aI (hT.siz w)];have hn:l.toNat*s=l.toNat*(aG z).length:=by rw[hs]
  by_cases h00:l.toNat*s=0
  .rw[if_pos h00,aI (run_pure _ _ _)]
   have e0:dw z l.toNat=[]:=bS (by rw[pw,hs];exact h00);rw[h00,e0,show(Array.range 0)= #[] from J,Array.map_empty];rfl
  .rw[if_neg h00,aI (hz.zero w),qG]
   rw[aI (run_pure _ _ _),BS hn];rfl
 refine(fun hk=>?_:Φ (a.put dst (.slice (some ⟨w.heap.size,0,none⟩) l.toNat l.toNat)) (w.alloc (.cells ⟨dw z l.toNat⟩ e))->_) (h w.heap.size _ _ ((rl.heap (rl.h.alloc _ _)).put _ hd));exact kz (v:= .slice (some ⟨w.heap.size,0,none⟩) l.toNat l.toNat) (c7 h1) hk
end
section
variable {P:Program} {C:aD} {n:Nat} {fr:Fr} {own own':List aw} {G:Gh} {Φ:Act->World->Prop}
variable {dst:Option Nat} {t t' ty':TypeId} {pos:String} {af:Array Edge} {gd:Option (Nat×Bool)} {x y:Operand} {e s by_:Nat}
def vj(fr:Fr)(s:Nat):List Value->List (Nat×Operand)->Option (List Value)
 |cs,[]=>some cs
 |cs,(i,x)::r=>match aA fr x with
  |some v=>if(aG v).length=s/\i*s+s<=cs.length then vj fr s (cC cs (i*s) (aG v)) r else none
  |none=>none
def Kn{a:Act}(hf:mj fr a)(s:Nat): ∀(ps:List (Nat×Operand)) (cs out:List Value),vj fr s cs ps=some out->
  Instr.fill (fun i=>some (i*s,s)) ⟨cs⟩ (ps.map fun(i,x)=>(i,a.eval x))=some ⟨out⟩
 |[],cs,out,h=>by simp only[vj] at h;cases h;rfl
 |(i,x)::ps,cs,out,h=>by
  simp only[vj] at h;split at h
  .rename_i v hv
   split at h
   .rename_i hc
    simp only[cV,Instr.fill,bh hf hv,qG];have h1: ¬((⟨aG v⟩:Array Value).size≠s):=by simp[hc.1]
    have h2: ¬(i*s+(⟨aG v⟩:Array Value).size>(⟨cs⟩:Array Value).size):=by simp only[oZ,hc.1];omega
    rw[if_neg (by simp only[iV,decide_eq_true_eq,not_or];exact⟨by simpa using h1,by simpa using h2⟩)];have e:=HE (aG v) ⟨cs⟩ (i*s) 0;have e':(⟨aG v⟩:Array Value).zipIdx.foldl (fun cs (c,j)=>cs.setIfInBounds (i*s+j) c) (⟨cs⟩:Array Value)=⟨cC cs (i*s) (aG v)⟩:=by
     rw[<-Array.foldl_toList,Array.toList_zipIdx];simpa using e
    rw[e'];exact Kn hf s ps _ _ h
   .cases h
  .cases h
def HQ[hT:cp P t e s by_]{z:Value}[hz:iE P e z]{len:Nat}{parts:Array (Nat×Operand)}{out:List Value}(hs:(aG z).length=s)(hb:vj fr s (dw z len) parts.toList=some out)(hsm:Nat.ble (len*s) 1000=true)(hs0:Nat.blt 0 (len*s)=true)(hd:b9 n dst=true)
  (h: ∀b,St C n (put fr dst (.slice (some ⟨b,0,none⟩) len len)) (⟨b,out,e,true⟩::own) G Φ):
  Ch P C n fr own G ⟨dst, .buildSlice t len parts,ty',pos,af,gd⟩ Φ:=by
 intro a w Q rl;have hsm':len*s<=1000:=by simpa using hsm
 have hs0':0<len*s:=by simpa[mL] using hs0
 have h1:(Instr.buildSlice t len (parts.map fun(i,x)=>(i,a.eval x))).run P w= .ok (.slice (some ⟨w.heap.size,0,none⟩) len len) (w.alloc (.cells ⟨out⟩ e)):=by
  unfold Instr.buildSlice;rw[aI (hT.u w)];simp only[];rw[aI (hT.siz w)];have c1: ¬(len*s>2^24):=by omega
  have c2: ¬(len*s=0):=by omega
  simp only[c1,if_false];rw[if_neg c2,aI (hz.zero w),qG,aI (run_pure _ _ _)];rw[BS (k:=len) (by rw[hs])];have hf:=Kn rl.fr s parts.toList _ _ hb;simp only[pQ,hf];rfl
 refine kz (v:= .slice (some ⟨w.heap.size,0,none⟩) len len) (w':=w.alloc (.cells ⟨out⟩ e)) ?_ (h w.heap.size _ _ ((rl.heap (rl.h.alloc _ _)).put _ hd));simp only[execOp];exact c7 h1
def KY[hT:cp P t e s by_](hd:b9 n dst=true)(h: ∀b,St C n (put fr dst (.slice (some ⟨b,0,none⟩) 0 0)) (⟨b,[],e,true⟩::own) G Φ):
  Ch P C n fr own G ⟨dst, .buildSlice t 0 #[],ty',pos,af,gd⟩ Φ:=by
 intro a w Q rl;have h1:(Instr.buildSlice t 0 #[]).run P w= .ok (.slice (some ⟨w.heap.size,0,none⟩) 0 0) (w.alloc (.cells ⟨[]⟩ e)):=by
  unfold Instr.buildSlice;rw[aI (hT.u w)];simp only[];rw[aI (hT.siz w)];simp only[mK,gt_iff_lt,sN,if_false,if_true];rw[aI (run_pure _ _ _),show(Array.range 0)= #[] from J,Array.map_empty];rfl
 refine kz (v:= .slice (some ⟨w.heap.size,0,none⟩) 0 0) (w':=w.alloc (.cells ⟨[]⟩ e)) ?_ (h w.heap.size _ _ ((rl.heap (rl.h.alloc _ _)).put _ hd));simp only[execOp,gN,kX];exact c7 h1
def P4[hT:cp P t e s by_]{ad:Option Addr}{len cap l2 c2:Nat}(hx:aA fr x=some (.slice ad len cap))(hy:aA fr y=some (.slice none l2 c2)):Yd P C fr own G ⟨dst, .binOp .eql t x y t',ty',pos,af,gd⟩ (.bool ad.isNone):=by
 intro a w hf hh;simp only[execOp,bh hf hx,bh hf hy];have h1:(Op.equal t (.slice ad len cap) (.slice none l2 c2)).run P w= .ok ad.isNone w:=rg (by unfold Op.equalIn;rw[aI (hT.u w)];cases ad<;>rfl);have h2:(eqGuard .eql t x y (.slice ad len cap) (.slice none l2 c2)).run P w= .ok () w:=J;have h3:(binOp .eql t (.slice ad len cap) (.slice none l2 c2)).run P w= .ok (.bool ad.isNone) w:=by simp only[binOp];rw[aI h1];rfl
 exact c7 (by rw[aI h2];exact h3)
def aGi[hT:cp P t e s by_]{ad:Option Addr}{len cap l2 c2:Nat}(hx:aA fr x=some (.slice ad len cap))(hy:aA fr y=some (.slice none l2 c2)):Yd P C fr own G ⟨dst, .binOp .neq t x y t',ty',pos,af,gd⟩ (.bool (!ad.isNone)):=by
 intro a w hf hh;simp only[execOp,bh hf hx,bh hf hy];have h1:(Op.equal t (.slice ad len cap) (.slice none l2 c2)).run P w= .ok ad.isNone w:=rg (by unfold Op.equalIn;rw[aI (hT.u w)];cases ad<;>rfl);have h2:(eqGuard .neq t x y (.slice ad len cap) (.slice none l2 c2)).run P w= .ok () w:=J;have h3:(binOp .neq t (.slice ad len cap) (.slice none l2 c2)).run P w= .ok (.bool (!ad.isNone)) w:=by simp only[binOp];rw[aI h1];rfl
 exact c7 (by rw[aI h2];exact h3)
end
def mB: ∀(cs:List Value) (off k:Nat),off+k<=cs.length->cD cs off k=some ((cs.drop off).take k)
 |cs,0,0,_=>by cases cs<;>rfl
 |[],0,k+1,h=>by simp at h
 |v::t,0,k+1,h=>by
  simp only[cD,mB t 0 k (by simp at h;omega)];simp
 |[],_+1,k,h=>by simp at h
 |_::t,off+1,k,h=>by
  simp only[cD,mB t off k (by simp at h;omega)];simp
section
variable {P:Program} {C:aD} {n:Nat} {fr:Fr} {own own' own1:List aw} {G:Gh} {Φ:Act->World->Prop}
variable {dst:Option Nat} {t t' ty':TypeId} {pos:String} {af:Array Edge} {gd:Option (Nat×Bool)} {x y:Operand} {e s by_:Nat}
def ou(P:Program)(C:aD)(own:List aw)(G:Gh)(s m:Nat)(v:Value)(ys:List Value):Prop:=
 ∀w,bt C own G w->(Builtin.firstCells s m v).run P w= .ok ⟨ys⟩ w
def BH{w:World}{b off k:Nat}{cs l:List Value}{ty:TypeId}{fz:Nat×Nat}(h:w.heap[b]? =some (.cells ⟨cs⟩ ty fz))(hl:cD cs off k=some l):(loadCells ⟨b,off,none⟩ k).run P w= .ok ⟨l⟩ w:=by
 obtain⟨h1,h2⟩:=qO _ _ _ _ hl;unfold loadCells;rw[Jc (l:=l) k 0 #[] (fun j hj=>by rw[BC h];simpa using h2 j hj) (by omega)];simp[<-h1]
def AL{b off m len cap:Nat}{cs ys:List Value}{ty:TypeId}{lo:Bool}(ho:iI own b cs ty lo)(hl:cD cs off (m*s)=some ys):ou P C own G s m (.slice (some ⟨b,off,none⟩) len cap) ys:=
 fun w h=>BH (h.hown _ ho.mem).1 hl
def Q7{b off m len cap:Nat}{cs ys:List Value}(hg:G b=some cs)(hl:cD cs off (m*s)=some ys):ou P C own G s m (.slice (some ⟨b,off,none⟩) len cap) ys:=
 fun w h=>by obtain⟨ty,fz,hb⟩:=h.sub _ _ hg;exact BH hb hl
def wz{ad:Option Addr}{len cap:Nat}:ou P C own G s 0 (.slice ad len cap) []:=fun w _=>by
 cases ad with
 |none=>rfl
 |some a=>unfold Builtin.firstCells loadCells;simp[loadCellsFrom,run_pure]
def NU(z:Value)(k:Nat):Builtin.zeroCells ⟨aG z⟩ k=⟨dw z k⟩:=by
 unfold Builtin.zeroCells;exact BS J
def Fa{w w':World}[hT:cp P t e s by_][hN:lO P t']{z:Value}[hz:iE P e z]{ad:Option Addr}{len cap m cap2:Nat}{ad2:Option Addr}{xs ys:List Value}
  (hsx:(Builtin.firstCells s len (.slice ad len cap)).run P w.drew= .ok ⟨xs⟩ w.drew)(hsy:(Builtin.firstCells s m (.slice ad2 m cap2)).run P w.drew= .ok ⟨ys⟩ w.drew)
  (hneed:cap<len+m)(hby:0<by_)(hb:(len+m)*by_<=140737488355328):
  (Builtin.append_ #[t,t'] ty' #[.slice ad len cap, .slice ad2 m cap2]).run P w=
   .ok (.slice (some ⟨w.heap.size,0,none⟩) (len+m) (grownCap w (len+m) cap e)) (w.drew.alloc (.cells ⟨xs++ys++dw z (grownCap w (len+m) cap e-(len+m))⟩ e)):=by
 obtain⟨d,hd1⟩:=hN.un;obtain⟨i,hi,his,hib⟩:=hT.info;obtain⟨i',hi',hiz⟩:=hz.info;rw[hi] at hi';cases hi';have hfit:=growslice_fits (old:=cap) (need:=len+m) (bytes:=by_) hneed hb;have hlen:len+m<=140737488355328:=cY (rW _ hby) hb;have hn: ¬(len+m<=cap):=by omega
 have h63': ¬(9223372036854775807<((len:Int)+(m:Int))):=by omega
 have h48': ¬(281474976710656<Builtin.nextslicecap (len+m) cap*i.bytes):=by rw[hib];omega
 subst his;simp[Builtin.append_,run_underlying hT.un,run_underlying hd1,sizeOf,typeInfo,zeroValue,hi,hiz,Builtin.lenOf,hn,h63',h48',Question.forced,hsx,hsy,newRow,grownCap];congr 2;apply Array.ext';rw[qG,NU];simp[gX]
def C9[hT:cp P t e s by_][hN:lO P t']{z:Value}[hz:iE P e z]{ad:Option Addr}{len cap m cap2:Nat}{ad2:Option Addr}{xs ys:List Value}
  (hx:aA fr x=some (.slice ad len cap))(hy:aA fr y=some (.slice ad2 m cap2))(hsx:ou P C own G s len (.slice ad len cap) xs)(hsy:ou P C own G s m (.slice ad2 m cap2) ys)
  (hneed:cap<len+m)(hby:0<by_)(hb:(len+m)*by_<=140737488355328)(hd:b9 n dst=true)
  (h: ∀b cap',len+m<=cap'->St C n (put fr dst (.slice (some ⟨b,0,none⟩) (len+m) cap')) (⟨b,xs++ys++dw z (cap'-(len+m)),e,true⟩::own) G Φ):
  Ch P C n fr own G ⟨dst, .call ⟨.builtin .append, #[x,y], #[t,t']⟩,ty',pos,af,gd⟩ Φ:=by
 intro a w Q rl;have hcap:len+m<=grownCap w (len+m) cap e:=by unfold grownCap;simp only[Question.cut];omega
 have hrun:=Fa (P:=P) (t:=t) (t':=t') (ty':=ty') (w:=w) (w':=w) (hsx _ rl.h.drew) (hsy _ rl.h.drew) hneed hby hb;refine kz (v:= .slice (some ⟨w.heap.size,0,none⟩) (len+m) (grownCap w (len+m) cap e)) (w':=w.drew.alloc (.cells ⟨xs++ys++dw z (grownCap w (len+m) cap e-(len+m))⟩ e)) ?_ ?_
 .simp only[execOp,resolve,gN,cV,kX,bh rl.fr hx,bh rl.fr hy]
  exact c7 hrun
 .exact h w.heap.size _ hcap _ _ ((rl.heap ((rl.h.drew).alloc _ _)).put _ hd)
def kr.perm{o:aw}(h:kr own o own1):own.Perm (o::own1):=by
 induction h with
 |hd o t=>exact List.Perm.refl _
 |tl x t t' o h ih=>exact(List.Perm.cons x ih).trans (List.Perm.swap _ _ _)
def Gt{w:World}[hT:cp P t e s by_][hN:lO P t']{b len cap m cap2:Nat}{ad2:Option Addr}{cs ys:List Value}
  (hb:w.heap[b]? =some (.cells ⟨cs⟩ e (0,0)))(hcs:cs.length=cap*s)(hsy:(Builtin.firstCells s m (.slice ad2 m cap2)).run P w= .ok ⟨ys⟩ w)(hys:ys.length=m*s)(hf: ∀v∈ys,flat v=true)
  (hneed:len+m<=cap):
  (Builtin.append_ #[t,t'] ty' #[.slice (some ⟨b,0,none⟩) len cap, .slice ad2 m cap2]).run P w=
   .ok (.slice (some ⟨b,0,none⟩) (len+m) cap) (gz w b (.cells ⟨cC cs (len*s) ys⟩ e (0,0))):=by
 obtain⟨d,hd1⟩:=hN.un;obtain⟨i,hi,his,hib⟩:=hT.info;subst his;have hl:len*i.size+ys.length<=cs.length:=by rw[hys,hcs,<-cM];exact bW _ hneed
 have hst:=ym (P:=P) ys w (len*i.size) 0 cs hf hb (by omega);rw[fX] at hst;simp[Builtin.append_,run_underlying hT.un,run_underlying hd1,sizeOf,typeInfo,hi,Builtin.lenOf,hneed,hsy,pB,hst]
def zi: ∀(vs cs:List Value) (off:Nat),(cC cs off vs).length=cs.length
 |[],cs,off=>rfl
 |v::vs,cs,off=>by simp[cC,zi vs]
def pD: ∀(vs cs:List Value) (off:Nat),off+vs.length<=cs.length->cC cs off vs=cs.take off++vs++cs.drop (off+vs.length)
 |[],cs,off,h=>by simp[cC]
 |v::vs,cs,off,h=>by
  simp only[bJ] at h;rw[cC,pD vs _ _ (by simp;omega)];rw[List.take_set,qU (by omega)];have h1:(cs.take (off+1)).set off v=cs.take off++[v]:=by
   rw[gJ (by omega),List.set_append_right _ _ (by simp;omega)];simp[gK (by omega:off<=cs.length)]
  rw[h1];simp only[bJ,gX,jK,kL];congr 4;omega
def OV[hT:cp P t e s by_][hN:lO P t']{z:Value}[hz:iE P e z]{b len cap m cap2:Nat}{ad2:Option Addr}{xs ys rest:List Value}
  (hx:aA fr x=some (.slice (some ⟨b,0,none⟩) len cap))(hy:aA fr y=some (.slice ad2 m cap2))(hr:kr own ⟨b,xs++rest,e,true⟩ own1)(hxs:xs.length=len*s)(hcap:xs.length+rest.length=cap*s)(hlc:len<=cap)
  (hsy:ou P C own G s m (.slice ad2 m cap2) ys)(hys:ys.length=m*s)(hf: ∀v∈ys,flat v=true)
  (hby:0<by_)(hb:(len+m)*by_<=140737488355328)(hzs:(aG z).length=s)(hd:b9 n dst=true)
  (h: ∀b cap' rest',len+m<=cap'->rest'.length+(len+m)*s=cap'*s->St C n (put fr dst (.slice (some ⟨b,0,none⟩) (len+m) cap')) (⟨b,xs++ys++rest',e,true⟩::own1) G Φ):
  Ch P C n fr own G ⟨dst, .call ⟨.builtin .append, #[x,y], #[t,t']⟩,ty',pos,af,gd⟩ Φ:=by
 intro a w Q rl;have hp:=rl.h.perm hr.perm;have hblk:=(hp.hown _ aZ).1;simp only[] at hblk;by_cases hneed:len+m<=cap
 .have hcs:(xs++rest).length=cap*s:=by simp;omega
  have hrun:=Gt (P:=P) (t:=t) (t':=t') (ty':=ty') (w:=w) (len:=len) hblk hcs (hsy w rl.h) hys hf hneed;have hle:len*s+m*s<=cap*s:=by rw[<-cM];exact bW _ hneed
  have hov:cC (xs++rest) (len*s) ys=xs++ys++rest.drop (m*s):=by
   rw[pD _ _ _ (by rw[hys];omega),<-hxs];simp[hys,nV]
  refine kz (v:= .slice (some ⟨b,0,none⟩) (len+m) cap) (w':=gz w b (.cells ⟨cC (xs++rest) (len*s) ys⟩ e (0,0))) ?_ ?_
  .simp only[execOp,resolve,gN,cV,kX,bh rl.fr hx,bh rl.fr hy]
   exact c7 hrun
  .rw[hov]
   refine h b cap (rest.drop (m*s)) hneed ?_ _ _ ((rl.heap (hp.store (.hd ..))).put _ hd);rw[iQ,cM];omega
 .have hx':ou P C own G s len (.slice (some ⟨b,0,none⟩) len cap) xs:=fun w' hw'=>by
   have hb':=(((hw'.perm hr.perm).hown _ aZ).1);refine BH hb' ?_;rw[mB _ _ _ (by simp;omega),<-hxs];simp
  have hcap':len+m<=grownCap w (len+m) cap e:=by unfold grownCap;simp only[Question.cut];omega
  have hrun:=Fa (P:=P) (t:=t) (t':=t') (ty':=ty') (w:=w) (w':=w) (hx' _ rl.h.drew) (hsy _ rl.h.drew) (by omega) hby hb;refine kz (v:= .slice (some ⟨w.heap.size,0,none⟩) (len+m) (grownCap w (len+m) cap e)) (w':=w.drew.alloc (.cells ⟨xs++ys++dw z (grownCap w (len+m) cap e-(len+m))⟩ e)) ?_ ?_
  .simp only[execOp,resolve,gN,cV,kX,bh rl.fr hx,bh rl.fr hy]
   exact c7 hrun
  .refine h w.heap.size _ _ hcap' ?_ _ _ ((rl.heap (((hp.drew).drop (List.sublist_cons_self _ _)).alloc _ _)).put _ hd)
   rw[pw,hzs,<-cM];congr 1;omega
end
section
variable {P:Program} {ops:Array Oper} {Q:Exit->Act->World->Prop} {S:World->Prop} {fin:Nat->Bool}
def qt(ops:Array Oper)(fin:Nat->Bool):List (Nat×Bool)->Array Bool->Bool
 |[],listed=>(Region.ready .any ops listed).isEmpty
 |(i,true)::r,listed=>yF ops fin listed i&&qt ops fin r (listed.setIfInBounds i true)
 |(i,false)::r,listed=>(Region.ready .any ops listed==[i])&&qt ops fin r (listed.setIfInBounds i true)
def gp(P:Program)(ops:Array Oper)(Q:Exit->Act->World->Prop)(S:World->Prop)(fin:Nat->Bool):List (Nat×Bool)->Act->World->Prop
 |[],a,w=>Q .normal a w
 |(i,true)::r,a,w=> ∃o v,ops[i]? =some o/\S w/\YieldsIf P ops S o v a/\gp P ops Q S fin r (a.put o.dst v) w
 |(i,false)::r,a,w=>wpOp P ops Q i (fun a' w'=>(fin i=true\/S w')/\gp P ops Q S fin r a' w') a w
def AN(hQ: ∀c a d v w,Q (.panic c) (Act.put a d v) w->Q (.panic c) a w): ∀(π:List (Nat×Bool)) (listed:Array Bool) (a:Act) (w:World),qt ops fin π listed=true->gp P ops Q S fin π a w-> ∀fuel,π.length<=fuel->uW P ops Q S fin fuel listed a w
 |[],listed,a,w,ho,h,fuel,hf=>by
  have hr:Region.ready .any ops listed=[]:=by simpa[qt] using ho
  cases fuel with
  |zero=>exact⟨hr,h⟩
  |succ k=>exact⟨fun _=>h,by rw[hr];simp⟩
 |(i,true)::r,listed,a,w,ho,h,0,hf=>by simp at hf
 |(i,false)::r,listed,a,w,ho,h,0,hf=>by simp at hf
 |(i,true)::r,listed,a,w,ho,h,fuel+1,hf=>by
  obtain⟨o,v,hoi,hS,hy,hk⟩:=h;simp only[qt,yF,bT] at ho;obtain⟨⟨⟨⟨h1,h2⟩,h3⟩,h4⟩,h5⟩:=ho;obtain⟨h6,h7⟩:=TU h4;exact aoX hoi (Region.noSelect_spec h1) (fun c a w=>hQ c a _ _ w) h6 h7 fuel listed a w (Region.free_spec hoi h2) (by simpa using h3) hy hS
   (AN hQ r _ _ _ h5 hk fuel (by simpa using hf))
 |(i,false)::r,listed,a,w,ho,h,fuel+1,hf=>by
  simp only[qt,bT,beq_iff_eq] at ho;exact ZJ ho.1 (wpOp_mono (fun a' w' h'=>⟨h'.1,AN hQ r _ _ _ ho.2 h'.2 fuel (by simpa using hf)⟩) h)
end
section
variable {P:Program} {C:aD} {n:Nat} {fr:Fr} {own own0:List aw} {G G0:Gh} {ops:Array Oper} {Q:Exit->Act->World->Prop} {fin:Nat->Bool} {π:List (Nat×Bool)}
def dr(fin:Nat->Bool)(π:List (Nat×Bool)){id:Nat}(hm:P.follows .mixedOrders=true)(ho:(qt ops fin π (Array.replicate ops.size false)&&Nat.ble π.length ops.size)=true)
  (h:St C n fr own G (gp P ops (f5 Q) (HS C own G) fin π)):St C n fr own G ((Code.region id ops true).wp P Q):=by
 simp only[bT] at ho;refine U4 fin hm fun a w rl=>AN (fun _ _ _ _ _ h=>h) π _ a w ho.1 (h a w rl) _ (by simpa using ho.2)
def dy{i:Nat}{o:Oper}{v:Value}(ho:ops[i]? =some o)(hy: ∀G':Gh,[GE G0 G']->Yd P C fr own0 G' o v)(hg:o.guard=none)(hd:b9 n o.dst=true)[hs:kd own0 own][hl:GL G0 G]
  (h:St C n (put fr o.dst v) own G (gp P ops (f5 Q) (HS C own0 G0) fin π)):St C n fr own G (gp P ops (f5 Q) (HS C own0 G0) fin ((i,true)::π)):=
 fun a w rl=>⟨o,v,ho,⟨G,hl.le,rl.h.drop hs.s⟩, .inl ⟨by simp[Region.wanted,hg],fun w' ⟨G',hle,hr⟩=> @hy G' ⟨hle⟩ a w' rl.fr hr⟩,h _ _ (rl.put v hd)⟩
def dM{i:Nat}{dst:Option Nat}{ty':TypeId}{pos:String}{af:Array Edge}{x:Operand}{v:Value}(ho:ops[i]? =some ⟨dst, .move x,ty',pos,af,none⟩)(hx:aA fr x=some v)(hd:b9 n dst=true)[hs:kd own0 own][hl:GL G0 G]
  (h:St C n (put fr dst v) own G (gp P ops (f5 Q) (HS C own0 G0) fin π)):St C n fr own G (gp P ops (f5 Q) (HS C own0 G0) fin ((i,true)::π)):=dy ho (fun _ _=>f7 hx) J hd h
def dA{i:Nat}{dst:Option Nat}{ty':TypeId}{pos:String}{af:Array Edge}{x:Operand}{v:Value}(ho:ops[i]? =some ⟨dst, .assign x,ty',pos,af,none⟩)(hx:aA fr x=some v)(hd:b9 n dst=true)[hs:kd own0 own][hl:GL G0 G]
  (h:St C n (put fr dst v) own G (gp P ops (f5 Q) (HS C own0 G0) fin π)):St C n fr own G (gp P ops (f5 Q) (HS C own0 G0) fin ((i,true)::π)):=dy ho (fun _ _=>Gk hx) J hd h
def dF{i b o f off:Nat}{dst:Option Nat}{ty':TypeId}{pos:String}{af:Array Edge}{x:Operand}{t:TypeId}[hF:oG P t f off](ho:ops[i]? =some ⟨dst, .fieldAddr t x f,ty',pos,af,none⟩)(hx:aA fr x=some (.pointer (some ⟨b,o,none⟩)))(hd:b9 n dst=true)[hs:kd own0 own][hl:GL G0 G]
  (h:St C n (put fr dst (.pointer (some ⟨b,o+off,none⟩))) own G (gp P ops (f5 Q) (HS C own0 G0) fin π)):St C n fr own G (gp P ops (f5 Q) (HS C own0 G0) fin ((i,true)::π)):=dy ho (fun _ _=>ow hx) J hd h
def dL{i b off k:Nat}{dst:Option Nat}{ty':TypeId}{pos:String}{af:Array Edge}{x:Operand}{t ty:TypeId}{cs l:List Value}{lo:Bool}(ho:ops[i]? =some ⟨dst, .load t x,ty',pos,af,none⟩)(hx:aA fr x=some (.pointer (some ⟨b,off,none⟩)))[hw:iI own0 b cs ty lo][mC P t k](hv:cD cs off k=some l)(hd:b9 n dst=true)[hs:kd own0 own][hl:GL G0 G]
  (h:St C n (put fr dst (.agg ⟨l⟩)) own G (gp P ops (f5 Q) (HS C own0 G0) fin π)):St C n fr own G (gp P ops (f5 Q) (HS C own0 G0) fin ((i,true)::π)):=dy ho (fun _ _=>DS hx hv) J hd h
def A6{i b off:Nat}{dst:Option Nat}{ty':TypeId}{pos:String}{af:Array Edge}{x:Operand}{t ty:TypeId}{cs:List Value}{v:Value}{lo:Bool}(ho:ops[i]? =some ⟨dst, .load t x,ty',pos,af,none⟩)(hx:aA fr x=some (.pointer (some ⟨b,off,none⟩)))[hw:iI own0 b cs ty lo][jh P t](hv:cs[off]? =some v)(hd:b9 n dst=true)[hs:kd own0 own][hl:GL G0 G]
  (h:St C n (put fr dst v) own G (gp P ops (f5 Q) (HS C own0 G0) fin π)):St C n fr own G (gp P ops (f5 Q) (HS C own0 G0) fin ((i,true)::π)):=dy ho (fun _ _=>ma hx hv) J hd h
def uT{i:Nat}{o:Oper}{v:Value}(ho:ops[i]? =some o){j d:Nat}{b:Bool}(hg:o.guard=some (j,b))(hj:(ops[j]?).bind (·.dst)=some d)(hlk:iB fr d=some (.bool b))(hy: ∀G':Gh,[GE G0 G']->Yd P C fr own0 G' o v)(hd:b9 n o.dst=true)[hs:kd own0 own][hl:GL G0 G]
  (h:St C n (put fr o.dst v) own G (gp P ops (f5 Q) (HS C own0 G0) fin π)):St C n fr own G (gp P ops (f5 Q) (HS C own0 G0) fin ((i,true)::π)):=
 fun a w rl=>⟨o,v,ho,⟨G,hl.le,rl.h.drop hs.s⟩, .inl ⟨by simp[Region.wanted,hg,EL rl.fr hj hlk],fun w' ⟨G',hle,hr⟩=> @hy G' ⟨hle⟩ a w' rl.fr hr⟩,h _ _ (rl.put v hd)⟩
def uY{i:Nat}{o:Oper}(ho:ops[i]? =some o){j d:Nat}{b c:Bool}(hg:o.guard=some (j,b))(hj:(ops[j]?).bind (·.dst)=some d)(hlk:iB fr d=some (.bool c))(hbc:(c==b)=false)(hd:b9 n o.dst=true)[hs:kd own0 own][hl:GL G0 G]
  (h:St C n (put fr o.dst undef) own G (gp P ops (f5 Q) (HS C own0 G0) fin π)):St C n fr own G (gp P ops (f5 Q) (HS C own0 G0) fin ((i,true)::π)):=
 fun a w rl=>⟨o,undef,ho,⟨G,hl.le,rl.h.drop hs.s⟩, .inr ⟨by simp[Region.wanted,hg,EL rl.fr hj hlk,hbc],J⟩,h _ _ (rl.put undef hd)⟩
def dc{i:Nat}{o:Oper}(ho:ops[i]? =some o)(hg:o.guard=none)(hc:Ch P C n fr own G o (fun a w=>(fin i=true\/HS C own0 G0 w)/\gp P ops (f5 Q) (HS C own0 G0) fin π a w)):St C n fr own G (gp P ops (f5 Q) (HS C own0 G0) fin ((i,false)::π)):=by
 intro a w rl;show wpOp P ops (f5 Q) i _ a w;unfold wpOp;simp only[ho,Region.wanted,hg,if_true];exact .inl (hc a w _ rl)
def dn(h:St C n fr own G (Q .normal)):St C n fr own G (gp P ops (f5 Q) (HS C own0 G0) fin []):=h
variable {dst:Option Nat} {t t' ty':TypeId} {pos:String} {af:Array Edge} {x y:Operand} {r:List Oper}
def sm{v:Value}(hx:aA fr x=some v)(hd:b9 n dst=true)(h:St C n (put fr dst v) own G (dB P ops Q r)):St C n fr own G (dB P ops Q (⟨dst, .move x,ty',pos,af,none⟩::r)):=tG (f7 hx) J hd h
def sa{v:Value}(hx:aA fr x=some v)(hd:b9 n dst=true)(h:St C n (put fr dst v) own G (dB P ops Q r)):St C n fr own G (dB P ops Q (⟨dst, .assign x,ty',pos,af,none⟩::r)):=tG (Gk hx) J hd h
def sn{ad:Addr}(hx:aA fr x=some (.pointer (some ad)))(hd:b9 n dst=true)(h:St C n (put fr dst (.pointer (some ad))) own G (dB P ops Q r)):St C n fr own G (dB P ops Q (⟨dst, .nilCheck x,ty',pos,af,none⟩::r)):=tG (n5 hx) J hd h
def sf{b o f off:Nat}[hF:oG P t f off](hx:aA fr x=some (.pointer (some ⟨b,o,none⟩)))(hd:b9 n dst=true)(h:St C n (put fr dst (.pointer (some ⟨b,o+off,none⟩))) own G (dB P ops Q r)):St C n fr own G (dB P ops Q (⟨dst, .fieldAddr t x f,ty',pos,af,none⟩::r)):=tG (ow hx) J hd h
def S0{b off k:Nat}{cs l:List Value}{lo:Bool}{ty:TypeId}(hx:aA fr x=some (.pointer (some ⟨b,off,none⟩)))[ho:iI own b cs ty lo][mC P t k](hl:cD cs off k=some l)(hd:b9 n dst=true)
  (h:St C n (put fr dst (.agg ⟨l⟩)) own G (dB P ops Q r)):St C n fr own G (dB P ops Q (⟨dst, .load t x,ty',pos,af,none⟩::r)):=tG (DS hx hl) J hd h
def tr{b off:Nat}{cs:List Value}{v:Value}{lo:Bool}{ty:TypeId}(hx:aA fr x=some (.pointer (some ⟨b,off,none⟩)))[ho:iI own b cs ty lo][jh P t](hl:cs[off]? =some v)(hd:b9 n dst=true)
  (h:St C n (put fr dst v) own G (dB P ops Q r)):St C n fr own G (dB P ops Q (⟨dst, .load t x,ty',pos,af,none⟩::r)):=tG (ma hx hl) J hd h
def c6{e s by_:Nat}{ad:Option Addr}{len cap:Nat}[hT:cp P t e s by_](hx:aA fr x=some (.slice ad len cap))(hd:b9 n dst=true)
  (h:St C n (put fr dst (.int .i64 len)) own G (dB P ops Q r)):St C n fr own G (dB P ops Q (⟨dst, .call ⟨.builtin .len, #[x], #[t]⟩,ty',pos,af,none⟩::r)):=tG (o4 hx) J hd h
def sx{vs:Array Value}{i:Nat}{v:Value}(hx:aA fr x=some (.tuple vs))(hv:vs[i]? =some v)(hd:b9 n dst=true)(h:St C n (put fr dst v) own G (dB P ops Q r)):St C n fr own G (dB P ops Q (⟨dst, .extract x i,ty',pos,af,none⟩::r)):=tG (F9 hx hv) J hd h
def e7{C:aD}{n:Nat}{fr:Fr}{own:List aw}{G:Gh}{K:Act->World->Prop}{Q:Exit->Act->World->Prop}{id:Nat}(h:St C n fr own G (Q (.exit id))):St C n fr own G (Exit.then K Q (.exit id)):=h
def bC{op:Op}{v:Value}{j d:Nat}{b:Bool}(hj:(ops[j]?).bind (·.dst)=some d)(hl:iB fr d=some (.bool b))(hy:Yd P C fr own G ⟨dst,op,ty',pos,af,some (j,b)⟩ v)(hd:b9 n dst=true)(h:St C n (put fr dst v) own G (dB P ops Q r)):St C n fr own G (dB P ops Q (⟨dst,op,ty',pos,af,some (j,b)⟩::r)):=Us J hj hl hy hd h
def ss{op:Op}{j d:Nat}{b c:Bool}(hj:(ops[j]?).bind (·.dst)=some d)(hl:iB fr d=some (.bool c))(hbc:(c==b)=false)(hd:b9 n dst=true)(h:St C n (put fr dst undef) own G (dB P ops Q r)):St C n fr own G (dB P ops Q (⟨dst,op,ty',pos,af,some (j,b)⟩::r)):=aCf J hj hl hbc hd h
def sy{op:Op}{v:Value}(hy:Yd P C fr own G ⟨dst,op,ty',pos,af,none⟩ v)(hd:b9 n dst=true)(h:St C n (put fr dst v) own G (dB P ops Q r)):St C n fr own G (dB P ops Q (⟨dst,op,ty',pos,af,none⟩::r)):=tG hy J hd h
def sc{op:Op}(hc:Ch P C n fr own G ⟨dst,op,ty',pos,af,none⟩ (dB P ops Q r)):St C n fr own G (dB P ops Q (⟨dst,op,ty',pos,af,none⟩::r)):=V6 J hc
end
def Fn.of_calls{P:Program}{f:FuncId}{vs:List Value}{G:Gh}{v:Value}(ha:ri P f)(h: ∀w,Calls P f ⟨vs⟩ w fun e w'=>e= .returned v/\w'=w):Fn P f vs G (fun u _=>u=v):=
 ⟨ha,fun w hw=>(h w).mono fun e w' ⟨he,hww⟩=>⟨v,G,he,by
  subst hww;exact⟨J,J,J,aM _,fun _ _ _=>J,hw,bp.refl _,fun _ _=>J,fun o ho=>(by cases ho), .nil,aM _,fun p hp=>by cases hp⟩,J⟩⟩
end Go.Sx
end
section
namespace Go.Sx
def dv:List Nat->Nat
 |[]=>0
 |d::t=>d+4294967296*dv t
def bi(ds:List Nat):Prop:= ∀d∈ds,d<4294967296
def eo(ds:List Nat):Prop:=ds.getLast? ≠some 0
instance (ds:List Nat):Decidable (eo ds):=inferInstanceAs (Decidable (ds.getLast? ≠some 0))
def bi.nil:bi []:=fun _ h=>by cases h
def bi.cons{d:Nat}{ds:List Nat}(h:d<4294967296)(k:bi ds):bi (d::ds):=fun x hx=>by
 rcases aT.1 hx with rfl|h'
 .exact h
 .exact k _ h'
def bi.head{d:Nat}{ds:List Nat}(h:bi (d::ds)):d<4294967296:=h d aZ
def bi.tail{d:Nat}{ds:List Nat}(h:bi (d::ds)):bi ds:=fun x hx=>h x (aK _ hx)
def bi.append{a b:List Nat}(h:bi a)(k:bi b):bi (a++b):=fun x hx=>by
 rcases bK.1 hx with h'|h'
 .exact h _ h'
 .exact k _ h'
def bi.take{a:List Nat}(h:bi a)(n:Nat):bi (a.take n):=fun x hx=>h x (dJ hx)
def bi.drop{a:List Nat}(h:bi a)(n:Nat):bi (a.drop n):=fun x hx=>h x (gL hx)
def bi.get{a:List Nat}(h:bi a)(i:Nat):a.getD i 0<4294967296:=by
 rw[aX]
 cases hi:a[i]? with
 |none=>simp
 |some d=>exact h d (aV hi)
def bi.set{a:List Nat}(h:bi a)(i:Nat){d:Nat}(hd:d<4294967296):bi (a.set i d):=fun x hx=>by
 rcases List.mem_or_eq_of_mem_set hx with h'|rfl
 .exact h _ h'
 .exact hd
def bi.replicate(n:Nat):bi (List.replicate n 0):=fun x hx=>by
 rw[mV hx];omega
def xS(a b:List Nat):dv (a++b)=dv a+4294967296^a.length*dv b:=by
 induction a with
 |nil=>simp[dv]
 |cons d t ih=>
  simp only[jK,dv,ih,bJ,fL];rw[dT,<-kW,<-cX,bN 4294967296 (4294967296^t.length)]
def jx{ds:List Nat}(h:bi ds):dv ds<4294967296^ds.length:=by
 induction ds with
 |nil=>simp[dv]
 |cons d t ih=>
  have h1:=h.head;have h2:=ih h.tail;simp only[dv,bJ,fL];omega
def yx(n:Nat):dv (List.replicate n 0)=0:=by
 induction n with
 |zero=>rfl
 |succ n ih=>simp[jQ,dv,ih]
def jq(ds:List Nat)(i:Nat):dv (ds.take (i+1))=dv (ds.take i)+4294967296^i*ds.getD i 0:=by
 by_cases h:i<ds.length
 .rw[gJ h,xS]
  simp[dv,gK (mW h),aX,h]
 .have:ds.getD i 0=0:=by rw[aX,dX (by omega)];rfl
  rw[this,aS (by omega),aS (by omega)];simp
def Cs(ds:List Nat)(i:Nat)(h:i<=ds.length:=by omega):dv ds=dv (ds.take i)+4294967296^i*dv (ds.drop i):=by
 have:=xS (ds.take i) (ds.drop i);rw[kZ] at this;rw[this];simp[gK h]
def trimD:List Nat->List Nat
 |[]=>[]
 |d::t=>match trimD t with
  |[]=>if d=0 then [] else [d]
  |t'=>d::t'
def xe(d:Nat)(t:List Nat):trimD (d::t)=if trimD t=[]/\d=0 then [] else d::trimD t:=by
 simp only[trimD]
 cases h:trimD t with
 |nil=>by_cases hd:d=0<;>simp[hd]
 |cons a b=>simp
def kh(ds:List Nat):dv (trimD ds)=dv ds:=by
 induction ds with
 |nil=>rfl
 |cons d t ih=>
  rw[xe];split
  .rename_i h
   rw[h.1] at ih;simp[dv,<-ih,h.2]
  .simp[dv,ih]
def QO(ds:List Nat):trimD (ds++[0])=trimD ds:=by
 induction ds with
 |nil=>rfl
 |cons d t ih=>rw[jK,xe,xe,ih]
def JO{ds:List Nat}{d:Nat}(h:d≠0):trimD (ds++[d])=ds++[d]:=by
 induction ds with
 |nil=>simp[trimD,h]
 |cons e t ih=>rw[jK,xe,ih];simp
def eo.trimD(ds:List Nat):eo (trimD ds):=by
 induction ds with
 |nil=>simp[eo,Sx.trimD]
 |cons d t ih=>
  rw[xe];split
  .simp[eo]
  .rename_i h
   unfold eo at*;rw[List.getLast?_cons]
   cases ht:(Sx.trimD t).getLast? with
   |none=>
    have:Sx.trimD t=[]:=by simpa using ht
    simp only[Option.getD_none,ne_eq,Option.some.injEq];exact fun hd=>h ⟨this,hd⟩
   |some x=>rw[ht] at ih;simpa using ih
def oh(ds:List Nat):(trimD ds).length<=ds.length:=by
 induction ds with
 |nil=>simp[trimD]
 |cons d t ih=>
  rw[xe];split
  .simp
  .simp;omega
def Ox(ds:List Nat):trimD ds=ds.take (trimD ds).length:=by
 induction ds with
 |nil=>rfl
 |cons d t ih=>
  rw[xe];split
  .rfl
  .simp only[bJ,mN];rw[<-ih]
def bi.trimD{ds:List Nat}(h:bi ds):bi (trimD ds):=by rw[Ox];exact h.take _
def Rw{ds:List Nat}(h:eo ds):trimD ds=ds:=by
 rcases sQ ds with rfl|⟨l,d,rfl⟩
 .rfl
 .rw[sZ] at*
  exact JO (fun e=>by subst e;simp[eo] at h)
def rI{ds:List Nat}(h:eo ds)(hne:ds≠[]):4294967296^(ds.length-1)<=dv ds:=by
 rcases sQ ds with rfl|⟨l,d,rfl⟩
 .exact absurd J hne
 .rw[sZ] at*
  have hd:d≠0:=fun e=>by subst e;simp[eo] at h
  rw[xS];simp only[aW,bJ,fV,dv];have:4294967296^(l.length+(0+1)-1)=4294967296^l.length:=by congr 1
  rw[this];have h1:4294967296^l.length*1<=4294967296^l.length*(d+4294967296*0):=fJ _ (by omega);omega
def Vb{ds:List Nat}(h:eo ds):dv ds=0↔ds=[]:=by
 constructor
 .intro h0
  by_cases hne:ds=[]
  .exact hne
  .have:=rI h hne
   have hp:0<4294967296^(ds.length-1):=fU (by omega);omega
 .rintro rfl;rfl
def ud{a b:List Nat}(ha:bi a)(hb:eo b)(h:a.length<b.length:=by omega):dv a<dv b:=by
 have h1:=jx ha;have h2:=rI hb (fun e=>by subst e;simp at h);have h3:4294967296^a.length<=4294967296^(b.length-1):=bU (by omega) (by omega);omega
def Nt: ∀{a b:List Nat},bi a->bi b->a.length=b.length->dv a=dv b->a=b
 |[],[],_,_,_,_=>rfl
 |d::t,e::u,ha,hb,hl,h=>by
  have h1:=ha.head;have h2:=hb.head;simp only[dv] at h;have:d=e:=by omega
  subst this;rw[Nt ha.tail hb.tail (by simpa using hl) (by omega)]
def aC6{a b:List Nat}(ha:bi a)(hb:bi b)(na:eo a)(nb:eo b)(h:dv a=dv b):a=b:=by
 refine Nt ha hb ?_ h;rcases pR a.length b.length with h'|h'|h'
 .have:=ud ha nb h';omega
 .exact h'
 .have:=ud hb na h';omega
def CH{a b:List Nat}(ha:bi a)(hb:bi b)(i:Nat)(hia:i<a.length)(hib:i<b.length)(hl:a.length=b.length)(hs:a.drop (i+1)=b.drop (i+1))(h:a.getD i 0<b.getD i 0:=by omega):dv a<dv b:=by
 rw[Cs a (i+1),Cs b (i+1),hs,jq,jq];have h1:=jx (ha.take i);rw[cJ,gK (by omega)] at h1;have h2:4294967296^i*(a.getD i 0+1)<=4294967296^i*b.getD i 0:=fJ _ h;rw[dT] at h2;omega
def Ko{ds:List Nat}{k:Nat}(h:eo ds)(hk:dv ds<2^k):32*ds.length<=k+31:=by
 by_cases hne:ds=[]
 .subst hne;simp
 .have h1:=rI h hne
  have h2:(4294967296:Nat)^(ds.length-1)=2^(32*(ds.length-1)):=by
   rw[pL]
  rw[h2] at h1;have h3:2^(32*(ds.length-1))<2^k:=fR h1 hk;have h4:=(oU (by omega:1<2)).1 h3;have:0<ds.length:=by cases ds with|nil=>exact absurd J hne|cons _ _=>simp
  omega
def dg(x:Nat):List Nat:=if h:x=0 then [] else(x%4294967296)::dg (x/4294967296)
termination_by x
decreasing_by omega
def ew(x:Nat):dv (dg x)=x/\bi (dg x)/\eo (dg x):=by
 induction x using Nat.strongRecOn with
 |_ x ih=>
  unfold dg;split
  .rename_i h;subst h;exact⟨rfl, .nil,by simp[eo]⟩
  .rename_i h
   obtain⟨h1,h2,h3⟩:=ih (x/4294967296) (by omega);refine⟨by rw[dv,h1];omega, .cons (by omega) h2,?_⟩;unfold eo at*;rw[List.getLast?_cons]
   cases hl:(dg (x/4294967296)).getLast? with
   |none=>
    have:dg (x/4294967296)=[]:=by simpa using hl
    rw[this] at h1;simp only[Option.getD_none,ne_eq,Option.some.injEq];simp only[dv] at h1;omega
   |some y=>rw[hl] at h3;simpa using h3
def x9{ds:List Nat}(h:bi ds)(n:eo ds):dg (dv ds)=ds:=aC6 (ew _).2.1 h (ew _).2.2 n (ew _).1
def qc{ds:List Nat}(h:bi ds):dg (dv ds)=trimD ds:=by rw[<-kh];exact x9 h.trimD (eo.trimD _)
def qi: ∀(ws:List Nat) (j d:Nat),j<ws.length->dv (ws.set j d)+4294967296^j*ws.getD j 0=dv ws+4294967296^j*d
 |[],j,d,h=>by simp at h
 |w::t,0,d,h=>by simp[dv];omega
 |w::t,j+1,d,h=>by
  have ih:=qi t j d (by simpa using h);simp only[List.set_cons_succ,dv,lS,fL];have h1:4294967296^j*4294967296*t.getD j 0=4294967296*(4294967296^j*t.getD j 0):=by rw[bN (4294967296^j),cX]
  have h2:4294967296^j*4294967296*d=4294967296*(4294967296^j*d):=by rw[bN (4294967296^j),cX]
  rw[h1,h2];omega
def qx{ws:List Nat}{k d:Nat}(h:k<ws.length:=by omega):dv ((ws.set k d).take (k+1))=dv (ws.take k)+4294967296^k*d:=by
 rw[gJ (by simpa using h),List.take_set_of_le (aM _),xS];simp[dv,gK (mW h)]
def JC(p x:Nat):p*x=p*(x%4294967296)+p*4294967296*(x/4294967296):=by
 have h:p*x=p*(4294967296*(x/4294967296)+x%4294967296):=by rw[qN]
 rw[dT,<-cX] at h;omega
def KU{p A E W c a b:Nat}(h:W+p*c=A+E):(W+p*((c+a+b)%4294967296))+(p*4294967296)*((c+a+b)/4294967296)=(A+p*a)+(E+p*b):=by
 have h1:=JC p (c+a+b);rw[dT,dT] at h1;omega
def QA{p A E W bo b a:Nat}(h:W+E=A+p*bo)(hle:bo+b<=a:=by omega):(W+p*(a-(bo+b)))+(E+p*b)=(A+p*a)+p*4294967296*0:=by
 have h1:p*a=p*(a-(bo+b))+p*bo+p*b:=by
  rw[<-dT,<-dT];congr 1;omega
 omega
def Rf{p A E W bo b a:Nat}(h:W+E=A+p*bo)(hle:a<bo+b:=by omega)(hb:bo+b<=a+4294967296:=by omega):(W+p*(a+4294967296-(bo+b)))+(E+p*b)=(A+p*a)+p*4294967296*1:=by
 have h1:p*a+p*4294967296=p*(a+4294967296-(bo+b))+p*bo+p*b:=by
  rw[<-dT,<-dT,<-dT];congr 1;omega
 omega
def Mb{p W W' T c m w:Nat}(hs:W'+p*w=W+p*((c+m+w)%4294967296))(h:W+p*c=T):W'+(p*4294967296)*((c+m+w)/4294967296)=T+p*m:=by
 have h1:=JC p (c+m+w);rw[dT,dT] at h1;omega
end Go.Sx
end
section
namespace Go.Sx
open Go
section
variable {P:Program} {C:aD} {n:Nat} {fr:Fr} {own:List aw} {G:Gh}
def Vz{c:Code}{Q:Exit->Act->World->Prop}(h:St C n fr own G (c.wp P (Exit.noGoto Q))):St C n fr own G ((Code.scope c).wp P Q):=
 fun a w rl=>wp_scope_straight (h a w rl)
def U2{l:Nat}{Q:Exit->Act->World->Prop}(h:St C n fr own G (Q .normal)):St C n fr own G ((Code.label l).wp P Q):=
 fun a w rl=>wp_label (h a w rl)
def Le:Exit->Bool
 | .goto _=>false
 |_=>true
end
section
variable {P:Program} {ops:Array Oper} {Q:Exit->Act->World->Prop} {S:World->Prop} {fin:Nat->Bool} {k:Nat} {π₂:List (Nat×Bool)}
def Ps(ops:Array Oper)(fin:Nat->Bool)(k:Nat)(π₂:List (Nat×Bool)):List (Nat×Bool)->Array Bool->Bool
 |[],listed=>(Region.ready .any ops listed==[k])&&qt ops fin π₂ (listed.setIfInBounds k true)
 |(i,true)::r,listed=>!(Nat.beq i k)&&yF ops fin listed i&&yF ops fin (listed.setIfInBounds k true) i&&Ps ops fin k π₂ r (listed.setIfInBounds i true)
 |(i,false)::r,listed=>!(Nat.beq i k)&&(Region.ready .any ops listed).all (fun j=>Nat.beq j i||Nat.beq j k)&&(Region.ready .any ops listed).contains i&&(Region.ready .any ops (listed.setIfInBounds k true)==[i])&&Ps ops fin k π₂ r (listed.setIfInBounds i true)
def Jt(P:Program)(ops:Array Oper)(Q:Exit->Act->World->Prop)(S:World->Prop)(fin:Nat->Bool)(k:Nat)(π₂:List (Nat×Bool)):List (Nat×Bool)->Act->World->Prop
 |[],a,w=>wpOp P ops Q k (fun a' w'=>(fin k=true\/S w')/\gp P ops Q S fin π₂ a' w') a w
 |(i,true)::r,a,w=> ∃o v,ops[i]? =some o/\S w/\YieldsIf P ops S o v a/\Jt P ops Q S fin k π₂ r (a.put o.dst v) w
 |(i,false)::r,a,w=>wpOp P ops Q i (fun a' w'=>(fin i=true\/S w')/\Jt P ops Q S fin k π₂ r a' w') a w/\
   wpOp P ops Q k (fun a' w'=>(fin k=true\/S w')/\gp P ops Q S fin ((i,false)::r++π₂) a' w') a w
end
section
variable {P:Program} {C:aD} {n:Nat} {fr:Fr} {own own0:List aw} {G G0:Gh} {ops:Array Oper} {Q:Exit->Act->World->Prop} {fin:Nat->Bool} {k:Nat} {π π₂:List (Nat×Bool)}
def fF(d:Nat):Option Nat->Fr
 |none=>[]
 |some b=>[(d, .pointer (some ⟨b,0,none⟩))]
def fO(t:TypeId)(z:Value):Option Nat->List aw
 |none=>[]
 |some b=>[⟨b,aG z,t,true⟩]
def dwE(P:Program)(ops:Array Oper)(Q:Exit->Act->World->Prop)(S:World->Prop)(fin:Nat->Bool)(k:Nat)(π₂:List (Nat×Bool))(fl:Option Nat)(π:List (Nat×Bool)):Act->World->Prop:=
 match fl with
 |none=>Jt P ops Q S fin k π₂ π
 |some _=>gp P ops Q S fin (π++π₂)
end
def relo(fl:Nat->Bool)(o:aw):aw:={o with lo:=fl o.b}
structure nv (P:Program) (f:FuncId) (vs:List Value) (M:List aw) (G:Gh) (K:Value->List aw->Gh->Prop):Prop where
 able:ri P f
 run: ∀w,bt ⟨w,G,M.map (·.b),[],[],none,fun _=>none⟩ (asB M) G w->
  Calls P f ⟨vs⟩ w fun e w'=> ∃v own' G',e= .returned v/\bt ⟨w,G,M.map (·.b),[],[],none,fun _=>none⟩ own' G' w'/\K v own' G'
def iA(M:List aw)(b:Nat):Bool:=M.all fun m=>!Nat.beq m.b b||m.lo
def bt.calledO{C:aD}{M rest own':List aw}{G G':Gh}{w w':World}(h:bt C (M++rest) G w)(k:bt ⟨w,G,M.map (·.b),[],[],none,fun _=>none⟩ own' G' w'):
  bt C (own'.map (relo (iA M))++rest) G' w':=by
 have hsz:w.heap.size<=w'.heap.size:=k.size;have hnd:=h.nd;have inM: ∀b,b∈M.map (·.b)-> ∀o∈rest,o.b≠b:=fun b hb o ho e=>by
  obtain⟨m,hm,rfl⟩:=bQ.1 hb;exact(gS.1 hnd).2.2 m hm o ho e.symm
 have bnd: ∀o∈own',o.b∉M.map (·.b)->w.heap.size<=o.b:=fun o ho hb=>by
  obtain⟨_,_,h3,h4⟩:=k.hown o ho
  cases hlo:o.lo with
  |true=>exact h3 hlo
  |false=>exact absurd (h4 hlo) hb
 refine⟨k.os.trans h.os,k.tape.trans h.tape,k.output.trans h.output,cY h.size hsz,?_,k.sub,h.gle.trans k.gle,?_,?_,?_,cY h.dr k.dr,fun p hp=>⟨(h.ext p hp).1,by rw[k.keep _ (il (h.ext p hp).2) (h.extM hp)];exact(h.ext p hp).2⟩⟩
 .intro b hb hm
  have hs:=h.size;have hnM:b∉M.map (·.b):=fun hb'=>by
   obtain⟨m,hmM,rfl⟩:=bQ.1 hb';obtain⟨_,_,h3,h4⟩:=h.hown m (bM _ hmM)
   cases hlo:m.lo with
   |true=>have:=h3 hlo;omega
   |false=>exact hm (h4 hlo)
  rw[k.keep b (by show b<w.heap.size;omega) hnM];exact h.keep b hb hm
 .intro b hb;have:=h.size;rw[k.gold b (by show b<w.heap.size;omega)];exact h.gold b hb
 .intro o ho
  have hs:=h.size;rcases bK.1 ho with ho|ho
  .obtain⟨o',ho',rfl⟩:=bQ.1 ho
   obtain⟨k1,k2,k3,k4⟩:=k.hown _ ho';refine⟨k1,k2,fun hl=>?_,fun hl=>?_⟩
   .show C.w0.heap.size<=o'.b
    by_cases hb:o'.b∈M.map (·.b)
    .obtain⟨m,hm,hmb⟩:=bQ.1 hb
     have hl':iA M o'.b=true:=hl;have:=dK.1 hl' m hm;simp only[hmb,iV,gT,oX] at this;obtain⟨_,_,h3,_⟩:=h.hown m (bM _ hm);rw[<-hmb];exact h3 (by rcases this with h|h;(cases h);(exact h))
    .have:=bnd o' ho' hb;omega
   .show o'.b∈C.mb
    have hl':iA M o'.b=false:=hl;obtain⟨m,hm,hmb⟩:=List.all_eq_false.1 hl';simp only[iV,gT,not_or] at hmb;obtain⟨h1,h2⟩:=hmb;have e:m.b=o'.b:=by
     cases hq:Nat.beq m.b o'.b with
     |true=>exact aL hq
     |false=>exact absurd hq h1
    obtain⟨_,_,_,h4⟩:=h.hown m (bM _ hm);rw[<-e];exact h4 (by cases hq:m.lo with
     |true=>exact absurd hq h2
     |false=>rfl)
  .obtain⟨h1,h2,h3⟩:=h.hown o (cW _ ho)
   have hnM:o.b∉M.map (·.b):=fun hb=>inM _ hb o ho J;exact⟨by rw[k.keep _ (il h1) hnM];exact h1,by rw[k.gold _ (il h1)];exact h2,h3⟩
 .refine gS.2 ⟨?_,(gS.1 hnd).2.1,?_⟩
  .rw[rT];exact k.nd
  .intro x hx y hy
   obtain⟨o',ho',rfl⟩:=bQ.1 hx;show o'.b≠y.b;by_cases hb:o'.b∈M.map (·.b)
   .exact fun e=>inM _ hb y hy e.symm
   .have h1:=bnd o' ho' hb
    have h2:=il (h.hown y (cW _ hy)).1;omega
def tF(C:aD)(K:Value->List aw->Gh->Prop):Ending->World->Prop:=fun e w'=> ∃v own' G',e= .returned v/\bt C own' G' w'/\K v own' G'
def nv.introR{P:Program}{G:Gh}{f:FuncId}{fn:Func}{c:Code}{vs:List Value}{m:Nat}{M:List aw}{K:Value->List aw->Gh->Prop}(hf:P.funcs[f]? =some fn)(hb:fn.body=some c)(hn:(fn.name== "runtime.NumGoroutine")=false)(hm:fn.ntmps=m)(hlen:Nat.ble vs.length m=true)
  (h: ∀C:aD,C.G0=G->C.mb=M.map (·.b)->C.rd=none->(C.fx=fun _=>none)->St C m (pe 0 vs) (asB M) G (c.wp P (gn C P fn (tF C K)))):nv P f vs M G K:=by
 refine⟨⟨fn,hf,hn,by simp[hb]⟩,fun w hw=>?_⟩;have hlen':vs.length<=m:=by simpa using hlen
 have:=calls_of_wp (P:=P) (f:=f) (args:=⟨vs⟩) (w:=w) (R:=tF ⟨w,G,M.map (·.b),[],[],none,fun _=>none⟩ K) hf hb (wp_mono (h ⟨w,G,M.map (·.b),[],[],none,fun _=>none⟩ J J J J _ w
  ⟨hw,by simp;omega,fun k v hk=>by
   obtain⟨j,rfl,hj⟩:=wT vs 0 k v hk;have hj':=(aY.1 hj).1;rw[kK (by simpa using hj')];simpa using hj,J⟩) fun _ _ _ k=>k J)
 exact this
section
variable {P:Program} {C:aD} {n:Nat} {fr:Fr} {own own':List aw} {G:Gh} {Φ:Act->World->Prop}
variable {dst:Option Nat} {t t' ty':TypeId} {pos:String} {af:Array Edge} {gd:Option (Nat×Bool)} {x y:Operand}
def So{fn:Func}{K:Value->List aw->Gh->Prop}{vs:List Value}(hr:kA P fr own fn.results.toList vs)(own2 own3:List aw)(hp:own.Perm own2)(hs:own3.Sublist own2)(hk:K (iv vs) own3 G):St C n fr own G (gn C P fn (tF C K) .ret):=
 fun a w rl hmk=>⟨rl.df.trans hmk,_,uQ hr rl.fr rl.h,_,own3,G,J,(rl.h.perm hp).drop hs,hk⟩
def Vd{f:FuncId}{fo:Operand}{args:Array Operand}{tys:Array TypeId}{vs c1 c2:List Value}{M rest:List aw}{K:Value->List aw->Gh->Prop}(ho:aA fr fo=some (.func (.func f) ⟨c1⟩ ⟨c2⟩))(hv:f8 fr args.toList=some vs)
  (hp:own.Perm (M++rest))(hF:nv P f (c1++vs++c2) M G K)(hd:b9 n dst=true)(h: ∀v own1 (G':Gh),[GE G G']->K v own1 G'->St C n (put fr dst v) (own1.map (relo (iA M))++rest) G' Φ):
  Ch P C n fr own G ⟨dst, .call ⟨.value fo,args,tys⟩,ty',pos,af,gd⟩ Φ:=by
 intro a w Q rl;have h2:=Ek (P:=P) (dst:=dst) (ty':=ty') (pos:=pos) (af:=af) (gd:=gd) (tys:=tys) (w:=w) hF.able rl.fr ho hv;simp only[Oper.wp,h2,Oper.upon];have hh0:=rl.h.perm hp;refine(hF.run w hh0.lend).mono ?_;rintro e w' ⟨v,own1,G',rfl,hh,hK⟩;exact @h v own1 G' ⟨hh.gle⟩ hK _ _ ((rl.heap (hh0.calledO hh)).put _ hd)
def wj{f:FuncId}{fo:Operand}{args:Array Operand}{tys:Array TypeId}{vs:List Value}{M rest:List aw}{K:Value->List aw->Gh->Prop}(ho:aA fr fo=some (.func (.func f) #[] #[]))(hv:f8 fr args.toList=some vs)
  (hp:own.Perm (M++rest))(hF:nv P f vs M G K)(hd:b9 n dst=true)(h: ∀v own1 (G':Gh),[GE G G']->K v own1 G'->St C n (put fr dst v) (own1.map (relo (iA M))++rest) G' Φ):
  Ch P C n fr own G ⟨dst, .call ⟨.value fo,args,tys⟩,ty',pos,af,gd⟩ Φ:=
 Vd (c1:=[]) (c2:=[]) ho hv hp (by simpa using hF) hd h
end
structure SV where
 a:Option Addr
 n:Nat
 c:Nat
def SV.v(x:SV):Value:= .slice x.a x.n x.c
structure fe (G:Gh) (s:Nat) (x:SV) (es:List Value):Prop where
 len:x.n=es.length
 cap:x.n<=x.c
 mem:es=[]\/ ∃b off cs,x.a=some ⟨b,off,none⟩/\G b=some cs/\ ∀i (h:i<es.length),cD cs (off+i*s) s=some (aG es[i])
def fe.up'{A G:Gh}{s:Nat}{x:SV}{es:List Value}(h:fe A s x es)(k:bp A G):fe G s x es:=
 ⟨h.len,h.cap,h.mem.imp id (fun⟨b,off,cs,h1,h2,h3⟩=>⟨b,off,cs,h1,k _ _ h2,h3⟩)⟩
def fe.up{A G:Gh}{s:Nat}{x:SV}{es:List Value}(h:fe A s x es)[k:GL A G]:fe G s x es:=h.up' k.le
def fe.nil(G:Gh)(s:Nat):fe G s ⟨none,0,0⟩ []:=⟨J,aM _, .inl J⟩
def fe.take{G:Gh}{s:Nat}{x:SV}{es:List Value}(h:fe G s x es)(k:Nat)(hk:k<=es.length):fe G s ⟨x.a,k,x.c⟩ (es.take k):=by
 refine⟨by simp[hk],by show k<=x.c;have:=h.len;have:=h.cap;omega,?_⟩;rcases h.mem with h0|⟨b,off,cs,h1,h2,h3⟩
 .left;simp[h0]
 .right;exact⟨b,off,cs,h1,h2,fun i hi=>by
   simp only[cJ] at hi;rw[h3 i (by omega)];simp⟩
def uP(a:Option Addr)(k:Nat):Option Addr:=a.map (·.add k)
section
variable {P:Program} {C:aD} {n:Nat} {fr:Fr} {own own':List aw} {G:Gh} {Φ:Act->World->Prop}
variable {dst:Option Nat} {t t' ty':TypeId} {pos:String} {af:Array Edge} {gd:Option (Nat×Bool)} {x y:Operand} {e s by_:Nat}
def He{A:Gh}[hT:cp P t e s by_]{k:IntKind}{z:SV}{es:List Value}{i:Int}(hs:fe A s z es)(hx:aA fr x=some (.slice z.a z.n z.c))(hy:aA fr y=some (.int k i))(h0:0<=i)(h1:i<z.n):
  Yd P C fr own G ⟨dst, .indexAddr t x y,ty',pos,af,gd⟩ (.pointer (uP z.a (i.toNat*s))):=by
 rcases hs.mem with h|⟨b,off,cs,ha,hg,hc⟩
 .have:=hs.len;rw[h] at this;simp at this;omega
 .rw[ha] at hx
  have:=y9 (P:=P) (C:=C) (own:=own) (G:=G) (t:=t) (dst:=dst) (ty':=ty') (pos:=pos) (af:=af) (gd:=gd) (by_:=by_) hx hy h0 h1;rw[ha];simpa[uP,pB] using this
def No{A:Gh}[hA:mC P t s]{z:SV}{es:List Value}{i:Nat}{l:List Value}(hs:fe A s z es)[hl:GL A G](hx:aA fr x=some (.pointer (uP z.a (i*s))))(h1:i<es.length)(he:es[i]? =some (.agg ⟨l⟩)):
  Yd P C fr own G ⟨dst, .load t x,ty',pos,af,gd⟩ (.agg ⟨l⟩):=by
 rcases hs.mem with h|⟨b,off,cs,ha,hg,hc⟩
 .rw[h] at h1;simp at h1
 .rw[ha] at hx
  have h2:=hc i h1;rw[aQ h1] at he;have he':es[i]= .agg ⟨l⟩:=by simpa using he
  rw[he'] at h2;exact QW (by simpa[uP,pB] using hx) (hl.le _ _ hg) h2
def XA{A:Gh}[hA:jh P t]{z:SV}{es:List Value}{i:Nat}{v:Value}(hs:fe A 1 z es)[hl:GL A G](hx:aA fr x=some (.pointer (uP z.a (i*1))))(he:es[i]? =some v)(hv:flat v=true):
  Yd P C fr own G ⟨dst, .load t x,ty',pos,af,gd⟩ v:=by
 obtain⟨h1,he'⟩:=aY.1 he;rcases hs.mem with h|⟨b,off,cs,ha,hg,hc⟩
 .rw[h] at h1;simp at h1
 .rw[ha] at hx
  have h2:=hc i h1;rw[he'] at h2;have hcv:aG v=[v]:=by cases v<;>first|rfl|(simp[flat] at hv)
  rw[hcv] at h2;obtain⟨_,h3⟩:=qO _ _ _ _ h2;have h4:=h3 0 (by omega);exact LG (off:=off+i*1) (by simpa[uP,pB] using hx) (hl.le _ _ hg) (by simpa using h4)
end
def dI(d:Nat):Value:= .int .u32 (d:Int)
structure cv (G:Gh) (x:SV) (ds:List Nat):Prop where
 ok:bi ds
 sl:fe G 1 x (ds.map dI)
def cv.len{G:Gh}{x:SV}{ds:List Nat}(h:cv G x ds):x.n=ds.length:=by simpa using h.sl.len
def cv.up{A G:Gh}{x:SV}{ds:List Nat}(h:cv A x ds)[k:GL A G]:cv G x ds:=⟨h.ok,h.sl.up⟩
def cv.nil(G:Gh):cv G ⟨none,0,0⟩ []:=⟨.nil, .nil G 1⟩
def cv.take{G:Gh}{x:SV}{ds:List Nat}(h:cv G x ds)(k:Nat)(hk:k<=ds.length):cv G ⟨x.a,k,x.c⟩ (ds.take k):=
 ⟨h.ok.take k,by rw[gR];exact h.sl.take k (by simpa using hk)⟩
def cv.trim{G:Gh}{x:SV}{ds:List Nat}(h:cv G x ds):cv G ⟨x.a,(trimD ds).length,x.c⟩ (trimD ds):=by
 have:=h.take _ (oh ds);rwa [<-Ox] at this
def cv.of_block{G:Gh}{b c k:Nat}{cs:List Value}{ds:List Nat}(ok:bi ds)(hg:G b=some cs)(hk:k=ds.length)(hc:k<=c)(hcs:cs.take ds.length=ds.map dI):cv G ⟨some ⟨b,0,none⟩,k,c⟩ ds:=by
 refine⟨ok,by simpa using hk,hc, .inr ⟨b,0,cs,J,hg,fun i hi=>?_⟩⟩;have hi':i<ds.length:=by simpa using hi
 have hl:ds.length<=cs.length:=by
  have:=congrArg List.length hcs;simp at this;omega
 rw[mB _ _ _ (by omega)];congr 1;have h1:(cs.take ds.length)[i]? =(ds.map dI)[i]? :=by rw[hcs]
 rw[rJ,if_pos hi',cK,aQ hi',aQ (by omega)] at h1;have h2:cs[i]=dI ds[i]:=by simpa using h1
 rw[eK,iU,bX (by omega),mN,rR,h2,lK];rfl
structure gg (k:Nat) (G:Gh) (x:SV) (v:Nat):Prop where
 d:cv G x (dg v)
 lt:v<2^k
def gg.up{k:Nat}{A G:Gh}{x:SV}{v:Nat}(h:gg k A x v)[GL A G]:gg k G x v:=⟨h.d.up,h.lt⟩
def gg.len{k:Nat}{G:Gh}{x:SV}{v:Nat}(h:gg k G x v):x.n=(dg v).length:=h.d.len
def gg.mono{k k':Nat}{G:Gh}{x:SV}{v:Nat}(h:gg k G x v)(hk:v<2^k'):gg k' G x v:=⟨h.d,hk⟩
section
variable {P:Program} {C:aD} {n:Nat} {fr:Fr} {own own':List aw} {G:Gh} {Φ:Act->World->Prop}
variable {dst:Option Nat} {t t' ty':TypeId} {pos:String} {af:Array Edge} {gd:Option (Nat×Bool)} {x y:Operand} {e s by_:Nat}
def iD{A:Gh}[hT:cp P t e 1 by_]{k:IntKind}{z:SV}{ds:List Nat}{i:Int}(hs:cv A z ds)(hx:aA fr x=some (.slice z.a z.n z.c))(hy:aA fr y=some (.int k i))(h0:0<=i:=by omega)(h1:i<z.n:=by omega):
  Yd P C fr own G ⟨dst, .indexAddr t x y,ty',pos,af,gd⟩ (.pointer (uP z.a (i.toNat*1))):=He hs.sl hx hy h0 h1
def iF{A:Gh}[hA:jh P t]{z:SV}{ds:List Nat}{i:Nat}(hs:cv A z ds)[hl:GL A G](hx:aA fr x=some (.pointer (uP z.a (i*1))))(h1:i<ds.length:=by omega):
  Yd P C fr own G ⟨dst, .load t x,ty',pos,af,gd⟩ (.int .u32 ((ds.getD i 0:Nat):Int)):=
 XA hs.sl hx (by rw[cK,aQ h1,aX,aQ h1];rfl) J
def Po{A:Gh}{z:SV}{ds:List Nat}(h:cv A z ds)[hl:GL A G]:ou P C own G 1 z.n (.slice z.a z.n z.c) (ds.map dI):=by
 intro w hw;by_cases hne:ds=[]
 .rw[h.len]
  subst hne;exact wz w hw
 rcases h.sl.mem with h0|⟨b,off,cs,ha,hg,hc⟩
 .exact absurd (by simpa using h0) hne
 .rw[ha]
  have hn:=h.len;refine Q7 (hl.le _ _ hg) ?_ w hw;rw[iU];have hel: ∀i,i<ds.length->cs[off+i]? =some (dI (ds.getD i 0)):=fun i hi=>by
   have h1:=hc i (by simpa using hi);obtain⟨_,h2⟩:=qO _ _ _ _ h1;have h3:=h2 0 (by omega);rw[iU,fX] at h3;rw[h3,lK,aX,aQ hi];rfl
  by_cases h00:ds.length=0
  .exact absurd h00 (fun e=>hne (bS e))
  .have hlast:=hel (ds.length-1) (by omega)
   have hle:off+ds.length<=cs.length:=by
    have:=(aY.1 hlast).1;omega
   rw[hn,mB _ _ _ hle];congr 1;apply kU;intro i;rw[rJ];split
   .rename_i hi
    rw[nT,hel i hi,cK,aX,aQ hi];rfl
   .rename_i hi
    rw[dX (by simpa using hi)]
def vn(n:Nat):dw (.int .u32 0) n=(List.replicate n 0).map dI:=by
 unfold dw
 induction n with
 |zero=>rfl
 |succ n ih=>rw[jQ,lW,ih];rfl
def gi[hT:cp P t e s by_]{k:IntKind}{b len cap:Nat}{i:Int}(hx:aA fr x=some (.slice (some ⟨b,0,none⟩) len cap))(hy:aA fr y=some (.int k i))(h0:0<=i:=by omega)(h1:i<len:=by omega):
  Yd P C fr own G ⟨dst, .indexAddr t x y,ty',pos,af,gd⟩ (.pointer (some ⟨b,i.toNat*s,none⟩)):=by
 have:=y9 (P:=P) (C:=C) (own:=own) (G:=G) (t:=t) (dst:=dst) (ty':=ty') (pos:=pos) (af:=af) (gd:=gd) (by_:=by_) hx hy h0 h1;rwa [eK] at this
def sj[hA:jh P t]{b i:Nat}{ws:List Nat}{ty:TypeId}{lo:Bool}(hx:aA fr x=some (.pointer (some ⟨b,i*1,none⟩)))[ho:iI own b (ws.map dI) ty lo](h1:i<ws.length:=by omega):
  Yd P C fr own G ⟨dst, .load t x,ty',pos,af,gd⟩ (.int .u32 ((ws.getD i 0:Nat):Int)):=by
 rw[iU] at hx;refine ma hx ?_;rw[cK,aQ h1,aX,aQ h1];rfl
def my{b i d:Nat}{ws:List Nat}{ty:TypeId}{lo:Bool}{v:Int}[hs:jh P t](hx:aA fr x=some (.pointer (some ⟨b,i*1,none⟩)))(hy:aA fr y=some (.int .u32 v))(hv:v=(d:Int))
  (hu:f9 own b (ws.map dI) ty lo ((ws.set i d).map dI) own')(hi:i<ws.length)(hd:b9 n dst=true)(h:St C n (put fr dst undef) own' G Φ):
  Ch P C n fr own G ⟨dst, .store t x y,ty',pos,af,gd⟩ Φ:=by
 rw[iU] at hx;have hu':f9 own b (ws.map dI) ty lo ((ws.map dI).set i (.int .u32 v)) own':=by
  rw[hv,<-show dI d= .int .u32 (d:Int) from J,<-kM];exact hu
 exact wH hx hy hu' (by simpa using hi) J hd h
def d5{p q:Int}(hx:aA fr x=some (.int .i64 p))(hy:aA fr y=some (.int .i64 q))(h0: -9223372036854775808<=p+q:=by omega)(h1:p+q<=9223372036854775807:=by omega):Yd P C fr own G ⟨dst, .binOp .add t x y t',ty',pos,af,gd⟩ (.int .i64 (p+q)):=HT hx hy ⟨h0,h1⟩
def ki{p q:Int}(hx:aA fr x=some (.int .i64 p))(hy:aA fr y=some (.int .i64 q))(h0: -9223372036854775808<=p-q:=by omega)(h1:p-q<=9223372036854775807:=by omega):Yd P C fr own G ⟨dst, .binOp .sub t x y t',ty',pos,af,gd⟩ (.int .i64 (p-q)):=Ih hx hy ⟨h0,h1⟩
def Pv{p q:Int}(hx:aA fr x=some (.int .i64 p))(hy:aA fr y=some (.int .i64 q))(h0: -9223372036854775808<=p*q:=by omega)(h1:p*q<=9223372036854775807:=by omega):Yd P C fr own G ⟨dst, .binOp .mul t x y t',ty',pos,af,gd⟩ (.int .i64 (p*q)):=J9 hx hy ⟨h0,h1⟩
def rH{p q:Int}(hx:aA fr x=some (.int .u64 p))(hy:aA fr y=some (.int .u64 q))(h0:0<=p+q:=by omega)(h1:p+q<=18446744073709551615:=by omega):Yd P C fr own G ⟨dst, .binOp .add t x y t',ty',pos,af,gd⟩ (.int .u64 (p+q)):=HT hx hy ⟨h0,h1⟩
def O4{p q:Int}(hx:aA fr x=some (.int .u64 p))(hy:aA fr y=some (.int .u64 q))(h0:0<=p-q:=by omega)(h1:p-q<=18446744073709551615:=by omega):Yd P C fr own G ⟨dst, .binOp .sub t x y t',ty',pos,af,gd⟩ (.int .u64 (p-q)):=Ih hx hy ⟨h0,h1⟩
def Iy{p q:Int}(hx:aA fr x=some (.int .u64 p))(hy:aA fr y=some (.int .u64 q))(h0:0<=p*q)(h1:p*q<=18446744073709551615):Yd P C fr own G ⟨dst, .binOp .mul t x y t',ty',pos,af,gd⟩ (.int .u64 (p*q)):=J9 hx hy ⟨h0,h1⟩
def nA{k k':IntKind}{p q:Int}(hx:aA fr x=some (.int k p))(hy:aA fr y=some (.int k' q))(h0:0<=q:=by decide):Yd P C fr own G ⟨dst, .binOp .shr t x y t',ty',pos,af,gd⟩ (.int k (p.fdiv (2^min q.toNat k.bits))):=by
 intro a w hf hh;simp only[execOp,bh hf hx,bh hf hy];have h1:(eqGuard .shr t x y (.int k p) (.int k' q)).run P w= .ok () w:=J;have h2:(binOp .shr t (.int k p) (.int k' q)).run P w= .ok (.int k (p.fdiv (2^min q.toNat k.bits))) w:=by
  simp[binOp,Op.shift,Int.not_lt.2 h0,run_pure]
 exact c7 (by rw[aI h1];exact h2)
def wU{k k':IntKind}{p q:Int}(hx:aA fr x=some (.int k p))(hy:aA fr y=some (.int k' q))(h0:0<=q:=by decide):Yd P C fr own G ⟨dst, .binOp .shl t x y t',ty',pos,af,gd⟩ (.int k (k.wrap (p*2^min q.toNat k.bits))):=by
 intro a w hf hh;simp only[execOp,bh hf hx,bh hf hy];have h1:(eqGuard .shl t x y (.int k p) (.int k' q)).run P w= .ok () w:=J;have h2:(binOp .shl t (.int k p) (.int k' q)).run P w= .ok (.int k (k.wrap (p*2^min q.toNat k.bits))) w:=by
  simp[binOp,Op.shift,Int.not_lt.2 h0,run_pure]
 exact c7 (by rw[aI h1];exact h2)
def gF{k:IntKind}{p:Int}[hs:ng P t k][hd:ng P t' .u64](hx:aA fr x=some (.int k p))(h0:0<=p:=by omega)(h1:p<=18446744073709551615:=by omega):Yd P C fr own G ⟨dst, .convert t t' x,ty',pos,af,gd⟩ (.int .u64 p):=IK hx ⟨h0,h1⟩
def NZ{k:IntKind}{p:Int}[hs:ng P t k][hd:ng P t' .i64](hx:aA fr x=some (.int k p))(h0: -9223372036854775808<=p:=by omega)(h1:p<=9223372036854775807:=by omega):Yd P C fr own G ⟨dst, .convert t t' x,ty',pos,af,gd⟩ (.int .i64 p):=IK hx ⟨h0,h1⟩
def qA(p:Int):IntKind.u32.wrap p=p%4294967296:=by simp[IntKind.wrap,IntKind.bits,IntKind.signed]
def n7(p:Int):IntKind.u64.wrap p=p%18446744073709551616:=by simp[IntKind.wrap,IntKind.bits,IntKind.signed]
def kH{k:IntKind}{p:Int}[hs:ng P t k][hd:ng P t' .u32](hx:aA fr x=some (.int k p)):Yd P C fr own G ⟨dst, .convert t t' x,ty',pos,af,gd⟩ (.int .u32 (p%4294967296)):=by
 have:=D2 (P:=P) (C:=C) (own:=own) (G:=G) (dst:=dst) (ty':=ty') (pos:=pos) (af:=af) (gd:=gd) (t:=t) (t':=t') hx;rwa [qA] at this
def xW{k:IntKind}{p q:Int}(hx:aA fr x=some (.int k p))(hy:aA fr y=some (.int k q))(h0:0<=p:=by omega)(h:q≠0:=by omega):Yd P C fr own G ⟨dst, .binOp .rem t x y t',ty',pos,af,gd⟩ (.int k (p%q)):=by
 have:=Lr (P:=P) (C:=C) (own:=own) (G:=G) (dst:=dst) (ty':=ty') (pos:=pos) (af:=af) (gd:=gd) (t:=t) (t':=t') hx hy h;rwa [Int.tmod_eq_emod_of_nonneg h0] at this
def yk{p q:Int}(hx:aA fr x=some (.int .u64 p))(hy:aA fr y=some (.int .u64 q))(h0:0<=p:=by omega)(h1:p<=18446744073709551615:=by omega)(h:0<q:=by omega):Yd P C fr own G ⟨dst, .binOp .quo t x y t',ty',pos,af,gd⟩ (.int .u64 (p/q)):=by
 have:=Lv (P:=P) (C:=C) (own:=own) (G:=G) (dst:=dst) (ty':=ty') (pos:=pos) (af:=af) (gd:=gd) (t:=t) (t':=t') hx hy (by omega);rw[Int.tdiv_eq_ediv_of_nonneg h0,n7,Int.emod_eq_of_lt (Int.ediv_nonneg h0 (by omega)) (by have:=Int.ediv_le_self q h0;omega)] at this;exact this
def mA{Q:Exit->Act->World->Prop}{p:Prop}{inst:Decidable p}{c:Operand}{x y:Code}(hc:aA fr c=some (.bool (@decide p inst)))(h2: ¬p->St C n fr own G (y.wp P Q))(h1:p->St C n fr own G (x.wp P Q)):
  St C n fr own G ((Code.cond c x y).wp P Q):=gm hc h1 h2
end
section
variable {P:Program} {C:aD} {n:Nat} {fr:Fr} {own own' own1:List aw} {G:Gh} {Φ:Act->World->Prop}
variable {dst:Option Nat} {t t' ty':TypeId} {pos:String} {af:Array Edge} {gd:Option (Nat×Bool)} {x y:Operand} {e s by_:Nat}
def DR{v:Value}{b off k:Nat}{cs cs':List Value}{ty:TypeId}{lo:Bool}(hx:aA fr x=some (.pointer (some ⟨b,off,none⟩)))(hy:aA fr y=some v)[hs:mC P t k][ho:iI own b cs ty lo]
  (hc:cC cs off (aG v)=cs')(hu:f9 own b cs ty lo cs' own')(hk:(aG v).length=k)(hl:off+k<=cs.length)(hf:(aG v).all flat=true)(hd:b9 n dst=true)(h:St C n (put fr dst undef) own' G Φ):
  Ch P C n fr own G ⟨dst, .store t x y,ty',pos,af,gd⟩ Φ:=DL hx hy (hc▸hu) hk hl hf hd h
def xT{v:Value}{b off:Nat}{cs cs':List Value}{ty:TypeId}{lo:Bool}(hx:aA fr x=some (.pointer (some ⟨b,off,none⟩)))(hy:aA fr y=some v)[hs:jh P t][ho:iI own b cs ty lo]
  (hc:cs.set off v=cs')(hu:f9 own b cs ty lo cs' own')(hl:off<cs.length)(hf:flat v=true)(hd:b9 n dst=true)(h:St C n (put fr dst undef) own' G Φ):
  Ch P C n fr own G ⟨dst, .store t x y,ty',pos,af,gd⟩ Φ:=wH hx hy (hc▸hu) hl hf hd h
def Uy[hT:cp P t e s by_]{ad:Option Addr}{len cap:Nat}(hx:aA fr x=some (.slice ad len cap)):
  Yd P C fr own G ⟨dst, .call ⟨.builtin .cap, #[x], #[t]⟩,ty',pos,af,gd⟩ (.int .i64 cap):=by
 intro a w hf hh;simp only[execOp,resolve,gN,cV,kX,bh hf hx];have h1:(Builtin.cap_ #[t] ty' #[.slice ad len cap]).run P w= .ok (.int .i64 cap) w:=by
  simp only[Builtin.cap_];show(underlying t>>=_).run P w=_;rw[aI (hT.u w)];rfl
 exact c7 h1
def Ua{w:World}[hT:cp P t e s by_]{b off l c l2 c2 m:Nat}{ad2:Option Addr}{cs ys:List Value}{ty:TypeId}(hm:Nat.min l2 l=m)
  (hb:w.heap[b]? =some (.cells ⟨cs⟩ ty (0,0)))(hsy:(Builtin.firstCells s m (.slice ad2 l2 c2)).run P w= .ok ⟨ys⟩ w)(hf: ∀v∈ys,flat v=true)(hl:off+ys.length<=cs.length):
  (Builtin.copy_ #[t,t'] ty' #[.slice (some ⟨b,off,none⟩) l c, .slice ad2 l2 c2]).run P w=
   .ok (.int .i64 m) (gz w b (.cells ⟨cC cs off ys⟩ ty (0,0))):=by
 obtain⟨i,hi,his,hib⟩:=hT.info;subst his;have hst:=ym (P:=P) ys w off 0 cs hf hb (by omega);rw[fX] at hst;subst hm;simp[Builtin.copy_,run_underlying hT.un,sizeOf,typeInfo,hi,Builtin.lenOf,hsy,hst];rfl
def RB[hT:cp P t e s by_]{b off l c l2 c2 m:Nat}{ad2:Option Addr}{cs ys:List Value}{ty:TypeId}{lo:Bool}(hx:aA fr x=some (.slice (some ⟨b,off,none⟩) l c))(hy:aA fr y=some (.slice ad2 l2 c2))
  (hm:Nat.min l2 l=m)(hsy:ou P C own G s m (.slice ad2 l2 c2) ys)(hf: ∀v∈ys,flat v=true)(hl:off+ys.length<=cs.length)(hu:f9 own b cs ty lo (cC cs off ys) own')(hd:b9 n dst=true)
  (h:St C n (put fr dst (.int .i64 m)) own' G Φ):Ch P C n fr own G ⟨dst, .call ⟨.builtin .copy, #[x,y], #[t,t']⟩,ty',pos,af,gd⟩ Φ:=by
 intro a w Q rl;have hb:=(rl.h.hown _ (hu.spec rl.h.nd).1).1;refine kz (v:= .int .i64 m) (w':=gz w b (.cells ⟨cC cs off ys⟩ ty (0,0))) ?_ (h _ _ ((rl.heap (rl.h.store hu)).put _ hd));simp only[execOp,resolve,gN,cV,kX,bh rl.fr hx,bh rl.fr hy];exact c7 (Ua hm hb (hsy w rl.h) hf hl)
def Ns[hT:cp P t e s by_][hN:lO P t']{b len cap m cap2:Nat}{ad2:Option Addr}{cs ys:List Value}{lo:Bool}
  (hx:aA fr x=some (.slice (some ⟨b,0,none⟩) len cap))(hy:aA fr y=some (.slice ad2 m cap2))(hu:f9 own b cs e lo (cC cs (len*s) ys) own')(hcs:cs.length=cap*s)
  (hsy:ou P C own G s m (.slice ad2 m cap2) ys)(hys:ys.length=m*s)(hf: ∀v∈ys,flat v=true)(hneed:len+m<=cap)(hd:b9 n dst=true)
  (h:St C n (put fr dst (.slice (some ⟨b,0,none⟩) (len+m) cap)) own' G Φ):
  Ch P C n fr own G ⟨dst, .call ⟨.builtin .append, #[x,y], #[t,t']⟩,ty',pos,af,gd⟩ Φ:=by
 intro a w Q rl;have hb:=(rl.h.hown _ (hu.spec rl.h.nd).1).1;refine kz (v:= .slice (some ⟨b,0,none⟩) (len+m) cap) (w':=gz w b (.cells ⟨cC cs (len*s) ys⟩ e (0,0))) ?_ (h _ _ ((rl.heap (rl.h.store hu)).put _ hd));simp only[execOp,resolve,gN,cV,kX,bh rl.fr hx,bh rl.fr hy];exact c7 (Gt hb hcs (hsy w rl.h) hys hf hneed)
def Xj[hT:cp P t e s by_][hN:lO P t']{z:Value}[hz:iE P e z]{b len cap m cap2:Nat}{ad2:Option Addr}{xs ys rest:List Value}{lo:Bool}
  (hx:aA fr x=some (.slice (some ⟨b,0,none⟩) len cap))(hy:aA fr y=some (.slice ad2 m cap2))(hr:kr own ⟨b,xs++rest,e,lo⟩ own1)(hxs:xs.length=len*s)(hcap:xs.length+rest.length=cap*s)(hlc:len<=cap)
  (hsy:ou P C own G s m (.slice ad2 m cap2) ys)(hys:ys.length=m*s)(hf: ∀v∈ys,flat v=true)
  (hby:0<by_)(hb:(len+m)*by_<=140737488355328)(hzs:(aG z).length=s)(hd:b9 n dst=true)
  (h: ∀b lo' cap' rest',len+m<=cap'->rest'.length+(len+m)*s=cap'*s->St C n (put fr dst (.slice (some ⟨b,0,none⟩) (len+m) cap')) (⟨b,xs++ys++rest',e,lo'⟩::own1) G Φ):
  Ch P C n fr own G ⟨dst, .call ⟨.builtin .append, #[x,y], #[t,t']⟩,ty',pos,af,gd⟩ Φ:=by
 intro a w Q rl;have hp:=rl.h.perm hr.perm;have hblk:=(hp.hown _ aZ).1;simp only[] at hblk;by_cases hneed:len+m<=cap
 .have hcs:(xs++rest).length=cap*s:=by simp;omega
  have hrun:=Gt (P:=P) (t:=t) (t':=t') (ty':=ty') (w:=w) (len:=len) hblk hcs (hsy w rl.h) hys hf hneed;have hle:len*s+m*s<=cap*s:=by rw[<-cM];exact bW _ hneed
  have hov:cC (xs++rest) (len*s) ys=xs++ys++rest.drop (m*s):=by
   rw[pD _ _ _ (by rw[hys];omega),<-hxs];simp[hys,nV]
  refine kz (v:= .slice (some ⟨b,0,none⟩) (len+m) cap) (w':=gz w b (.cells ⟨cC (xs++rest) (len*s) ys⟩ e (0,0))) ?_ ?_
  .simp only[execOp,resolve,gN,cV,kX,bh rl.fr hx,bh rl.fr hy]
   exact c7 hrun
  .rw[hov]
   refine h b lo cap (rest.drop (m*s)) hneed ?_ _ _ ((rl.heap (hp.store (.hd ..))).put _ hd);rw[iQ,cM];omega
 .have hx':ou P C own G s len (.slice (some ⟨b,0,none⟩) len cap) xs:=fun w' hw'=>by
   have hb':=(((hw'.perm hr.perm).hown _ aZ).1);refine BH hb' ?_;rw[mB _ _ _ (by simp;omega),<-hxs];simp
  have hcap':len+m<=grownCap w (len+m) cap e:=by unfold grownCap;simp only[Question.cut];omega
  have hrun:=Fa (P:=P) (t:=t) (t':=t') (ty':=ty') (w:=w) (w':=w) (hx' _ rl.h.drew) (hsy _ rl.h.drew) (by omega) hby hb;refine kz (v:= .slice (some ⟨w.heap.size,0,none⟩) (len+m) (grownCap w (len+m) cap e)) (w':=w.drew.alloc (.cells ⟨xs++ys++dw z (grownCap w (len+m) cap e-(len+m))⟩ e)) ?_ ?_
  .simp only[execOp,resolve,gN,cV,kX,bh rl.fr hx,bh rl.fr hy]
   exact c7 hrun
  .refine h w.heap.size _ _ _ hcap' ?_ _ _ ((rl.heap (((hp.drew).drop (List.sublist_cons_self _ _)).alloc _ _)).put _ hd)
   rw[pw,hzs,<-cM];congr 1;omega
def Uh{f:FuncId}{fn:Func}{tS tR:TypeId}(hf:P.funcs[f]? =some fn)(hname:(fn.name== "runtime.NumGoroutine")=false)(hb:fn.body.isNone=true)(hn:Extern.findNext fn=none)
  (he:Extern.find fn=some (Extern.SlicesOverlaps.overlaps #[tS,tS] #[tR]))[hT:cp P tS e s by_]{args:Array Operand}{tys:Array TypeId}{fo:Operand}
  {b1 b2 o1 o2 l1 l2 c1 c2:Nat}{cs1 cs2:List Value}{t1 t2:TypeId}{lo1 lo2:Bool}(ho:aA fr fo=some (.func (.func f) #[] #[]))
  (hv:f8 fr args.toList=some [.slice (some ⟨b1,o1,none⟩) l1 c1, .slice (some ⟨b2,o2,none⟩) l2 c2])[h1:iI own b1 cs1 t1 lo1][h2:iI own b2 cs2 t2 lo2](hne:b1≠b2)(hc2:cs2≠[]):
  Yd P C fr own G ⟨dst, .call ⟨.value fo,args,tys⟩,ty',pos,af,gd⟩ (.bool false):=by
 intro a w hfr hh;have e1:=(hh.hown _ h1.mem).1;have e2:=(hh.hown _ h2.mem).1;have ev:args.map a.eval=⟨[.slice (some ⟨b1,o1,none⟩) l1 c1, .slice (some ⟨b2,o2,none⟩) l2 c2]⟩:=by apply Array.ext';simpa using Ce hfr hv
 simp only[] at e1 e2;have hrun:=Lib.run_overlaps_apart (P:=P) w tS tR e hT.un s hT.siz ⟨b1,o1,none⟩ ⟨b2,o2,none⟩ l1 c1 l2 c2 hne t1 t2 cs1.length cs2.length
  (by simp[World.shape?,e1]) (by simp[World.shape?,e2]) (by simpa using hc2) (by simp[World.frozen?,e1]) (by simp[World.frozen?,e1])
 simp only[execOp,resolve,bh hfr ho,ev,Deferred.ofValue];show(invoke (.fn (.func f) #[]) _).run P w=_;simp only[invoke];have h3:=run_callFunc_extern (P:=P) hf hname hb hn he;rw[h3];simp[hrun,Result.andThen]
end
instance kd.cons2 (l m:List aw) (o:aw) [h:kd l m]:kd (o::l) (o::m):=⟨h.s.cons_cons o⟩
def Vu{P:Program}{C:aD}{n:Nat}{fr:Fr}{own own0:List aw}{G:Gh}{ops:Array Oper}{Q:Exit->Act->World->Prop}{b:Nat}{cs:List Value}{ty:TypeId}{lo:Bool}(fin:Nat->Bool)(π:List (Nat×Bool)){id:Nat}(hm:P.follows .mixedOrders=true)(_hr:kr own ⟨b,cs,ty,lo⟩ own0)(ho:(qt ops fin π (Array.replicate ops.size false)&&Nat.ble π.length ops.size)=true)
  (h:St C n fr own G (gp P ops (f5 Q) (HS C own0 G) fin π)):St C n fr own G ((Code.region id ops true).wp P Q):=by
 simp only[bT] at ho;intro a w rl;exact wp_mono (wp_region_any hm (Dh _ _ _ _ (AN (fun _ _ _ _ _ h=>h) π _ a _ ho.1 (h a _ (rl.heap rl.h.drew)) _ (by simpa using ho.2)))) f5.imp
def aE(vs:List Value):List Value:=(vs.map aG).flatten
def eO{s:Nat}: ∀(vs:List Value),(∀v∈vs,(aG v).length=s)->(aE vs).length=vs.length*s
 |[],_=>by simp[aE]
 |v::vs,h=>by
  have h1:=eO vs (fun u hu=>h u (aK _ hu));have h2:=h v aZ;unfold aE at*;simp only[cV,lW,aW,bJ,h1,h2,iM];omega
def qh(us vs:List Value):aE (us++vs)=aE us++aE vs:=by simp[aE]
def FL(v:Value):aE [v]=aG v:=by simp[aE]
def DK{s:Nat}: ∀(vs:List Value) (i:Nat),(∀v∈vs,(aG v).length=s)->i<=vs.length->(aE vs).take (i*s)=aE (vs.take i)
 |vs,0,_,_=>by simp[aE]
 |[],i+1,_,h=>by simp at h
 |v::vs,i+1,h,hi=>by
  have h1:=DK vs i (fun u hu=>h u (aK _ hu)) (by simpa using hi);have h2:=h v aZ;unfold aE at*;simp only[cV,lW,mN];rw[List.take_append,h2,aS (by rw[h2,iM];omega),iM,lZ,h1]
def Dq{s:Nat}: ∀(vs:List Value) (i:Nat),(∀v∈vs,(aG v).length=s)->i<=vs.length->(aE vs).drop (i*s)=aE (vs.drop i)
 |vs,0,_,_=>by simp
 |[],i+1,_,h=>by simp at h
 |v::vs,i+1,h,hi=>by
  have h1:=Dq vs i (fun u hu=>h u (aK _ hu)) (by simpa using hi);have h2:=h v aZ;unfold aE at*;simp only[cV,lW,tX];rw[nV,h2,kY (by rw[h2,iM];omega),iM,lZ,h1,kL]
def HI{s:Nat}{vs rest:List Value}(h: ∀v∈vs,(aG v).length=s){i:Nat}(hi:i<vs.length):cD (aE vs++rest) (i*s) s=some (aG vs[i]):=by
 have hl:=eO vs h;have hle:i*s+s<=vs.length*s:=by rw[<-iM];exact bW _ hi
 rw[mB _ _ _ (by simp only[aW];omega)];congr 1;rw[jW (by omega),Dq vs i h (by omega),bX hi];have h2:=h vs[i] (bL hi);rw[show(vs[i]::vs.drop (i+1))=[vs[i]]++vs.drop (i+1) from J,qh,FL,gX,fQ (by omega),aS (by omega)]
def fe.of_flat{G:Gh}{b c s:Nat}{vs rest:List Value}(h: ∀v∈vs,(aG v).length=s)(hg:G b=some (aE vs++rest))(hc:vs.length<=c):fe G s ⟨some ⟨b,0,none⟩,vs.length,c⟩ vs:=
 ⟨J,hc, .inr ⟨b,0,_,J,hg,fun i hi=>by rw[eK];exact HI h hi⟩⟩
section
variable {P:Program} {C:aD} {n:Nat} {fr:Fr} {own own':List aw} {G:Gh} {Φ:Act->World->Prop}
variable {dst:Option Nat} {ty':TypeId} {pos:String} {af:Array Edge} {gd:Option (Nat×Bool)} {x y:Operand} {tys:Array TypeId}
def U7{ops:Array Oper}{Q:Exit->Act->World->Prop}(own0:List aw)(fin:Nat->Bool)(π:List (Nat×Bool)){id:Nat}(hm:P.follows .mixedOrders=true)(ho:(qt ops fin π (Array.replicate ops.size false)&&Nat.ble π.length ops.size)=true)
  (h:St C n fr own G (gp P ops (f5 Q) (HS C own0 G) fin π)):St C n fr own G ((Code.region id ops true).wp P Q):=by
 simp only[bT] at ho;intro a w rl;exact wp_mono (wp_region_any hm (Dh _ _ _ _ (AN (fun _ _ _ _ _ h=>h) π _ a _ ho.1 (h a _ (rl.heap rl.h.drew)) _ (by simpa using ho.2)))) f5.imp
end
end Go.Sx
end
