import Derived.Test.YtefoocgiaegobaaGreatDoorPh2
import Derived.Laws.Externs
import Derived.Lib.Overlaps
set_option linter.all false
set_option maxRecDepth 100000
section
namespace Go.Sx
open Go
section
variable {P:Program} {C:aC} {n:Nat} {fr:Fr} {own own' own1:List aj} {G:Gh} {Φ:Act->World->Prop}
variable {dst:Option Nat} {t t' ty':TypeId} {pos:String} {af:Array Edge} {gd:Option (Nat×Bool)} {x y:Operand} {e s by_:Nat}
def zj{v:Value}{b off k:Nat}{cs cs':List Value}{ty:TypeId}{lo:Bool}(hx:av fr x=some (.pointer (some ⟨b,off,none⟩)))(hy:av fr y=some v)[hs:kv P t k][ho:gD own b cs ty lo]
  (hc:co cs off (aD v)=cs')(hu:fh own b cs ty lo cs' own')(hk:(aD v).length=k)(hl:off+k<=cs.length)(hf:(aD v).all flat=true)(hd:b8 n dst=true)(h:St C n (put fr dst undef) own' G Φ):
  Ch P C n fr own G ⟨dst, .store t x y,ty',pos,af,gd⟩ Φ:=AH hx hy (hc▸hu) hk hl hf hd h
def rI{v:Value}{b off:Nat}{cs cs':List Value}{ty:TypeId}{lo:Bool}(hx:av fr x=some (.pointer (some ⟨b,off,none⟩)))(hy:av fr y=some v)[hs:gE P t][ho:gD own b cs ty lo]
  (hc:cs.set off v=cs')(hu:fh own b cs ty lo cs' own')(hl:off<cs.length)(hf:flat v=true)(hd:b8 n dst=true)(h:St C n (put fr dst undef) own' G Φ):
  Ch P C n fr own G ⟨dst, .store t x y,ty',pos,af,gd⟩ Φ:=rH hx hy (hc▸hu) hl hf hd h
def Yp[hT:ce P t e s by_]{ad:Option Addr}{len cap:Nat}(hx:av fr x=some (.slice ad len cap)):
  Yd P C fr own G ⟨dst, .call ⟨.builtin .cap, #[x], #[t]⟩,ty',pos,af,gd⟩ (.int .i64 cap):=by
 intro a w hf hh;simp only[execOp,resolve,gJ,bR,dK,bi hf hx];have h1:(Builtin.cap_ #[t] ty' #[.slice ad len cap]).run P w= .ok (.int .i64 cap) w:=by
  simp only[Builtin.cap_];show(underlying t>>=_).run P w=_;rw[ba (hT.u w)];rfl
 exact cF h1
def V9{w:World}[hT:ce P t e s by_]{b off l c l2 c2 m:Nat}{ad2:Option Addr}{cs ys:List Value}{ty:TypeId}(hm:Nat.min l2 l=m)
  (hb:w.heap[b]? =some (.cells ⟨cs⟩ ty (0,0)))(hsy:(Builtin.firstCells s m (.slice ad2 l2 c2)).run P w= .ok ⟨ys⟩ w)(hf: ∀v∈ys,flat v=true)(hl:off+ys.length<=cs.length):
  (Builtin.copy_ #[t,t'] ty' #[.slice (some ⟨b,off,none⟩) l c, .slice ad2 l2 c2]).run P w=
   .ok (.int .i64 m) (fH w b (.cells ⟨co cs off ys⟩ ty (0,0))):=by
 obtain⟨i,hi,his,hib⟩:=hT.info;subst his;have hst:=vG (P:=P) ys w off 0 cs hf hb (by omega);rw[eK] at hst;subst hm;simp[Builtin.copy_,run_underlying hT.un,sizeOf,typeInfo,hi,Builtin.lenOf,hsy,hst];rfl
def Ps[hT:ce P t e s by_]{b off l c l2 c2 m:Nat}{ad2:Option Addr}{cs ys:List Value}{ty:TypeId}{lo:Bool}(hx:av fr x=some (.slice (some ⟨b,off,none⟩) l c))(hy:av fr y=some (.slice ad2 l2 c2))
  (hm:Nat.min l2 l=m)(hsy:ly P C own G s m (.slice ad2 l2 c2) ys)(hf: ∀v∈ys,flat v=true)(hl:off+ys.length<=cs.length)(hu:fh own b cs ty lo (co cs off ys) own')(hd:b8 n dst=true)
  (h:St C n (put fr dst (.int .i64 m)) own' G Φ):Ch P C n fr own G ⟨dst, .call ⟨.builtin .copy, #[x,y], #[t,t']⟩,ty',pos,af,gd⟩ Φ:=by
 intro a w Q rl;have hb:=(rl.h.hown _ (hu.spec rl.h.nd).1).1;refine jC (v:= .int .i64 m) (w':=fH w b (.cells ⟨co cs off ys⟩ ty (0,0))) ?_ (h _ _ ((rl.heap (rl.h.store hu)).put _ hd));simp only[execOp,resolve,gJ,bR,dK,bi rl.fr hx,bi rl.fr hy];exact cF (V9 hm hb (hsy w rl.h) hf hl)
def OD[hT:ce P t e s by_][hN:jk P t']{b len cap m cap2:Nat}{ad2:Option Addr}{cs ys:List Value}{lo:Bool}
  (hx:av fr x=some (.slice (some ⟨b,0,none⟩) len cap))(hy:av fr y=some (.slice ad2 m cap2))(hu:fh own b cs e lo (co cs (len*s) ys) own')(hcs:cs.length=cap*s)
  (hsy:ly P C own G s m (.slice ad2 m cap2) ys)(hys:ys.length=m*s)(hf: ∀v∈ys,flat v=true)(hneed:len+m<=cap)(hd:b8 n dst=true)
  (h:St C n (put fr dst (.slice (some ⟨b,0,none⟩) (len+m) cap)) own' G Φ):
  Ch P C n fr own G ⟨dst, .call ⟨.builtin .append, #[x,y], #[t,t']⟩,ty',pos,af,gd⟩ Φ:=by
 intro a w Q rl;have hb:=(rl.h.hown _ (hu.spec rl.h.nd).1).1;refine jC (v:= .slice (some ⟨b,0,none⟩) (len+m) cap) (w':=fH w b (.cells ⟨co cs (len*s) ys⟩ e (0,0))) ?_ (h _ _ ((rl.heap (rl.h.store hu)).put _ hd));simp only[execOp,resolve,gJ,bR,dK,bi rl.fr hx,bi rl.fr hy];exact cF (CU hb hcs (hsy w rl.h) hys hf hneed)
def Md[hT:ce P t e s by_][hN:jk P t']{z:Value}[hz:fP P e z]{b len cap m cap2:Nat}{ad2:Option Addr}{xs ys rest:List Value}{lo:Bool}
  (hx:av fr x=some (.slice (some ⟨b,0,none⟩) len cap))(hy:av fr y=some (.slice ad2 m cap2))(hr:jg own ⟨b,xs++rest,e,lo⟩ own1)(hxs:xs.length=len*s)(hcap:xs.length+rest.length=cap*s)(hlc:len<=cap)
  (hsy:ly P C own G s m (.slice ad2 m cap2) ys)(hys:ys.length=m*s)(hf: ∀v∈ys,flat v=true)
  (hby:0<by_)(hb:(len+m)*by_<=140737488355328)(hzs:(aD z).length=s)(hd:b8 n dst=true)
  (h: ∀b lo' cap' rest',len+m<=cap'->rest'.length+(len+m)*s=cap'*s->St C n (put fr dst (.slice (some ⟨b,0,none⟩) (len+m) cap')) (⟨b,xs++ys++rest',e,lo'⟩::own1) G Φ):
  Ch P C n fr own G ⟨dst, .call ⟨.builtin .append, #[x,y], #[t,t']⟩,ty',pos,af,gd⟩ Φ:=by
 intro a w Q rl;have hp:=rl.h.perm hr.perm;have hblk:=(hp.hown _ aQ).1;simp only[] at hblk;by_cases hneed:len+m<=cap
 ·have hcs:(xs++rest).length=cap*s:=by simp;omega
  have hrun:=CU (P:=P) (t:=t) (t':=t') (ty':=ty') (w:=w) (len:=len) hblk hcs (hsy w rl.h) hys hf hneed;have hle:len*s+m*s<=cap*s:=by rw[<-cY];exact bX _ hneed
  have hov:co (xs++rest) (len*s) ys=xs++ys++rest.drop (m*s):=by
   rw[oc _ _ _ (by rw[hys];omega),<-hxs];simp[hys,mT]
  refine jC (v:= .slice (some ⟨b,0,none⟩) (len+m) cap) (w':=fH w b (.cells ⟨co (xs++rest) (len*s) ys⟩ e (0,0))) ?_ ?_
  ·simp only[execOp,resolve,gJ,bR,dK,bi rl.fr hx,bi rl.fr hy]
   exact cF hrun
  ·rw[hov]
   refine h b lo cap (rest.drop (m*s)) hneed ?_ _ _ ((rl.heap (hp.store (.hd ..))).put _ hd);rw[gN,cY];omega
 ·have hx':ly P C own G s len (.slice (some ⟨b,0,none⟩) len cap) xs:=fun w' hw'=>by
   have hb':=(((hw'.perm hr.perm).hown _ aQ).1);refine BS hb' ?_;rw[lh _ _ _ (by simp;omega),<-hxs];simp
  have hcap':len+m<=grownCap w (len+m) cap e:=by unfold grownCap;simp only[Question.cut];omega
  have hrun:=Ft (P:=P) (t:=t) (t':=t') (ty':=ty') (w:=w) (w':=w) (hx' _ rl.h.drew) (hsy _ rl.h.drew) (by omega) hby hb;refine jC (v:= .slice (some ⟨w.heap.size,0,none⟩) (len+m) (grownCap w (len+m) cap e)) (w':=w.drew.alloc (.cells ⟨xs++ys++cE z (grownCap w (len+m) cap e-(len+m))⟩ e)) ?_ ?_
  ·simp only[execOp,resolve,gJ,bR,dK,bi rl.fr hx,bi rl.fr hy]
   exact cF hrun
  ·refine h w.heap.size _ _ _ hcap' ?_ _ _ ((rl.heap (((hp.drew).drop (qN _ _)).alloc _ _)).put _ hd)
   rw[ml,hzs,<-cY];congr 1;omega
def RI{f:FuncId}{fn:Func}{tS tR:TypeId}(hf:P.funcs[f]? =some fn)(hname:(fn.name== "runtime.NumGoroutine")=false)(hb:fn.body.isNone=true)(hn:Extern.findNext fn=none)
  (he:Extern.find fn=some (Extern.SlicesOverlaps.overlaps #[tS,tS] #[tR]))[hT:ce P tS e s by_]{args:Array Operand}{tys:Array TypeId}{fo:Operand}
  {b1 b2 o1 o2 l1 l2 c1 c2:Nat}{cs1 cs2:List Value}{t1 t2:TypeId}{lo1 lo2:Bool}(ho:av fr fo=some (.func (.func f) #[] #[]))
  (hv:fy fr args.toList=some [.slice (some ⟨b1,o1,none⟩) l1 c1, .slice (some ⟨b2,o2,none⟩) l2 c2])[h1:gD own b1 cs1 t1 lo1][h2:gD own b2 cs2 t2 lo2](hne:b1≠b2)(hc2:cs2≠[]):
  Yd P C fr own G ⟨dst, .call ⟨.value fo,args,tys⟩,ty',pos,af,gd⟩ (.bool false):=by
 intro a w hfr hh;have e1:=(hh.hown _ h1.mem).1;have e2:=(hh.hown _ h2.mem).1;have ev:args.map a.eval=⟨[.slice (some ⟨b1,o1,none⟩) l1 c1, .slice (some ⟨b2,o2,none⟩) l2 c2]⟩:=by apply Array.ext';simpa using yV hfr hv
 simp only[] at e1 e2;have hrun:=Lib.run_overlaps_apart (P:=P) w tS tR e hT.un s hT.siz ⟨b1,o1,none⟩ ⟨b2,o2,none⟩ l1 c1 l2 c2 hne t1 t2 cs1.length cs2.length
  (by simp[World.shape?,e1]) (by simp[World.shape?,e2]) (by simpa using hc2) (by simp[World.frozen?,e1]) (by simp[World.frozen?,e1])
 simp only[execOp,resolve,bi hfr ho,ev,Deferred.ofValue];show(invoke (.fn (.func f) #[]) _).run P w=_;simp only[invoke];have h3:=run_callFunc_extern (P:=P) hf hname hb hn he;rw[h3];simp[hrun,Result.andThen]
end
instance ju.cons2 (l m:List aj) (o:aj) [h:ju l m]:ju (o::l) (o::m):=⟨h.s.cons_cons o⟩
def WP{P:Program}{C:aC}{n:Nat}{fr:Fr}{own own0:List aj}{G:Gh}{ops:Array Oper}{Q:Exit->Act->World->Prop}{b:Nat}{cs:List Value}{ty:TypeId}{lo:Bool}(fin:Nat->Bool)(π:List (Nat×Bool)){id:Nat}(hm:P.follows .mixedOrders=true)(_hr:jg own ⟨b,cs,ty,lo⟩ own0)(ho:(oI ops fin π (Array.replicate ops.size false)&&Nat.ble π.length ops.size)=true)
  (h:St C n fr own G (fE P ops (fi Q) (HS C own0 G) fin π)):St C n fr own G ((Code.region id ops true).wp P Q):=by
 simp only[aL] at ho;intro a w rl;exact wp_mono (wp_region_any hm (Bz _ _ _ _ (x7 (fun _ _ _ _ _ h=>h) π _ a _ ho.1 (h a _ (rl.heap rl.h.drew)) _ (by simpa using ho.2)))) fi.imp
def aB(vs:List Value):List Value:=(vs.map aD).flatten
def d6{s:Nat}: ∀(vs:List Value),(∀v∈vs,(aD v).length=s)->(aB vs).length=vs.length*s
 |[],_=>by simp[aB]
 |v::vs,h=>by
  have h1:=d6 vs (fun u hu=>h u (aZ _ hu));have h2:=h v aQ;unfold aB at*;simp only[bR,lZ,aT,bK,h1,h2,gQ];omega
def lG(us vs:List Value):aB (us++vs)=aB us++aB vs:=by simp[aB]
def t6(v:Value):aB [v]=aD v:=by simp[aB]
def AR{s:Nat}: ∀(vs:List Value) (i:Nat),(∀v∈vs,(aD v).length=s)->i<=vs.length->(aB vs).take (i*s)=aB (vs.take i)
 |vs,0,_,_=>by simp[aB]
 |[],i+1,_,h=>by simp at h
 |v::vs,i+1,h,hi=>by
  have h1:=AR vs i (fun u hu=>h u (aZ _ hu)) (by simpa using hi);have h2:=h v aQ;unfold aB at*;simp only[bR,lZ,nM];rw[List.take_append,h2,bQ (by rw[h2,gQ];omega),gQ,mL,h1]
def zJ{s:Nat}: ∀(vs:List Value) (i:Nat),(∀v∈vs,(aD v).length=s)->i<=vs.length->(aB vs).drop (i*s)=aB (vs.drop i)
 |vs,0,_,_=>by simp
 |[],i+1,_,h=>by simp at h
 |v::vs,i+1,h,hi=>by
  have h1:=zJ vs i (fun u hu=>h u (aZ _ hu)) (by simpa using hi);have h2:=h v aQ;unfold aB at*;simp only[bR,lZ,sV];rw[mT,h2,oW (by rw[h2,gQ];omega),gQ,mL,h1,cV]
def DE{s:Nat}{vs rest:List Value}(h: ∀v∈vs,(aD v).length=s){i:Nat}(hi:i<vs.length):cx (aB vs++rest) (i*s) s=some (aD vs[i]):=by
 have hl:=d6 vs h;have hle:i*s+s<=vs.length*s:=by rw[<-gQ];exact bX _ hi
 rw[lh _ _ _ (by simp only[aT];omega)];congr 1;rw[jV (by omega),zJ vs i h (by omega),cX hi];have h2:=h vs[i] (jX hi);rw[show(vs[i]::vs.drop (i+1))=[vs[i]]++vs.drop (i+1) from J,lG,t6,dQ,eJ (by omega),bQ (by omega)]
def ee.of_flat{G:Gh}{b c s:Nat}{vs rest:List Value}(h: ∀v∈vs,(aD v).length=s)(hg:G b=some (aB vs++rest))(hc:vs.length<=c):ee G s ⟨some ⟨b,0,none⟩,vs.length,c⟩ vs:=
 ⟨J,hc, .inr ⟨b,0,_,J,hg,fun i hi=>by rw[dR];exact DE h hi⟩⟩
section
variable {P:Program} {C:aC} {n:Nat} {fr:Fr} {own own':List aj} {G:Gh} {Φ:Act->World->Prop}
variable {dst:Option Nat} {ty':TypeId} {pos:String} {af:Array Edge} {gd:Option (Nat×Bool)} {x y:Operand} {tys:Array TypeId}
def zq{ops:Array Oper}{Q:Exit->Act->World->Prop}(own0:List aj)(fin:Nat->Bool)(π:List (Nat×Bool)){id:Nat}(hm:P.follows .mixedOrders=true)(ho:(oI ops fin π (Array.replicate ops.size false)&&Nat.ble π.length ops.size)=true)
  (h:St C n fr own G (fE P ops (fi Q) (HS C own0 G) fin π)):St C n fr own G ((Code.region id ops true).wp P Q):=by
 simp only[aL] at ho;intro a w rl;exact wp_mono (wp_region_any hm (Bz _ _ _ _ (x7 (fun _ _ _ _ _ h=>h) π _ a _ ho.1 (h a _ (rl.heap rl.h.drew)) _ (by simpa using ho.2)))) fi.imp
end
section
variable {P:Program} {ops:Array Oper} {Q:Exit->Act->World->Prop} {S:World->Prop} {fin:Nat->Bool} {π₂:List (Nat×Bool)}
def bD(l:List Nat)(k:Nat):List Nat:=l.filter fun j=>!Nat.beq j k
def FQ{l:List Nat}{k:Nat}(h:k∈l):(bD l k).length<l.length:=by
 unfold bD;rw[pZ];exact⟨k,h,by simp⟩
def y7(ops:Array Oper)(fin:Nat->Bool)(π₂:List (Nat×Bool)):Nat->List Nat->List (Nat×Bool)->Array Bool->Bool
 |0,_,_,_=>false
 |_+1,[],[],listed=>oI ops fin π₂ listed
 |n+1,k::ks,[],listed=>!(Region.ready .any ops listed).isEmpty&&(Region.ready .any ops listed).all (fun j=>(k::ks).contains j)&&(k::ks).all fun j=>y7 ops fin π₂ n (bD (k::ks) j) [] (listed.setIfInBounds j true)
 |n+1,ks,(i,true)::r,listed=>wT ops fin listed i&&y7 ops fin π₂ n ks r (listed.setIfInBounds i true)
 |n+1,ks,(i,false)::r,listed=>!(Region.ready .any ops listed).isEmpty&&(Region.ready .any ops listed).all (fun j=>Nat.beq j i||ks.contains j)&&y7 ops fin π₂ n ks r (listed.setIfInBounds i true)&&ks.all fun j=>y7 ops fin π₂ n (bD ks j) ((i,false)::r) (listed.setIfInBounds j true)
def yE(P:Program)(ops:Array Oper)(Q:Exit->Act->World->Prop)(S:World->Prop)(fin:Nat->Bool)(π₂:List (Nat×Bool)):List Nat->List (Nat×Bool)->Act->World->Prop
 |[],[],a,w=>fE P ops Q S fin π₂ a w
 |k::ks,[],a,w=> ∀j,(h:j∈k::ks)->wpOp P ops Q j (fun a' w'=>(fin j=true\/S w')/\yE P ops Q S fin π₂ (bD (k::ks) j) [] a' w') a w
 |ks,(i,true)::r,a,w=> ∃o v,ops[i]? =some o/\S w/\YieldsIf P ops S o v a/\yE P ops Q S fin π₂ ks r (a.put o.dst v) w
 |ks,(i,false)::r,a,w=>wpOp P ops Q i (fun a' w'=>(fin i=true\/S w')/\yE P ops Q S fin π₂ ks r a' w') a w/\
   ∀j,(h:j∈ks)->wpOp P ops Q j (fun a' w'=>(fin j=true\/S w')/\yE P ops Q S fin π₂ (bD ks j) ((i,false)::r) a' w') a w
termination_by ks π=>ks.length+π.length
decreasing_by
 all_goals (first|(have:=FQ h;simp only[bK,iU] at*;omega)|(simp only[bK];omega))
end
structure FD where
 k:Nat
 d:Nat
 t:TypeId
 z:Value
abbrev Fs:=Nat->Option Nat
def D3:List FD->Fs->Fr
 |[],_=>[]
 |f::r,fs=>fF f.d (fs f.k)++D3 r fs
def Fe:List FD->Fs->List aj
 |[],_=>[]
 |f::r,fs=>fO f.t f.z (fs f.k)++Fe r fs
def FZ(fd:List FD)(fs:Fs):List Nat:=(fd.filter fun f=>(fs f.k).isNone).map (·.k)
def aI2(fs:Fs)(k b:Nat):Fs:=fun j=>if j=k then some b else fs j
structure aIm (P:Program) (ops:Array Oper) (n:Nat) (fd:List FD):Prop where
 op: ∀f∈fd,∃ty' pos af,ops[f.k]? =some ⟨some f.d, .alloc f.t,ty',pos,af,none⟩/\b8 n (some f.d)=true
 z: ∀f∈fd,fP P f.t f.z
 nd:(fd.map (·.k)).Nodup
 dd: ∀f∈fd,∀g∈fd,f.d=g.d->f.k=g.k
section
variable {P:Program} {C:aC} {n:Nat} {fr:Fr} {own own0:List aj} {G G0:Gh} {ops:Array Oper} {Q:Exit->Act->World->Prop} {fin:Nat->Bool} {π π₂:List (Nat×Bool)} {fd:List FD}
def dwH(P:Program)(ops:Array Oper)(Q:Exit->Act->World->Prop)(S:World->Prop)(fin:Nat->Bool)(π₂:List (Nat×Bool))(fd:List FD)(fs:Fs)(π:List (Nat×Bool)):Act->World->Prop:=yE P ops Q S fin π₂ (FZ fd fs) π
end
def gI(s:Nat)(ty:TypeId)(x:SV)(vs:List Value)(B:List aj):Prop:=
 (vs=[]/\x=⟨none,0,0⟩/\B=[])\/
 ∃b rest lo,x=⟨some ⟨b,0,none⟩,vs.length,x.c⟩/\B=[⟨b,aB vs++rest,ty,lo⟩]/\(aB vs).length=vs.length*s/\(aB vs).length+rest.length=x.c*s/\vs.length<=x.c
def gI.nil(s:Nat)(ty:TypeId):gI s ty ⟨none,0,0⟩ [] []:= .inl ⟨J,J,J⟩
def gI.relo{s:Nat}{ty:TypeId}{x:SV}{vs:List Value}{B:List aj}(h:gI s ty x vs B)(fl:Nat->Bool):gI s ty x vs (B.map (Go.Sx.relo fl)):=by
 rcases h with⟨h1,h2,h3⟩|⟨b,rest,lo,h1,h2,h3,h4,h5⟩
 ·exact .inl ⟨h1,h2,by rw[h3];rfl⟩
 ·exact .inr ⟨b,rest,fl b,h1,by rw[h2];rfl,h3,h4,h5⟩
def gI.asB{s:Nat}{ty:TypeId}{x:SV}{vs:List Value}{B:List aj}(h:gI s ty x vs B):gI s ty x vs (asB B):=by
 rcases h with⟨h1,h2,h3⟩|⟨b,rest,lo,h1,h2,h3,h4,h5⟩
 ·exact .inl ⟨h1,h2,by rw[h3];rfl⟩
 ·exact .inr ⟨b,rest,false,h1,by rw[h2];rfl,h3,h4,h5⟩
def gI.len{s:Nat}{ty:TypeId}{x:SV}{vs:List Value}{B:List aj}(h:gI s ty x vs B):x.n=vs.length:=by
 rcases h with⟨h1,h2,h3⟩|⟨b,rest,lo,h1,h2,h3,h4,h5⟩
 ·rw[h2,h1];rfl
 ·rw[h1]
def WZ{M:List aj}{m:aj}(h:m∈M)(hl:m.lo=false):ij M m.b=false:=by
 refine List.all_eq_false.2 ⟨m,h,?_⟩;simp[hl]
def Ap{M:List aj}(b:Nat)(h: ∀m∈M,m.lo=true):ij M b=true:=by
 refine eY.2 fun m hm=>?_;simp[h m hm]
section
variable {P:Program} {C:aC} {n:Nat} {fr:Fr} {own own':List aj} {G:Gh} {Φ:Act->World->Prop}
variable {dst:Option Nat} {t t' ty':TypeId} {pos:String} {af:Array Edge} {gd:Option (Nat×Bool)} {x y:Operand} {e s by_:Nat}
def Y7[hT:ce P t e s by_][hN:jk P t']{z:Value}[hz:fP P e z]{w:SV}{vs:List Value}{v:Value}{B:List aj}(L:List aj){ad2:Option Addr}{cap2:Nat}
  (ho:own=L++B)(hB:gI s e w vs B)(hx:av fr x=some (.slice w.a w.n w.c))(hy:av fr y=some (.slice ad2 1 cap2))
  (hsy:ly P C own G s 1 (.slice ad2 1 cap2) (aD v))(hv:(aD v).length=s)(hf: ∀c∈aD v,flat c=true)
  (hby:0<by_)(hb:(vs.length+1)*by_<=140737488355328)(hzs:(aD z).length=s)(hd:b8 n dst=true)
  (h: ∀w' B',gI s e w' (vs++[v]) B'->St C n (put fr dst (.slice w'.a w'.n w'.c)) (L++B') G Φ):
  Ch P C n fr own G ⟨dst, .call ⟨.builtin .append, #[x,y], #[t,t']⟩,ty',pos,af,gd⟩ Φ:=by
 subst ho;rcases hB with⟨h1,h2,h3⟩|⟨b,rest,lo,h1,h2,h3,h4,h5⟩
 ·subst h1 h2 h3
  rw[iK] at hsy⊢;refine yy (z:=z) (xs:=[]) (ys:=aD v) hx hy (tu) hsy (by show 0<0+1;omega) hby (by simpa using hb) hd (fun b cap' hc=>?_);refine Bs (L++[⟨b,[]++aD v++cE z (cap'-(0+1)),e,true⟩]) ?_ (h ⟨some ⟨b,0,none⟩,1,cap'⟩ _ (.inr ⟨b,cE z (cap'-(0+1)),true,J,?_,?_,?_,by simpa using hc⟩))
  ·exact(lR (l₁:=[_]) (l₂:=L))
  ·simp[aB]
  ·simp[aB,hv]
  ·simp only[cV,t6,hv,ml,hzs]
   obtain⟨c,rfl⟩: ∃c,cap'=c+1:=⟨cap'-1,by have:0+1<=cap':=hc;omega⟩;rw[show c+1-(0+1)=c by omega,gQ,lX]
 ·have hwc:w.a=some ⟨b,0,none⟩/\w.n=vs.length:=by rw[h1];exact⟨J,J⟩
  rw[hwc.1,hwc.2] at hx;subst h2;have hsub:jg (L++[⟨b,aB vs++rest,e,lo⟩]) ⟨b,aB vs++rest,e,lo⟩ L:=by
   clear hsy h
   induction L with
   |nil=>exact .hd ..
   |cons a l ih=>exact .tl _ _ _ _ ih
  refine Md (z:=z) (xs:=aB vs) (ys:=aD v) (rest:=rest) hx hy hsub h3 h4 h5 hsy (by rw[hv,mY]) hf hby hb hzs hd (fun b' lo' cap' rest' hc hr=>?_);refine Bs (L++[⟨b',aB vs++aD v++rest',e,lo'⟩]) ?_ (h ⟨some ⟨b',0,none⟩,vs.length+1,cap'⟩ _ (.inr ⟨b',rest',lo',by simp,?_,?_,?_,by simpa using hc⟩))
  ·exact(lR (l₁:=[_]) (l₂:=L))
  ·rw[lG,t6]
  ·rw[lG,t6,aT,h3,hv,aT,rW,gQ]
  ·rw[lG,t6,aT,h3,hv]
   rw[gQ] at hr;show vs.length*s+s+rest'.length=cap'*s;omega
end
instance ju.nil (l:List aj):ju [] l:=⟨kZ l⟩
def EU{C:aC}{n:Nat}{fr:Fr}{own own':List aj}{G:Gh}{Φ:Act->World->Prop}(e:own=own')(h:St C n fr own' G Φ):St C n fr own G Φ:=e▸h
def Ho{P:Program}{C:aC}{n:Nat}{fr:Fr}{own:List aj}{G:Gh}{Φ:Act->World->Prop}{dst:Option Nat}{ty':TypeId}{pos:String}{af:Array Edge}{gd:Option (Nat×Bool)}{f:FuncId}{fo:Operand}{args:Array Operand}{tys:Array TypeId}{vs c1 c2:List Value}{M rest:List aj}{K:Value->List aj->Gh->Prop}(ho:av fr fo=some (.func (.func f) ⟨c1⟩ ⟨c2⟩))(hv:fy fr args.toList=some vs)
  (hp:own.Perm (M++rest))(hF:iq P f (c1++vs++c2) M G K)(hd:b8 n dst=true)
  (h: ∀v own1 (G':Gh) (fl:Nat->Bool),[GE G G']->(∀m∈M,m.lo=false->fl m.b=false)->((∀m∈M,m.lo=true)-> ∀b,fl b=true)->K v own1 G'->St C n (put fr dst v) (own1.map (relo fl)++rest) G' Φ):
  Ch P C n fr own G ⟨dst, .call ⟨.value fo,args,tys⟩,ty',pos,af,gd⟩ Φ:=
 Pp ho hv hp hF hd (fun v own1 G' _ hK=>h v own1 G' (ij M) (fun _ hm hl=>WZ hm hl) (fun hl b=>Ap b hl) hK)
def Ij{s:Nat}{rest:List Value}{x:Value}{j:Nat}(hj:j<s): ∀(vs:List Value) (n:Nat) (hn:n<vs.length),(∀v∈vs,(aD v).length=s)->
  (aB vs++rest).set (n*s+j) x=aB (vs.take n)++((aD vs[n]).set j x++(aB (vs.drop (n+1))++rest))
 |[],n,hn,_=>by simp at hn
 |v::vs,0,hn,h=>by
  have h2:=h v aQ;have e:aB (v::vs)=aD v++aB vs:=by simp[aB]
  rw[e,dQ,kW,dR,List.set_append_left _ _ (by omega)];simp[aB]
 |v::vs,n+1,hn,h=>by
  have h2:=h v aQ;have ih:=Ij (rest:=rest) (x:=x) hj vs n (by simpa using hn) (fun u hu=>h u (aZ _ hu));have e:aB (v::vs)=aD v++aB vs:=by simp[aB]
  rw[e,dQ,nZ _ _ (by rw[h2,gQ];omega),h2,show(n+1)*s+j-s=n*s+j by rw[gQ];omega,ih];simp[aB]
def QM{C:aC}{n:Nat}{fr:Fr}{L B:List aj}{G:Gh}{Φ:Act->World->Prop}{s:Nat}{ty:TypeId}{x:SV}{vs:List Value}(hC:C.mb=[])(hB:gI s ty x vs B)(hvs: ∀v∈vs,(aD v).length=s)
  (h: ∀G':Gh,[GE G G']->ee G' s x vs->St C n fr L G' Φ):St C n fr (L++B) G Φ:=by
 rcases hB with⟨h1,h2,h3⟩|⟨b,rest,lo,h1,h2,h3,h4,h5⟩
 ·subst h1 h2 h3
  rw[iK];exact @h G ⟨bz.refl _⟩ (ee.nil _ _)
 ·subst h2
  refine Bs (⟨b,aB vs++rest,ty,lo⟩::L) lR ?_;refine VZ hC ?_;refine oO b (.hd ..) ?_;intro G' hG hg;refine @h G' hG ?_;rw[h1];exact ee.of_flat hvs hg.h h5
inductive DV where
 |v (x:Value)
 |ag (l:List DV)
 |tp (l:List DV)
 |pt (l:List DV)
 |op (b:Bool) (l:List DV)
 |sl (l:List DV)
mutual
def Is(G:Gh):DV->Value->Prop
 | .v x,y=>y=x
 | .ag l,y=> ∃m,y= .agg ⟨m⟩/\IsLs G l m
 | .tp l,y=> ∃m,y= .tuple ⟨m⟩/\IsLs G l m
 | .pt l,y=> ∃b m,y= .pointer (some ⟨b,0,none⟩)/\G b=some m/\IsLs G l m
 | .op b l,y=>(b=false/\y= .pointer none)\/(b=true/\ ∃b m,y= .pointer (some ⟨b,0,none⟩)/\G b=some m/\IsLs G l m)
 | .sl l,y=> ∃(s:Nat) (x:SV) (es:List Value),y= .slice x.a x.n x.c/\ee G s x es/\IsLs G l es
def IsLs(G:Gh):List DV->List Value->Prop
 |[],m=>m=[]
 |d::t,m=> ∃y n,m=y::n/\Is G d y/\IsLs G t n
end
mutual
def Is.up'{A G:Gh}(h:bz A G): ∀(d:DV) (y:Value),Is A d y->Is G d y
 | .v x,y,k=>by simp only[Is] at k⊢;exact k
 | .ag l,y,k=>by simp only[Is] at k⊢;obtain⟨m,e,k⟩:=k;exact⟨m,e,IsLs.up' h l m k⟩
 | .tp l,y,k=>by simp only[Is] at k⊢;obtain⟨m,e,k⟩:=k;exact⟨m,e,IsLs.up' h l m k⟩
 | .pt l,y,k=>by simp only[Is] at k⊢;obtain⟨b,m,e,hb,k⟩:=k;exact⟨b,m,e,h _ _ hb,IsLs.up' h l m k⟩
 | .op _ l,y,k=>by simp only[Is] at k⊢;exact k.imp id fun⟨e1,b,m,e,hb,k⟩=>⟨e1,b,m,e,h _ _ hb,IsLs.up' h l m k⟩
 | .sl l,y,k=>by simp only[Is] at k⊢;obtain⟨s,x,es,e,hs,k⟩:=k;exact⟨s,x,es,e,hs.up' h,IsLs.up' h l es k⟩
def IsLs.up'{A G:Gh}(h:bz A G): ∀(d:List DV) (y:List Value),IsLs A d y->IsLs G d y
 |[],y,k=>by simp only[IsLs] at k⊢;exact k
 |d::t,y,k=>by simp only[IsLs] at k⊢;obtain⟨u,n,e,h1,h2⟩:=k;exact⟨u,n,e,Is.up' h d u h1,IsLs.up' h t n h2⟩
end
section
variable {G:Gh}
def Is.up{A:Gh}{d:DV}{y:Value}(k:Is A d y)(h:bz A G):Is G d y:=Is.up' h d y k
def IsLs.up{A:Gh}{d:List DV}{y:List Value}(k:IsLs A d y)(h:bz A G):IsLs G d y:=IsLs.up' h d y k
def aF{x y:Value}:Is G (.v x) y↔y=x:=by simp only[Is]
def cO{l:List DV}{y:Value}:Is G (.ag l) y↔ ∃m,y= .agg ⟨m⟩/\IsLs G l m:=by simp only[Is]
def je{l:List DV}{y:Value}:Is G (.tp l) y↔ ∃m,y= .tuple ⟨m⟩/\IsLs G l m:=by simp only[Is]
def nP{l:List DV}{y:Value}:Is G (.pt l) y↔ ∃b m,y= .pointer (some ⟨b,0,none⟩)/\G b=some m/\IsLs G l m:=by simp only[Is]
def rA{b:Bool}{l:List DV}{y:Value}:Is G (.op b l) y↔(b=false/\y= .pointer none)\/(b=true/\Is G (.pt l) y):=by simp only[Is]
def gG{l:List DV}{y:Value}:Is G (.sl l) y↔ ∃(s:Nat) (x:SV) (es:List Value),y= .slice x.a x.n x.c/\ee G s x es/\IsLs G l es:=by simp only[Is]
def cB{m:List Value}:IsLs G [] m↔m=[]:=by simp only[IsLs]
def aO{d:DV}{t:List DV}{m:List Value}:IsLs G (d::t) m↔ ∃y n,m=y::n/\Is G d y/\IsLs G t n:=by simp only[IsLs]
def IsLs.nil:IsLs G [] []:=cB.2 J
def IsLs.cons{d:DV}{t:List DV}{y:Value}{n:List Value}(h:Is G d y)(k:IsLs G t n):IsLs G (d::t) (y::n):=aO.2 ⟨y,n,J,h,k⟩
def IsLs.uncons{d:DV}{t:List DV}{y:Value}{n:List Value}(h:IsLs G (d::t) (y::n)):Is G d y/\IsLs G t n:=by
 obtain⟨u,m,e,h1,h2⟩:=aO.1 h
 cases e
 exact⟨h1,h2⟩
def IsLs.len: ∀{d:List DV} {m:List Value},IsLs G d m->m.length=d.length
 |[],m,h=>by rw[cB.1 h];rfl
 |d::t,m,h=>by
  obtain⟨y,n,rfl,_,h2⟩:=aO.1 h;simp[h2.len]
def IsLs.get: ∀{l:List DV} {m:List Value} {i:Nat} {d:DV},IsLs G l m->l[i]? =some d-> ∃y,m[i]? =some y/\Is G d y
 |[],m,i,d,h,e=>by simp at e
 |x::t,m,0,d,h,e=>by
  obtain⟨y,n,rfl,h1,h2⟩:=aO.1 h;simp at e;subst e;exact⟨y,J,h1⟩
 |x::t,m,i+1,d,h,e=>by
  obtain⟨y,n,rfl,h1,h2⟩:=aO.1 h;simp at e;simpa using h2.get e
def IsLs.app: ∀{a b:List DV} {m n:List Value},IsLs G a m->IsLs G b n->IsLs G (a++b) (m++n)
 |[],b,m,n,h,k=>by rw[cB.1 h];exact k
 |d::t,b,m,n,h,k=>by
  obtain⟨y,m',rfl,h1,h2⟩:=aO.1 h;exact .cons h1 (h2.app k)
def IsLs.unapp: ∀{a b:List DV} {m:List Value},IsLs G (a++b) m-> ∃x y,m=x++y/\IsLs G a x/\IsLs G b y
 |[],b,m,h=>⟨[],m,J, .nil,h⟩
 |d::t,b,m,h=>by
  obtain⟨y,m',rfl,h1,h2⟩:=aO.1 h;obtain⟨u,v,rfl,h3,h4⟩:=h2.unapp;exact⟨y::u,v,J, .cons h1 h3,h4⟩
def IsLs.drop: ∀{a:List DV} {m:List Value} (k:Nat),IsLs G a m->IsLs G (a.drop k) (m.drop k)
 |_,_,0,h=>h
 |[],m,k+1,h=>by rw[cB.1 h];exact .nil
 |d::t,m,k+1,h=>by
  obtain⟨y,m',rfl,h1,h2⟩:=aO.1 h;exact h2.drop k
def IsLs.take: ∀{a:List DV} {m:List Value} (k:Nat),IsLs G a m->IsLs G (a.take k) (m.take k)
 |_,_,0,h=> .nil
 |[],m,k+1,h=>by rw[cB.1 h];exact .nil
 |d::t,m,k+1,h=>by
  obtain⟨y,m',rfl,h1,h2⟩:=aO.1 h;exact .cons h1 (h2.take k)
def IsLs.set: ∀{a:List DV} {m:List Value} (k:Nat) {d:DV} {y:Value},IsLs G a m->Is G d y->IsLs G (a.set k d) (m.set k y)
 |[],m,k,d,y,h,_=>by rw[cB.1 h];exact .nil
 |x::t,m,0,d,y,h,k=>by
  obtain⟨u,m',rfl,h1,h2⟩:=aO.1 h;exact .cons k h2
 |x::t,m,j+1,d,y,h,k=>by
  obtain⟨u,m',rfl,h1,h2⟩:=aO.1 h;exact .cons h1 (h2.set j k)
end
def DV.flat:DV->Bool
 | .v x=>Go.Sx.flat x
 | .ag _=>false
 | .tp _=>false
 | .pt _=>true
 | .op .. =>true
 | .sl .. =>true
def DV.okc:DV->Bool
 | .ag l=>l.all DV.flat
 |d=>d.flat
def DV.cells:DV->List DV
 | .ag l=>l
 |d=>[d]
section
variable {G:Gh}
def Is.flat{d:DV}{y:Value}(h:Is G d y)(k:d.flat=true):Go.Sx.flat y=true:=by
 cases d with
 |v x=>rw[aF.1 h];exact k
 |ag l=>cases k
 |tp l=>cases k
 |pt l=>obtain⟨b,m,rfl,_⟩:=nP.1 h;rfl
 |op b l=>
  rcases rA.1 h with⟨_,rfl⟩|⟨_,h⟩
  ·rfl
  ·obtain⟨b,m,rfl,_⟩:=nP.1 h;rfl
 |sl l=>obtain⟨s,x,es,rfl,_⟩:=gG.1 h;rfl
def yp{y:Value}(h:Go.Sx.flat y=true):aD y=[y]:=by cases y<;>first|rfl|(simp[Go.Sx.flat] at h)
def IsLs.flat: ∀{l:List DV} {m:List Value},IsLs G l m->l.all DV.flat=true-> ∀v∈m,Go.Sx.flat v=true
 |[],m,h,_,v,hv=>by rw[cB.1 h] at hv;cases hv
 |d::t,m,h,k,v,hv=>by
  obtain⟨y,n,rfl,h1,h2⟩:=aO.1 h;simp only[List.all_cons,aL] at k;rcases aU.1 hv with rfl|hv
  ·exact h1.flat k.1
  ·exact h2.flat k.2 v hv
def Is.cells{d:DV}{y:Value}(h:Is G d y)(k:d.okc=true):IsLs G d.cells (aD y)/\ ∀v∈aD y,Go.Sx.flat v=true:=by
 cases d with
 |ag l=>obtain⟨m,rfl,hm⟩:=cO.1 h;exact⟨hm,hm.flat k⟩
 |_=>
  have:=h.flat k;rw[yp this];exact⟨.cons h .nil,fun v hv=>by rw[aV.1 hv];exact this⟩
end
def takeD:List DV->Nat->Nat->Option (List DV)
 |_,0,0=>some []
 |[],0,_+1=>none
 |v::t,0,k+1=>match takeD t 0 k with|some l=>some (v::l)|none=>none
 |[],_+1,_=>none
 |_::t,off+1,k=>takeD t off k
def yc:List DV->Nat->List DV->List DV
 |cs,_,[]=>cs
 |cs,off,v::vs=>yc (cs.set off v) (off+1) vs
section
variable {G:Gh}
def IsLs.takeD: ∀{ds:List DV} {m:List Value} {off k:Nat} {l:List DV},IsLs G ds m->takeD ds off k=some l-> ∃n,cx m off k=some n/\IsLs G l n
 |[],m,0,0,l,h,e=>by rw[cB.1 h];simp only[Sx.takeD] at e;cases e;exact⟨[],J, .nil⟩
 |d::t,m,0,0,l,h,e=>by
  obtain⟨y,m',rfl,h1,h2⟩:=aO.1 h;simp only[Sx.takeD] at e;cases e;exact⟨[],J, .nil⟩
 |[],m,0,k+1,l,h,e=>by simp[Sx.takeD] at e
 |d::t,m,0,k+1,l,h,e=>by
  obtain⟨y,m',rfl,h1,h2⟩:=aO.1 h;simp only[Sx.takeD] at e;split at e
  ·rename_i l' hl'
   cases e
   obtain⟨n,hn,hl⟩:=h2.takeD hl';exact⟨y::n,by simp only[cx,hn], .cons h1 hl⟩
  ·cases e
 |[],m,off+1,k,l,h,e=>by simp[Sx.takeD] at e
 |d::t,m,off+1,k,l,h,e=>by
  obtain⟨y,m',rfl,h1,h2⟩:=aO.1 h;exact h2.takeD (off:=off) (k:=k) e
def IsLs.ov: ∀{vs ds:List DV} {n m:List Value} {off:Nat},IsLs G ds m->IsLs G vs n->IsLs G (yc ds off vs) (co m off n)
 |[],ds,n,m,off,h,k=>by rw[cB.1 k];exact h
 |v::vs,ds,n,m,off,h,k=>by
  obtain⟨y,n',rfl,h1,h2⟩:=aO.1 k;exact(h.set off h1).ov h2
end
inductive FV where
 |d (x:DV)
 /-- a pointer to cells that are written no more -/
 |ep (l:List DV)
 /-- a pointer to a cell of element i of a row of the call's own -/
 |be (x:SV) (s i j:Nat)
 /-- a slice bD room behind it -/
 |ct (l:List DV)
abbrev d5:=List (Nat×FV)
def OM(G:Gh):FV->Value->Prop
 | .d x,y=>Is G x y
 | .ep l,y=> ∃b off cs m,y= .pointer (some ⟨b,off,none⟩)/\G b=some cs/\cx cs off l.length=some m/\IsLs G l m
 | .be x s i j,y=> ∃b,x.a=some ⟨b,0,none⟩/\y= .pointer (some ⟨b,i*s+j,none⟩)
 | .ct l,y=>(∃a n,y= .slice a n n)/\Is G (.sl l) y
def u7:d5->Nat->Option FV
 |[],_=>none
 |(k,v)::t,j=>bif Nat.beq k j then some v else u7 t j
def aIv(fr:d5)(dst:Option Nat)(v:FV):d5:=match dst with|some d=>(d,v)::fr|none=>fr
def zI(G:Gh):d5->Fr->Prop
 |[],m=>m=[]
 |(k,f)::t,m=> ∃y n,m=(k,y)::n/\OM G f y/\zI G t n
def Hx(fr:d5):Operand->Option FV
 | .tmp k=>u7 fr k
 | .const v=>some (.d (.v v))
 | .global g=>some (.d (.v (.pointer (some ⟨g,0,none⟩))))
 | .func f=>some (.d (.v (.func (.func f) #[] #[])))
def Lb:FV->Option DV
 | .d (.v (.slice none 0 0))=>some (.sl [])
 | .d d=>some d
 | .ct l=>some (.sl l)
 |_=>none
def Bo(fr:d5)(x:Operand):Option DV:=(Hx fr x).bind Lb
def WI(fr:d5):List Operand->Option (List DV)
 |[]=>some []
 |x::t=>match Bo fr x,WI fr t with
  |some d,some l=>some (d::l)
  |_,_=>none
structure c9 where
 b:Nat
 cs:List DV
 ty:TypeId
 lo:Bool
structure dE where
 x:SV
 s:Nat
 ty:TypeId
 ds:List DV
 lo:Bool
class uX (own:List c9) (b:Nat) (cs:outParam (List DV)) (ty:outParam TypeId) (lo:outParam Bool):Prop where
 mem:⟨b,cs,ty,lo⟩∈own
instance uX.i1 (b:Nat) (cs:List DV) (ty:TypeId) (lo:Bool) (t:List c9):uX (⟨b,cs,ty,lo⟩::t) b cs ty lo:=⟨aQ⟩
instance uX.i2 (o:c9) (t:List c9) (b:Nat) (cs:List DV) (ty:TypeId) (lo:Bool) [h:uX t b cs ty lo]:uX (o::t) b cs ty lo:=⟨aZ _ h.mem⟩
class yM (bs:List dE) (x:SV) (s:outParam Nat) (ty:outParam TypeId) (ds:outParam (List DV)) (lo:outParam Bool):Prop where
 mem:⟨x,s,ty,ds,lo⟩∈bs
instance yM.i1 (x:SV) (s:Nat) (ty:TypeId) (ds:List DV) (lo:Bool) (t:List dE):yM (⟨x,s,ty,ds,lo⟩::t) x s ty ds lo:=⟨aQ⟩
instance yM.i2 (o:dE) (t:List dE) (x:SV) (s:Nat) (ty:TypeId) (ds:List DV) (lo:Bool) [h:yM t x s ty ds lo]:yM (o::t) x s ty ds lo:=⟨aZ _ h.mem⟩
def NZ(G:Gh):List c9->List aj->Prop
 |[],m=>m=[]
 |o::t,m=> ∃cs n,m=⟨o.b,cs,o.ty,o.lo⟩::n/\IsLs G o.cs cs/\NZ G t n
def de(G:Gh)(β:dE)(B:List aj):Prop:=
 ∃vs,gI β.s β.ty β.x vs B/\IsLs G β.ds vs/\(∀v∈vs,(aD v).length=β.s)/\(β.lo=true-> ∀o∈B,o.lo=true)
def ME(G:Gh):List dE->List aj->Prop
 |[],m=>m=[]
 |β::t,m=> ∃B n,m=B++n/\de G β B/\ME G t n
def OB(G:Gh)(own:List c9)(bs:List dE)(ov:List aj):Prop:= ∃a b,ov=a++b/\NZ G own a/\ME G bs b
structure Sr (GB G:Gh) (fr:d5) (own:List c9) (bs:List dE) (frv:Fr) (ov:List aj):Prop where
 gb:bz GB G
 fr:zI G fr frv
 ob:OB G own bs ov
structure ot where
 fr:Fr
 own:List aj
def E0:ot:=⟨[],[]⟩
structure SD (GB:Gh) (C:aC) (n:Nat) (E:ot) (fr:d5) (own:List c9) (bs:List dE) (Φ:Act->World->Prop):Prop where
 run: ∀G frv ov,Sr GB G fr own bs frv ov->St C n (frv++E.fr) (ov++E.own) G Φ
instance {GB:Gh} {C:aC} {n:Nat} {E:ot} {fr:d5} {own:List c9} {bs:List dE} {Φ:Act->World->Prop}:CoeFun (SD GB C n E fr own bs Φ) (fun _=> ∀G frv ov,Sr GB G fr own bs frv ov->St C n (frv++E.fr) (ov++E.own) G Φ):=⟨SD.run⟩
def YD(P:Program)(GB:Gh)(C:aC)(fr:d5)(own:List c9)(bs:List dE)(o:Oper)(f:FV):Prop:=
 ∀G frv ov,Sr GB G fr own bs frv ov-> ∃y,OM G f y/\ ∀G',bz G G'->Yd P C frv ov G' o y
def CD(P:Program)(GB:Gh)(C:aC)(n:Nat)(E:ot)(fr:d5)(own:List c9)(bs:List dE)(o:Oper)(Φ:Act->World->Prop):Prop:=
 ∀G frv ov,Sr GB G fr own bs frv ov->Ch P C n (frv++E.fr) (ov++E.own) G o Φ
def TD(P:Program)(GB:Gh)(C:aC)(n:Nat)(fr:d5)(own:List c9)(bs:List dE)(o:Oper)(fr':d5)(own':List c9)(bs':List dE):Prop:=
 ∀(GB':Gh) (E:ot) (Φ:Act->World->Prop),bz GB GB'->SD GB' C n E fr' own' bs' Φ->CD P GB' C n E fr own bs o Φ
def TF(P:Program)(GB:Gh)(C:aC)(n:Nat)(fr:d5)(own:List c9)(bs:List dE)(o:Oper)(ι:Type)(fr':ι->d5)(own':ι->List c9)(bs':ι->List dE):Prop:=
 ∀(GB':Gh) (E:ot) (Φ:Act->World->Prop),bz GB GB'->(∀x,SD GB' C n E (fr' x) (own' x) (bs' x) Φ)->CD P GB' C n E fr own bs o Φ
section
variable {P:Program} {GB:Gh} {C:aC} {n:Nat} {E:ot} {fr fr':d5} {own own':List c9} {bs bs':List dE} {ops:Array Oper} {Q:Exit->Act->World->Prop} {r:List Oper} {Φ:Act->World->Prop}
def aIP(P:Program)(y:Code)(Q:Exit->Act->World->Prop):Exit->Act->World->Prop:=Exit.then (y.wp P Q) Q
def aH6(fr' fr:d5):Prop:= ∀e∈fr',u7 fr e.1=some e.2
def aF9(GB:Gh)(C:aC)(n:Nat){X:Type}(F:X->d5)(O:X->List c9)(B:X->List dE)(I:X->Prop)(μ:X->Nat)(m:Nat)(a:Act)(w:World):Prop:=
 ∃x G frv ov,I x/\μ x<m/\Sr GB G (F x) (O x) (B x) frv ov/\f5 C n frv ov G a w
def AtD(GB:Gh)(C:aC)(n:Nat){X:Type}(F:X->d5)(O:X->List c9)(B:X->List dE)(I:X->Prop)(a:Act)(w:World):Prop:=
 ∃x G frv ov,I x/\Sr GB G (F x) (O x) (B x) frv ov/\f5 C n frv ov G a w
def PF(GB:Gh)(P:Program)(f:FuncId)(ds:List DV)(r:DV):Prop:=
 ∀G vs,bz GB G->IsLs G ds vs->Fn P f vs G (fun v G'=>Is G' r v)
def PM(GB:Gh)(P:Program)(f:FuncId)(ds:List DV)(b:Nat)(ty:TypeId)(cs:List DV)(r:DV)(cs':List DV):Prop:=
 ∀G vs m lo,bz GB G->IsLs G ds vs->IsLs G cs m->jn P f vs [⟨b,m,ty,lo⟩] G (fun v css G'=>Is G' r v/\ ∃m',css=[m']/\IsLs G' cs' m')
def TB:Nat->List DV->d5
 |_,[]=>[]
 |i,v::t=>(i, .d v)::TB (i+1) t
inductive uP (P:Program) (fr:d5) (own:List c9):List ResultVar->List DV->Prop
 |nil:uP P fr own [] []
 |tmp {t:Nat} {v:DV} {rs:List ResultVar} {vs:List DV} (h:(u7 fr t).bind Lb=some v) (k:uP P fr own rs vs):uP P fr own (.tmp t::rs) (v::vs)
 |agg {a b k:Nat} {t:TypeId} {cs l:List DV} {ty:TypeId} {lo:Bool} {rs:List ResultVar} {vs:List DV} (h:u7 fr a=some (.d (.v (.pointer (some ⟨b,0,none⟩))))) (ho:uX own b cs ty lo) (ht:kv P t k) (hl:takeD cs 0 k=some l) (h2:uP P fr own rs vs):
   uP P fr own (.cell a t::rs) (.ag l::vs)
 |sc {a b:Nat} {t:TypeId} {cs:List DV} {v:DV} {ty:TypeId} {lo:Bool} {rs:List ResultVar} {vs:List DV} (h:u7 fr a=some (.d (.v (.pointer (some ⟨b,0,none⟩))))) (ho:uX own b cs ty lo) (ht:gE P t) (hl:cs[0]? =some v) (h2:uP P fr own rs vs):
   uP P fr own (.cell a t::rs) (v::vs)
def iw:List DV->DV
 |[d]=>d
 |l=> .tp l
def xK{G:Gh}{ds:List DV}{vs:List Value}(h:IsLs G ds vs):Is G (iw ds) (gu vs):=by
 match ds,h with
 |[],h=>rw[cB.1 h];exact je.2 ⟨[],J, .nil⟩
 |[d],h=>
  obtain⟨y,m,rfl,h1,h2⟩:=aO.1 h;rw[cB.1 h2];exact h1
 |a::b::t,h=>
  obtain⟨y,m,rfl,h1,h2⟩:=aO.1 h;obtain⟨z,m',rfl,h3,h4⟩:=aO.1 h2;exact je.2 ⟨_,J,h⟩
end
def z6{cs l:List Value}{o k:Nat}(h:cx cs o k=some l):l.length=k:=(ph _ _ _ _ h).1
def A0: ∀{cs m:List Value} {o k:Nat},cx cs o k=some m-> ∀{d:Nat},d<=k->cx cs (o+d) (k-d)=some (m.drop d)
 |cs,m,o,k,h,0,_=>by simpa using h
 |[],m,0,0,h,d+1,hd=>by omega
 |v::t,m,0,0,h,d+1,hd=>by omega
 |[],m,0,k+1,h,d+1,hd=>by simp[cx] at h
 |v::t,m,0,k+1,h,d+1,hd=>by
  simp only[cx] at h;split at h
  ·rename_i l hl
   cases h
   have:=A0 hl (d:=d) (by omega);rw[dR] at this;rw[dR,Nat.add_sub_add_right,sV];exact this
  ·cases h
 |[],m,o+1,k,h,d+1,hd=>by simp[cx] at h
 |v::t,m,o+1,k,h,d+1,hd=>by
  simp only[cx] at h;have:=A0 h (d:=d+1) hd;rw[show o+1+(d+1)=(o+(d+1))+1 by omega];exact this
def Hb: ∀{cs m:List Value} {o k:Nat},cx cs o k=some m-> ∀{j:Nat},j<=k->cx cs o j=some (m.take j)
 |cs,m,0,k,h,0,_=>by cases cs<;>rfl
 |[],m,0,0,h,j+1,hd=>by omega
 |v::t,m,0,0,h,j+1,hd=>by omega
 |[],m,0,k+1,h,j+1,hd=>by simp[cx] at h
 |v::t,m,0,k+1,h,j+1,hd=>by
  simp only[cx] at h;split at h
  ·rename_i l hl
   cases h
   have:=Hb hl (j:=j) (by omega);simp[cx,this]
  ·cases h
 |[],m,o+1,k,h,j,hd=>by simp[cx] at h
 |v::t,m,o+1,k,h,j,hd=>by
  simp only[cx] at h⊢;exact Hb h hd
def y8{m l:List Value}{j k:Nat}(h:cx m j k=some l):j+k<=m.length/\l=(m.drop j).take k:=by
 obtain⟨h1,h2⟩:=ph _ _ _ _ h;have hle:j<=m.length:=by
  clear h1 h2
  induction m generalizing j with
  |nil=>cases j with
   |zero=>exact aN _
   |succ j=>simp[cx] at h
  |cons v t ih=>cases j with
   |zero=>exact cJ _
   |succ j=>have:=ih (j:=j) h;simp;omega
 have hlen:j+k<=m.length:=by
  rcases fW k with h0|h0
  ·omega
  ·have h3:=h2 (k-1) (by omega)
   rw[aX (by omega:k-1<l.length)] at h3;have:=(aS.1 h3).1;omega
 rw[lh _ _ _ hlen] at h
 cases h
 exact⟨hlen,J⟩
def HJ{cs m l:List Value}{o s j k:Nat}(h:cx cs o s=some m)(hm:cx m j k=some l):cx cs (o+j) k=some l:=by
 obtain⟨h1,rfl⟩:=y8 hm;have hl:=z6 h;have h2:=A0 h (d:=j) (by omega);exact Hb h2 (j:=k) (by omega)
def Z0{cs:List Value}{o:Nat}{v:Value}:cx cs o 1=some [v]↔cs[o]? =some v:=by
 constructor
 ·intro h
  obtain⟨_,h2⟩:=ph _ _ _ _ h;simpa using h2 0 (by omega)
 ·intro h
  obtain⟨h1,h2⟩:=aS.1 h;rw[lh _ _ _ (by omega),cX h1,nM,h2];rfl
def KT{m l:List Value}{j k i:Nat}(h:cx m j k=some l)(hi:i<k):m[j+i]? =l[i]? :=(ph _ _ _ _ h).2 i hi
inductive Fm:List c9->Nat->List DV->TypeId->Bool->List DV->List c9->Prop
 |hd (b:Nat) (cs cs':List DV) (ty:TypeId) (lo:Bool) (t:List c9):Fm (⟨b,cs,ty,lo⟩::t) b cs ty lo cs' (⟨b,cs',ty,lo⟩::t)
 |tl (o:c9) (t t':List c9) (b:Nat) (cs cs':List DV) (ty:TypeId) (lo:Bool) (h:Fm t b cs ty lo cs' t'):Fm (o::t) b cs ty lo cs' (o::t')
inductive Gs:List c9->Nat->List DV->TypeId->Bool->List c9->Prop
 |hd (b:Nat) (cs:List DV) (ty:TypeId) (lo:Bool) (t:List c9):Gs (⟨b,cs,ty,lo⟩::t) b cs ty lo t
 |tl (o:c9) (t t':List c9) (b:Nat) (cs:List DV) (ty:TypeId) (lo:Bool) (h:Gs t b cs ty lo t'):Gs (o::t) b cs ty lo (o::t')
inductive F':List dE->dE->List dE->Prop
 |hd (β:dE) (t:List dE):F' (β::t) β t
 |tl (o:dE) (t t':List dE) (β:dE) (h:F' t β t'):F' (o::t) β (o::t')
section
variable {P:Program} {GB:Gh} {C:aC} {n:Nat} {E:ot} {fr fr':d5} {own own':List c9} {bs bs':List dE} {ops:Array Oper} {Q:Exit->Act->World->Prop} {r:List Oper} {Φ:Act->World->Prop}
variable {dst:Option Nat} {t t' ty':TypeId} {pos:String} {af:Array Edge} {gd:Option (Nat×Bool)} {x y z:Operand} {e s by_:Nat}
def de.elem{G:Gh}{β:dE}{B:List aj}(h:de G β B){i:Nat}{d:DV}(hi:β.ds[i]? =some d)(hd:d.okc=true):
  ∃b m rest lo l,β.x.a=some ⟨b,0,none⟩/\B=[⟨b,m++rest,β.ty,lo⟩]/\cx (m++rest) (i*β.s) β.s=some l/\IsLs G d.cells l:=by
 obtain⟨vs,hB,hv,hs,_⟩:=h;obtain⟨v,h1,h2⟩:=hv.get hi;rcases hB with⟨e,_,_⟩|⟨b,rest,lo,h3,h4,h5,h6,h7⟩
 ·rw[e] at h1;simp at h1
 ·obtain⟨h8,h9⟩:=aS.1 h1
  refine⟨b,aB vs,rest,lo,aD v,by rw[h3],h4,?_,(h2.cells hd).1⟩;have:=DE (rest:=rest) hs h8;rw[h9] at this;exact this
def Ue(fr:d5)(offs:List (Nat×Nat)):List DV->List (Nat×Operand)->Option (List DV)
 |cs,[]=>some cs
 |cs,(i,x)::r=>match offs[i]?,Bo fr x with
  |some (off,k),some d=>bif d.okc&&(Nat.beq d.cells.length k&&Nat.ble (off+k) cs.length) then Ue fr offs (yc cs off d.cells) r else none
  |_,_=>none
class aI4 (P:Program) (t:TypeId) (z:outParam Value) (cs:outParam (List DV)):Prop where
 tz:fP P t z
 iz:IsLs (fun _=>none) cs (aD z)
def IsLs.all{G:Gh}: ∀{l:List DV} {m:List Value},IsLs G l m-> ∀v∈m,∃d∈l,Is G d v
 |[],m,h,v,hv=>by rw[cB.1 h] at hv;cases hv
 |d::t,m,h,v,hv=>by
  obtain⟨y,n,rfl,h1,h2⟩:=aO.1 h;rcases aU.1 hv with rfl|hv
  ·exact⟨d,aQ,h1⟩
  ·obtain⟨d',hd,h3⟩:=h2.all v hv
   exact⟨d',aZ _ hd,h3⟩
def ee.sub{G:Gh}{s:Nat}{x:SV}{es:List Value}(h:ee G s x es)(lo hi mx:Nat)(h1:lo<=hi)(h2:hi<=es.length)(h3:hi<=mx)(_h4:mx<=x.c):
  ee G s ⟨if mx=lo then x.a else x.a.map (·.add (lo*s)),hi-lo,mx-lo⟩ ((es.take hi).drop lo):=by
 refine⟨by simp;omega,by simp only[];omega,?_⟩;rcases h.mem with h0|⟨b,off,cs,ha,hg,hc⟩
 ·left;simp[h0]
 ·by_cases he:hi=lo
  ·left;simp[he]
  ·right
   refine⟨b,off+lo*s,cs,?_,hg,fun i hi'=>?_⟩
   ·simp only[]
    rw[if_neg (by omega),ha];simp[n7]
   ·simp only[gN,cK] at hi'
    have:=hc (lo+i) (by omega);rw[kN,<-cY,this];simp
def fm(s:Nat)(l:List DV):Prop:= ∀d∈l,d.okc=true/\d.cells.length=s
def zh{G:Gh}{l:List DV}{s' s:Nat}{w:SV}{es:List Value}(hsl:ee G s' w es)(hl:IsLs G l es)(ho:fm s l):es=[]\/s'=s:=by
 rcases hsl.mem with h|⟨b,off,cs,ha,hg,hcs⟩
 ·exact .inl h
 ·cases es with
  |nil=>exact .inl J
  |cons v t=>
   right;have h1:=hcs 0 (by simp);have h2:=z6 h1;obtain⟨d,hd,h3⟩:=hl.all v aQ;obtain⟨h4,h5⟩:=ho d hd;have:=(h3.cells h4).1.len;simp only[List.getElem_cons_zero] at h2;omega
end
section
variable {P:Program} {GB:Gh} {C:aC} {n:Nat} {E:ot} {fr:d5} {own:List c9} {bs:List dE} {ops:Array Oper} {Q:Exit->Act->World->Prop} {r:List Oper} {dst:Option Nat} {ty':TypeId} {pos:String} {af:Array Edge} {x:Operand}
end
inductive FX where
 |d (x:DV)
 /-- a pointer to cells that are written no more -/
 |ep (l:List DV)
 /-- a pointer into a variable -/
 |ov (nm off:Nat)
 /-- a row -/
 |rw(nm:Nat)
 /-- a pointer into element i of a row -/
 |be (nm s i j:Nat)
 /-- a slice of n elements of a row, from element off on -/
 |rs (nm s off n:Nat)
 /-- a slice bD room behind it -/
 |ct (l:List DV)
 |tt
 |ff
 |pr (p:Prop) (h:Decidable p)
 |nl
 /-- an aggregate (or a tuple) with one row in it -/
 |bx (tp:Bool) (pre:List DV) (nm:Nat) (post:List DV)
 |un
 /-- nothing is known -/
 |no
abbrev NE:=Nat->SV
def b7(ρ:NE)(G:Gh):FX->Value->Prop
 | .d x,y=>Is G x y
 | .ep l,y=> ∃b off cs m,y= .pointer (some ⟨b,off,none⟩)/\G b=some cs/\cx cs off l.length=some m/\IsLs G l m
 | .ov nm off,y=> ∃b,(ρ nm).a=some ⟨b,0,none⟩/\y= .pointer (some ⟨b,off,none⟩)
 | .rw nm,y=>y= .slice (ρ nm).a (ρ nm).n (ρ nm).c
 | .be nm s i j,y=> ∃b,(ρ nm).a=some ⟨b,0,none⟩/\y= .pointer (some ⟨b,i*s+j,none⟩)
 | .rs nm s off n,y=> ∃b c,(ρ nm).a=some ⟨b,0,none⟩/\y= .slice (some ⟨b,off*s,none⟩) n c/\n<=c
 | .ct l,y=>(∃a n,y= .slice a n n)/\Is G (.sl l) y
 | .tt,y=>y= .bool true
 | .ff,y=>y= .bool false
 | .pr p h,y=>y= .bool (@decide p h)
 | .nl,y=>y= .slice none 0 0
 | .bx tp pre nm post,y=> ∃m1 m2,y=(bif tp then Value.tuple ⟨m1++Value.slice (ρ nm).a (ρ nm).n (ρ nm).c::m2⟩ else .agg ⟨m1++Value.slice (ρ nm).a (ρ nm).n (ρ nm).c::m2⟩)/\IsLs G pre m1/\IsLs G post m2
 | .un,y=>y=undef
 | .no,_=>True
def dw(ρ:NE)(G:Gh):List FX->List Value->Prop
 |[],m=>m=[]
 |f::t,m=> ∃y n,m=y::n/\b7 ρ G f y/\dw ρ G t n
def FX.nm:FX->Option Nat
 | .ov n _=>some n
 | .rw n=>some n
 | .be n _ _ _=>some n
 | .rs n _ _ _=>some n
 | .bx _ _ n _=>some n
 |_=>none
section
variable {ρ:NE} {G:Gh}
def b7.up{A:Gh}{f:FX}{y:Value}(h:b7 ρ A f y)(k:bz A G):b7 ρ G f y:=by
 cases f with
 |d x=>exact Is.up h k
 |ep l=>obtain⟨b,off,cs,m,e,hb,ht,hl⟩:=h;exact⟨b,off,cs,m,e,k _ _ hb,ht,hl.up k⟩
 |ct l=>exact⟨h.1,h.2.up k⟩
 |bx tp pre nm post=>obtain⟨m1,m2,e,h1,h2⟩:=h;exact⟨m1,m2,e,h1.up k,h2.up k⟩
 |_=>exact h
def b7.ren{ρ':NE}{f:FX}{y:Value}(h:b7 ρ G f y)(k: ∀n,f.nm=some n->ρ' n=ρ n):b7 ρ' G f y:=by
 cases f with
 |ov n o=>have e:=k n J;simp only[b7] at h⊢;rw[e];exact h
 |rw n=>have e:=k n J;simp only[b7] at h⊢;rw[e];exact h
 |be n s i j=>have e:=k n J;simp only[b7] at h⊢;rw[e];exact h
 |rs n s i j=>have e:=k n J;simp only[b7] at h⊢;rw[e];exact h
 |bx tp pre n post=>have e:=k n J;simp only[b7] at h⊢;rw[e];exact h
 |_=>exact h
def dw.up{A:Gh}(k:bz A G): ∀{l:List FX} {m:List Value},dw ρ A l m->dw ρ G l m
 |[],_,h=>h
 |_::_,_,⟨y,n,e,h1,h2⟩=>⟨y,n,e,h1.up k,h2.up k⟩
def dw.ren{ρ':NE}: ∀{l:List FX} {m:List Value},dw ρ G l m->(∀f∈l,∀n,f.nm=some n->ρ' n=ρ n)->dw ρ' G l m
 |[],_,h,_=>h
 |f::t,_,⟨y,n,e,h1,h2⟩,k=>⟨y,n,e,h1.ren (k f aQ),h2.ren fun g hg=>k g (aZ _ hg)⟩
def dw.len: ∀{l:List FX} {m:List Value},dw ρ G l m->m.length=l.length
 |[],m,h=>by rw[show m=[] from h];rfl
 |f::t,m,⟨y,n,e,h1,h2⟩=>by subst e;simp[h2.len]
def dw.get: ∀{l:List FX} {m:List Value} {i:Nat} {f:FX},dw ρ G l m->l[i]? =some f-> ∃y,m[i]? =some y/\b7 ρ G f y
 |[],m,i,f,h,e=>by simp at e
 |x::t,m,0,f,⟨y,n,e1,h1,h2⟩,e=>by subst e1;simp at e;subst e;exact⟨y,J,h1⟩
 |x::t,m,i+1,f,⟨y,n,e1,h1,h2⟩,e=>by subst e1;simp at e;simpa using h2.get e
def dw.set: ∀{a:List FX} {m:List Value} (k:Nat) {f:FX} {y:Value},dw ρ G a m->b7 ρ G f y->dw ρ G (a.set k f) (m.set k y)
 |[],m,k,f,y,h,_=>by rw[show m=[] from h];rfl
 |x::t,m,0,f,y,⟨u,n,e,h1,h2⟩,k=>by subst e;exact⟨y,n,J,k,h2⟩
 |x::t,m,j+1,f,y,⟨u,n,e,h1,h2⟩,k=>by subst e;exact⟨u,n.set j y,J,h1,h2.set j k⟩
end
def jO:FX->Option DV
 | .d x=>some x
 | .ct l=>some (.sl l)
 | .tt=>some (.v (.bool true))
 | .ff=>some (.v (.bool false))
 | .pr p h=>some (.v (.bool (@decide p h)))
 | .nl=>some (.sl [])
 |_=>none
def oh{ρ:NE}{G:Gh}{f:FX}{d:DV}{y:Value}(h:b7 ρ G f y)(e:jO f=some d):Is G d y:=by
 cases f with
 |d x=>cases e;exact h
 |ct l=>cases e;exact h.2
 |tt=>cases e;exact aF.2 h
 |ff=>cases e;exact aF.2 h
 |pr p i=>cases e;exact aF.2 h
 |nl=>cases e;rw[show y= .slice none 0 0 from h];exact gG.2 ⟨0,⟨none,0,0⟩,[],J, .nil G 0, .nil⟩
 |_=>cases e
def lg:List FX->Option (List DV)
 |[]=>some []
 |f::t=>match jO f,lg t with
  |some d,some l=>some (d::l)
  |_,_=>none
def ud{ρ:NE}{G:Gh}: ∀{l:List FX} {ds:List DV} {m:List Value},dw ρ G l m->lg l=some ds->IsLs G ds m
 |[],ds,m,h,e=>by cases e;rw[show m=[] from h];exact .nil
 |f::t,ds,m,⟨y,n,e1,h1,h2⟩,e=>by
  subst e1;simp only[lg] at e;split at e
  ·rename_i d l hd hl
   cases e
   exact .cons (oh h1 hd) (ud h2 hl)
  ·cases e
def FX.okc:FX->Bool
 | .d x=>x.okc
 | .bx false pre _ post=>(DV.ag pre).okc&&(DV.ag post).okc
 | .bx true _ _ _=>false
 | .un=>false
 | .no=>false
 |_=>true
def FX.cells:FX->List FX
 | .d (.ag l)=>l.map .d
 | .bx false pre nm post=>pre.map .d++ .rw nm::post.map .d
 |f=>[f]
def dw.app{ρ:NE}{G:Gh}: ∀{a b:List FX} {m n:List Value},dw ρ G a m->dw ρ G b n->dw ρ G (a++b) (m++n)
 |[],b,m,n,h,k=>by rw[show m=[] from h];exact k
 |f::t,b,m,n,⟨y,q,e,h1,h2⟩,k=>by subst e;exact⟨y,q++n,J,h1,h2.app k⟩
def ve{ρ:NE}{G:Gh}: ∀{l:List DV} {m:List Value},IsLs G l m->dw ρ G (l.map .d) m
 |[],m,h=>cB.1 h
 |d::t,m,h=>by
  obtain⟨y,n,rfl,h1,h2⟩:=aO.1 h;exact⟨y,n,J,h1,ve h2⟩
def b7.cells{ρ:NE}{G:Gh}{f:FX}{y:Value}(h:b7 ρ G f y)(k:f.okc=true):dw ρ G f.cells (aD y)/\ ∀v∈aD y,Go.Sx.flat v=true:=by
 have one: ∀g:FX,b7 ρ G g y->Go.Sx.flat y=true->dw ρ G [g] (aD y)/\ ∀v∈aD y,Go.Sx.flat v=true:=fun g hg hf=>by
  rw[yp hf];exact⟨⟨y,[],J,hg,J⟩,fun v hv=>by rw[aV.1 hv];exact hf⟩
 cases f with
 |d x=>
  cases x with
  |ag l=>
   obtain⟨m,rfl,hm⟩:=cO.1 (show Is G (.ag l) y from h);exact⟨ve hm,hm.flat k⟩
  |_=>exact one _ h (Is.flat (show Is G _ y from h) k)
 |ep l=>obtain⟨b,off,cs,m,rfl,_⟩:=h;exact one (.ep l) ⟨b,off,cs,m,rfl,by assumption⟩ rfl
 |ov nm off=>obtain⟨b,hb,rfl⟩:=h;exact one (.ov nm off) ⟨b,hb,rfl⟩ rfl
 |rw nm=>cases h;exact one (.rw nm) J J
 |be nm s i j=>obtain⟨b,hb,rfl⟩:=h;exact one (.be nm s i j) ⟨b,hb,rfl⟩ rfl
 |rs nm s i j=>obtain⟨b,c,hb,rfl,hc⟩:=h;exact one (.rs nm s i j) ⟨b,c,hb,rfl,hc⟩ rfl
 |ct l=>obtain⟨⟨a,n,rfl⟩,h2⟩:=h;exact one (.ct l) ⟨⟨a,n,rfl⟩,h2⟩ rfl
 |tt=>cases h;exact one .tt J J
 |ff=>cases h;exact one .ff J J
 |pr p i=>cases h;exact one (.pr p i) J J
 |nl=>cases h;exact one .nl J J
 |bx tp pre nm post=>
  cases tp with
  |true=>cases k
  |false=>
   obtain⟨m1,m2,rfl,h1,h2⟩:=h;simp only[FX.okc,aL] at k;refine⟨(ve h1).app ⟨_,m2,J,J,ve h2⟩,fun v hv=>?_⟩;rcases bV.1 (show v∈m1++_::m2 from hv) with hv|hv
   ·exact h1.flat k.1 v hv
   ·rcases aU.1 hv with rfl|hv
    ·rfl
    ·exact h2.flat k.2 v hv
 |un=>cases k
 |no=>cases k
inductive Bk where
 |o (ty:TypeId) (cs:List FX) (lo:Bool)
 |b (ty:TypeId) (s:Nat) (ds:List DV) (lo:Bool)
 /-- a row with room for cap elements in all -/
 |c (ty:TypeId) (s:Nat) (ds:List DV) (cap:Nat)
def kh(ρ:NE)(G:Gh)(nm:Nat):Bk->List aj->Prop
 | .o ty cs lo,B=> ∃b m,(ρ nm).a=some ⟨b,0,none⟩/\B=[⟨b,m,ty,lo⟩]/\dw ρ G cs m
 | .b ty s ds lo,B=> ∃vs,gI s ty (ρ nm) vs B/\IsLs G ds vs/\(∀v∈vs,(aD v).length=s)/\(lo=true-> ∀o∈B,o.lo=true)
 | .c ty s ds cap,B=> ∃vs,gI s ty (ρ nm) vs B/\IsLs G ds vs/\(∀v∈vs,(aD v).length=s)/\(∀o∈B,o.lo=true)/\cap<=(ρ nm).c
def Bk.men(n:Nat):Bk->Prop
 | .o _ cs _=> ∃f∈cs,f.nm=some n
 | .b .. =>False
 | .c .. =>False
section
variable {ρ:NE} {G:Gh} {nm:Nat} {B:Bk} {os:List aj}
def kh.up{A:Gh}(h:kh ρ A nm B os)(k:bz A G):kh ρ G nm B os:=by
 cases B with
 |o ty cs lo=>obtain⟨b,m,h1,h2,h3⟩:=h;exact⟨b,m,h1,h2,h3.up k⟩
 |b ty s ds lo=>obtain⟨vs,h1,h2,h3,h4⟩:=h;exact⟨vs,h1,h2.up k,h3,h4⟩
 |c ty s ds cap=>obtain⟨vs,h1,h2,h3,h4⟩:=h;exact⟨vs,h1,h2.up k,h3,h4⟩
def kh.ren{ρ':NE}(h:kh ρ G nm B os)(h0:ρ' nm=ρ nm)(k: ∀n,B.men n->ρ' n=ρ n):kh ρ' G nm B os:=by
 cases B with
 |o ty cs lo=>obtain⟨b,m,h1,h2,h3⟩:=h;exact⟨b,m,by rw[h0];exact h1,h2,h3.ren fun f hf n hn=>k n ⟨f,hf,hn⟩⟩
 |b ty s ds lo=>obtain⟨vs,h1,h2,h3,h4⟩:=h;exact⟨vs,by rw[h0];exact h1,h2,h3,h4⟩
 |c ty s ds cap=>obtain⟨vs,h1,h2,h3,h4,h5⟩:=h;exact⟨vs,by rw[h0];exact h1,h2,h3,h4,by rw[h0];exact h5⟩
def kh.blk(h:kh ρ G nm B os){o:aj}(ho:o∈os):(ρ nm).a=some ⟨o.b,0,none⟩:=by
 cases B with
 |o ty cs lo=>obtain⟨b,m,h1,rfl,h3⟩:=h;rw[aV.1 ho];exact h1
 |b ty s ds lo=>
  obtain⟨vs,h1,_⟩:=h;rcases h1 with⟨_,_,rfl⟩|⟨b,rest,lo',e,rfl,_⟩
  ·cases ho
  ·rw[aV.1 ho,e]
 |c ty s ds cap=>
  obtain⟨vs,h1,_⟩:=h;rcases h1 with⟨_,_,rfl⟩|⟨b,rest,lo',e,rfl,_⟩
  ·cases ho
  ·rw[aV.1 ho,e]
def kh.mem_of(h:kh ρ G nm B os){b:Nat}(hb:(ρ nm).a=some ⟨b,0,none⟩): ∃o∈os,o.b=b:=by
 cases B with
 |o ty cs lo=>obtain⟨b',m,h1,rfl,h3⟩:=h;rw[h1] at hb;cases hb;exact⟨_,aQ,rfl⟩
 |b ty s ds lo=>
  obtain⟨vs,h1,_⟩:=h;rcases h1 with⟨_,e,rfl⟩|⟨b',rest,lo',e,rfl,_⟩
  ·rw[e] at hb;cases hb
  ·rw[e] at hb;cases hb;exact⟨_,aQ,J⟩
 |c ty s ds cap=>
  obtain⟨vs,h1,_⟩:=h;rcases h1 with⟨_,e,rfl⟩|⟨b',rest,lo',e,rfl,_⟩
  ·rw[e] at hb;cases hb
  ·rw[e] at hb;cases hb;exact⟨_,aQ,J⟩
end
abbrev LK:=Nat->Option FX
abbrev BM:=Nat->Option Bk
structure bE (GB:Gh) (C:aC) (n:Nat) (lk:LK) (bk:BM) (ρ:NE) (G:Gh) (ov:List aj) (a:Act) (w:World):Prop where
 gb:bz GB G
 h:bt C ov G w
 sz:a.tmps.size=n
 df:a.defers=C.mks
 fx: ∀k f,lk k=some f-> ∃y,a.tmps[k]? =some y/\b7 ρ G f y
 bx: ∀nm B,bk nm=some B-> ∃os,kh ρ G nm B os/\ ∀o∈os,o∈ov
 dj: ∀nm nm' B B',bk nm=some B->bk nm'=some B'->nm≠nm'-> ∀b,(ρ nm).a=some ⟨b,0,none⟩->(ρ nm').a≠some ⟨b,0,none⟩
 fxd: ∀nm p,n<=nm->2000000<=nm->C.fx nm=some p->(ρ nm).a=some p
structure SX (GB:Gh) (C:aC) (n:Nat) (lk:LK) (bk:BM) (Φ:Act->World->Prop):Prop where
 run: ∀ρ G ov a w,bE GB C n lk bk ρ G ov a w->Φ a w
def ji{α:Type}(f g:Nat->Option α):Prop:= ∀k x,f k=some x->g k=some x
def ji.refl{α:Type}(f:Nat->Option α):ji f f:=fun _ _ h=>h
def ew(lk:LK)(d:Option Nat)(f:FX):LK:=match d with
 |some d=>fun k=>if k=d then some f else lk k
 |none=>lk
def upB:BM->List (Nat×Option Bk)->BM
 |tb,[]=>tb
 |tb,(nm,B)::t=>upB (fun k=>if k=nm then B else tb k) t
def jx(nw:List Nat)(dst:Option Nat)(tl:LK)(tb:BM):Prop:=
 ∀nm∈nw,(∀k f,some k≠dst->tl k=some f->f.nm≠some nm)/\ ∀k B,k≠nm->tb k=some B-> ¬B.men nm
section
variable {GB:Gh} {C:aC} {n:Nat} {lk tl:LK} {bk tb:BM} {ρ:NE} {G:Gh} {ov:List aj} {a:Act} {w:World} {Φ Ψ:Act->World->Prop}
def bE.mono(h:bE GB C n tl tb ρ G ov a w)(h1:ji lk tl)(h2:ji bk tb):bE GB C n lk bk ρ G ov a w:=
 ⟨h.gb,h.h,h.sz,h.df,fun k f e=>h.fx k f (h1 _ _ e),fun k B e=>h.bx k B (h2 _ _ e),fun k k' B B' e e'=>h.dj k k' B B' (h2 _ _ e) (h2 _ _ e'),h.fxd⟩
def SX.imp(h:SX GB C n lk bk Φ)(k: ∀a w,Φ a w->Ψ a w):SX GB C n lk bk Ψ:=⟨fun ρ G ov a w r=>k _ _ (h.run ρ G ov a w r)⟩
structure uD (C:aC) (n:Nat) (a:Act) (dst:Option Nat) (y:Value) (a':Act):Prop where
 sz:a'.tmps.size=n
 df:a'.defers=C.mks
 old: ∀k v,a.tmps[k]? =some v->dst≠some k->a'.tmps[k]? =some v
 new: ∀d,dst=some d->a'.tmps[d]? =some y
def uD.fx{a a':Act}{dst:Option Nat}{y:Value}{ρ':NE}{G':Gh}{f:FX}(p:uD C n a dst y a')(h: ∀k g,some k≠dst->lk k=some g-> ∃u,a.tmps[k]? =some u/\b7 ρ' G' g u)(hy:b7 ρ' G' f y)(k:Nat)(g:FX)(e:ew lk dst f k=some g):
  ∃u,a'.tmps[k]? =some u/\b7 ρ' G' g u:=by
 by_cases hk:some k=dst
 ·subst hk
  simp only[ew,if_true] at e;cases e;exact⟨y,p.new _ J,hy⟩
 ·have e':lk k=some g:=by
   cases dst with
   |none=>exact e
   |some d=>simpa[ew,show k≠d from fun c=>hk (c▸rfl)] using e
  obtain⟨u,h1,h2⟩:=h k g hk e';exact⟨u,p.old _ _ h1 (Ne.symm hk),h2⟩
def bE.putA(r:bE GB C n lk bk ρ G ov a w){dst:Option Nat}(y:Value)(hd:b8 n dst=true):uD C n a dst y (a.put dst y):=by
 refine⟨by rw[LW];exact r.sz,by rw[J5];exact r.df,fun k v h hk=>?_,fun d hk=>?_⟩
 ·cases dst with
  |none=>exact h
  |some d=>simp only[Act.put,dW];rw[if_neg (fun e=>hk (by rw[e]))];exact h
 ·subst hk
  have hdn:d<a.tmps.size:=by rw[r.sz];simpa[b8,mK] using hd
  simp[Act.put,dW,hdn]
def bE.put(r:bE GB C n lk bk ρ G ov a w){dst:Option Nat}{f:FX}{y:Value}{a':Act}(hy:b7 ρ G f y)(hp:uD C n a dst y a'):bE GB C n (ew lk dst f) bk ρ G ov a' w:=
 ⟨r.gb,r.h,hp.sz,hp.df,hp.fx (fun k g _ e=>r.fx k g e) hy,r.bx,r.dj,r.fxd⟩
def cA(a:Act):Fr:=mA 0 a.tmps.toList
def cG(a:Act):kw (cA a) a:=fun k v h=>by
 obtain⟨j,e,h2⟩:=sC _ _ _ _ h;rw[dR] at e;subst e;simpa using h2
def xb: ∀(vs:List Value) (i j:Nat) (v:Value),vs[j]? =some v->gA (mA i vs) (i+j)=some v
 |[],i,j,v,h=>by simp at h
 |x::t,i,0,v,h=>by simp at h;subst h;simp[mA,gA]
 |x::t,i,j+1,v,h=>by
  simp at h;have:=xb t (i+1) j v h;rw[show i+(j+1)=i+1+j by omega];simp only[mA,tA];rw[if_neg (by omega)];exact this
def jj{dst:Option Nat}{y:Value}{ov':List aj}{G':Gh}{a':Act}{w':World}(h:f5 C n (Sx.put (cA a) dst y) ov' G' a' w'):uD C n a dst y a':=by
 refine⟨h.sz,h.df,fun k v hk hd=>?_,fun d hd=>?_⟩
 ·have:=xb a.tmps.toList 0 k v (by simpa using hk)
  rw[dR] at this
  cases dst with
  |none=>exact h.fr k v this
  |some d=>exact h.fr k v (by simp only[Sx.put,tA];rw[if_neg (fun e=>hd (by rw[e]))];exact this)
 ·subst hd;exact h.fr d y (by simp[Sx.put,tA])
def wC{k:Nat}{v:Value}(h:a.tmps[k]? =some v):gA (cA a) k=some v:=by
 have:=xb a.tmps.toList 0 k v (by simpa using h);simpa[cA] using this
def aI(lk:LK):Operand->Option FX
 | .tmp k=>lk k
 | .const (.bool true)=>some .tt
 | .const (.bool false)=>some .ff
 | .const (.slice none 0 0)=>some .nl
 | .const v=>some (.d (.v v))
 | .global g=>some (.d (.v (.pointer (some ⟨g,0,none⟩))))
 | .func f=>some (.d (.v (.func (.func f) #[] #[])))
def bE.ev(r:bE GB C n lk bk ρ G ov a w){x:Operand}{f:FX}(e:aI lk x=some f): ∃y,av (cA a) x=some y/\b7 ρ G f y:=by
 cases x with
 |tmp k=>obtain⟨y,h1,h2⟩:=r.fx k f e;exact⟨y,wC h1,h2⟩
 |const v=>
  refine⟨v,J,?_⟩;unfold aI at e;split at e
  all_goals simp only[Operand.const.injEq,reduceCtorEq] at*
  all_goals (cases e;subst_vars;first|exact J|exact(aF (G:=G)).2 J)
 |global g=>cases e;exact⟨_,J,(aF (G:=G)).2 J⟩
 |func g=>cases e;exact⟨_,J,(aF (G:=G)).2 J⟩
def evD(lk:LK)(x:Operand):Option DV:=match aI lk x with
 |some f=>jO f
 |none=>none
def bE.evD(r:bE GB C n lk bk ρ G ov a w){x:Operand}{d:DV}(e:Sx.evD lk x=some d): ∃y,av (cA a) x=some y/\Is G d y:=by
 unfold Sx.evD at e;split at e
 ·rename_i f hf
  obtain⟨y,h1,h2⟩:=r.ev hf;exact⟨y,h1,oh h2 e⟩
 ·cases e
def evDs(lk:LK):List Operand->Option (List DV)
 |[]=>some []
 |x::t=>match evD lk x,evDs lk t with
  |some d,some l=>some (d::l)
  |_,_=>none
def bE.evDs(r:bE GB C n lk bk ρ G ov a w): ∀{x:List Operand} {l:List DV},Sx.evDs lk x=some l-> ∃y,fy (cA a) x=some y/\IsLs G l y
 |[],l,e=>by cases e;exact⟨[],J, .nil⟩
 |x::t,l,e=>by
  simp only[Sx.evDs] at e;split at e
  ·rename_i d l' hd hl'
   cases e
   obtain⟨y,h1,h2⟩:=r.evD hd;obtain⟨ys,h3,h4⟩:=r.evDs hl';exact⟨y::ys,by simp only[fy,h1,h3], .cons h2 h4⟩
  ·cases e
def bE.upB(r:bE GB C n lk bk ρ G ov a w){nm:Nat}{B':Bk}{os:List aj}{ov':List aj}{G':Gh}{w':World}(hg:bz G G')(hh:bt C ov' G' w')(hB:kh ρ G' nm B' os)(hos: ∀o∈os,o∈ov')
  (hk: ∀o∈ov,(ρ nm).a≠some ⟨o.b,0,none⟩->o∈ov')(hn: ∃B,bk nm=some B):bE GB C n lk (upB bk [(nm,some B')]) ρ G' ov' a w':=by
 obtain⟨B0,hB0⟩:=hn;refine⟨r.gb.trans hg,hh,r.sz,r.df,fun k f e=>?_,fun m B e=>?_,fun m m' B B2 e e' hne=>?_,r.fxd⟩
 ·obtain⟨y,h1,h2⟩:=r.fx k f e;exact⟨y,h1,h2.up hg⟩
 ·simp only[Sx.upB] at e
  by_cases hm:m=nm
  ·subst hm;simp only[if_true] at e;cases e;exact⟨os,hB,hos⟩
  ·simp only[hm,if_false] at e
   obtain⟨os',h1,h2⟩:=r.bx m B e;refine⟨os',h1.up hg,fun o ho=>hk o (h2 o ho) fun hc=>?_⟩;exact r.dj m nm B B0 e hB0 hm _ (h1.blk ho) hc
 ·simp only[Sx.upB] at e e'
  by_cases hm:m=nm<;>by_cases hm':m'=nm
  ·exact absurd (hm.trans hm'.symm) hne
  ·subst hm;simp only[hm',if_false] at e';exact r.dj m m' B0 B2 hB0 e' hne
  ·subst hm';simp only[hm,if_false] at e;exact r.dj m m' B B0 e hB0 hne
  ·simp only[hm,hm',if_false] at e e';exact r.dj m m' B B2 e e' hne
def bE.dropB(r:bE GB C n lk bk ρ G ov a w)(nm:Nat):bE GB C n lk (Sx.upB bk [(nm,none)]) ρ G ov a w:=
 r.mono (ji.refl _) fun k B e=>by
  simp only[Sx.upB] at e;split at e
  ·cases e
  ·exact e
def tC{m nm:Nat}(x:SV)(h:m≠nm):(fun k=>if k=nm then x else ρ k) m=ρ m:=if_neg h
def bE.new'(r:bE GB C n tl tb ρ G ov a w){nm:Nat}{dst:Option Nat}{x:SV}{B':Bk}{os:List aj}{ov':List aj}{G':Gh}{w':World}{f:FX}{y:Value}(hf:jx [nm] dst tl tb)(hg:bz G G')(hh:bt C ov' G' w')
  (hB:kh (fun k=>if k=nm then x else ρ k) G' nm B' os)(hos: ∀o∈os,o∈ov')(hov: ∀m B,m≠nm->tb m=some B-> ∀o∈ov,(ρ m).a=some ⟨o.b,0,none⟩->o∈ov'/\x.a≠some ⟨o.b,0,none⟩)
  (hy:b7 (fun k=>if k=nm then x else ρ k) G' f y){a':Act}(hp:uD C n a dst y a')(hdn:dst=some nm:=by rfl):bE GB C n (ew tl dst f) (Sx.upB tb [(nm,some B')]) (fun k=>if k=nm then x else ρ k) G' ov' a' w':=by
 obtain⟨f1,f2⟩:=hf nm aQ;refine⟨r.gb.trans hg,hh,hp.sz,hp.df,hp.fx (fun k g hk e=>?_) hy,fun m B e=>?_,fun m m' B B2 e e' hne=>?_,fun m p hm hm2 e=>?_⟩
 ·obtain⟨u,h1,h2⟩:=r.fx k g e
  exact⟨u,h1,(h2.up hg).ren fun m hm=>tC x fun hc=>f1 k g hk e (by rw[hm,hc])⟩
 ·simp only[Sx.upB] at e
  by_cases hm:m=nm
  ·subst hm;simp only[if_true] at e;cases e;exact⟨os,hB,hos⟩
  ·simp only[hm,if_false] at e
   obtain⟨os',h1,h2⟩:=r.bx m B e;exact⟨os',(h1.up hg).ren (if_neg hm) fun q hq=>tC x fun hc=>f2 m B hm e (by rw[<-hc];exact hq),fun o ho=>(hov m B hm e o (h2 o ho) (h1.blk ho)).1⟩
 ·simp only[Sx.upB] at e e'
  by_cases hm:m=nm<;>by_cases hm':m'=nm
  ·exact absurd (hm.trans hm'.symm) hne
  ·subst hm;simp only[hm',if_false] at e'
   intro b hb hb';simp only[if_true] at hb;rw[if_neg hm'] at hb';obtain⟨os',h1,h2⟩:=r.bx m' B2 e';obtain⟨o,ho,rfl⟩:=h1.mem_of hb';exact(hov m' B2 hm' e' o (h2 o ho) hb').2 hb
  ·subst hm';simp only[hm,if_false] at e
   intro b hb hb';simp only[if_true] at hb';rw[if_neg hm] at hb;obtain⟨os',h1,h2⟩:=r.bx m B e;obtain⟨o,ho,rfl⟩:=h1.mem_of hb;exact(hov m B hm e o (h2 o ho) hb).2 hb'
  ·simp only[hm,hm',if_false] at e e'
   intro b hb hb';rw[if_neg hm] at hb;rw[if_neg hm'] at hb';exact r.dj m m' B B2 e e' hne b hb hb'
 ·have hlt:nm<n:=by
   obtain⟨h,_⟩:=fV.1 (hp.new nm hdn);rw[hp.sz] at h;exact h
  rw[if_neg (by omega)];exact r.fxd m p hm hm2 e
def bE.new(r:bE GB C n tl tb ρ G ov a w){nm:Nat}{dst:Option Nat}{x:SV}{B':Bk}{os:List aj}{ov':List aj}{G':Gh}{w':World}{f:FX}{y:Value}(hf:jx [nm] dst tl tb)(hg:bz G G')(hh:bt C ov' G' w')
  (hB:kh (fun k=>if k=nm then x else ρ k) G' nm B' os)(hos: ∀o∈os,o∈ov')(hov: ∀o∈ov,o∈ov')(hnew: ∀o∈ov,x.a≠some ⟨o.b,0,none⟩)
  (hy:b7 (fun k=>if k=nm then x else ρ k) G' f y){a':Act}(hp:uD C n a dst y a')(hdn:dst=some nm:=by rfl):bE GB C n (ew tl dst f) (Sx.upB tb [(nm,some B')]) (fun k=>if k=nm then x else ρ k) G' ov' a' w':=
 r.new' hf hg hh hB hos (fun _ _ _ _ o ho _=>⟨hov o ho,hnew o ho⟩) hy hp hdn
end
def bP(P:Program)(GB:Gh)(C:aC)(n:Nat)(lk:LK)(bk:BM)(o:Oper)(f:FX)(bl:List (Nat×Option Bk))(nw:List Nat):Prop:=
 b8 n o.dst=true-> ∀(tl:LK) (tb:BM) (K:Act->World->Prop),ji lk tl->ji bk tb->jx nw o.dst tl tb->SX GB C n (ew tl o.dst f) (upB tb bl) K->SX GB C n tl tb (fun a w=> ∀Q,o.wp P a w K Q)
section
variable {P:Program} {GB:Gh} {C:aC} {n:Nat} {lk:LK} {bk:BM} {f:FX}
def bP.yd{o:Oper}(h: ∀ρ G ov a w,bE GB C n lk bk ρ G ov a w-> ∃y,b7 ρ G f y/\Yd P C (cA a) ov G o y):bP P GB C n lk bk o f [] []:=by
 intro hd tl tb K h1 h2 _ hk;refine⟨fun ρ G ov a w r Q=>?_⟩;obtain⟨y,hy,hY⟩:=h ρ G ov a w (r.mono h1 h2);exact jC (hY a w (cG a) r.h) (hk.run ρ G ov _ w (r.put hy (r.putA y hd)))
end
inductive TK where
 |st (fo:List (Nat×Nat×Nat))
 |sl (e s b:Nat)
 |int (k:IntKind)
 |bl
 |pt
 |fc
 |sc
 |o
structure TI where
 k:TK
 sz:Nat
 z:Option (List FX)
 za:Bool
def Dp:Option Value->Bool
 |some (.agg _)=>true
 |_=>false
def vi:Value->FX
 | .slice none 0 0=> .nl
 | .bool true=> .tt
 | .bool false=> .ff
 |v=> .d (.v v)
def uc(P:Program):List Field->Option (List (Nat×Nat×Nat))
 |[]=>some []
 |f::t=>match P.info? f.type,uc P t with
  |some i,some l=>some ((f.offset,f.type,i.size)::l)
  |_,_=>none
def jP(P:Program)(t:TypeId):TK:=match P.underlying t with
 |some (.struct fs)=>match uc P fs.toList with
  |some l=> .st l
  |none=> .o
 |some (.slice e)=>match P.info? e with
  |some i=> .sl e i.size i.bytes
  |none=> .o
 |some (.int k)=> .int k
 |some .bool=> .bl
 |some (.pointer _)=> .pt
 |some (.interface _)=> .fc
 |some (.array ..)=> .o
 |some .string=> .sc
 |_=> .o
def ey(P:Program)(t:TypeId):Option TI:=match P.info? t with
 |some i=>some ⟨jP P t,i.size,i.zero.map fun v=>(aD v).map vi,Dp i.zero⟩
 |none=>none
abbrev TT:=List (Nat×TI)
def dh:TT->Nat->Option TI
 |[],_=>none
 |(k,v)::t,j=>bif Nat.beq k j then some v else dh t j
def lz(P:Program)(T:TT):Prop:= ∀t i,dh T t=some i->ey P t=some i
def lz.of{P:Program}: ∀{T:TT},T.map (fun e=>some e.2)=T.map (fun e=>ey P e.1)->lz P T
 |[],_,t,i,h=>by cases h
 |(k,v)::T,e,t,i,h=>by
  simp only[bR,List.cons.injEq] at e;simp only[dh] at h
  cases hb:Nat.beq k t with
  |true=>rw[hb] at h;cases h;rw[<-aY hb];exact e.1.symm
  |false=>rw[hb] at h;exact lz.of e.2 t i h
def R5(ρ:NE)(G:Gh)(v:Value):b7 ρ G (vi v) v:=by
 unfold vi;split
 ·exact J
 ·exact J
 ·exact J
 ·exact(aF (G:=G)).2 J
def Jj(ρ:NE)(G:Gh): ∀m:List Value,dw ρ G (m.map vi) m
 |[]=>rfl
 |v::m=>⟨v,m,J,R5 ρ G v,Jj ρ G m⟩
section
variable {P:Program} {t:TypeId} {i:TI}
def oE(h:ey P t=some i): ∃j,P.info? t=some j/\i=⟨jP P t,j.size,j.zero.map fun v=>(aD v).map vi,Dp j.zero⟩:=by
 unfold ey at h;split at h
 ·rename_i j hj;cases h;exact⟨j,hj,rfl⟩
 ·cases h
def pf{d:TypeDesc}(h:P.underlying t=some d)(w:World):(underlying t).run P w= .ok d w:=by
 show(program>>=_).run P w=_;rw[ba (w':=w) (a:=P) J,h];rfl
def Z9{j:TypeInfo}(h:P.info? t=some j)(w:World):(typeInfo t).run P w= .ok j w:=by
 show(program>>=_).run P w=_;rw[ba (w':=w) (a:=P) J,h];rfl
def s6{j:TypeInfo}(h:P.info? t=some j)(w:World):(sizeOf t).run P w= .ok j.size w:=by
 show(typeInfo t>>=_).run P w=_;rw[ba (Z9 h w)];rfl
def zp{d:TypeDesc}(h:P.underlying t=some d)(w:World):(isAgg t).run P w= .ok (match d with| .struct _| .array _ _=>true|_=>false) w:=by
 show(underlying t>>=_).run P w=_;rw[ba (pf h w)]
 cases d<;>rfl
def TI.ag(i:TI):Option (Option Nat):=match i.k with
 | .st _=>some (some i.sz)
 | .o=>none
 |_=>bif Nat.beq i.sz 1 then some none else none
theorem wl{k:Nat}(h:ey P t=some i)(hk:i.ag=some (some k)):kv P t k:=by
 obtain⟨j,h1,rfl⟩:=oE h;unfold TI.ag at hk
 cases e:jP P t with
 |st fo=>
  simp only[e] at hk;cases hk;unfold jP at e;split at e<;>first|(cases e;done)|skip
  ·rename_i fs hu;exact⟨fun w=>zp hu w,fun w=>s6 h1 w⟩
  ·split at e<;>cases e
 |o=>simp only[e] at hk;cases hk
 |_=>simp only[e,cond_eq_ite] at hk;split at hk<;>cases hk
theorem uO(h:ey P t=some i)(hk:i.ag=some none):gE P t:=by
 obtain⟨j,h1,rfl⟩:=oE h;unfold TI.ag at hk;have key:j.size=1->(∀w,(isAgg t).run P w= .ok false w)->gE P t:=fun e1 e2=>⟨e2,fun w=>by rw[s6 h1 w,e1]⟩
 cases e:jP P t with
 |st fo=>simp only[e] at hk;cases hk
 |o=>simp only[e] at hk;cases hk
 |_=>
  simp only[e,cond_eq_ite] at hk;split at hk
  ·rename_i hb
   refine key (aY hb) fun w=>?_;unfold jP at e;split at e<;>first|(cases e;done)|skip
   all_goals first
    |(rename_i hu;rw[zp hu w];done)
    |(split at e<;>first|(cases e;done)|(rename_i hu _ _ _;rw[zp hu w];done))
  ·cases hk
def Bm{z:List FX}(h:ey P t=some i)(hz:i.z=some z): ∃v,fP P t v/\ ∀ρ G,dw ρ G z (aD v):=by
 obtain⟨j,h1,rfl⟩:=oE h
 cases hv:j.zero with
 |none=>simp only[hv] at hz;cases hz
 |some v=>
  simp only[hv] at hz;cases hz;exact⟨v,⟨by rw[h1];simp[hv]⟩,fun ρ G=>Jj ρ G _⟩
def De: ∀{fs:List Field} {l:List (Nat×Nat×Nat)} {k off ft s:Nat},uc P fs=some l->l[k]? =some (off,ft,s)-> ∃f,fs[k]? =some f/\f.offset=off/\f.type=ft/\ ∃j,P.info? ft=some j/\j.size=s
 |[],l,k,off,ft,s,h,e=>by cases h;simp at e
 |f::fs,l,k,off,ft,s,h,e=>by
  simp only[uc] at h;split at h
  ·rename_i j l' hj hl
   cases h
   cases k with
   |zero=>simp at e;obtain⟨rfl,rfl,rfl⟩:=e;exact⟨f,rfl,rfl,rfl,j,hj,rfl⟩
   |succ k=>simp at e;obtain⟨g,h1,h2⟩:=De hl e;exact⟨g,by simpa using h1,h2⟩
  ·cases h
def PA: ∀{fs:List Field} {l:List (Nat×Nat×Nat)},uc P fs=some l-> ∀w,(fs.mapM (m:=Sem) fun f=>do pure (f.offset,<-sizeOf f.type)).run P w= .ok (l.map fun x=>(x.1,x.2.2)) w
 |[],l,h,w=>by cases h;rfl
 |f::fs,l,h,w=>by
  simp only[uc] at h;split at h
  ·rename_i j l' hj hl
   cases h
   rw[nN];have h1:(do pure (f.offset,<-sizeOf f.type):Sem (Nat×Nat)).run P w= .ok (f.offset,j.size) w:=by
    rw[ba (s6 hj w)];rfl
   rw[ba h1,ba (PA hl w)];rfl
  ·cases h
def Gb{fo:List (Nat×Nat×Nat)}(h:ey P t=some i)(hk:i.k= .st fo): ∃fs,P.underlying t=some (.struct fs)/\uc P fs.toList=some fo:=by
 obtain⟨j,h1,rfl⟩:=oE h;have e:jP P t= .st fo:=hk;unfold jP at e;split at e<;>first|(cases e;done)|skip
 ·rename_i fs hu
  split at e
  ·rename_i l hl;cases e;exact⟨fs,hu,hl⟩
  ·cases e
 ·split at e<;>cases e
theorem YO{fo:List (Nat×Nat×Nat)}{f off ft s:Nat}(h:ey P t=some i)(hk:i.k= .st fo)(hf:fo[f]? =some (off,ft,s)):Hj P t f off ft:=by
 obtain⟨fs,hu,hl⟩:=Gb h hk;obtain⟨g,h1,h2,h3,_⟩:=De hl hf;exact⟨fs,g,fun w=>pf hu w,by simpa using h1,h2,h3⟩
theorem WN{fo:List (Nat×Nat×Nat)}{f off ft s:Nat}(h:ey P t=some i)(hk:i.k= .st fo)(hf:fo[f]? =some (off,ft,s+1)):km P t f off:=by
 obtain⟨fs,hu,hl⟩:=Gb h hk;obtain⟨g,h2,h3,h4,j,h5,h6⟩:=De hl hf;refine⟨fun b o w=>?_⟩;unfold Instr.fieldAt;rw[ba (pf hu w)];have h2':fs[f]? =some g:=by simpa using h2
 simp only[h2'];have:(fieldPlace ⟨b,o,none⟩ g).run P w= .ok (Addr.add ⟨b,o,none⟩ off) w:=by
  unfold fieldPlace;rw[h4,ba (s6 h5 w),h6,h3];rfl
 show(fieldPlace ⟨b,o,none⟩ g>>=_).run P w=_;rw[ba this];rfl
theorem Ut{fo:List (Nat×Nat×Nat)}(h:ey P t=some i)(hk:i.k= .st fo):zG P t (fo.map fun x=>(x.1,x.2.2)):=by
 obtain⟨fs,hu,hl⟩:=Gb h hk;refine⟨fs,fun w=>pf hu w,fun w=>?_⟩;rw[Array.mapM_eq_mapM_toList,map_eq_pure_bind,ba (PA hl w)];rfl
theorem iD{e s b:Nat}(h:ey P t=some i)(hk:i.k= .sl e s b):ce P t e s b:=by
 obtain⟨j,h1,rfl⟩:=oE h;have e':jP P t= .sl e s b:=hk;unfold jP at e';split at e'<;>first|(cases e';done)|skip
 ·split at e'<;>cases e'
 ·rename_i el hu
  split at e'
  ·rename_i q hq;cases e';exact⟨hu,by rw[hq];rfl⟩
  ·cases e'
theorem xl{k:IntKind}(h:ey P t=some i)(hk:i.k= .int k):l5 P t k:=by
 obtain⟨j,h1,rfl⟩:=oE h;have e:jP P t= .int k:=hk;unfold jP at e;split at e<;>first|(cases e;done)|(split at e<;>cases e;done)|skip
 rename_i k' hu;cases e;exact⟨fun w=>pf hu w⟩
theorem TG(h:ey P t=some i)(hk:i.k= .bl):E1 P t:=by
 obtain⟨j,h1,rfl⟩:=oE h;have e:jP P t= .bl:=hk;unfold jP at e;split at e<;>first|(cases e;done)|(split at e<;>cases e;done)|skip
 rename_i hu;exact⟨fun w=>pf hu w⟩
theorem OJ(h:ey P t=some i)(hk:i.k= .pt):CT P t:=by
 obtain⟨j,h1,rfl⟩:=oE h;have e:jP P t= .pt:=hk;unfold jP at e;split at e<;>first|(cases e;done)|(split at e<;>cases e;done)|skip
 rename_i el hu;exact⟨el,fun w=>pf hu w⟩
theorem YF(h:ey P t=some i)(hk:i.k= .fc):DM P t:=by
 obtain⟨j,h1,rfl⟩:=oE h;have e:jP P t= .fc:=hk;unfold jP at e;split at e<;>first|(cases e;done)|(split at e<;>cases e;done)|skip
 rename_i el hu;exact⟨el,fun w=>pf hu w⟩
end
end Go.Sx
end
