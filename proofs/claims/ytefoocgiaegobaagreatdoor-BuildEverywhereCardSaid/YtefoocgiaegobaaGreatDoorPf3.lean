import Derived.Test.YtefoocgiaegobaaGreatDoorPf2
import Derived.Laws.Externs
import Derived.Lib.Overlaps
set_option linter.all false
set_option maxRecDepth 100000
section
namespace Go.Sx
open Go
section
variable {P:Program} {C:aD} {n:Nat} {fr:Fr} {own own' own1:List ak} {G:Gh} {Φ:Act->World->Prop}
variable {dst:Option Nat} {t t' ty':TypeId} {pos:String} {af:Array Edge} {gd:Option (Nat×Bool)} {x y:Operand} {e s by_:Nat}
def AL{v:Value}{b off k:Nat}{cs cs':List Value}{ty:TypeId}{lo:Bool}(hx:aw fr x=some (.pointer (some ⟨b,off,none⟩)))(hy:aw fr y=some v)[hs:lj P t k][ho:ig own b cs ty lo]
  (hc:cp cs off (aE v)=cs')(hu:fD own b cs ty lo cs' own')(hk:(aE v).length=k)(hl:off+k<=cs.length)(hf:(aE v).all flat=true)(hd:b9 n dst=true)(h:St C n (put fr dst undef) own' G Φ):
  Ch P C n fr own G ⟨dst, .store t x y,ty',pos,af,gd⟩ Φ:=B7 hx hy (hc▸hu) hk hl hf hd h
def sj{v:Value}{b off:Nat}{cs cs':List Value}{ty:TypeId}{lo:Bool}(hx:aw fr x=some (.pointer (some ⟨b,off,none⟩)))(hy:aw fr y=some v)[hs:ik P t][ho:ig own b cs ty lo]
  (hc:cs.set off v=cs')(hu:fD own b cs ty lo cs' own')(hl:off<cs.length)(hf:flat v=true)(hd:b9 n dst=true)(h:St C n (put fr dst undef) own' G Φ):
  Ch P C n fr own G ⟨dst, .store t x y,ty',pos,af,gd⟩ Φ:=tn hx hy (hc▸hu) hl hf hd h
def Ye[hT:cg P t e s by_]{ad:Option Addr}{len cap:Nat}(hx:aw fr x=some (.slice ad len cap)):
  Yd P C fr own G ⟨dst, .call ⟨.builtin .cap, #[x], #[t]⟩,ty',pos,af,gd⟩ (.int .i64 cap):=by
 intro a w hf hh;simp only[execOp,resolve,gT,bW,eK,bj hf hx];have h1:(Builtin.cap_ #[t] ty' #[.slice ad len cap]).run P w= .ok (.int .i64 cap) w:=by
  simp only[Builtin.cap_];show(underlying t>>=_).run P w=_;rw[bc (hT.u w)];rfl
 exact cH h1
def SW{w:World}[hT:cg P t e s by_]{b off l c l2 c2 m:Nat}{ad2:Option Addr}{cs ys:List Value}{ty:TypeId}(hm:Nat.min l2 l=m)
  (hb:w.heap[b]? =some (.cells ⟨cs⟩ ty (0,0)))(hsy:(Builtin.firstCells s m (.slice ad2 l2 c2)).run P w= .ok ⟨ys⟩ w)(hf: ∀v∈ys,flat v=true)(hl:off+ys.length<=cs.length):
  (Builtin.copy_ #[t,t'] ty' #[.slice (some ⟨b,off,none⟩) l c, .slice ad2 l2 c2]).run P w=
   .ok (.int .i64 m) (gh w b (.cells ⟨cp cs off ys⟩ ty (0,0))):=by
 obtain⟨i,hi,his,hib⟩:=hT.info;subst his;have hst:=yu (P:=P) ys w off 0 cs hf hb (by omega);rw[fQ] at hst;subst hm;simp[Builtin.copy_,run_underlying hT.un,sizeOf,typeInfo,hi,Builtin.lenOf,hsy,hst];rfl
def LF[hT:cg P t e s by_]{b off l c l2 c2 m:Nat}{ad2:Option Addr}{cs ys:List Value}{ty:TypeId}{lo:Bool}(hx:aw fr x=some (.slice (some ⟨b,off,none⟩) l c))(hy:aw fr y=some (.slice ad2 l2 c2))
  (hm:Nat.min l2 l=m)(hsy:mC P C own G s m (.slice ad2 l2 c2) ys)(hf: ∀v∈ys,flat v=true)(hl:off+ys.length<=cs.length)(hu:fD own b cs ty lo (cp cs off ys) own')(hd:b9 n dst=true)
  (h:St C n (put fr dst (.int .i64 m)) own' G Φ):Ch P C n fr own G ⟨dst, .call ⟨.builtin .copy, #[x,y], #[t,t']⟩,ty',pos,af,gd⟩ Φ:=by
 intro a w Q rl;have hb:=(rl.h.hown _ (hu.spec rl.h.nd).1).1;refine jF (v:= .int .i64 m) (w':=gh w b (.cells ⟨cp cs off ys⟩ ty (0,0))) ?_ (h _ _ ((rl.heap (rl.h.store hu)).put _ hd));simp only[execOp,resolve,gT,bW,eK,bj rl.fr hx,bj rl.fr hy];exact cH (SW hm hb (hsy w rl.h) hf hl)
def N0[hT:cg P t e s by_][hN:jE P t']{b len cap m cap2:Nat}{ad2:Option Addr}{cs ys:List Value}{lo:Bool}
  (hx:aw fr x=some (.slice (some ⟨b,0,none⟩) len cap))(hy:aw fr y=some (.slice ad2 m cap2))(hu:fD own b cs e lo (cp cs (len*s) ys) own')(hcs:cs.length=cap*s)
  (hsy:mC P C own G s m (.slice ad2 m cap2) ys)(hys:ys.length=m*s)(hf: ∀v∈ys,flat v=true)(hneed:len+m<=cap)(hd:b9 n dst=true)
  (h:St C n (put fr dst (.slice (some ⟨b,0,none⟩) (len+m) cap)) own' G Φ):
  Ch P C n fr own G ⟨dst, .call ⟨.builtin .append, #[x,y], #[t,t']⟩,ty',pos,af,gd⟩ Φ:=by
 intro a w Q rl;have hb:=(rl.h.hown _ (hu.spec rl.h.nd).1).1;refine jF (v:= .slice (some ⟨b,0,none⟩) (len+m) cap) (w':=gh w b (.cells ⟨cp cs (len*s) ys⟩ e (0,0))) ?_ (h _ _ ((rl.heap (rl.h.store hu)).put _ hd));simp only[execOp,resolve,gT,bW,eK,bj rl.fr hx,bj rl.fr hy];exact cH (HF hb hcs (hsy w rl.h) hys hf hneed)
def O4[hT:cg P t e s by_][hN:jE P t']{z:Value}[hz:gj P e z]{b len cap m cap2:Nat}{ad2:Option Addr}{xs ys rest:List Value}{lo:Bool}
  (hx:aw fr x=some (.slice (some ⟨b,0,none⟩) len cap))(hy:aw fr y=some (.slice ad2 m cap2))(hr:jn own ⟨b,xs++rest,e,lo⟩ own1)(hxs:xs.length=len*s)(hcap:xs.length+rest.length=cap*s)(hlc:len<=cap)
  (hsy:mC P C own G s m (.slice ad2 m cap2) ys)(hys:ys.length=m*s)(hf: ∀v∈ys,flat v=true)
  (hby:0<by_)(hb:(len+m)*by_<=140737488355328)(hzs:(aE z).length=s)(hd:b9 n dst=true)
  (h: ∀b lo' cap' rest',len+m<=cap'->rest'.length+(len+m)*s=cap'*s->St C n (put fr dst (.slice (some ⟨b,0,none⟩) (len+m) cap')) (⟨b,xs++ys++rest',e,lo'⟩::own1) G Φ):
  Ch P C n fr own G ⟨dst, .call ⟨.builtin .append, #[x,y], #[t,t']⟩,ty',pos,af,gd⟩ Φ:=by
 intro a w Q rl;have hp:=rl.h.perm hr.perm;have hblk:=(hp.hown _ aQ).1;simp only[] at hblk;by_cases hneed:len+m<=cap
 ·have hcs:(xs++rest).length=cap*s:=by simp;omega
  have hrun:=HF (P:=P) (t:=t) (t':=t') (ty':=ty') (w:=w) (len:=len) hblk hcs (hsy w rl.h) hys hf hneed;have hle:len*s+m*s<=cap*s:=by rw[<-cS];exact bU _ hneed
  have hov:cp (xs++rest) (len*s) ys=xs++ys++rest.drop (m*s):=by
   rw[px _ _ _ (by rw[hys];omega),<-hxs];simp[hys,mL]
  refine jF (v:= .slice (some ⟨b,0,none⟩) (len+m) cap) (w':=gh w b (.cells ⟨cp (xs++rest) (len*s) ys⟩ e (0,0))) ?_ ?_
  ·simp only[execOp,resolve,gT,bW,eK,bj rl.fr hx,bj rl.fr hy]
   exact cH hrun
  ·rw[hov]
   refine h b lo cap (rest.drop (m*s)) hneed ?_ _ _ ((rl.heap (hp.store (.hd ..))).put _ hd);rw[gR,cS];omega
 ·have hx':mC P C own G s len (.slice (some ⟨b,0,none⟩) len cap) xs:=fun w' hw'=>by
   have hb':=(((hw'.perm hr.perm).hown _ aQ).1);refine CG hb' ?_;rw[ma _ _ _ (by simp;omega),<-hxs];simp
  have hcap':len+m<=grownCap w (len+m) cap e:=by unfold grownCap;simp only[Question.cut];omega
  have hrun:=GQ (P:=P) (t:=t) (t':=t') (ty':=ty') (w:=w) (w':=w) (hx' _ rl.h.drew) (hsy _ rl.h.drew) (by omega) hby hb;refine jF (v:= .slice (some ⟨w.heap.size,0,none⟩) (len+m) (grownCap w (len+m) cap e)) (w':=w.drew.alloc (.cells ⟨xs++ys++cG z (grownCap w (len+m) cap e-(len+m))⟩ e)) ?_ ?_
  ·simp only[execOp,resolve,gT,bW,eK,bj rl.fr hx,bj rl.fr hy]
   exact cH hrun
  ·refine h w.heap.size _ _ _ hcap' ?_ _ _ ((rl.heap (((hp.drew).drop (rU _ _)).alloc _ _)).put _ hd)
   rw[ny,hzs,<-cS];congr 1;omega
def RJ{f:FuncId}{fn:Func}{tS tR:TypeId}(hf:P.funcs[f]? =some fn)(hname:(fn.name== "runtime.NumGoroutine")=false)(hb:fn.body.isNone=true)(hn:Extern.findNext fn=none)
  (he:Extern.find fn=some (Extern.SlicesOverlaps.overlaps #[tS,tS] #[tR]))[hT:cg P tS e s by_]{args:Array Operand}{tys:Array TypeId}{fo:Operand}
  {b1 b2 o1 o2 l1 l2 c1 c2:Nat}{cs1 cs2:List Value}{t1 t2:TypeId}{lo1 lo2:Bool}(ho:aw fr fo=some (.func (.func f) #[] #[]))
  (hv:fP fr args.toList=some [.slice (some ⟨b1,o1,none⟩) l1 c1, .slice (some ⟨b2,o2,none⟩) l2 c2])[h1:ig own b1 cs1 t1 lo1][h2:ig own b2 cs2 t2 lo2](hne:b1≠b2)(hc2:cs2≠[]):
  Yd P C fr own G ⟨dst, .call ⟨.value fo,args,tys⟩,ty',pos,af,gd⟩ (.bool false):=by
 intro a w hfr hh;have e1:=(hh.hown _ h1.mem).1;have e2:=(hh.hown _ h2.mem).1;have ev:args.map a.eval=⟨[.slice (some ⟨b1,o1,none⟩) l1 c1, .slice (some ⟨b2,o2,none⟩) l2 c2]⟩:=by apply Array.ext';simpa using Ai hfr hv
 simp only[] at e1 e2;have hrun:=Lib.run_overlaps_apart (P:=P) w tS tR e hT.un s hT.siz ⟨b1,o1,none⟩ ⟨b2,o2,none⟩ l1 c1 l2 c2 hne t1 t2 cs1.length cs2.length
  (by simp[World.shape?,e1]) (by simp[World.shape?,e2]) (by simpa using hc2) (by simp[World.frozen?,e1]) (by simp[World.frozen?,e1])
 simp only[execOp,resolve,bj hfr ho,ev,Deferred.ofValue];show(invoke (.fn (.func f) #[]) _).run P w=_;simp only[invoke];have h3:=run_callFunc_extern (P:=P) hf hname hb hn he;rw[h3];simp[hrun,Result.andThen]
end
instance kh.cons2 (l m:List ak) (o:ak) [h:kh l m]:kh (o::l) (o::m):=⟨h.s.cons_cons o⟩
def dr0{P:Program}{C:aD}{n:Nat}{fr:Fr}{own own0:List ak}{G:Gh}{ops:Array Oper}{Q:Exit->Act->World->Prop}{b:Nat}{cs:List Value}{ty:TypeId}{lo:Bool}(fin:Nat->Bool)(π:List (Nat×Bool)){id:Nat}(hm:P.follows .mixedOrders=true)(_hr:jn own ⟨b,cs,ty,lo⟩ own0)(ho:(qk ops fin π (Array.replicate ops.size false)&&Nat.ble π.length ops.size)=true)
  (h:St C n fr own G (f8 P ops (fC Q) (HS C own0 G) fin π)):St C n fr own G ((Code.region id ops true).wp P Q):=by
 simp only[aN] at ho;intro a w rl;exact wp_mono (wp_region_any hm (Cm _ _ _ _ (zF (fun _ _ _ _ _ h=>h) π _ a _ ho.1 (h a _ (rl.heap rl.h.drew)) _ (by simpa using ho.2)))) fC.imp
def aC(vs:List Value):List Value:=(vs.map aE).flatten
def ek{s:Nat}: ∀(vs:List Value),(∀v∈vs,(aE v).length=s)->(aC vs).length=vs.length*s
 |[],_=>by simp[aC]
 |v::vs,h=>by
  have h1:=ek vs (fun u hu=>h u (aZ _ hu));have h2:=h v aQ;unfold aC at*;simp only[bW,lQ,aT,bX,h1,h2,gX];omega
def mE(us vs:List Value):aC (us++vs)=aC us++aC vs:=by simp[aC]
def wo(v:Value):aC [v]=aE v:=by simp[aC]
def DR{s:Nat}: ∀(vs:List Value) (i:Nat),(∀v∈vs,(aE v).length=s)->i<=vs.length->(aC vs).take (i*s)=aC (vs.take i)
 |vs,0,_,_=>by simp[aC]
 |[],i+1,_,h=>by simp at h
 |v::vs,i+1,h,hi=>by
  have h1:=DR vs i (fun u hu=>h u (aZ _ hu)) (by simpa using hi);have h2:=h v aQ;unfold aC at*;simp only[bW,lQ,oJ];rw[List.take_append,h2,bQ (by rw[h2,gX];omega),gX,lM,h1]
def AX{s:Nat}: ∀(vs:List Value) (i:Nat),(∀v∈vs,(aE v).length=s)->i<=vs.length->(aC vs).drop (i*s)=aC (vs.drop i)
 |vs,0,_,_=>by simp
 |[],i+1,_,h=>by simp at h
 |v::vs,i+1,h,hi=>by
  have h1:=AX vs i (fun u hu=>h u (aZ _ hu)) (by simpa using hi);have h2:=h v aQ;unfold aC at*;simp only[bW,lQ,sM];rw[mL,h2,oS (by rw[h2,gX];omega),gX,lM,h1,cY]
def H9{s:Nat}{vs rest:List Value}(h: ∀v∈vs,(aE v).length=s){i:Nat}(hi:i<vs.length):cF (aC vs++rest) (i*s) s=some (aE vs[i]):=by
 have hl:=ek vs h;have hle:i*s+s<=vs.length*s:=by rw[<-gX];exact bU _ hi
 rw[ma _ _ _ (by simp only[aT];omega)];congr 1;rw[jY (by omega),AX vs i h (by omega),bY hi];have h2:=h vs[i] (fJ hi);rw[show(vs[i]::vs.drop (i+1))=[vs[i]]++vs.drop (i+1) from J,mE,wo,dQ,eY (by omega),bQ (by omega)]
def eB.of_flat{G:Gh}{b c s:Nat}{vs rest:List Value}(h: ∀v∈vs,(aE v).length=s)(hg:G b=some (aC vs++rest))(hc:vs.length<=c):eB G s ⟨some ⟨b,0,none⟩,vs.length,c⟩ vs:=
 ⟨J,hc, .inr ⟨b,0,_,J,hg,fun i hi=>by rw[dS];exact H9 h hi⟩⟩
section
variable {P:Program} {C:aD} {n:Nat} {fr:Fr} {own own':List ak} {G:Gh} {Φ:Act->World->Prop}
variable {dst:Option Nat} {ty':TypeId} {pos:String} {af:Array Edge} {gd:Option (Nat×Bool)} {x y:Operand} {tys:Array TypeId}
def zq{ops:Array Oper}{Q:Exit->Act->World->Prop}(own0:List ak)(fin:Nat->Bool)(π:List (Nat×Bool)){id:Nat}(hm:P.follows .mixedOrders=true)(ho:(qk ops fin π (Array.replicate ops.size false)&&Nat.ble π.length ops.size)=true)
  (h:St C n fr own G (f8 P ops (fC Q) (HS C own0 G) fin π)):St C n fr own G ((Code.region id ops true).wp P Q):=by
 simp only[aN] at ho;intro a w rl;exact wp_mono (wp_region_any hm (Cm _ _ _ _ (zF (fun _ _ _ _ _ h=>h) π _ a _ ho.1 (h a _ (rl.heap rl.h.drew)) _ (by simpa using ho.2)))) fC.imp
end
section
variable {P:Program} {ops:Array Oper} {Q:Exit->Act->World->Prop} {S:World->Prop} {fin:Nat->Bool} {π₂:List (Nat×Bool)}
def bE(l:List Nat)(k:Nat):List Nat:=l.filter fun j=>!Nat.beq j k
def FY{l:List Nat}{k:Nat}(h:k∈l):(bE l k).length<l.length:=by
 unfold bE;rw[pK];exact⟨k,h,by simp⟩
def z6(ops:Array Oper)(fin:Nat->Bool)(π₂:List (Nat×Bool)):Nat->List Nat->List (Nat×Bool)->Array Bool->Bool
 |0,_,_,_=>false
 |_+1,[],[],listed=>qk ops fin π₂ listed
 |n+1,k::ks,[],listed=>!(Region.ready .any ops listed).isEmpty&&(Region.ready .any ops listed).all (fun j=>(k::ks).contains j)&&(k::ks).all fun j=>z6 ops fin π₂ n (bE (k::ks) j) [] (listed.setIfInBounds j true)
 |n+1,ks,(i,true)::r,listed=>yw ops fin listed i&&z6 ops fin π₂ n ks r (listed.setIfInBounds i true)
 |n+1,ks,(i,false)::r,listed=>!(Region.ready .any ops listed).isEmpty&&(Region.ready .any ops listed).all (fun j=>Nat.beq j i||ks.contains j)&&z6 ops fin π₂ n ks r (listed.setIfInBounds i true)&&ks.all fun j=>z6 ops fin π₂ n (bE ks j) ((i,false)::r) (listed.setIfInBounds j true)
def As(P:Program)(ops:Array Oper)(Q:Exit->Act->World->Prop)(S:World->Prop)(fin:Nat->Bool)(π₂:List (Nat×Bool)):List Nat->List (Nat×Bool)->Act->World->Prop
 |[],[],a,w=>f8 P ops Q S fin π₂ a w
 |k::ks,[],a,w=> ∀j,(h:j∈k::ks)->wpOp P ops Q j (fun a' w'=>(fin j=true\/S w')/\As P ops Q S fin π₂ (bE (k::ks) j) [] a' w') a w
 |ks,(i,true)::r,a,w=> ∃o v,ops[i]? =some o/\S w/\YieldsIf P ops S o v a/\As P ops Q S fin π₂ ks r (a.put o.dst v) w
 |ks,(i,false)::r,a,w=>wpOp P ops Q i (fun a' w'=>(fin i=true\/S w')/\As P ops Q S fin π₂ ks r a' w') a w/\
   ∀j,(h:j∈ks)->wpOp P ops Q j (fun a' w'=>(fin j=true\/S w')/\As P ops Q S fin π₂ (bE ks j) ((i,false)::r) a' w') a w
termination_by ks π=>ks.length+π.length
decreasing_by
 all_goals (first|(have:=FY h;simp only[bX,iK] at*;omega)|(simp only[bX];omega))
end
structure FD where
 k:Nat
 d:Nat
 t:TypeId
 z:Value
abbrev Fs:=Nat->Option Nat
def GK:List FD->Fs->Fr
 |[],_=>[]
 |f::r,fs=>fF f.d (fs f.k)++GK r fs
def FJ:List FD->Fs->List ak
 |[],_=>[]
 |f::r,fs=>fO f.t f.z (fs f.k)++FJ r fs
def EZ(fd:List FD)(fs:Fs):List Nat:=(fd.filter fun f=>(fs f.k).isNone).map (·.k)
def aKc(fs:Fs)(k b:Nat):Fs:=fun j=>if j=k then some b else fs j
structure aKZ (P:Program) (ops:Array Oper) (n:Nat) (fd:List FD):Prop where
 op: ∀f∈fd,∃ty' pos af,ops[f.k]? =some ⟨some f.d, .alloc f.t,ty',pos,af,none⟩/\b9 n (some f.d)=true
 z: ∀f∈fd,gj P f.t f.z
 nd:(fd.map (·.k)).Nodup
 dd: ∀f∈fd,∀g∈fd,f.d=g.d->f.k=g.k
section
variable {P:Program} {C:aD} {n:Nat} {fr:Fr} {own own0:List ak} {G G0:Gh} {ops:Array Oper} {Q:Exit->Act->World->Prop} {fin:Nat->Bool} {π π₂:List (Nat×Bool)} {fd:List FD}
def dwH(P:Program)(ops:Array Oper)(Q:Exit->Act->World->Prop)(S:World->Prop)(fin:Nat->Bool)(π₂:List (Nat×Bool))(fd:List FD)(fs:Fs)(π:List (Nat×Bool)):Act->World->Prop:=As P ops Q S fin π₂ (EZ fd fs) π
end
def iw(s:Nat)(ty:TypeId)(x:SV)(vs:List Value)(B:List ak):Prop:=
 (vs=[]/\x=⟨none,0,0⟩/\B=[])\/
 ∃b rest lo,x=⟨some ⟨b,0,none⟩,vs.length,x.c⟩/\B=[⟨b,aC vs++rest,ty,lo⟩]/\(aC vs).length=vs.length*s/\(aC vs).length+rest.length=x.c*s/\vs.length<=x.c
def iw.nil(s:Nat)(ty:TypeId):iw s ty ⟨none,0,0⟩ [] []:= .inl ⟨J,J,J⟩
def iw.relo{s:Nat}{ty:TypeId}{x:SV}{vs:List Value}{B:List ak}(h:iw s ty x vs B)(fl:Nat->Bool):iw s ty x vs (B.map (Go.Sx.relo fl)):=by
 rcases h with⟨h1,h2,h3⟩|⟨b,rest,lo,h1,h2,h3,h4,h5⟩
 ·exact .inl ⟨h1,h2,by rw[h3];rfl⟩
 ·exact .inr ⟨b,rest,fl b,h1,by rw[h2];rfl,h3,h4,h5⟩
def iw.asB{s:Nat}{ty:TypeId}{x:SV}{vs:List Value}{B:List ak}(h:iw s ty x vs B):iw s ty x vs (asB B):=by
 rcases h with⟨h1,h2,h3⟩|⟨b,rest,lo,h1,h2,h3,h4,h5⟩
 ·exact .inl ⟨h1,h2,by rw[h3];rfl⟩
 ·exact .inr ⟨b,rest,false,h1,by rw[h2];rfl,h3,h4,h5⟩
def iw.len{s:Nat}{ty:TypeId}{x:SV}{vs:List Value}{B:List ak}(h:iw s ty x vs B):x.n=vs.length:=by
 rcases h with⟨h1,h2,h3⟩|⟨b,rest,lo,h1,h2,h3,h4,h5⟩
 ·rw[h2,h1];rfl
 ·rw[h1]
def Zx{M:List ak}{m:ak}(h:m∈M)(hl:m.lo=false):iA M m.b=false:=by
 refine List.all_eq_false.2 ⟨m,h,?_⟩;simp[hl]
def CW{M:List ak}(b:Nat)(h: ∀m∈M,m.lo=true):iA M b=true:=by
 refine fX.2 fun m hm=>?_;simp[h m hm]
section
variable {P:Program} {C:aD} {n:Nat} {fr:Fr} {own own':List ak} {G:Gh} {Φ:Act->World->Prop}
variable {dst:Option Nat} {t t' ty':TypeId} {pos:String} {af:Array Edge} {gd:Option (Nat×Bool)} {x y:Operand} {e s by_:Nat}
def alc[hT:cg P t e s by_][hN:jE P t']{z:Value}[hz:gj P e z]{w:SV}{vs:List Value}{v:Value}{B:List ak}(L:List ak){ad2:Option Addr}{cap2:Nat}
  (ho:own=L++B)(hB:iw s e w vs B)(hx:aw fr x=some (.slice w.a w.n w.c))(hy:aw fr y=some (.slice ad2 1 cap2))
  (hsy:mC P C own G s 1 (.slice ad2 1 cap2) (aE v))(hv:(aE v).length=s)(hf: ∀c∈aE v,flat c=true)
  (hby:0<by_)(hb:(vs.length+1)*by_<=140737488355328)(hzs:(aE z).length=s)(hd:b9 n dst=true)
  (h: ∀w' B',iw s e w' (vs++[v]) B'->St C n (put fr dst (.slice w'.a w'.n w'.c)) (L++B') G Φ):
  Ch P C n fr own G ⟨dst, .call ⟨.builtin .append, #[x,y], #[t,t']⟩,ty',pos,af,gd⟩ Φ:=by
 subst ho;rcases hB with⟨h1,h2,h3⟩|⟨b,rest,lo,h1,h2,h3,h4,h5⟩
 ·subst h1 h2 h3
  rw[iW] at hsy⊢;refine AF (z:=z) (xs:=[]) (ys:=aE v) hx hy (ux) hsy (by show 0<0+1;omega) hby (by simpa using hb) hd (fun b cap' hc=>?_);refine A4 (L++[⟨b,[]++aE v++cG z (cap'-(0+1)),e,true⟩]) ?_ (h ⟨some ⟨b,0,none⟩,1,cap'⟩ _ (.inr ⟨b,cG z (cap'-(0+1)),true,J,?_,?_,?_,by simpa using hc⟩))
  ·exact(lS (l₁:=[_]) (l₂:=L))
  ·simp[aC]
  ·simp[aC,hv]
  ·simp only[cY,wo,hv,ny,hzs]
   obtain⟨c,rfl⟩: ∃c,cap'=c+1:=⟨cap'-1,by have:0+1<=cap':=hc;omega⟩;rw[show c+1-(0+1)=c by omega,gX,lZ]
 ·have hwc:w.a=some ⟨b,0,none⟩/\w.n=vs.length:=by rw[h1];exact⟨J,J⟩
  rw[hwc.1,hwc.2] at hx;subst h2;have hsub:jn (L++[⟨b,aC vs++rest,e,lo⟩]) ⟨b,aC vs++rest,e,lo⟩ L:=by
   clear hsy h
   induction L with
   |nil=>exact .hd ..
   |cons a l ih=>exact .tl _ _ _ _ ih
  refine O4 (z:=z) (xs:=aC vs) (ys:=aE v) (rest:=rest) hx hy hsub h3 h4 h5 hsy (by rw[hv,mT]) hf hby hb hzs hd (fun b' lo' cap' rest' hc hr=>?_);refine A4 (L++[⟨b',aC vs++aE v++rest',e,lo'⟩]) ?_ (h ⟨some ⟨b',0,none⟩,vs.length+1,cap'⟩ _ (.inr ⟨b',rest',lo',by simp,?_,?_,?_,by simpa using hc⟩))
  ·exact(lS (l₁:=[_]) (l₂:=L))
  ·rw[mE,wo]
  ·rw[mE,wo,aT,h3,hv,aT,nK,gX]
  ·rw[mE,wo,aT,h3,hv]
   rw[gX] at hr;show vs.length*s+s+rest'.length=cap'*s;omega
end
instance kh.nil (l:List ak):kh [] l:=⟨kQ l⟩
def II{C:aD}{n:Nat}{fr:Fr}{own own':List ak}{G:Gh}{Φ:Act->World->Prop}(e:own=own')(h:St C n fr own' G Φ):St C n fr own G Φ:=e▸h
def Ey{P:Program}{C:aD}{n:Nat}{fr:Fr}{own:List ak}{G:Gh}{Φ:Act->World->Prop}{dst:Option Nat}{ty':TypeId}{pos:String}{af:Array Edge}{gd:Option (Nat×Bool)}{f:FuncId}{fo:Operand}{args:Array Operand}{tys:Array TypeId}{vs c1 c2:List Value}{M rest:List ak}{K:Value->List ak->Gh->Prop}(ho:aw fr fo=some (.func (.func f) ⟨c1⟩ ⟨c2⟩))(hv:fP fr args.toList=some vs)
  (hp:own.Perm (M++rest))(hF:i8 P f (c1++vs++c2) M G K)(hd:b9 n dst=true)
  (h: ∀v own1 (G':Gh) (fl:Nat->Bool),[GE G G']->(∀m∈M,m.lo=false->fl m.b=false)->((∀m∈M,m.lo=true)-> ∀b,fl b=true)->K v own1 G'->St C n (put fr dst v) (own1.map (relo fl)++rest) G' Φ):
  Ch P C n fr own G ⟨dst, .call ⟨.value fo,args,tys⟩,ty',pos,af,gd⟩ Φ:=
 Nq ho hv hp hF hd (fun v own1 G' _ hK=>h v own1 G' (iA M) (fun _ hm hl=>Zx hm hl) (fun hl b=>CW b hl) hK)
def Ju{s:Nat}{rest:List Value}{x:Value}{j:Nat}(hj:j<s): ∀(vs:List Value) (n:Nat) (hn:n<vs.length),(∀v∈vs,(aE v).length=s)->
  (aC vs++rest).set (n*s+j) x=aC (vs.take n)++((aE vs[n]).set j x++(aC (vs.drop (n+1))++rest))
 |[],n,hn,_=>by simp at hn
 |v::vs,0,hn,h=>by
  have h2:=h v aQ;have e:aC (v::vs)=aE v++aC vs:=by simp[aC]
  rw[e,dQ,kV,dS,List.set_append_left _ _ (by omega)];simp[aC]
 |v::vs,n+1,hn,h=>by
  have h2:=h v aQ;have ih:=Ju (rest:=rest) (x:=x) hj vs n (by simpa using hn) (fun u hu=>h u (aZ _ hu));have e:aC (v::vs)=aE v++aC vs:=by simp[aC]
  rw[e,dQ,nJ _ _ (by rw[h2,gX];omega),h2,show(n+1)*s+j-s=n*s+j by rw[gX];omega,ih];simp[aC]
def U6{C:aD}{n:Nat}{fr:Fr}{L B:List ak}{G:Gh}{Φ:Act->World->Prop}{s:Nat}{ty:TypeId}{x:SV}{vs:List Value}(hC:C.mb=[])(hB:iw s ty x vs B)(hvs: ∀v∈vs,(aE v).length=s)
  (h: ∀G':Gh,[GE G G']->eB G' s x vs->St C n fr L G' Φ):St C n fr (L++B) G Φ:=by
 rcases hB with⟨h1,h2,h3⟩|⟨b,rest,lo,h1,h2,h3,h4,h5⟩
 ·subst h1 h2 h3
  rw[iW];exact @h G ⟨bw.refl _⟩ (eB.nil _ _)
 ·subst h2
  refine A4 (⟨b,aC vs++rest,ty,lo⟩::L) lS ?_;refine Z7 hC ?_;refine p8 b (.hd ..) ?_;intro G' hG hg;refine @h G' hG ?_;rw[h1];exact eB.of_flat hvs hg.h h5
inductive DV where
 |v (x:Value)
 |ag (l:List DV)
 |tp (l:List DV)
 |pt (l:List DV)
 |op (b:Bool) (l:List DV)
 |sl (l:List DV)
mutual
def Is(G:Gh):DV->Value->Prop
 | .v x,y=>y=x
 | .ag l,y=> ∃m,y= .agg ⟨m⟩/\IsLs G l m
 | .tp l,y=> ∃m,y= .tuple ⟨m⟩/\IsLs G l m
 | .pt l,y=> ∃b m,y= .pointer (some ⟨b,0,none⟩)/\G b=some m/\IsLs G l m
 | .op b l,y=>(b=false/\y= .pointer none)\/(b=true/\ ∃b m,y= .pointer (some ⟨b,0,none⟩)/\G b=some m/\IsLs G l m)
 | .sl l,y=> ∃(s:Nat) (x:SV) (es:List Value),y= .slice x.a x.n x.c/\eB G s x es/\IsLs G l es
def IsLs(G:Gh):List DV->List Value->Prop
 |[],m=>m=[]
 |d::t,m=> ∃y n,m=y::n/\Is G d y/\IsLs G t n
end
mutual
def Is.up'{A G:Gh}(h:bw A G): ∀(d:DV) (y:Value),Is A d y->Is G d y
 | .v x,y,k=>by simp only[Is] at k⊢;exact k
 | .ag l,y,k=>by simp only[Is] at k⊢;obtain⟨m,e,k⟩:=k;exact⟨m,e,IsLs.up' h l m k⟩
 | .tp l,y,k=>by simp only[Is] at k⊢;obtain⟨m,e,k⟩:=k;exact⟨m,e,IsLs.up' h l m k⟩
 | .pt l,y,k=>by simp only[Is] at k⊢;obtain⟨b,m,e,hb,k⟩:=k;exact⟨b,m,e,h _ _ hb,IsLs.up' h l m k⟩
 | .op _ l,y,k=>by simp only[Is] at k⊢;exact k.imp id fun⟨e1,b,m,e,hb,k⟩=>⟨e1,b,m,e,h _ _ hb,IsLs.up' h l m k⟩
 | .sl l,y,k=>by simp only[Is] at k⊢;obtain⟨s,x,es,e,hs,k⟩:=k;exact⟨s,x,es,e,hs.up' h,IsLs.up' h l es k⟩
def IsLs.up'{A G:Gh}(h:bw A G): ∀(d:List DV) (y:List Value),IsLs A d y->IsLs G d y
 |[],y,k=>by simp only[IsLs] at k⊢;exact k
 |d::t,y,k=>by simp only[IsLs] at k⊢;obtain⟨u,n,e,h1,h2⟩:=k;exact⟨u,n,e,Is.up' h d u h1,IsLs.up' h t n h2⟩
end
section
variable {G:Gh}
def Is.up{A:Gh}{d:DV}{y:Value}(k:Is A d y)(h:bw A G):Is G d y:=Is.up' h d y k
def IsLs.up{A:Gh}{d:List DV}{y:List Value}(k:IsLs A d y)(h:bw A G):IsLs G d y:=IsLs.up' h d y k
def aG{x y:Value}:Is G (.v x) y↔y=x:=by simp only[Is]
def cO{l:List DV}{y:Value}:Is G (.ag l) y↔ ∃m,y= .agg ⟨m⟩/\IsLs G l m:=by simp only[Is]
def js{l:List DV}{y:Value}:Is G (.tp l) y↔ ∃m,y= .tuple ⟨m⟩/\IsLs G l m:=by simp only[Is]
def ph{l:List DV}{y:Value}:Is G (.pt l) y↔ ∃b m,y= .pointer (some ⟨b,0,none⟩)/\G b=some m/\IsLs G l m:=by simp only[Is]
def tc{b:Bool}{l:List DV}{y:Value}:Is G (.op b l) y↔(b=false/\y= .pointer none)\/(b=true/\Is G (.pt l) y):=by simp only[Is]
def gO{l:List DV}{y:Value}:Is G (.sl l) y↔ ∃(s:Nat) (x:SV) (es:List Value),y= .slice x.a x.n x.c/\eB G s x es/\IsLs G l es:=by simp only[Is]
def cD{m:List Value}:IsLs G [] m↔m=[]:=by simp only[IsLs]
def ba{d:DV}{t:List DV}{m:List Value}:IsLs G (d::t) m↔ ∃y n,m=y::n/\Is G d y/\IsLs G t n:=by simp only[IsLs]
def IsLs.nil:IsLs G [] []:=cD.2 J
def IsLs.cons{d:DV}{t:List DV}{y:Value}{n:List Value}(h:Is G d y)(k:IsLs G t n):IsLs G (d::t) (y::n):=ba.2 ⟨y,n,J,h,k⟩
def IsLs.uncons{d:DV}{t:List DV}{y:Value}{n:List Value}(h:IsLs G (d::t) (y::n)):Is G d y/\IsLs G t n:=by
 obtain⟨u,m,e,h1,h2⟩:=ba.1 h
 cases e
 exact⟨h1,h2⟩
def IsLs.len: ∀{d:List DV} {m:List Value},IsLs G d m->m.length=d.length
 |[],m,h=>by rw[cD.1 h];rfl
 |d::t,m,h=>by
  obtain⟨y,n,rfl,_,h2⟩:=ba.1 h;simp[h2.len]
def IsLs.get: ∀{l:List DV} {m:List Value} {i:Nat} {d:DV},IsLs G l m->l[i]? =some d-> ∃y,m[i]? =some y/\Is G d y
 |[],m,i,d,h,e=>by simp at e
 |x::t,m,0,d,h,e=>by
  obtain⟨y,n,rfl,h1,h2⟩:=ba.1 h;simp at e;subst e;exact⟨y,J,h1⟩
 |x::t,m,i+1,d,h,e=>by
  obtain⟨y,n,rfl,h1,h2⟩:=ba.1 h;simp at e;simpa using h2.get e
def IsLs.app: ∀{a b:List DV} {m n:List Value},IsLs G a m->IsLs G b n->IsLs G (a++b) (m++n)
 |[],b,m,n,h,k=>by rw[cD.1 h];exact k
 |d::t,b,m,n,h,k=>by
  obtain⟨y,m',rfl,h1,h2⟩:=ba.1 h;exact .cons h1 (h2.app k)
def IsLs.unapp: ∀{a b:List DV} {m:List Value},IsLs G (a++b) m-> ∃x y,m=x++y/\IsLs G a x/\IsLs G b y
 |[],b,m,h=>⟨[],m,J, .nil,h⟩
 |d::t,b,m,h=>by
  obtain⟨y,m',rfl,h1,h2⟩:=ba.1 h;obtain⟨u,v,rfl,h3,h4⟩:=h2.unapp;exact⟨y::u,v,J, .cons h1 h3,h4⟩
def IsLs.drop: ∀{a:List DV} {m:List Value} (k:Nat),IsLs G a m->IsLs G (a.drop k) (m.drop k)
 |_,_,0,h=>h
 |[],m,k+1,h=>by rw[cD.1 h];exact .nil
 |d::t,m,k+1,h=>by
  obtain⟨y,m',rfl,h1,h2⟩:=ba.1 h;exact h2.drop k
def IsLs.take: ∀{a:List DV} {m:List Value} (k:Nat),IsLs G a m->IsLs G (a.take k) (m.take k)
 |_,_,0,h=> .nil
 |[],m,k+1,h=>by rw[cD.1 h];exact .nil
 |d::t,m,k+1,h=>by
  obtain⟨y,m',rfl,h1,h2⟩:=ba.1 h;exact .cons h1 (h2.take k)
def IsLs.set: ∀{a:List DV} {m:List Value} (k:Nat) {d:DV} {y:Value},IsLs G a m->Is G d y->IsLs G (a.set k d) (m.set k y)
 |[],m,k,d,y,h,_=>by rw[cD.1 h];exact .nil
 |x::t,m,0,d,y,h,k=>by
  obtain⟨u,m',rfl,h1,h2⟩:=ba.1 h;exact .cons k h2
 |x::t,m,j+1,d,y,h,k=>by
  obtain⟨u,m',rfl,h1,h2⟩:=ba.1 h;exact .cons h1 (h2.set j k)
end
def DV.flat:DV->Bool
 | .v x=>Go.Sx.flat x
 | .ag _=>false
 | .tp _=>false
 | .pt _=>true
 | .op .. =>true
 | .sl .. =>true
def DV.okc:DV->Bool
 | .ag l=>l.all DV.flat
 |d=>d.flat
def DV.cells:DV->List DV
 | .ag l=>l
 |d=>[d]
section
variable {G:Gh}
def Is.flat{d:DV}{y:Value}(h:Is G d y)(k:d.flat=true):Go.Sx.flat y=true:=by
 cases d with
 |v x=>rw[aG.1 h];exact k
 |ag l=>cases k
 |tp l=>cases k
 |pt l=>obtain⟨b,m,rfl,_⟩:=ph.1 h;rfl
 |op b l=>
  rcases tc.1 h with⟨_,rfl⟩|⟨_,h⟩
  ·rfl
  ·obtain⟨b,m,rfl,_⟩:=ph.1 h;rfl
 |sl l=>obtain⟨s,x,es,rfl,_⟩:=gO.1 h;rfl
def z8{y:Value}(h:Go.Sx.flat y=true):aE y=[y]:=by cases y<;>first|rfl|(simp[Go.Sx.flat] at h)
def IsLs.flat: ∀{l:List DV} {m:List Value},IsLs G l m->l.all DV.flat=true-> ∀v∈m,Go.Sx.flat v=true
 |[],m,h,_,v,hv=>by rw[cD.1 h] at hv;cases hv
 |d::t,m,h,k,v,hv=>by
  obtain⟨y,n,rfl,h1,h2⟩:=ba.1 h;simp only[sV,aN] at k;rcases aV.1 hv with rfl|hv
  ·exact h1.flat k.1
  ·exact h2.flat k.2 v hv
def Is.cells{d:DV}{y:Value}(h:Is G d y)(k:d.okc=true):IsLs G d.cells (aE y)/\ ∀v∈aE y,Go.Sx.flat v=true:=by
 cases d with
 |ag l=>obtain⟨m,rfl,hm⟩:=cO.1 h;exact⟨hm,hm.flat k⟩
 |_=>
  have:=h.flat k;rw[z8 this];exact⟨.cons h .nil,fun v hv=>by rw[aY.1 hv];exact this⟩
end
def takeD:List DV->Nat->Nat->Option (List DV)
 |_,0,0=>some []
 |[],0,_+1=>none
 |v::t,0,k+1=>match takeD t 0 k with|some l=>some (v::l)|none=>none
 |[],_+1,_=>none
 |_::t,off+1,k=>takeD t off k
def Ab:List DV->Nat->List DV->List DV
 |cs,_,[]=>cs
 |cs,off,v::vs=>Ab (cs.set off v) (off+1) vs
section
variable {G:Gh}
def IsLs.takeD: ∀{ds:List DV} {m:List Value} {off k:Nat} {l:List DV},IsLs G ds m->takeD ds off k=some l-> ∃n,cF m off k=some n/\IsLs G l n
 |[],m,0,0,l,h,e=>by rw[cD.1 h];simp only[Sx.takeD] at e;cases e;exact⟨[],J, .nil⟩
 |d::t,m,0,0,l,h,e=>by
  obtain⟨y,m',rfl,h1,h2⟩:=ba.1 h;simp only[Sx.takeD] at e;cases e;exact⟨[],J, .nil⟩
 |[],m,0,k+1,l,h,e=>by simp[Sx.takeD] at e
 |d::t,m,0,k+1,l,h,e=>by
  obtain⟨y,m',rfl,h1,h2⟩:=ba.1 h;simp only[Sx.takeD] at e;split at e
  ·rename_i l' hl'
   cases e
   obtain⟨n,hn,hl⟩:=h2.takeD hl';exact⟨y::n,by simp only[cF,hn], .cons h1 hl⟩
  ·cases e
 |[],m,off+1,k,l,h,e=>by simp[Sx.takeD] at e
 |d::t,m,off+1,k,l,h,e=>by
  obtain⟨y,m',rfl,h1,h2⟩:=ba.1 h;exact h2.takeD (off:=off) (k:=k) e
def IsLs.ov: ∀{vs ds:List DV} {n m:List Value} {off:Nat},IsLs G ds m->IsLs G vs n->IsLs G (Ab ds off vs) (cp m off n)
 |[],ds,n,m,off,h,k=>by rw[cD.1 k];exact h
 |v::vs,ds,n,m,off,h,k=>by
  obtain⟨y,n',rfl,h1,h2⟩:=ba.1 k;exact(h.set off h1).ov h2
end
inductive FV where
 |d (x:DV)
 /-- a pointer to cells that are written no more -/
 |ep (l:List DV)
 /-- a pointer to a cell of element i of a row of the call's own -/
 |be (x:SV) (s i j:Nat)
 /-- a slice bE room behind it -/
 |ct (l:List DV)
abbrev et:=List (Nat×FV)
def Qf(G:Gh):FV->Value->Prop
 | .d x,y=>Is G x y
 | .ep l,y=> ∃b off cs m,y= .pointer (some ⟨b,off,none⟩)/\G b=some cs/\cF cs off l.length=some m/\IsLs G l m
 | .be x s i j,y=> ∃b,x.a=some ⟨b,0,none⟩/\y= .pointer (some ⟨b,i*s+j,none⟩)
 | .ct l,y=>(∃a n,y= .slice a n n)/\Is G (.sl l) y
def wi:et->Nat->Option FV
 |[],_=>none
 |(k,v)::t,j=>bif Nat.beq k j then some v else wi t j
def aKs(fr:et)(dst:Option Nat)(v:FV):et:=match dst with|some d=>(d,v)::fr|none=>fr
def Bt(G:Gh):et->Fr->Prop
 |[],m=>m=[]
 |(k,f)::t,m=> ∃y n,m=(k,y)::n/\Qf G f y/\Bt G t n
def ID(fr:et):Operand->Option FV
 | .tmp k=>wi fr k
 | .const v=>some (.d (.v v))
 | .global g=>some (.d (.v (.pointer (some ⟨g,0,none⟩))))
 | .func f=>some (.d (.v (.func (.func f) #[] #[])))
def Mv:FV->Option DV
 | .d (.v (.slice none 0 0))=>some (.sl [])
 | .d d=>some d
 | .ct l=>some (.sl l)
 |_=>none
def BT(fr:et)(x:Operand):Option DV:=(ID fr x).bind Mv
def ZY(fr:et):List Operand->Option (List DV)
 |[]=>some []
 |x::t=>match BT fr x,ZY fr t with
  |some d,some l=>some (d::l)
  |_,_=>none
structure de where
 b:Nat
 cs:List DV
 ty:TypeId
 lo:Bool
structure d4 where
 x:SV
 s:Nat
 ty:TypeId
 ds:List DV
 lo:Bool
class vS (own:List de) (b:Nat) (cs:outParam (List DV)) (ty:outParam TypeId) (lo:outParam Bool):Prop where
 mem:⟨b,cs,ty,lo⟩∈own
instance vS.i1 (b:Nat) (cs:List DV) (ty:TypeId) (lo:Bool) (t:List de):vS (⟨b,cs,ty,lo⟩::t) b cs ty lo:=⟨aQ⟩
instance vS.i2 (o:de) (t:List de) (b:Nat) (cs:List DV) (ty:TypeId) (lo:Bool) [h:vS t b cs ty lo]:vS (o::t) b cs ty lo:=⟨aZ _ h.mem⟩
class zW (bs:List d4) (x:SV) (s:outParam Nat) (ty:outParam TypeId) (ds:outParam (List DV)) (lo:outParam Bool):Prop where
 mem:⟨x,s,ty,ds,lo⟩∈bs
instance zW.i1 (x:SV) (s:Nat) (ty:TypeId) (ds:List DV) (lo:Bool) (t:List d4):zW (⟨x,s,ty,ds,lo⟩::t) x s ty ds lo:=⟨aQ⟩
instance zW.i2 (o:d4) (t:List d4) (x:SV) (s:Nat) (ty:TypeId) (ds:List DV) (lo:Bool) [h:zW t x s ty ds lo]:zW (o::t) x s ty ds lo:=⟨aZ _ h.mem⟩
def Kl(G:Gh):List de->List ak->Prop
 |[],m=>m=[]
 |o::t,m=> ∃cs n,m=⟨o.b,cs,o.ty,o.lo⟩::n/\IsLs G o.cs cs/\Kl G t n
def dm(G:Gh)(β:d4)(B:List ak):Prop:=
 ∃vs,iw β.s β.ty β.x vs B/\IsLs G β.ds vs/\(∀v∈vs,(aE v).length=β.s)/\(β.lo=true-> ∀o∈B,o.lo=true)
def MF(G:Gh):List d4->List ak->Prop
 |[],m=>m=[]
 |β::t,m=> ∃B n,m=B++n/\dm G β B/\MF G t n
def OB(G:Gh)(own:List de)(bs:List d4)(ov:List ak):Prop:= ∃a b,ov=a++b/\Kl G own a/\MF G bs b
structure Sr (GB G:Gh) (fr:et) (own:List de) (bs:List d4) (frv:Fr) (ov:List ak):Prop where
 gb:bw GB G
 fr:Bt G fr frv
 ob:OB G own bs ov
structure pg where
 fr:Fr
 own:List ak
def E0:pg:=⟨[],[]⟩
structure SD (GB:Gh) (C:aD) (n:Nat) (E:pg) (fr:et) (own:List de) (bs:List d4) (Φ:Act->World->Prop):Prop where
 run: ∀G frv ov,Sr GB G fr own bs frv ov->St C n (frv++E.fr) (ov++E.own) G Φ
instance {GB:Gh} {C:aD} {n:Nat} {E:pg} {fr:et} {own:List de} {bs:List d4} {Φ:Act->World->Prop}:CoeFun (SD GB C n E fr own bs Φ) (fun _=> ∀G frv ov,Sr GB G fr own bs frv ov->St C n (frv++E.fr) (ov++E.own) G Φ):=⟨SD.run⟩
def YD(P:Program)(GB:Gh)(C:aD)(fr:et)(own:List de)(bs:List d4)(o:Oper)(f:FV):Prop:=
 ∀G frv ov,Sr GB G fr own bs frv ov-> ∃y,Qf G f y/\ ∀G',bw G G'->Yd P C frv ov G' o y
def CD(P:Program)(GB:Gh)(C:aD)(n:Nat)(E:pg)(fr:et)(own:List de)(bs:List d4)(o:Oper)(Φ:Act->World->Prop):Prop:=
 ∀G frv ov,Sr GB G fr own bs frv ov->Ch P C n (frv++E.fr) (ov++E.own) G o Φ
def TD(P:Program)(GB:Gh)(C:aD)(n:Nat)(fr:et)(own:List de)(bs:List d4)(o:Oper)(fr':et)(own':List de)(bs':List d4):Prop:=
 ∀(GB':Gh) (E:pg) (Φ:Act->World->Prop),bw GB GB'->SD GB' C n E fr' own' bs' Φ->CD P GB' C n E fr own bs o Φ
def TF(P:Program)(GB:Gh)(C:aD)(n:Nat)(fr:et)(own:List de)(bs:List d4)(o:Oper)(ι:Type)(fr':ι->et)(own':ι->List de)(bs':ι->List d4):Prop:=
 ∀(GB':Gh) (E:pg) (Φ:Act->World->Prop),bw GB GB'->(∀x,SD GB' C n E (fr' x) (own' x) (bs' x) Φ)->CD P GB' C n E fr own bs o Φ
section
variable {P:Program} {GB:Gh} {C:aD} {n:Nat} {E:pg} {fr fr':et} {own own':List de} {bs bs':List d4} {ops:Array Oper} {Q:Exit->Act->World->Prop} {r:List Oper} {Φ:Act->World->Prop}
def aKV(P:Program)(y:Code)(Q:Exit->Act->World->Prop):Exit->Act->World->Prop:=Exit.then (y.wp P Q) Q
def aKX(fr' fr:et):Prop:= ∀e∈fr',wi fr e.1=some e.2
def aHO(GB:Gh)(C:aD)(n:Nat){X:Type}(F:X->et)(O:X->List de)(B:X->List d4)(I:X->Prop)(μ:X->Nat)(m:Nat)(a:Act)(w:World):Prop:=
 ∃x G frv ov,I x/\μ x<m/\Sr GB G (F x) (O x) (B x) frv ov/\gg C n frv ov G a w
def AtD(GB:Gh)(C:aD)(n:Nat){X:Type}(F:X->et)(O:X->List de)(B:X->List d4)(I:X->Prop)(a:Act)(w:World):Prop:=
 ∃x G frv ov,I x/\Sr GB G (F x) (O x) (B x) frv ov/\gg C n frv ov G a w
def PF(GB:Gh)(P:Program)(f:FuncId)(ds:List DV)(r:DV):Prop:=
 ∀G vs,bw GB G->IsLs G ds vs->Fn P f vs G (fun v G'=>Is G' r v)
def PM(GB:Gh)(P:Program)(f:FuncId)(ds:List DV)(b:Nat)(ty:TypeId)(cs:List DV)(r:DV)(cs':List DV):Prop:=
 ∀G vs m lo,bw GB G->IsLs G ds vs->IsLs G cs m->jB P f vs [⟨b,m,ty,lo⟩] G (fun v css G'=>Is G' r v/\ ∃m',css=[m']/\IsLs G' cs' m')
def Zl:Nat->List DV->et
 |_,[]=>[]
 |i,v::t=>(i, .d v)::Zl (i+1) t
inductive wv (P:Program) (fr:et) (own:List de):List ResultVar->List DV->Prop
 |nil:wv P fr own [] []
 |tmp {t:Nat} {v:DV} {rs:List ResultVar} {vs:List DV} (h:(wi fr t).bind Mv=some v) (k:wv P fr own rs vs):wv P fr own (.tmp t::rs) (v::vs)
 |agg {a b k:Nat} {t:TypeId} {cs l:List DV} {ty:TypeId} {lo:Bool} {rs:List ResultVar} {vs:List DV} (h:wi fr a=some (.d (.v (.pointer (some ⟨b,0,none⟩))))) (ho:vS own b cs ty lo) (ht:lj P t k) (hl:takeD cs 0 k=some l) (h2:wv P fr own rs vs):
   wv P fr own (.cell a t::rs) (.ag l::vs)
 |sc {a b:Nat} {t:TypeId} {cs:List DV} {v:DV} {ty:TypeId} {lo:Bool} {rs:List ResultVar} {vs:List DV} (h:wi fr a=some (.d (.v (.pointer (some ⟨b,0,none⟩))))) (ho:vS own b cs ty lo) (ht:ik P t) (hl:cs[0]? =some v) (h2:wv P fr own rs vs):
   wv P fr own (.cell a t::rs) (v::vs)
def iE:List DV->DV
 |[d]=>d
 |l=> .tp l
def xK{G:Gh}{ds:List DV}{vs:List Value}(h:IsLs G ds vs):Is G (iE ds) (gm vs):=by
 match ds,h with
 |[],h=>rw[cD.1 h];exact js.2 ⟨[],J, .nil⟩
 |[d],h=>
  obtain⟨y,m,rfl,h1,h2⟩:=ba.1 h;rw[cD.1 h2];exact h1
 |a::b::t,h=>
  obtain⟨y,m,rfl,h1,h2⟩:=ba.1 h;obtain⟨z,m',rfl,h3,h4⟩:=ba.1 h2;exact js.2 ⟨_,J,h⟩
end
def Cc{cs l:List Value}{o k:Nat}(h:cF cs o k=some l):l.length=k:=(qz _ _ _ _ h).1
def CT: ∀{cs m:List Value} {o k:Nat},cF cs o k=some m-> ∀{d:Nat},d<=k->cF cs (o+d) (k-d)=some (m.drop d)
 |cs,m,o,k,h,0,_=>by simpa using h
 |[],m,0,0,h,d+1,hd=>by omega
 |v::t,m,0,0,h,d+1,hd=>by omega
 |[],m,0,k+1,h,d+1,hd=>by simp[cF] at h
 |v::t,m,0,k+1,h,d+1,hd=>by
  simp only[cF] at h;split at h
  ·rename_i l hl
   cases h
   have:=CT hl (d:=d) (by omega);rw[dS] at this;rw[dS,Nat.add_sub_add_right,sM];exact this
  ·cases h
 |[],m,o+1,k,h,d+1,hd=>by simp[cF] at h
 |v::t,m,o+1,k,h,d+1,hd=>by
  simp only[cF] at h;have:=CT h (d:=d+1) hd;rw[show o+1+(d+1)=(o+(d+1))+1 by omega];exact this
def Eo: ∀{cs m:List Value} {o k:Nat},cF cs o k=some m-> ∀{j:Nat},j<=k->cF cs o j=some (m.take j)
 |cs,m,0,k,h,0,_=>by cases cs<;>rfl
 |[],m,0,0,h,j+1,hd=>by omega
 |v::t,m,0,0,h,j+1,hd=>by omega
 |[],m,0,k+1,h,j+1,hd=>by simp[cF] at h
 |v::t,m,0,k+1,h,j+1,hd=>by
  simp only[cF] at h;split at h
  ·rename_i l hl
   cases h
   have:=Eo hl (j:=j) (by omega);simp[cF,this]
  ·cases h
 |[],m,o+1,k,h,j,hd=>by simp[cF] at h
 |v::t,m,o+1,k,h,j,hd=>by
  simp only[cF] at h⊢;exact Eo h hd
def y5{m l:List Value}{j k:Nat}(h:cF m j k=some l):j+k<=m.length/\l=(m.drop j).take k:=by
 obtain⟨h1,h2⟩:=qz _ _ _ _ h;have hle:j<=m.length:=by
  clear h1 h2
  induction m generalizing j with
  |nil=>cases j with
   |zero=>exact aM _
   |succ j=>simp[cF] at h
  |cons v t ih=>cases j with
   |zero=>exact bK _
   |succ j=>have:=ih (j:=j) h;simp;omega
 have hlen:j+k<=m.length:=by
  rcases fK k with h0|h0
  ·omega
  ·have h3:=h2 (k-1) (by omega)
   rw[aX (by omega:k-1<l.length)] at h3;have:=(aU.1 h3).1;omega
 rw[ma _ _ _ hlen] at h
 cases h
 exact⟨hlen,J⟩
def JS{cs m l:List Value}{o s j k:Nat}(h:cF cs o s=some m)(hm:cF m j k=some l):cF cs (o+j) k=some l:=by
 obtain⟨h1,rfl⟩:=y5 hm;have hl:=Cc h;have h2:=CT h (d:=j) (by omega);exact Eo h2 (j:=k) (by omega)
def SQ{cs:List Value}{o:Nat}{v:Value}:cF cs o 1=some [v]↔cs[o]? =some v:=by
 constructor
 ·intro h
  obtain⟨_,h2⟩:=qz _ _ _ _ h;simpa using h2 0 (by omega)
 ·intro h
  obtain⟨h1,h2⟩:=aU.1 h;rw[ma _ _ _ (by omega),bY h1,oJ,h2];rfl
def L3{m l:List Value}{j k i:Nat}(h:cF m j k=some l)(hi:i<k):m[j+i]? =l[i]? :=(qz _ _ _ _ h).2 i hi
inductive Fg:List de->Nat->List DV->TypeId->Bool->List DV->List de->Prop
 |hd (b:Nat) (cs cs':List DV) (ty:TypeId) (lo:Bool) (t:List de):Fg (⟨b,cs,ty,lo⟩::t) b cs ty lo cs' (⟨b,cs',ty,lo⟩::t)
 |tl (o:de) (t t':List de) (b:Nat) (cs cs':List DV) (ty:TypeId) (lo:Bool) (h:Fg t b cs ty lo cs' t'):Fg (o::t) b cs ty lo cs' (o::t')
inductive Hi:List de->Nat->List DV->TypeId->Bool->List de->Prop
 |hd (b:Nat) (cs:List DV) (ty:TypeId) (lo:Bool) (t:List de):Hi (⟨b,cs,ty,lo⟩::t) b cs ty lo t
 |tl (o:de) (t t':List de) (b:Nat) (cs:List DV) (ty:TypeId) (lo:Bool) (h:Hi t b cs ty lo t'):Hi (o::t) b cs ty lo (o::t')
inductive HM:List d4->d4->List d4->Prop
 |hd (β:d4) (t:List d4):HM (β::t) β t
 |tl (o:d4) (t t':List d4) (β:d4) (h:HM t β t'):HM (o::t) β (o::t')
section
variable {P:Program} {GB:Gh} {C:aD} {n:Nat} {E:pg} {fr fr':et} {own own':List de} {bs bs':List d4} {ops:Array Oper} {Q:Exit->Act->World->Prop} {r:List Oper} {Φ:Act->World->Prop}
variable {dst:Option Nat} {t t' ty':TypeId} {pos:String} {af:Array Edge} {gd:Option (Nat×Bool)} {x y z:Operand} {e s by_:Nat}
def dm.elem{G:Gh}{β:d4}{B:List ak}(h:dm G β B){i:Nat}{d:DV}(hi:β.ds[i]? =some d)(hd:d.okc=true):
  ∃b m rest lo l,β.x.a=some ⟨b,0,none⟩/\B=[⟨b,m++rest,β.ty,lo⟩]/\cF (m++rest) (i*β.s) β.s=some l/\IsLs G d.cells l:=by
 obtain⟨vs,hB,hv,hs,_⟩:=h;obtain⟨v,h1,h2⟩:=hv.get hi;rcases hB with⟨e,_,_⟩|⟨b,rest,lo,h3,h4,h5,h6,h7⟩
 ·rw[e] at h1;simp at h1
 ·obtain⟨h8,h9⟩:=aU.1 h1
  refine⟨b,aC vs,rest,lo,aE v,by rw[h3],h4,?_,(h2.cells hd).1⟩;have:=H9 (rest:=rest) hs h8;rw[h9] at this;exact this
def WO(fr:et)(offs:List (Nat×Nat)):List DV->List (Nat×Operand)->Option (List DV)
 |cs,[]=>some cs
 |cs,(i,x)::r=>match offs[i]?,BT fr x with
  |some (off,k),some d=>bif d.okc&&(Nat.beq d.cells.length k&&Nat.ble (off+k) cs.length) then WO fr offs (Ab cs off d.cells) r else none
  |_,_=>none
class aKP (P:Program) (t:TypeId) (z:outParam Value) (cs:outParam (List DV)):Prop where
 tz:gj P t z
 iz:IsLs (fun _=>none) cs (aE z)
def IsLs.all{G:Gh}: ∀{l:List DV} {m:List Value},IsLs G l m-> ∀v∈m,∃d∈l,Is G d v
 |[],m,h,v,hv=>by rw[cD.1 h] at hv;cases hv
 |d::t,m,h,v,hv=>by
  obtain⟨y,n,rfl,h1,h2⟩:=ba.1 h;rcases aV.1 hv with rfl|hv
  ·exact⟨d,aQ,h1⟩
  ·obtain⟨d',hd,h3⟩:=h2.all v hv
   exact⟨d',aZ _ hd,h3⟩
def eB.sub{G:Gh}{s:Nat}{x:SV}{es:List Value}(h:eB G s x es)(lo hi mx:Nat)(h1:lo<=hi)(h2:hi<=es.length)(h3:hi<=mx)(_h4:mx<=x.c):
  eB G s ⟨if mx=lo then x.a else x.a.map (·.add (lo*s)),hi-lo,mx-lo⟩ ((es.take hi).drop lo):=by
 refine⟨by simp;omega,by simp only[];omega,?_⟩;rcases h.mem with h0|⟨b,off,cs,ha,hg,hc⟩
 ·left;simp[h0]
 ·by_cases he:hi=lo
  ·left;simp[he]
  ·right
   refine⟨b,off+lo*s,cs,?_,hg,fun i hi'=>?_⟩
   ·simp only[]
    rw[if_neg (by omega),ha];simp[o8]
   ·simp only[gR,bM] at hi'
    have:=hc (lo+i) (by omega);rw[kL,<-cS,this];simp
def dG(s:Nat)(l:List DV):Prop:= ∀d∈l,d.okc=true/\d.cells.length=s
def zM{G:Gh}{l:List DV}{s' s:Nat}{w:SV}{es:List Value}(hsl:eB G s' w es)(hl:IsLs G l es)(ho:dG s l):es=[]\/s'=s:=by
 rcases hsl.mem with h|⟨b,off,cs,ha,hg,hcs⟩
 ·exact .inl h
 ·cases es with
  |nil=>exact .inl J
  |cons v t=>
   right;have h1:=hcs 0 (by simp);have h2:=Cc h1;obtain⟨d,hd,h3⟩:=hl.all v aQ;obtain⟨h4,h5⟩:=ho d hd;have:=(h3.cells h4).1.len;simp only[oN] at h2;omega
end
section
variable {P:Program} {GB:Gh} {C:aD} {n:Nat} {E:pg} {fr:et} {own:List de} {bs:List d4} {ops:Array Oper} {Q:Exit->Act->World->Prop} {r:List Oper} {dst:Option Nat} {ty':TypeId} {pos:String} {af:Array Edge} {x:Operand}
end
inductive FX where
 |d (x:DV)
 /-- a pointer to cells that are written no more -/
 |ep (l:List DV)
 /-- a pointer into a variable -/
 |ov (nm off:Nat)
 /-- a row -/
 |rw(nm:Nat)
 /-- a pointer into element i of a row -/
 |be (nm s i j:Nat)
 /-- a slice of n elements of a row, from element off on -/
 |rs (nm s off n:Nat)
 /-- a slice bE room behind it -/
 |ct (l:List DV)
 |tt
 |ff
 |pr (p:Prop) (h:Decidable p)
 |nl
 /-- an aggregate (or a tuple) with one row in it -/
 |bx (tp:Bool) (pre:List DV) (nm:Nat) (post:List DV)
 |un
 /-- nothing is known -/
 |no
abbrev NE:=Nat->SV
def b7(ρ:NE)(G:Gh):FX->Value->Prop
 | .d x,y=>Is G x y
 | .ep l,y=> ∃b off cs m,y= .pointer (some ⟨b,off,none⟩)/\G b=some cs/\cF cs off l.length=some m/\IsLs G l m
 | .ov nm off,y=> ∃b,(ρ nm).a=some ⟨b,0,none⟩/\y= .pointer (some ⟨b,off,none⟩)
 | .rw nm,y=>y= .slice (ρ nm).a (ρ nm).n (ρ nm).c
 | .be nm s i j,y=> ∃b,(ρ nm).a=some ⟨b,0,none⟩/\y= .pointer (some ⟨b,i*s+j,none⟩)
 | .rs nm s off n,y=> ∃b c,(ρ nm).a=some ⟨b,0,none⟩/\y= .slice (some ⟨b,off*s,none⟩) n c/\n<=c
 | .ct l,y=>(∃a n,y= .slice a n n)/\Is G (.sl l) y
 | .tt,y=>y= .bool true
 | .ff,y=>y= .bool false
 | .pr p h,y=>y= .bool (@decide p h)
 | .nl,y=>y= .slice none 0 0
 | .bx tp pre nm post,y=> ∃m1 m2,y=(bif tp then Value.tuple ⟨m1++Value.slice (ρ nm).a (ρ nm).n (ρ nm).c::m2⟩ else .agg ⟨m1++Value.slice (ρ nm).a (ρ nm).n (ρ nm).c::m2⟩)/\IsLs G pre m1/\IsLs G post m2
 | .un,y=>y=undef
 | .no,_=>True
def du(ρ:NE)(G:Gh):List FX->List Value->Prop
 |[],m=>m=[]
 |f::t,m=> ∃y n,m=y::n/\b7 ρ G f y/\du ρ G t n
def FX.nm:FX->Option Nat
 | .ov n _=>some n
 | .rw n=>some n
 | .be n _ _ _=>some n
 | .rs n _ _ _=>some n
 | .bx _ _ n _=>some n
 |_=>none
section
variable {ρ:NE} {G:Gh}
def b7.up{A:Gh}{f:FX}{y:Value}(h:b7 ρ A f y)(k:bw A G):b7 ρ G f y:=by
 cases f with
 |d x=>exact Is.up h k
 |ep l=>obtain⟨b,off,cs,m,e,hb,ht,hl⟩:=h;exact⟨b,off,cs,m,e,k _ _ hb,ht,hl.up k⟩
 |ct l=>exact⟨h.1,h.2.up k⟩
 |bx tp pre nm post=>obtain⟨m1,m2,e,h1,h2⟩:=h;exact⟨m1,m2,e,h1.up k,h2.up k⟩
 |_=>exact h
def b7.ren{ρ':NE}{f:FX}{y:Value}(h:b7 ρ G f y)(k: ∀n,f.nm=some n->ρ' n=ρ n):b7 ρ' G f y:=by
 cases f with
 |ov n o=>have e:=k n J;simp only[b7] at h⊢;rw[e];exact h
 |rw n=>have e:=k n J;simp only[b7] at h⊢;rw[e];exact h
 |be n s i j=>have e:=k n J;simp only[b7] at h⊢;rw[e];exact h
 |rs n s i j=>have e:=k n J;simp only[b7] at h⊢;rw[e];exact h
 |bx tp pre n post=>have e:=k n J;simp only[b7] at h⊢;rw[e];exact h
 |_=>exact h
def du.up{A:Gh}(k:bw A G): ∀{l:List FX} {m:List Value},du ρ A l m->du ρ G l m
 |[],_,h=>h
 |_::_,_,⟨y,n,e,h1,h2⟩=>⟨y,n,e,h1.up k,h2.up k⟩
def du.ren{ρ':NE}: ∀{l:List FX} {m:List Value},du ρ G l m->(∀f∈l,∀n,f.nm=some n->ρ' n=ρ n)->du ρ' G l m
 |[],_,h,_=>h
 |f::t,_,⟨y,n,e,h1,h2⟩,k=>⟨y,n,e,h1.ren (k f aQ),h2.ren fun g hg=>k g (aZ _ hg)⟩
def du.len: ∀{l:List FX} {m:List Value},du ρ G l m->m.length=l.length
 |[],m,h=>by rw[show m=[] from h];rfl
 |f::t,m,⟨y,n,e,h1,h2⟩=>by subst e;simp[h2.len]
def du.get: ∀{l:List FX} {m:List Value} {i:Nat} {f:FX},du ρ G l m->l[i]? =some f-> ∃y,m[i]? =some y/\b7 ρ G f y
 |[],m,i,f,h,e=>by simp at e
 |x::t,m,0,f,⟨y,n,e1,h1,h2⟩,e=>by subst e1;simp at e;subst e;exact⟨y,J,h1⟩
 |x::t,m,i+1,f,⟨y,n,e1,h1,h2⟩,e=>by subst e1;simp at e;simpa using h2.get e
def du.set: ∀{a:List FX} {m:List Value} (k:Nat) {f:FX} {y:Value},du ρ G a m->b7 ρ G f y->du ρ G (a.set k f) (m.set k y)
 |[],m,k,f,y,h,_=>by rw[show m=[] from h];rfl
 |x::t,m,0,f,y,⟨u,n,e,h1,h2⟩,k=>by subst e;exact⟨y,n,J,k,h2⟩
 |x::t,m,j+1,f,y,⟨u,n,e,h1,h2⟩,k=>by subst e;exact⟨u,n.set j y,J,h1,h2.set j k⟩
end
def kG:FX->Option DV
 | .d x=>some x
 | .ct l=>some (.sl l)
 | .tt=>some (.v (.bool true))
 | .ff=>some (.v (.bool false))
 | .pr p h=>some (.v (.bool (@decide p h)))
 | .nl=>some (.sl [])
 |_=>none
def og{ρ:NE}{G:Gh}{f:FX}{d:DV}{y:Value}(h:b7 ρ G f y)(e:kG f=some d):Is G d y:=by
 cases f with
 |d x=>cases e;exact h
 |ct l=>cases e;exact h.2
 |tt=>cases e;exact aG.2 h
 |ff=>cases e;exact aG.2 h
 |pr p i=>cases e;exact aG.2 h
 |nl=>cases e;rw[show y= .slice none 0 0 from h];exact gO.2 ⟨0,⟨none,0,0⟩,[],J, .nil G 0, .nil⟩
 |_=>cases e
def jq:List FX->Option (List DV)
 |[]=>some []
 |f::t=>match kG f,jq t with
  |some d,some l=>some (d::l)
  |_,_=>none
def tu{ρ:NE}{G:Gh}: ∀{l:List FX} {ds:List DV} {m:List Value},du ρ G l m->jq l=some ds->IsLs G ds m
 |[],ds,m,h,e=>by cases e;rw[show m=[] from h];exact .nil
 |f::t,ds,m,⟨y,n,e1,h1,h2⟩,e=>by
  subst e1;simp only[jq] at e;split at e
  ·rename_i d l hd hl
   cases e
   exact .cons (og h1 hd) (tu h2 hl)
  ·cases e
def FX.okc:FX->Bool
 | .d x=>x.okc
 | .bx false pre _ post=>(DV.ag pre).okc&&(DV.ag post).okc
 | .bx true _ _ _=>false
 | .un=>false
 | .no=>false
 |_=>true
def FX.cells:FX->List FX
 | .d (.ag l)=>l.map .d
 | .bx false pre nm post=>pre.map .d++ .rw nm::post.map .d
 |f=>[f]
def du.app{ρ:NE}{G:Gh}: ∀{a b:List FX} {m n:List Value},du ρ G a m->du ρ G b n->du ρ G (a++b) (m++n)
 |[],b,m,n,h,k=>by rw[show m=[] from h];exact k
 |f::t,b,m,n,⟨y,q,e,h1,h2⟩,k=>by subst e;exact⟨y,q++n,J,h1,h2.app k⟩
def wj{ρ:NE}{G:Gh}: ∀{l:List DV} {m:List Value},IsLs G l m->du ρ G (l.map .d) m
 |[],m,h=>cD.1 h
 |d::t,m,h=>by
  obtain⟨y,n,rfl,h1,h2⟩:=ba.1 h;exact⟨y,n,J,h1,wj h2⟩
def b7.cells{ρ:NE}{G:Gh}{f:FX}{y:Value}(h:b7 ρ G f y)(k:f.okc=true):du ρ G f.cells (aE y)/\ ∀v∈aE y,Go.Sx.flat v=true:=by
 have one: ∀g:FX,b7 ρ G g y->Go.Sx.flat y=true->du ρ G [g] (aE y)/\ ∀v∈aE y,Go.Sx.flat v=true:=fun g hg hf=>by
  rw[z8 hf];exact⟨⟨y,[],J,hg,J⟩,fun v hv=>by rw[aY.1 hv];exact hf⟩
 cases f with
 |d x=>
  cases x with
  |ag l=>
   obtain⟨m,rfl,hm⟩:=cO.1 (show Is G (.ag l) y from h);exact⟨wj hm,hm.flat k⟩
  |_=>exact one _ h (Is.flat (show Is G _ y from h) k)
 |ep l=>obtain⟨b,off,cs,m,rfl,_⟩:=h;exact one (.ep l) ⟨b,off,cs,m,rfl,by assumption⟩ rfl
 |ov nm off=>obtain⟨b,hb,rfl⟩:=h;exact one (.ov nm off) ⟨b,hb,rfl⟩ rfl
 |rw nm=>cases h;exact one (.rw nm) J J
 |be nm s i j=>obtain⟨b,hb,rfl⟩:=h;exact one (.be nm s i j) ⟨b,hb,rfl⟩ rfl
 |rs nm s i j=>obtain⟨b,c,hb,rfl,hc⟩:=h;exact one (.rs nm s i j) ⟨b,c,hb,rfl,hc⟩ rfl
 |ct l=>obtain⟨⟨a,n,rfl⟩,h2⟩:=h;exact one (.ct l) ⟨⟨a,n,rfl⟩,h2⟩ rfl
 |tt=>cases h;exact one .tt J J
 |ff=>cases h;exact one .ff J J
 |pr p i=>cases h;exact one (.pr p i) J J
 |nl=>cases h;exact one .nl J J
 |bx tp pre nm post=>
  cases tp with
  |true=>cases k
  |false=>
   obtain⟨m1,m2,rfl,h1,h2⟩:=h;simp only[FX.okc,aN] at k;refine⟨(wj h1).app ⟨_,m2,J,J,wj h2⟩,fun v hv=>?_⟩;rcases bS.1 (show v∈m1++_::m2 from hv) with hv|hv
   ·exact h1.flat k.1 v hv
   ·rcases aV.1 hv with rfl|hv
    ·rfl
    ·exact h2.flat k.2 v hv
 |un=>cases k
 |no=>cases k
inductive Bk where
 |o (ty:TypeId) (cs:List FX) (lo:Bool)
 |b (ty:TypeId) (s:Nat) (ds:List DV) (lo:Bool)
 /-- a row with room for cap elements in all -/
 |c (ty:TypeId) (s:Nat) (ds:List DV) (cap:Nat)
def lv(ρ:NE)(G:Gh)(nm:Nat):Bk->List ak->Prop
 | .o ty cs lo,B=> ∃b m,(ρ nm).a=some ⟨b,0,none⟩/\B=[⟨b,m,ty,lo⟩]/\du ρ G cs m
 | .b ty s ds lo,B=> ∃vs,iw s ty (ρ nm) vs B/\IsLs G ds vs/\(∀v∈vs,(aE v).length=s)/\(lo=true-> ∀o∈B,o.lo=true)
 | .c ty s ds cap,B=> ∃vs,iw s ty (ρ nm) vs B/\IsLs G ds vs/\(∀v∈vs,(aE v).length=s)/\(∀o∈B,o.lo=true)/\cap<=(ρ nm).c
def Bk.men(n:Nat):Bk->Prop
 | .o _ cs _=> ∃f∈cs,f.nm=some n
 | .b .. =>False
 | .c .. =>False
section
variable {ρ:NE} {G:Gh} {nm:Nat} {B:Bk} {os:List ak}
def lv.up{A:Gh}(h:lv ρ A nm B os)(k:bw A G):lv ρ G nm B os:=by
 cases B with
 |o ty cs lo=>obtain⟨b,m,h1,h2,h3⟩:=h;exact⟨b,m,h1,h2,h3.up k⟩
 |b ty s ds lo=>obtain⟨vs,h1,h2,h3,h4⟩:=h;exact⟨vs,h1,h2.up k,h3,h4⟩
 |c ty s ds cap=>obtain⟨vs,h1,h2,h3,h4⟩:=h;exact⟨vs,h1,h2.up k,h3,h4⟩
def lv.ren{ρ':NE}(h:lv ρ G nm B os)(h0:ρ' nm=ρ nm)(k: ∀n,B.men n->ρ' n=ρ n):lv ρ' G nm B os:=by
 cases B with
 |o ty cs lo=>obtain⟨b,m,h1,h2,h3⟩:=h;exact⟨b,m,by rw[h0];exact h1,h2,h3.ren fun f hf n hn=>k n ⟨f,hf,hn⟩⟩
 |b ty s ds lo=>obtain⟨vs,h1,h2,h3,h4⟩:=h;exact⟨vs,by rw[h0];exact h1,h2,h3,h4⟩
 |c ty s ds cap=>obtain⟨vs,h1,h2,h3,h4,h5⟩:=h;exact⟨vs,by rw[h0];exact h1,h2,h3,h4,by rw[h0];exact h5⟩
def lv.blk(h:lv ρ G nm B os){o:ak}(ho:o∈os):(ρ nm).a=some ⟨o.b,0,none⟩:=by
 cases B with
 |o ty cs lo=>obtain⟨b,m,h1,rfl,h3⟩:=h;rw[aY.1 ho];exact h1
 |b ty s ds lo=>
  obtain⟨vs,h1,_⟩:=h;rcases h1 with⟨_,_,rfl⟩|⟨b,rest,lo',e,rfl,_⟩
  ·cases ho
  ·rw[aY.1 ho,e]
 |c ty s ds cap=>
  obtain⟨vs,h1,_⟩:=h;rcases h1 with⟨_,_,rfl⟩|⟨b,rest,lo',e,rfl,_⟩
  ·cases ho
  ·rw[aY.1 ho,e]
def lv.mem_of(h:lv ρ G nm B os){b:Nat}(hb:(ρ nm).a=some ⟨b,0,none⟩): ∃o∈os,o.b=b:=by
 cases B with
 |o ty cs lo=>obtain⟨b',m,h1,rfl,h3⟩:=h;rw[h1] at hb;cases hb;exact⟨_,aQ,rfl⟩
 |b ty s ds lo=>
  obtain⟨vs,h1,_⟩:=h;rcases h1 with⟨_,e,rfl⟩|⟨b',rest,lo',e,rfl,_⟩
  ·rw[e] at hb;cases hb
  ·rw[e] at hb;cases hb;exact⟨_,aQ,J⟩
 |c ty s ds cap=>
  obtain⟨vs,h1,_⟩:=h;rcases h1 with⟨_,e,rfl⟩|⟨b',rest,lo',e,rfl,_⟩
  ·rw[e] at hb;cases hb
  ·rw[e] at hb;cases hb;exact⟨_,aQ,J⟩
end
abbrev LK:=Nat->Option FX
abbrev BM:=Nat->Option Bk
structure bD (GB:Gh) (C:aD) (n:Nat) (lk:LK) (bk:BM) (ρ:NE) (G:Gh) (ov:List ak) (a:Act) (w:World):Prop where
 gb:bw GB G
 h:bm C ov G w
 sz:a.tmps.size=n
 df:a.defers=C.mks
 fx: ∀k f,lk k=some f-> ∃y,a.tmps[k]? =some y/\b7 ρ G f y
 bx: ∀nm B,bk nm=some B-> ∃os,lv ρ G nm B os/\ ∀o∈os,o∈ov
 dj: ∀nm nm' B B',bk nm=some B->bk nm'=some B'->nm≠nm'-> ∀b,(ρ nm).a=some ⟨b,0,none⟩->(ρ nm').a≠some ⟨b,0,none⟩
 fxd: ∀nm p,n<=nm->2000000<=nm->C.fx nm=some p->(ρ nm).a=some p
structure SX (GB:Gh) (C:aD) (n:Nat) (lk:LK) (bk:BM) (Φ:Act->World->Prop):Prop where
 run: ∀ρ G ov a w,bD GB C n lk bk ρ G ov a w->Φ a w
def jI{α:Type}(f g:Nat->Option α):Prop:= ∀k x,f k=some x->g k=some x
def jI.refl{α:Type}(f:Nat->Option α):jI f f:=fun _ _ h=>h
def eh(lk:LK)(d:Option Nat)(f:FX):LK:=match d with
 |some d=>fun k=>if k=d then some f else lk k
 |none=>lk
def upB:BM->List (Nat×Option Bk)->BM
 |tb,[]=>tb
 |tb,(nm,B)::t=>upB (fun k=>if k=nm then B else tb k) t
def kl(nw:List Nat)(dst:Option Nat)(tl:LK)(tb:BM):Prop:=
 ∀nm∈nw,(∀k f,some k≠dst->tl k=some f->f.nm≠some nm)/\ ∀k B,k≠nm->tb k=some B-> ¬B.men nm
section
variable {GB:Gh} {C:aD} {n:Nat} {lk tl:LK} {bk tb:BM} {ρ:NE} {G:Gh} {ov:List ak} {a:Act} {w:World} {Φ Ψ:Act->World->Prop}
def bD.mono(h:bD GB C n tl tb ρ G ov a w)(h1:jI lk tl)(h2:jI bk tb):bD GB C n lk bk ρ G ov a w:=
 ⟨h.gb,h.h,h.sz,h.df,fun k f e=>h.fx k f (h1 _ _ e),fun k B e=>h.bx k B (h2 _ _ e),fun k k' B B' e e'=>h.dj k k' B B' (h2 _ _ e) (h2 _ _ e'),h.fxd⟩
def SX.imp(h:SX GB C n lk bk Φ)(k: ∀a w,Φ a w->Ψ a w):SX GB C n lk bk Ψ:=⟨fun ρ G ov a w r=>k _ _ (h.run ρ G ov a w r)⟩
structure vk (C:aD) (n:Nat) (a:Act) (dst:Option Nat) (y:Value) (a':Act):Prop where
 sz:a'.tmps.size=n
 df:a'.defers=C.mks
 old: ∀k v,a.tmps[k]? =some v->dst≠some k->a'.tmps[k]? =some v
 new: ∀d,dst=some d->a'.tmps[d]? =some y
def vk.fx{a a':Act}{dst:Option Nat}{y:Value}{ρ':NE}{G':Gh}{f:FX}(p:vk C n a dst y a')(h: ∀k g,some k≠dst->lk k=some g-> ∃u,a.tmps[k]? =some u/\b7 ρ' G' g u)(hy:b7 ρ' G' f y)(k:Nat)(g:FX)(e:eh lk dst f k=some g):
  ∃u,a'.tmps[k]? =some u/\b7 ρ' G' g u:=by
 by_cases hk:some k=dst
 ·subst hk
  simp only[eh,if_true] at e;cases e;exact⟨y,p.new _ J,hy⟩
 ·have e':lk k=some g:=by
   cases dst with
   |none=>exact e
   |some d=>simpa[eh,show k≠d from fun c=>hk (c▸rfl)] using e
  obtain⟨u,h1,h2⟩:=h k g hk e';exact⟨u,p.old _ _ h1 (Ne.symm hk),h2⟩
def bD.putA(r:bD GB C n lk bk ρ G ov a w){dst:Option Nat}(y:Value)(hd:b9 n dst=true):vk C n a dst y (a.put dst y):=by
 refine⟨by rw[LD];exact r.sz,by rw[Nl];exact r.df,fun k v h hk=>?_,fun d hk=>?_⟩
 ·cases dst with
  |none=>exact h
  |some d=>simp only[Act.put,eJ];rw[if_neg (fun e=>hk (by rw[e]))];exact h
 ·subst hk
  have hdn:d<a.tmps.size:=by rw[r.sz];simpa[b9,mV] using hd
  simp[Act.put,eJ,hdn]
def bD.put(r:bD GB C n lk bk ρ G ov a w){dst:Option Nat}{f:FX}{y:Value}{a':Act}(hy:b7 ρ G f y)(hp:vk C n a dst y a'):bD GB C n (eh lk dst f) bk ρ G ov a' w:=
 ⟨r.gb,r.h,hp.sz,hp.df,hp.fx (fun k g _ e=>r.fx k g e) hy,r.bx,r.dj,r.fxd⟩
def cv(a:Act):Fr:=mP 0 a.tmps.toList
def cB(a:Act):ll (cv a) a:=fun k v h=>by
 obtain⟨j,e,h2⟩:=uv _ _ _ _ h;rw[dS] at e;subst e;simpa using h2
def wD: ∀(vs:List Value) (i j:Nat) (v:Value),vs[j]? =some v->il (mP i vs) (i+j)=some v
 |[],i,j,v,h=>by simp at h
 |x::t,i,0,v,h=>by simp at h;subst h;simp[mP,il]
 |x::t,i,j+1,v,h=>by
  simp at h;have:=wD t (i+1) j v h;rw[show i+(j+1)=i+1+j by omega];simp only[mP,tW];rw[if_neg (by omega)];exact this
def jm{dst:Option Nat}{y:Value}{ov':List ak}{G':Gh}{a':Act}{w':World}(h:gg C n (Sx.put (cv a) dst y) ov' G' a' w'):vk C n a dst y a':=by
 refine⟨h.sz,h.df,fun k v hk hd=>?_,fun d hd=>?_⟩
 ·have:=wD a.tmps.toList 0 k v (by simpa using hk)
  rw[dS] at this
  cases dst with
  |none=>exact h.fr k v this
  |some d=>exact h.fr k v (by simp only[Sx.put,tW];rw[if_neg (fun e=>hd (by rw[e]))];exact this)
 ·subst hd;exact h.fr d y (by simp[Sx.put,tW])
def x6{k:Nat}{v:Value}(h:a.tmps[k]? =some v):il (cv a) k=some v:=by
 have:=wD a.tmps.toList 0 k v (by simpa using h);simpa[cv] using this
def aP(lk:LK):Operand->Option FX
 | .tmp k=>lk k
 | .const (.bool true)=>some .tt
 | .const (.bool false)=>some .ff
 | .const (.slice none 0 0)=>some .nl
 | .const v=>some (.d (.v v))
 | .global g=>some (.d (.v (.pointer (some ⟨g,0,none⟩))))
 | .func f=>some (.d (.v (.func (.func f) #[] #[])))
def bD.ev(r:bD GB C n lk bk ρ G ov a w){x:Operand}{f:FX}(e:aP lk x=some f): ∃y,aw (cv a) x=some y/\b7 ρ G f y:=by
 cases x with
 |tmp k=>obtain⟨y,h1,h2⟩:=r.fx k f e;exact⟨y,x6 h1,h2⟩
 |const v=>
  refine⟨v,J,?_⟩;unfold aP at e;split at e
  all_goals simp only[Operand.const.injEq,reduceCtorEq] at*
  all_goals (cases e;subst_vars;first|exact J|exact(aG (G:=G)).2 J)
 |global g=>cases e;exact⟨_,J,(aG (G:=G)).2 J⟩
 |func g=>cases e;exact⟨_,J,(aG (G:=G)).2 J⟩
def evD(lk:LK)(x:Operand):Option DV:=match aP lk x with
 |some f=>kG f
 |none=>none
def bD.evD(r:bD GB C n lk bk ρ G ov a w){x:Operand}{d:DV}(e:Sx.evD lk x=some d): ∃y,aw (cv a) x=some y/\Is G d y:=by
 unfold Sx.evD at e;split at e
 ·rename_i f hf
  obtain⟨y,h1,h2⟩:=r.ev hf;exact⟨y,h1,og h2 e⟩
 ·cases e
def evDs(lk:LK):List Operand->Option (List DV)
 |[]=>some []
 |x::t=>match evD lk x,evDs lk t with
  |some d,some l=>some (d::l)
  |_,_=>none
def bD.evDs(r:bD GB C n lk bk ρ G ov a w): ∀{x:List Operand} {l:List DV},Sx.evDs lk x=some l-> ∃y,fP (cv a) x=some y/\IsLs G l y
 |[],l,e=>by cases e;exact⟨[],J, .nil⟩
 |x::t,l,e=>by
  simp only[Sx.evDs] at e;split at e
  ·rename_i d l' hd hl'
   cases e
   obtain⟨y,h1,h2⟩:=r.evD hd;obtain⟨ys,h3,h4⟩:=r.evDs hl';exact⟨y::ys,by simp only[fP,h1,h3], .cons h2 h4⟩
  ·cases e
def bD.upB(r:bD GB C n lk bk ρ G ov a w){nm:Nat}{B':Bk}{os:List ak}{ov':List ak}{G':Gh}{w':World}(hg:bw G G')(hh:bm C ov' G' w')(hB:lv ρ G' nm B' os)(hos: ∀o∈os,o∈ov')
  (hk: ∀o∈ov,(ρ nm).a≠some ⟨o.b,0,none⟩->o∈ov')(hn: ∃B,bk nm=some B):bD GB C n lk (upB bk [(nm,some B')]) ρ G' ov' a w':=by
 obtain⟨B0,hB0⟩:=hn;refine⟨r.gb.trans hg,hh,r.sz,r.df,fun k f e=>?_,fun m B e=>?_,fun m m' B B2 e e' hne=>?_,r.fxd⟩
 ·obtain⟨y,h1,h2⟩:=r.fx k f e;exact⟨y,h1,h2.up hg⟩
 ·simp only[Sx.upB] at e
  by_cases hm:m=nm
  ·subst hm;simp only[if_true] at e;cases e;exact⟨os,hB,hos⟩
  ·simp only[hm,if_false] at e
   obtain⟨os',h1,h2⟩:=r.bx m B e;refine⟨os',h1.up hg,fun o ho=>hk o (h2 o ho) fun hc=>?_⟩;exact r.dj m nm B B0 e hB0 hm _ (h1.blk ho) hc
 ·simp only[Sx.upB] at e e'
  by_cases hm:m=nm<;>by_cases hm':m'=nm
  ·exact absurd (hm.trans hm'.symm) hne
  ·subst hm;simp only[hm',if_false] at e';exact r.dj m m' B0 B2 hB0 e' hne
  ·subst hm';simp only[hm,if_false] at e;exact r.dj m m' B B0 e hB0 hne
  ·simp only[hm,hm',if_false] at e e';exact r.dj m m' B B2 e e' hne
def bD.dropB(r:bD GB C n lk bk ρ G ov a w)(nm:Nat):bD GB C n lk (Sx.upB bk [(nm,none)]) ρ G ov a w:=
 r.mono (jI.refl _) fun k B e=>by
  simp only[Sx.upB] at e;split at e
  ·cases e
  ·exact e
def uS{m nm:Nat}(x:SV)(h:m≠nm):(fun k=>if k=nm then x else ρ k) m=ρ m:=if_neg h
def bD.new'(r:bD GB C n tl tb ρ G ov a w){nm:Nat}{dst:Option Nat}{x:SV}{B':Bk}{os:List ak}{ov':List ak}{G':Gh}{w':World}{f:FX}{y:Value}(hf:kl [nm] dst tl tb)(hg:bw G G')(hh:bm C ov' G' w')
  (hB:lv (fun k=>if k=nm then x else ρ k) G' nm B' os)(hos: ∀o∈os,o∈ov')(hov: ∀m B,m≠nm->tb m=some B-> ∀o∈ov,(ρ m).a=some ⟨o.b,0,none⟩->o∈ov'/\x.a≠some ⟨o.b,0,none⟩)
  (hy:b7 (fun k=>if k=nm then x else ρ k) G' f y){a':Act}(hp:vk C n a dst y a')(hdn:dst=some nm:=by rfl):bD GB C n (eh tl dst f) (Sx.upB tb [(nm,some B')]) (fun k=>if k=nm then x else ρ k) G' ov' a' w':=by
 obtain⟨f1,f2⟩:=hf nm aQ;refine⟨r.gb.trans hg,hh,hp.sz,hp.df,hp.fx (fun k g hk e=>?_) hy,fun m B e=>?_,fun m m' B B2 e e' hne=>?_,fun m p hm hm2 e=>?_⟩
 ·obtain⟨u,h1,h2⟩:=r.fx k g e
  exact⟨u,h1,(h2.up hg).ren fun m hm=>uS x fun hc=>f1 k g hk e (by rw[hm,hc])⟩
 ·simp only[Sx.upB] at e
  by_cases hm:m=nm
  ·subst hm;simp only[if_true] at e;cases e;exact⟨os,hB,hos⟩
  ·simp only[hm,if_false] at e
   obtain⟨os',h1,h2⟩:=r.bx m B e;exact⟨os',(h1.up hg).ren (if_neg hm) fun q hq=>uS x fun hc=>f2 m B hm e (by rw[<-hc];exact hq),fun o ho=>(hov m B hm e o (h2 o ho) (h1.blk ho)).1⟩
 ·simp only[Sx.upB] at e e'
  by_cases hm:m=nm<;>by_cases hm':m'=nm
  ·exact absurd (hm.trans hm'.symm) hne
  ·subst hm;simp only[hm',if_false] at e'
   intro b hb hb';simp only[if_true] at hb;rw[if_neg hm'] at hb';obtain⟨os',h1,h2⟩:=r.bx m' B2 e';obtain⟨o,ho,rfl⟩:=h1.mem_of hb';exact(hov m' B2 hm' e' o (h2 o ho) hb').2 hb
  ·subst hm';simp only[hm,if_false] at e
   intro b hb hb';simp only[if_true] at hb';rw[if_neg hm] at hb;obtain⟨os',h1,h2⟩:=r.bx m B e;obtain⟨o,ho,rfl⟩:=h1.mem_of hb;exact(hov m B hm e o (h2 o ho) hb).2 hb'
  ·simp only[hm,hm',if_false] at e e'
   intro b hb hb';rw[if_neg hm] at hb;rw[if_neg hm'] at hb';exact r.dj m m' B B2 e e' hne b hb hb'
 ·have hlt:nm<n:=by
   obtain⟨h,_⟩:=fT.1 (hp.new nm hdn);rw[hp.sz] at h;exact h
  rw[if_neg (by omega)];exact r.fxd m p hm hm2 e
def bD.new(r:bD GB C n tl tb ρ G ov a w){nm:Nat}{dst:Option Nat}{x:SV}{B':Bk}{os:List ak}{ov':List ak}{G':Gh}{w':World}{f:FX}{y:Value}(hf:kl [nm] dst tl tb)(hg:bw G G')(hh:bm C ov' G' w')
  (hB:lv (fun k=>if k=nm then x else ρ k) G' nm B' os)(hos: ∀o∈os,o∈ov')(hov: ∀o∈ov,o∈ov')(hnew: ∀o∈ov,x.a≠some ⟨o.b,0,none⟩)
  (hy:b7 (fun k=>if k=nm then x else ρ k) G' f y){a':Act}(hp:vk C n a dst y a')(hdn:dst=some nm:=by rfl):bD GB C n (eh tl dst f) (Sx.upB tb [(nm,some B')]) (fun k=>if k=nm then x else ρ k) G' ov' a' w':=
 r.new' hf hg hh hB hos (fun _ _ _ _ o ho _=>⟨hov o ho,hnew o ho⟩) hy hp hdn
end
def bH(P:Program)(GB:Gh)(C:aD)(n:Nat)(lk:LK)(bk:BM)(o:Oper)(f:FX)(bl:List (Nat×Option Bk))(nw:List Nat):Prop:=
 b9 n o.dst=true-> ∀(tl:LK) (tb:BM) (K:Act->World->Prop),jI lk tl->jI bk tb->kl nw o.dst tl tb->SX GB C n (eh tl o.dst f) (upB tb bl) K->SX GB C n tl tb (fun a w=> ∀Q,o.wp P a w K Q)
section
variable {P:Program} {GB:Gh} {C:aD} {n:Nat} {lk:LK} {bk:BM} {f:FX}
def bH.yd{o:Oper}(h: ∀ρ G ov a w,bD GB C n lk bk ρ G ov a w-> ∃y,b7 ρ G f y/\Yd P C (cv a) ov G o y):bH P GB C n lk bk o f [] []:=by
 intro hd tl tb K h1 h2 _ hk;refine⟨fun ρ G ov a w r Q=>?_⟩;obtain⟨y,hy,hY⟩:=h ρ G ov a w (r.mono h1 h2);exact jF (hY a w (cB a) r.h) (hk.run ρ G ov _ w (r.put hy (r.putA y hd)))
end
inductive TK where
 |st (fo:List (Nat×Nat×Nat))
 |sl (e s b:Nat)
 |int (k:IntKind)
 |bl
 |pt
 |fc
 |sc
 |o
structure TI where
 k:TK
 sz:Nat
 z:Option (List FX)
 za:Bool
def Ia:Option Value->Bool
 |some (.agg _)=>true
 |_=>false
def wn:Value->FX
 | .slice none 0 0=> .nl
 | .bool true=> .tt
 | .bool false=> .ff
 |v=> .d (.v v)
def vU(P:Program):List Field->Option (List (Nat×Nat×Nat))
 |[]=>some []
 |f::t=>match P.info? f.type,vU P t with
  |some i,some l=>some ((f.offset,f.type,i.size)::l)
  |_,_=>none
def kE(P:Program)(t:TypeId):TK:=match P.underlying t with
 |some (.struct fs)=>match vU P fs.toList with
  |some l=> .st l
  |none=> .o
 |some (.slice e)=>match P.info? e with
  |some i=> .sl e i.size i.bytes
  |none=> .o
 |some (.int k)=> .int k
 |some .bool=> .bl
 |some (.pointer _)=> .pt
 |some (.interface _)=> .fc
 |some (.array ..)=> .o
 |some .string=> .sc
 |_=> .o
def fg(P:Program)(t:TypeId):Option TI:=match P.info? t with
 |some i=>some ⟨kE P t,i.size,i.zero.map fun v=>(aE v).map wn,Ia i.zero⟩
 |none=>none
abbrev TT:=List (Nat×TI)
def dh:TT->Nat->Option TI
 |[],_=>none
 |(k,v)::t,j=>bif Nat.beq k j then some v else dh t j
def my(P:Program)(T:TT):Prop:= ∀t i,dh T t=some i->fg P t=some i
def my.of{P:Program}: ∀{T:TT},T.map (fun e=>some e.2)=T.map (fun e=>fg P e.1)->my P T
 |[],_,t,i,h=>by cases h
 |(k,v)::T,e,t,i,h=>by
  simp only[bW,List.cons.injEq] at e;simp only[dh] at h
  cases hb:Nat.beq k t with
  |true=>rw[hb] at h;cases h;rw[<-aR hb];exact e.1.symm
  |false=>rw[hb] at h;exact my.of e.2 t i h
def Y4(ρ:NE)(G:Gh)(v:Value):b7 ρ G (wn v) v:=by
 unfold wn;split
 ·exact J
 ·exact J
 ·exact J
 ·exact(aG (G:=G)).2 J
def Pp(ρ:NE)(G:Gh): ∀m:List Value,du ρ G (m.map wn) m
 |[]=>rfl
 |v::m=>⟨v,m,J,Y4 ρ G v,Pp ρ G m⟩
section
variable {P:Program} {t:TypeId} {i:TI}
def qv(h:fg P t=some i): ∃j,P.info? t=some j/\i=⟨kE P t,j.size,j.zero.map fun v=>(aE v).map wn,Ia j.zero⟩:=by
 unfold fg at h;split at h
 ·rename_i j hj;cases h;exact⟨j,hj,rfl⟩
 ·cases h
def qx{d:TypeDesc}(h:P.underlying t=some d)(w:World):(underlying t).run P w= .ok d w:=by
 show(program>>=_).run P w=_;rw[bc (w':=w) (a:=P) J,h];rfl
def ax4{j:TypeInfo}(h:P.info? t=some j)(w:World):(typeInfo t).run P w= .ok j w:=by
 show(program>>=_).run P w=_;rw[bc (w':=w) (a:=P) J,h];rfl
def uc{j:TypeInfo}(h:P.info? t=some j)(w:World):(sizeOf t).run P w= .ok j.size w:=by
 show(typeInfo t>>=_).run P w=_;rw[bc (ax4 h w)];rfl
def AN{d:TypeDesc}(h:P.underlying t=some d)(w:World):(isAgg t).run P w= .ok (match d with| .struct _| .array _ _=>true|_=>false) w:=by
 show(underlying t>>=_).run P w=_;rw[bc (qx h w)]
 cases d<;>rfl
def TI.ag(i:TI):Option (Option Nat):=match i.k with
 | .st _=>some (some i.sz)
 | .o=>none
 |_=>bif Nat.beq i.sz 1 then some none else none
theorem xy{k:Nat}(h:fg P t=some i)(hk:i.ag=some (some k)):lj P t k:=by
 obtain⟨j,h1,rfl⟩:=qv h;unfold TI.ag at hk
 cases e:kE P t with
 |st fo=>
  simp only[e] at hk;cases hk;unfold kE at e;split at e<;>first|(cases e;done)|skip
  ·rename_i fs hu;exact⟨fun w=>AN hu w,fun w=>uc h1 w⟩
  ·split at e<;>cases e
 |o=>simp only[e] at hk;cases hk
 |_=>simp only[e,cond_eq_ite] at hk;split at hk<;>cases hk
theorem xV(h:fg P t=some i)(hk:i.ag=some none):ik P t:=by
 obtain⟨j,h1,rfl⟩:=qv h;unfold TI.ag at hk;have key:j.size=1->(∀w,(isAgg t).run P w= .ok false w)->ik P t:=fun e1 e2=>⟨e2,fun w=>by rw[uc h1 w,e1]⟩
 cases e:kE P t with
 |st fo=>simp only[e] at hk;cases hk
 |o=>simp only[e] at hk;cases hk
 |_=>
  simp only[e,cond_eq_ite] at hk;split at hk
  ·rename_i hb
   refine key (aR hb) fun w=>?_;unfold kE at e;split at e<;>first|(cases e;done)|skip
   all_goals first
    |(rename_i hu;rw[AN hu w];done)
    |(split at e<;>first|(cases e;done)|(rename_i hu _ _ _;rw[AN hu w];done))
  ·cases hk
def yX{z:List FX}(h:fg P t=some i)(hz:i.z=some z): ∃v,gj P t v/\ ∀ρ G,du ρ G z (aE v):=by
 obtain⟨j,h1,rfl⟩:=qv h
 cases hv:j.zero with
 |none=>simp only[hv] at hz;cases hz
 |some v=>
  simp only[hv] at hz;cases hz;exact⟨v,⟨by rw[h1];simp[hv]⟩,fun ρ G=>Pp ρ G _⟩
def Im: ∀{fs:List Field} {l:List (Nat×Nat×Nat)} {k off ft s:Nat},vU P fs=some l->l[k]? =some (off,ft,s)-> ∃f,fs[k]? =some f/\f.offset=off/\f.type=ft/\ ∃j,P.info? ft=some j/\j.size=s
 |[],l,k,off,ft,s,h,e=>by cases h;simp at e
 |f::fs,l,k,off,ft,s,h,e=>by
  simp only[vU] at h;split at h
  ·rename_i j l' hj hl
   cases h
   cases k with
   |zero=>simp at e;obtain⟨rfl,rfl,rfl⟩:=e;exact⟨f,rfl,rfl,rfl,j,hj,rfl⟩
   |succ k=>simp at e;obtain⟨g,h1,h2⟩:=Im hl e;exact⟨g,by simpa using h1,h2⟩
  ·cases h
def Qw: ∀{fs:List Field} {l:List (Nat×Nat×Nat)},vU P fs=some l-> ∀w,(fs.mapM (m:=Sem) fun f=>do pure (f.offset,<-sizeOf f.type)).run P w= .ok (l.map fun x=>(x.1,x.2.2)) w
 |[],l,h,w=>by cases h;rfl
 |f::fs,l,h,w=>by
  simp only[vU] at h;split at h
  ·rename_i j l' hj hl
   cases h
   rw[oK];have h1:(do pure (f.offset,<-sizeOf f.type):Sem (Nat×Nat)).run P w= .ok (f.offset,j.size) w:=by
    rw[bc (uc hj w)];rfl
   rw[bc h1,bc (Qw hl w)];rfl
  ·cases h
def Iv{fo:List (Nat×Nat×Nat)}(h:fg P t=some i)(hk:i.k= .st fo): ∃fs,P.underlying t=some (.struct fs)/\vU P fs.toList=some fo:=by
 obtain⟨j,h1,rfl⟩:=qv h;have e:kE P t= .st fo:=hk;unfold kE at e;split at e<;>first|(cases e;done)|skip
 ·rename_i fs hu
  split at e
  ·rename_i l hl;cases e;exact⟨fs,hu,hl⟩
  ·cases e
 ·split at e<;>cases e
theorem aGt{fo:List (Nat×Nat×Nat)}{f off ft s:Nat}(h:fg P t=some i)(hk:i.k= .st fo)(hf:fo[f]? =some (off,ft,s)):HQ P t f off ft:=by
 obtain⟨fs,hu,hl⟩:=Iv h hk;obtain⟨g,h1,h2,h3,_⟩:=Im hl hf;exact⟨fs,g,fun w=>qx hu w,by simpa using h1,h2,h3⟩
theorem X0{fo:List (Nat×Nat×Nat)}{f off ft s:Nat}(h:fg P t=some i)(hk:i.k= .st fo)(hf:fo[f]? =some (off,ft,s+1)):lw P t f off:=by
 obtain⟨fs,hu,hl⟩:=Iv h hk;obtain⟨g,h2,h3,h4,j,h5,h6⟩:=Im hl hf;refine⟨fun b o w=>?_⟩;unfold Instr.fieldAt;rw[bc (qx hu w)];have h2':fs[f]? =some g:=by simpa using h2
 simp only[h2'];have:(fieldPlace ⟨b,o,none⟩ g).run P w= .ok (Addr.add ⟨b,o,none⟩ off) w:=by
  unfold fieldPlace;rw[h4,bc (uc h5 w),h6,h3];rfl
 show(fieldPlace ⟨b,o,none⟩ g>>=_).run P w=_;rw[bc this];rfl
theorem K5{fo:List (Nat×Nat×Nat)}(h:fg P t=some i)(hk:i.k= .st fo):Ci P t (fo.map fun x=>(x.1,x.2.2)):=by
 obtain⟨fs,hu,hl⟩:=Iv h hk;refine⟨fs,fun w=>qx hu w,fun w=>?_⟩;rw[Array.mapM_eq_mapM_toList,map_eq_pure_bind,bc (Qw hl w)];rfl
theorem jh{e s b:Nat}(h:fg P t=some i)(hk:i.k= .sl e s b):cg P t e s b:=by
 obtain⟨j,h1,rfl⟩:=qv h;have e':kE P t= .sl e s b:=hk;unfold kE at e';split at e'<;>first|(cases e';done)|skip
 ·split at e'<;>cases e'
 ·rename_i el hu
  split at e'
  ·rename_i q hq;cases e';exact⟨hu,by rw[hq];rfl⟩
  ·cases e'
theorem xd{k:IntKind}(h:fg P t=some i)(hk:i.k= .int k):ml P t k:=by
 obtain⟨j,h1,rfl⟩:=qv h;have e:kE P t= .int k:=hk;unfold kE at e;split at e<;>first|(cases e;done)|(split at e<;>cases e;done)|skip
 rename_i k' hu;cases e;exact⟨fun w=>qx hu w⟩
theorem Xo(h:fg P t=some i)(hk:i.k= .bl):GJ P t:=by
 obtain⟨j,h1,rfl⟩:=qv h;have e:kE P t= .bl:=hk;unfold kE at e;split at e<;>first|(cases e;done)|(split at e<;>cases e;done)|skip
 rename_i hu;exact⟨fun w=>qx hu w⟩
theorem M2(h:fg P t=some i)(hk:i.k= .pt):FT P t:=by
 obtain⟨j,h1,rfl⟩:=qv h;have e:kE P t= .pt:=hk;unfold kE at e;split at e<;>first|(cases e;done)|(split at e<;>cases e;done)|skip
 rename_i el hu;exact⟨el,fun w=>qx hu w⟩
theorem Tq(h:fg P t=some i)(hk:i.k= .fc):F2 P t:=by
 obtain⟨j,h1,rfl⟩:=qv h;have e:kE P t= .fc:=hk;unfold kE at e;split at e<;>first|(cases e;done)|(split at e<;>cases e;done)|skip
 rename_i el hu;exact⟨el,fun w=>qx hu w⟩
end
end Go.Sx
end
