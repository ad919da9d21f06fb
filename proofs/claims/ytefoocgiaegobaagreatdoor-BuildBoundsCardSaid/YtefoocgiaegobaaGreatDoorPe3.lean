import Derived.Test.YtefoocgiaegobaaGreatDoorPe2
import Derived.Laws.Externs
import Derived.Lib.Overlaps
set_option linter.all false
set_option maxRecDepth 100000
section
namespace Go.Sx
open Go
section
variable {P:Program} {C:aD} {n:Nat} {fr:Fr} {own own' own1:List aj} {G:Gh} {Φ:Act->World->Prop}
variable {dst:Option Nat} {t t' ty':TypeId} {pos:String} {af:Array Edge} {gd:Option (Nat×Bool)} {x y:Operand} {e s by_:Nat}
def zf{v:Value}{b off k:Nat}{cs cs':List Value}{ty:TypeId}{lo:Bool}(hx:av fr x=some (.pointer (some ⟨b,off,none⟩)))(hy:av fr y=some v)[hs:jI P t k][ho:gm own b cs ty lo]
  (hc:ck cs off (aE v)=cs')(hu:eE own b cs ty lo cs' own')(hk:(aE v).length=k)(hl:off+k<=cs.length)(hf:(aE v).all flat=true)(hd:b7 n dst=true)(h:St C n (put fr dst undef) own' G Φ):
  Ch P C n fr own G ⟨dst, .store t x y,ty',pos,af,gd⟩ Φ:=A0 hx hy (hc▸hu) hk hl hf hd h
def q0{v:Value}{b off:Nat}{cs cs':List Value}{ty:TypeId}{lo:Bool}(hx:av fr x=some (.pointer (some ⟨b,off,none⟩)))(hy:av fr y=some v)[hs:gk P t][ho:gm own b cs ty lo]
  (hc:cs.set off v=cs')(hu:eE own b cs ty lo cs' own')(hl:off<cs.length)(hf:flat v=true)(hd:b7 n dst=true)(h:St C n (put fr dst undef) own' G Φ):
  Ch P C n fr own G ⟨dst, .store t x y,ty',pos,af,gd⟩ Φ:=q9 hx hy (hc▸hu) hl hf hd h
def Uy[hT:cd P t e s by_]{ad:Option Addr}{len cap:Nat}(hx:av fr x=some (.slice ad len cap)):
  Yd P C fr own G ⟨dst, .call ⟨.builtin .cap, #[x], #[t]⟩,ty',pos,af,gd⟩ (.int .i64 cap):=by
 intro a w hf hh;simp only[execOp,resolve,gV,bW,dR,bh hf hx];have h1:(Builtin.cap_ #[t] ty' #[.slice ad len cap]).run P w= .ok (.int .i64 cap) w:=by
  simp only[Builtin.cap_];show(underlying t>>=_).run P w=_;rw[aP (hT.u w)];rfl
 exact cx h1
def TS{w:World}[hT:cd P t e s by_]{b off l c l2 c2 m:Nat}{ad2:Option Addr}{cs ys:List Value}{ty:TypeId}(hm:Nat.min l2 l=m)
  (hb:w.heap[b]? =some (.cells ⟨cs⟩ ty (0,0)))(hsy:(Builtin.firstCells s m (.slice ad2 l2 c2)).run P w= .ok ⟨ys⟩ w)(hf: ∀v∈ys,flat v=true)(hl:off+ys.length<=cs.length):
  (Builtin.copy_ #[t,t'] ty' #[.slice (some ⟨b,off,none⟩) l c, .slice ad2 l2 c2]).run P w=
   .ok (.int .i64 m) (fp w b (.cells ⟨ck cs off ys⟩ ty (0,0))):=by
 obtain⟨i,hi,his,hib⟩:=hT.info;subst his;have hst:=vo (P:=P) ys w off 0 cs hf hb (by omega);rw[eJ] at hst;subst hm;simp[Builtin.copy_,run_underlying hT.un,sizeOf,typeInfo,hi,Builtin.lenOf,hsy,hst];rfl
def Jk[hT:cd P t e s by_]{b off l c l2 c2 m:Nat}{ad2:Option Addr}{cs ys:List Value}{ty:TypeId}{lo:Bool}(hx:av fr x=some (.slice (some ⟨b,off,none⟩) l c))(hy:av fr y=some (.slice ad2 l2 c2))
  (hm:Nat.min l2 l=m)(hsy:lu P C own G s m (.slice ad2 l2 c2) ys)(hf: ∀v∈ys,flat v=true)(hl:off+ys.length<=cs.length)(hu:eE own b cs ty lo (ck cs off ys) own')(hd:b7 n dst=true)
  (h:St C n (put fr dst (.int .i64 m)) own' G Φ):Ch P C n fr own G ⟨dst, .call ⟨.builtin .copy, #[x,y], #[t,t']⟩,ty',pos,af,gd⟩ Φ:=by
 intro a w Q rl;have hb:=(rl.h.hown _ (hu.spec rl.h.nd).1).1;refine jh (v:= .int .i64 m) (w':=fp w b (.cells ⟨ck cs off ys⟩ ty (0,0))) ?_ (h _ _ ((rl.heap (rl.h.store hu)).put _ hd));simp only[execOp,resolve,gV,bW,dR,bh rl.fr hx,bh rl.fr hy];exact cx (TS hm hb (hsy w rl.h) hf hl)
def Ja[hT:cd P t e s by_][hN:ka P t']{b len cap m cap2:Nat}{ad2:Option Addr}{cs ys:List Value}{lo:Bool}
  (hx:av fr x=some (.slice (some ⟨b,0,none⟩) len cap))(hy:av fr y=some (.slice ad2 m cap2))(hu:eE own b cs e lo (ck cs (len*s) ys) own')(hcs:cs.length=cap*s)
  (hsy:lu P C own G s m (.slice ad2 m cap2) ys)(hys:ys.length=m*s)(hf: ∀v∈ys,flat v=true)(hneed:len+m<=cap)(hd:b7 n dst=true)
  (h:St C n (put fr dst (.slice (some ⟨b,0,none⟩) (len+m) cap)) own' G Φ):
  Ch P C n fr own G ⟨dst, .call ⟨.builtin .append, #[x,y], #[t,t']⟩,ty',pos,af,gd⟩ Φ:=by
 intro a w Q rl;have hb:=(rl.h.hown _ (hu.spec rl.h.nd).1).1;refine jh (v:= .slice (some ⟨b,0,none⟩) (len+m) cap) (w':=fp w b (.cells ⟨ck cs (len*s) ys⟩ e (0,0))) ?_ (h _ _ ((rl.heap (rl.h.store hu)).put _ hd));simp only[execOp,resolve,gV,bW,dR,bh rl.fr hx,bh rl.fr hy];exact cx (GF hb hcs (hsy w rl.h) hys hf hneed)
def WG[hT:cd P t e s by_][hN:ka P t']{z:Value}[hz:fk P e z]{b len cap m cap2:Nat}{ad2:Option Addr}{xs ys rest:List Value}{lo:Bool}
  (hx:av fr x=some (.slice (some ⟨b,0,none⟩) len cap))(hy:av fr y=some (.slice ad2 m cap2))(hr:je own ⟨b,xs++rest,e,lo⟩ own1)(hxs:xs.length=len*s)(hcap:xs.length+rest.length=cap*s)(hlc:len<=cap)
  (hsy:lu P C own G s m (.slice ad2 m cap2) ys)(hys:ys.length=m*s)(hf: ∀v∈ys,flat v=true)
  (hby:0<by_)(hb:(len+m)*by_<=140737488355328)(hzs:(aE z).length=s)(hd:b7 n dst=true)
  (h: ∀b lo' cap' rest',len+m<=cap'->rest'.length+(len+m)*s=cap'*s->St C n (put fr dst (.slice (some ⟨b,0,none⟩) (len+m) cap')) (⟨b,xs++ys++rest',e,lo'⟩::own1) G Φ):
  Ch P C n fr own G ⟨dst, .call ⟨.builtin .append, #[x,y], #[t,t']⟩,ty',pos,af,gd⟩ Φ:=by
 intro a w Q rl;have hp:=rl.h.perm hr.perm;have hblk:=(hp.hown _ aQ).1;simp only[] at hblk;by_cases hneed:len+m<=cap
 ·have hcs:(xs++rest).length=cap*s:=by simp;omega
  have hrun:=GF (P:=P) (t:=t) (t':=t') (ty':=ty') (w:=w) (len:=len) hblk hcs (hsy w rl.h) hys hf hneed;have hle:len*s+m*s<=cap*s:=by rw[<-cY];exact bK _ hneed
  have hov:ck (xs++rest) (len*s) ys=xs++ys++rest.drop (m*s):=by
   rw[nC _ _ _ (by rw[hys];omega),<-hxs];simp[hys,lN]
  refine jh (v:= .slice (some ⟨b,0,none⟩) (len+m) cap) (w':=fp w b (.cells ⟨ck (xs++rest) (len*s) ys⟩ e (0,0))) ?_ ?_
  ·simp only[execOp,resolve,gV,bW,dR,bh rl.fr hx,bh rl.fr hy]
   exact cx hrun
  ·rw[hov]
   refine h b lo cap (rest.drop (m*s)) hneed ?_ _ _ ((rl.heap (hp.store (.hd ..))).put _ hd);rw[gM,cY];omega
 ·have hx':lu P C own G s len (.slice (some ⟨b,0,none⟩) len cap) xs:=fun w' hw'=>by
   have hb':=(((hw'.perm hr.perm).hown _ aQ).1);refine Cj hb' ?_;rw[ku _ _ _ (by simp;omega),<-hxs];simp
  have hcap':len+m<=grownCap w (len+m) cap e:=by unfold grownCap;simp only[Question.cut];omega
  have hrun:=HN (P:=P) (t:=t) (t':=t') (ty':=ty') (w:=w) (w':=w) (hx' _ rl.h.drew) (hsy _ rl.h.drew) (by omega) hby hb;refine jh (v:= .slice (some ⟨w.heap.size,0,none⟩) (len+m) (grownCap w (len+m) cap e)) (w':=w.drew.alloc (.cells ⟨xs++ys++cC z (grownCap w (len+m) cap e-(len+m))⟩ e)) ?_ ?_
  ·simp only[execOp,resolve,gV,bW,dR,bh rl.fr hx,bh rl.fr hy]
   exact cx hrun
  ·refine h w.heap.size _ _ _ hcap' ?_ _ _ ((rl.heap (((hp.drew).drop (qM _ _)).alloc _ _)).put _ hd)
   rw[ml,hzs,<-cY];congr 1;omega
def UA{f:FuncId}{fn:Func}{tS tR:TypeId}(hf:P.funcs[f]? =some fn)(hname:(fn.name== "runtime.NumGoroutine")=false)(hb:fn.body.isNone=true)(hn:Extern.findNext fn=none)
  (he:Extern.find fn=some (Extern.SlicesOverlaps.overlaps #[tS,tS] #[tR]))[hT:cd P tS e s by_]{args:Array Operand}{tys:Array TypeId}{fo:Operand}
  {b1 b2 o1 o2 l1 l2 c1 c2:Nat}{cs1 cs2:List Value}{t1 t2:TypeId}{lo1 lo2:Bool}(ho:av fr fo=some (.func (.func f) #[] #[]))
  (hv:fy fr args.toList=some [.slice (some ⟨b1,o1,none⟩) l1 c1, .slice (some ⟨b2,o2,none⟩) l2 c2])[h1:gm own b1 cs1 t1 lo1][h2:gm own b2 cs2 t2 lo2](hne:b1≠b2)(hc2:cs2≠[]):
  Yd P C fr own G ⟨dst, .call ⟨.value fo,args,tys⟩,ty',pos,af,gd⟩ (.bool false):=by
 intro a w hfr hh;have e1:=(hh.hown _ h1.mem).1;have e2:=(hh.hown _ h2.mem).1;have ev:args.map a.eval=⟨[.slice (some ⟨b1,o1,none⟩) l1 c1, .slice (some ⟨b2,o2,none⟩) l2 c2]⟩:=by apply Array.ext';simpa using x6 hfr hv
 simp only[] at e1 e2;have hrun:=Lib.run_overlaps_apart (P:=P) w tS tR e hT.un s hT.siz ⟨b1,o1,none⟩ ⟨b2,o2,none⟩ l1 c1 l2 c2 hne t1 t2 cs1.length cs2.length
  (by simp[World.shape?,e1]) (by simp[World.shape?,e2]) (by simpa using hc2) (by simp[World.frozen?,e1]) (by simp[World.frozen?,e1])
 simp only[execOp,resolve,bh hfr ho,ev,Deferred.ofValue];show(invoke (.fn (.func f) #[]) _).run P w=_;simp only[invoke];have h3:=run_callFunc_extern (P:=P) hf hname hb hn he;rw[h3];simp[hrun,Result.andThen]
end
instance jf.cons2 (l m:List aj) (o:aj) [h:jf l m]:jf (o::l) (o::m):=⟨h.s.cons_cons o⟩
def QC{P:Program}{C:aD}{n:Nat}{fr:Fr}{own own0:List aj}{G:Gh}{ops:Array Oper}{Q:Exit->Act->World->Prop}{b:Nat}{cs:List Value}{ty:TypeId}{lo:Bool}(fin:Nat->Bool)(π:List (Nat×Bool)){id:Nat}(hm:P.follows .mixedOrders=true)(_hr:je own ⟨b,cs,ty,lo⟩ own0)(ho:(pf ops fin π (Array.replicate ops.size false)&&Nat.ble π.length ops.size)=true)
  (h:St C n fr own G (fh P ops (e7 Q) (HS C own0 G) fin π)):St C n fr own G ((Code.region id ops true).wp P Q):=by
 simp only[aN] at ho;intro a w rl;exact wp_mono (wp_region_any hm (Co _ _ _ _ (Ah (fun _ _ _ _ _ h=>h) π _ a _ ho.1 (h a _ (rl.heap rl.h.drew)) _ (by simpa using ho.2)))) e7.imp
def aC(vs:List Value):List Value:=(vs.map aE).flatten
def d8{s:Nat}: ∀(vs:List Value),(∀v∈vs,(aE v).length=s)->(aC vs).length=vs.length*s
 |[],_=>by simp[aC]
 |v::vs,h=>by
  have h1:=d8 vs (fun u hu=>h u (aZ _ hu));have h2:=h v aQ;unfold aC at*;simp only[bW,kU,aR,bT,h1,h2,gX];omega
def l5(us vs:List Value):aC (us++vs)=aC us++aC vs:=by simp[aC]
def uv(v:Value):aC [v]=aE v:=by simp[aC]
def Da{s:Nat}: ∀(vs:List Value) (i:Nat),(∀v∈vs,(aE v).length=s)->i<=vs.length->(aC vs).take (i*s)=aC (vs.take i)
 |vs,0,_,_=>by simp[aC]
 |[],i+1,_,h=>by simp at h
 |v::vs,i+1,h,hi=>by
  have h1:=Da vs i (fun u hu=>h u (aZ _ hu)) (by simpa using hi);have h2:=h v aQ;unfold aC at*;simp only[bW,kU,nT];rw[List.take_append,h2,bQ (by rw[h2,gX];omega),gX,lK,h1]
def B9{s:Nat}: ∀(vs:List Value) (i:Nat),(∀v∈vs,(aE v).length=s)->i<=vs.length->(aC vs).drop (i*s)=aC (vs.drop i)
 |vs,0,_,_=>by simp
 |[],i+1,_,h=>by simp at h
 |v::vs,i+1,h,hi=>by
  have h1:=B9 vs i (fun u hu=>h u (aZ _ hu)) (by simpa using hi);have h2:=h v aQ;unfold aC at*;simp only[bW,kU,sK];rw[lN,h2,oX (by rw[h2,gX];omega),gX,lK,h1,cK]
def F7{s:Nat}{vs rest:List Value}(h: ∀v∈vs,(aE v).length=s){i:Nat}(hi:i<vs.length):cv (aC vs++rest) (i*s) s=some (aE vs[i]):=by
 have hl:=d8 vs h;have hle:i*s+s<=vs.length*s:=by rw[<-gX];exact bK _ hi
 rw[ku _ _ _ (by simp only[aR];omega)];congr 1;rw[jZ (by omega),B9 vs i h (by omega),cJ hi];have h2:=h vs[i] (jW hi);rw[show(vs[i]::vs.drop (i+1))=[vs[i]]++vs.drop (i+1) from J,l5,uv,dQ,eX (by omega),bQ (by omega)]
def d5.of_flat{G:Gh}{b c s:Nat}{vs rest:List Value}(h: ∀v∈vs,(aE v).length=s)(hg:G b=some (aC vs++rest))(hc:vs.length<=c):d5 G s ⟨some ⟨b,0,none⟩,vs.length,c⟩ vs:=
 ⟨J,hc, .inr ⟨b,0,_,J,hg,fun i hi=>by rw[dK];exact F7 h hi⟩⟩
section
variable {P:Program} {C:aD} {n:Nat} {fr:Fr} {own own':List aj} {G:Gh} {Φ:Act->World->Prop}
variable {dst:Option Nat} {ty':TypeId} {pos:String} {af:Array Edge} {gd:Option (Nat×Bool)} {x y:Operand} {tys:Array TypeId}
def Ae{ops:Array Oper}{Q:Exit->Act->World->Prop}(own0:List aj)(fin:Nat->Bool)(π:List (Nat×Bool)){id:Nat}(hm:P.follows .mixedOrders=true)(ho:(pf ops fin π (Array.replicate ops.size false)&&Nat.ble π.length ops.size)=true)
  (h:St C n fr own G (fh P ops (e7 Q) (HS C own0 G) fin π)):St C n fr own G ((Code.region id ops true).wp P Q):=by
 simp only[aN] at ho;intro a w rl;exact wp_mono (wp_region_any hm (Co _ _ _ _ (Ah (fun _ _ _ _ _ h=>h) π _ a _ ho.1 (h a _ (rl.heap rl.h.drew)) _ (by simpa using ho.2)))) e7.imp
end
section
variable {P:Program} {ops:Array Oper} {Q:Exit->Act->World->Prop} {S:World->Prop} {fin:Nat->Bool} {π₂:List (Nat×Bool)}
def bD(l:List Nat)(k:Nat):List Nat:=l.filter fun j=>!Nat.beq j k
def Gk{l:List Nat}{k:Nat}(h:k∈l):(bD l k).length<l.length:=by
 unfold bD;rw[oS];exact⟨k,h,by simp⟩
def z8(ops:Array Oper)(fin:Nat->Bool)(π₂:List (Nat×Bool)):Nat->List Nat->List (Nat×Bool)->Array Bool->Bool
 |0,_,_,_=>false
 |_+1,[],[],listed=>pf ops fin π₂ listed
 |n+1,k::ks,[],listed=>!(Region.ready .any ops listed).isEmpty&&(Region.ready .any ops listed).all (fun j=>(k::ks).contains j)&&(k::ks).all fun j=>z8 ops fin π₂ n (bD (k::ks) j) [] (listed.setIfInBounds j true)
 |n+1,ks,(i,true)::r,listed=>uR ops fin listed i&&z8 ops fin π₂ n ks r (listed.setIfInBounds i true)
 |n+1,ks,(i,false)::r,listed=>!(Region.ready .any ops listed).isEmpty&&(Region.ready .any ops listed).all (fun j=>Nat.beq j i||ks.contains j)&&z8 ops fin π₂ n ks r (listed.setIfInBounds i true)&&ks.all fun j=>z8 ops fin π₂ n (bD ks j) ((i,false)::r) (listed.setIfInBounds j true)
def yq(P:Program)(ops:Array Oper)(Q:Exit->Act->World->Prop)(S:World->Prop)(fin:Nat->Bool)(π₂:List (Nat×Bool)):List Nat->List (Nat×Bool)->Act->World->Prop
 |[],[],a,w=>fh P ops Q S fin π₂ a w
 |k::ks,[],a,w=> ∀j,(h:j∈k::ks)->wpOp P ops Q j (fun a' w'=>(fin j=true\/S w')/\yq P ops Q S fin π₂ (bD (k::ks) j) [] a' w') a w
 |ks,(i,true)::r,a,w=> ∃o v,ops[i]? =some o/\S w/\YieldsIf P ops S o v a/\yq P ops Q S fin π₂ ks r (a.put o.dst v) w
 |ks,(i,false)::r,a,w=>wpOp P ops Q i (fun a' w'=>(fin i=true\/S w')/\yq P ops Q S fin π₂ ks r a' w') a w/\
   ∀j,(h:j∈ks)->wpOp P ops Q j (fun a' w'=>(fin j=true\/S w')/\yq P ops Q S fin π₂ (bD ks j) ((i,false)::r) a' w') a w
termination_by ks π=>ks.length+π.length
decreasing_by
 all_goals (first|(have:=Gk h;simp only[bT,jK] at*;omega)|(simp only[bT];omega))
end
structure FD where
 k:Nat
 d:Nat
 t:TypeId
 z:Value
abbrev Fs:=Nat->Option Nat
def EL:List FD->Fs->Fr
 |[],_=>[]
 |f::r,fs=>fF f.d (fs f.k)++EL r fs
def DH:List FD->Fs->List aj
 |[],_=>[]
 |f::r,fs=>fO f.t f.z (fs f.k)++DH r fs
def DS(fd:List FD)(fs:Fs):List Nat:=(fd.filter fun f=>(fs f.k).isNone).map (·.k)
def aGM(fs:Fs)(k b:Nat):Fs:=fun j=>if j=k then some b else fs j
structure aGG (P:Program) (ops:Array Oper) (n:Nat) (fd:List FD):Prop where
 op: ∀f∈fd,∃ty' pos af,ops[f.k]? =some ⟨some f.d, .alloc f.t,ty',pos,af,none⟩/\b7 n (some f.d)=true
 z: ∀f∈fd,fk P f.t f.z
 nd:(fd.map (·.k)).Nodup
 dd: ∀f∈fd,∀g∈fd,f.d=g.d->f.k=g.k
section
variable {P:Program} {C:aD} {n:Nat} {fr:Fr} {own own0:List aj} {G G0:Gh} {ops:Array Oper} {Q:Exit->Act->World->Prop} {fin:Nat->Bool} {π π₂:List (Nat×Bool)} {fd:List FD}
def dwH(P:Program)(ops:Array Oper)(Q:Exit->Act->World->Prop)(S:World->Prop)(fin:Nat->Bool)(π₂:List (Nat×Bool))(fd:List FD)(fs:Fs)(π:List (Nat×Bool)):Act->World->Prop:=yq P ops Q S fin π₂ (DS fd fs) π
end
def gq(s:Nat)(ty:TypeId)(x:SV)(vs:List Value)(B:List aj):Prop:=
 (vs=[]/\x=⟨none,0,0⟩/\B=[])\/
 ∃b rest lo,x=⟨some ⟨b,0,none⟩,vs.length,x.c⟩/\B=[⟨b,aC vs++rest,ty,lo⟩]/\(aC vs).length=vs.length*s/\(aC vs).length+rest.length=x.c*s/\vs.length<=x.c
def gq.nil(s:Nat)(ty:TypeId):gq s ty ⟨none,0,0⟩ [] []:= .inl ⟨J,J,J⟩
def gq.relo{s:Nat}{ty:TypeId}{x:SV}{vs:List Value}{B:List aj}(h:gq s ty x vs B)(fl:Nat->Bool):gq s ty x vs (B.map (Go.Sx.relo fl)):=by
 rcases h with⟨h1,h2,h3⟩|⟨b,rest,lo,h1,h2,h3,h4,h5⟩
 ·exact .inl ⟨h1,h2,by rw[h3];rfl⟩
 ·exact .inr ⟨b,rest,fl b,h1,by rw[h2];rfl,h3,h4,h5⟩
def gq.asB{s:Nat}{ty:TypeId}{x:SV}{vs:List Value}{B:List aj}(h:gq s ty x vs B):gq s ty x vs (asB B):=by
 rcases h with⟨h1,h2,h3⟩|⟨b,rest,lo,h1,h2,h3,h4,h5⟩
 ·exact .inl ⟨h1,h2,by rw[h3];rfl⟩
 ·exact .inr ⟨b,rest,false,h1,by rw[h2];rfl,h3,h4,h5⟩
def gq.len{s:Nat}{ty:TypeId}{x:SV}{vs:List Value}{B:List aj}(h:gq s ty x vs B):x.n=vs.length:=by
 rcases h with⟨h1,h2,h3⟩|⟨b,rest,lo,h1,h2,h3,h4,h5⟩
 ·rw[h2,h1];rfl
 ·rw[h1]
def TU{M:List aj}{m:aj}(h:m∈M)(hl:m.lo=false):iF M m.b=false:=by
 refine List.all_eq_false.2 ⟨m,h,?_⟩;simp[hl]
def Br{M:List aj}(b:Nat)(h: ∀m∈M,m.lo=true):iF M b=true:=by
 refine fJ.2 fun m hm=>?_;simp[h m hm]
section
variable {P:Program} {C:aD} {n:Nat} {fr:Fr} {own own':List aj} {G:Gh} {Φ:Act->World->Prop}
variable {dst:Option Nat} {t t' ty':TypeId} {pos:String} {af:Array Edge} {gd:Option (Nat×Bool)} {x y:Operand} {e s by_:Nat}
def TP[hT:cd P t e s by_][hN:ka P t']{z:Value}[hz:fk P e z]{w:SV}{vs:List Value}{v:Value}{B:List aj}(L:List aj){ad2:Option Addr}{cap2:Nat}
  (ho:own=L++B)(hB:gq s e w vs B)(hx:av fr x=some (.slice w.a w.n w.c))(hy:av fr y=some (.slice ad2 1 cap2))
  (hsy:lu P C own G s 1 (.slice ad2 1 cap2) (aE v))(hv:(aE v).length=s)(hf: ∀c∈aE v,flat c=true)
  (hby:0<by_)(hb:(vs.length+1)*by_<=140737488355328)(hzs:(aE z).length=s)(hd:b7 n dst=true)
  (h: ∀w' B',gq s e w' (vs++[v]) B'->St C n (put fr dst (.slice w'.a w'.n w'.c)) (L++B') G Φ):
  Ch P C n fr own G ⟨dst, .call ⟨.builtin .append, #[x,y], #[t,t']⟩,ty',pos,af,gd⟩ Φ:=by
 subst ho;rcases hB with⟨h1,h2,h3⟩|⟨b,rest,lo,h1,h2,h3,h4,h5⟩
 ·subst h1 h2 h3
  rw[iS] at hsy⊢;refine CQ (z:=z) (xs:=[]) (ys:=aE v) hx hy (tC) hsy (by show 0<0+1;omega) hby (by simpa using hb) hd (fun b cap' hc=>?_);refine CM (L++[⟨b,[]++aE v++cC z (cap'-(0+1)),e,true⟩]) ?_ (h ⟨some ⟨b,0,none⟩,1,cap'⟩ _ (.inr ⟨b,cC z (cap'-(0+1)),true,J,?_,?_,?_,by simpa using hc⟩))
  ·exact(lX (l₁:=[_]) (l₂:=L))
  ·simp[aC]
  ·simp[aC,hv]
  ·simp only[cK,uv,hv,ml,hzs]
   obtain⟨c,rfl⟩: ∃c,cap'=c+1:=⟨cap'-1,by have:0+1<=cap':=hc;omega⟩;rw[show c+1-(0+1)=c by omega,gX,kR]
 ·have hwc:w.a=some ⟨b,0,none⟩/\w.n=vs.length:=by rw[h1];exact⟨J,J⟩
  rw[hwc.1,hwc.2] at hx;subst h2;have hsub:je (L++[⟨b,aC vs++rest,e,lo⟩]) ⟨b,aC vs++rest,e,lo⟩ L:=by
   clear hsy h
   induction L with
   |nil=>exact .hd ..
   |cons a l ih=>exact .tl _ _ _ _ ih
  refine WG (z:=z) (xs:=aC vs) (ys:=aE v) (rest:=rest) hx hy hsub h3 h4 h5 hsy (by rw[hv,lM]) hf hby hb hzs hd (fun b' lo' cap' rest' hc hr=>?_);refine CM (L++[⟨b',aC vs++aE v++rest',e,lo'⟩]) ?_ (h ⟨some ⟨b',0,none⟩,vs.length+1,cap'⟩ _ (.inr ⟨b',rest',lo',by simp,?_,?_,?_,by simpa using hc⟩))
  ·exact(lX (l₁:=[_]) (l₂:=L))
  ·rw[l5,uv]
  ·rw[l5,uv,aR,h3,hv,aR,mT,gX]
  ·rw[l5,uv,aR,h3,hv]
   rw[gX] at hr;show vs.length*s+s+rest'.length=cap'*s;omega
end
instance jf.nil (l:List aj):jf [] l:=⟨jS l⟩
def F3{C:aD}{n:Nat}{fr:Fr}{own own':List aj}{G:Gh}{Φ:Act->World->Prop}(e:own=own')(h:St C n fr own' G Φ):St C n fr own G Φ:=e▸h
def Gr{P:Program}{C:aD}{n:Nat}{fr:Fr}{own:List aj}{G:Gh}{Φ:Act->World->Prop}{dst:Option Nat}{ty':TypeId}{pos:String}{af:Array Edge}{gd:Option (Nat×Bool)}{f:FuncId}{fo:Operand}{args:Array Operand}{tys:Array TypeId}{vs c1 c2:List Value}{M rest:List aj}{K:Value->List aj->Gh->Prop}(ho:av fr fo=some (.func (.func f) ⟨c1⟩ ⟨c2⟩))(hv:fy fr args.toList=some vs)
  (hp:own.Perm (M++rest))(hF:gF P f (c1++vs++c2) M G K)(hd:b7 n dst=true)
  (h: ∀v own1 (G':Gh) (fl:Nat->Bool),[GE G G']->(∀m∈M,m.lo=false->fl m.b=false)->((∀m∈M,m.lo=true)-> ∀b,fl b=true)->K v own1 G'->St C n (put fr dst v) (own1.map (relo fl)++rest) G' Φ):
  Ch P C n fr own G ⟨dst, .call ⟨.value fo,args,tys⟩,ty',pos,af,gd⟩ Φ:=
 O7 ho hv hp hF hd (fun v own1 G' _ hK=>h v own1 G' (iF M) (fun _ hm hl=>TU hm hl) (fun hl b=>Br b hl) hK)
def Ot{s:Nat}{rest:List Value}{x:Value}{j:Nat}(hj:j<s): ∀(vs:List Value) (n:Nat) (hn:n<vs.length),(∀v∈vs,(aE v).length=s)->
  (aC vs++rest).set (n*s+j) x=aC (vs.take n)++((aE vs[n]).set j x++(aC (vs.drop (n+1))++rest))
 |[],n,hn,_=>by simp at hn
 |v::vs,0,hn,h=>by
  have h2:=h v aQ;have e:aC (v::vs)=aE v++aC vs:=by simp[aC]
  rw[e,dQ,kX,dK,List.set_append_left _ _ (by omega)];simp[aC]
 |v::vs,n+1,hn,h=>by
  have h2:=h v aQ;have ih:=Ot (rest:=rest) (x:=x) hj vs n (by simpa using hn) (fun u hu=>h u (aZ _ hu));have e:aC (v::vs)=aE v++aC vs:=by simp[aC]
  rw[e,dQ,mY _ _ (by rw[h2,gX];omega),h2,show(n+1)*s+j-s=n*s+j by rw[gX];omega,ih];simp[aC]
def ZW{C:aD}{n:Nat}{fr:Fr}{L B:List aj}{G:Gh}{Φ:Act->World->Prop}{s:Nat}{ty:TypeId}{x:SV}{vs:List Value}(hC:C.mb=[])(hB:gq s ty x vs B)(hvs: ∀v∈vs,(aE v).length=s)
  (h: ∀G':Gh,[GE G G']->d5 G' s x vs->St C n fr L G' Φ):St C n fr (L++B) G Φ:=by
 rcases hB with⟨h1,h2,h3⟩|⟨b,rest,lo,h1,h2,h3,h4,h5⟩
 ·subst h1 h2 h3
  rw[iS];exact @h G ⟨bz.refl _⟩ (d5.nil _ _)
 ·subst h2
  refine CM (⟨b,aC vs++rest,ty,lo⟩::L) lX ?_;refine Rd hC ?_;refine pd b (.hd ..) ?_;intro G' hG hg;refine @h G' hG ?_;rw[h1];exact d5.of_flat hvs hg.h h5
inductive DV where
 |v (x:Value)
 |ag (l:List DV)
 |tp (l:List DV)
 |pt (l:List DV)
 |op (b:Bool) (l:List DV)
 |sl (l:List DV)
mutual
def Is(G:Gh):DV->Value->Prop
 | .v x,y=>y=x
 | .ag l,y=> ∃m,y= .agg ⟨m⟩/\IsLs G l m
 | .tp l,y=> ∃m,y= .tuple ⟨m⟩/\IsLs G l m
 | .pt l,y=> ∃b m,y= .pointer (some ⟨b,0,none⟩)/\G b=some m/\IsLs G l m
 | .op b l,y=>(b=false/\y= .pointer none)\/(b=true/\ ∃b m,y= .pointer (some ⟨b,0,none⟩)/\G b=some m/\IsLs G l m)
 | .sl l,y=> ∃(s:Nat) (x:SV) (es:List Value),y= .slice x.a x.n x.c/\d5 G s x es/\IsLs G l es
def IsLs(G:Gh):List DV->List Value->Prop
 |[],m=>m=[]
 |d::t,m=> ∃y n,m=y::n/\Is G d y/\IsLs G t n
end
mutual
def Is.up'{A G:Gh}(h:bz A G): ∀(d:DV) (y:Value),Is A d y->Is G d y
 | .v x,y,k=>by simp only[Is] at k⊢;exact k
 | .ag l,y,k=>by simp only[Is] at k⊢;obtain⟨m,e,k⟩:=k;exact⟨m,e,IsLs.up' h l m k⟩
 | .tp l,y,k=>by simp only[Is] at k⊢;obtain⟨m,e,k⟩:=k;exact⟨m,e,IsLs.up' h l m k⟩
 | .pt l,y,k=>by simp only[Is] at k⊢;obtain⟨b,m,e,hb,k⟩:=k;exact⟨b,m,e,h _ _ hb,IsLs.up' h l m k⟩
 | .op _ l,y,k=>by simp only[Is] at k⊢;exact k.imp id fun⟨e1,b,m,e,hb,k⟩=>⟨e1,b,m,e,h _ _ hb,IsLs.up' h l m k⟩
 | .sl l,y,k=>by simp only[Is] at k⊢;obtain⟨s,x,es,e,hs,k⟩:=k;exact⟨s,x,es,e,hs.up' h,IsLs.up' h l es k⟩
def IsLs.up'{A G:Gh}(h:bz A G): ∀(d:List DV) (y:List Value),IsLs A d y->IsLs G d y
 |[],y,k=>by simp only[IsLs] at k⊢;exact k
 |d::t,y,k=>by simp only[IsLs] at k⊢;obtain⟨u,n,e,h1,h2⟩:=k;exact⟨u,n,e,Is.up' h d u h1,IsLs.up' h t n h2⟩
end
section
variable {G:Gh}
def Is.up{A:Gh}{d:DV}{y:Value}(k:Is A d y)(h:bz A G):Is G d y:=Is.up' h d y k
def IsLs.up{A:Gh}{d:List DV}{y:List Value}(k:IsLs A d y)(h:bz A G):IsLs G d y:=IsLs.up' h d y k
def aG{x y:Value}:Is G (.v x) y↔y=x:=by simp only[Is]
def c6{l:List DV}{y:Value}:Is G (.ag l) y↔ ∃m,y= .agg ⟨m⟩/\IsLs G l m:=by simp only[Is]
def iD{l:List DV}{y:Value}:Is G (.tp l) y↔ ∃m,y= .tuple ⟨m⟩/\IsLs G l m:=by simp only[Is]
def nI{l:List DV}{y:Value}:Is G (.pt l) y↔ ∃b m,y= .pointer (some ⟨b,0,none⟩)/\G b=some m/\IsLs G l m:=by simp only[Is]
def qI{b:Bool}{l:List DV}{y:Value}:Is G (.op b l) y↔(b=false/\y= .pointer none)\/(b=true/\Is G (.pt l) y):=by simp only[Is]
def gz{l:List DV}{y:Value}:Is G (.sl l) y↔ ∃(s:Nat) (x:SV) (es:List Value),y= .slice x.a x.n x.c/\d5 G s x es/\IsLs G l es:=by simp only[Is]
def cA{m:List Value}:IsLs G [] m↔m=[]:=by simp only[IsLs]
def ba{d:DV}{t:List DV}{m:List Value}:IsLs G (d::t) m↔ ∃y n,m=y::n/\Is G d y/\IsLs G t n:=by simp only[IsLs]
def IsLs.nil:IsLs G [] []:=cA.2 J
def IsLs.cons{d:DV}{t:List DV}{y:Value}{n:List Value}(h:Is G d y)(k:IsLs G t n):IsLs G (d::t) (y::n):=ba.2 ⟨y,n,J,h,k⟩
def IsLs.uncons{d:DV}{t:List DV}{y:Value}{n:List Value}(h:IsLs G (d::t) (y::n)):Is G d y/\IsLs G t n:=by
 obtain⟨u,m,e,h1,h2⟩:=ba.1 h
 cases e
 exact⟨h1,h2⟩
def IsLs.len: ∀{d:List DV} {m:List Value},IsLs G d m->m.length=d.length
 |[],m,h=>by rw[cA.1 h];rfl
 |d::t,m,h=>by
  obtain⟨y,n,rfl,_,h2⟩:=ba.1 h;simp[h2.len]
def IsLs.get: ∀{l:List DV} {m:List Value} {i:Nat} {d:DV},IsLs G l m->l[i]? =some d-> ∃y,m[i]? =some y/\Is G d y
 |[],m,i,d,h,e=>by simp at e
 |x::t,m,0,d,h,e=>by
  obtain⟨y,n,rfl,h1,h2⟩:=ba.1 h;simp at e;subst e;exact⟨y,J,h1⟩
 |x::t,m,i+1,d,h,e=>by
  obtain⟨y,n,rfl,h1,h2⟩:=ba.1 h;simp at e;simpa using h2.get e
def IsLs.app: ∀{a b:List DV} {m n:List Value},IsLs G a m->IsLs G b n->IsLs G (a++b) (m++n)
 |[],b,m,n,h,k=>by rw[cA.1 h];exact k
 |d::t,b,m,n,h,k=>by
  obtain⟨y,m',rfl,h1,h2⟩:=ba.1 h;exact .cons h1 (h2.app k)
def IsLs.unapp: ∀{a b:List DV} {m:List Value},IsLs G (a++b) m-> ∃x y,m=x++y/\IsLs G a x/\IsLs G b y
 |[],b,m,h=>⟨[],m,J, .nil,h⟩
 |d::t,b,m,h=>by
  obtain⟨y,m',rfl,h1,h2⟩:=ba.1 h;obtain⟨u,v,rfl,h3,h4⟩:=h2.unapp;exact⟨y::u,v,J, .cons h1 h3,h4⟩
def IsLs.drop: ∀{a:List DV} {m:List Value} (k:Nat),IsLs G a m->IsLs G (a.drop k) (m.drop k)
 |_,_,0,h=>h
 |[],m,k+1,h=>by rw[cA.1 h];exact .nil
 |d::t,m,k+1,h=>by
  obtain⟨y,m',rfl,h1,h2⟩:=ba.1 h;exact h2.drop k
def IsLs.take: ∀{a:List DV} {m:List Value} (k:Nat),IsLs G a m->IsLs G (a.take k) (m.take k)
 |_,_,0,h=> .nil
 |[],m,k+1,h=>by rw[cA.1 h];exact .nil
 |d::t,m,k+1,h=>by
  obtain⟨y,m',rfl,h1,h2⟩:=ba.1 h;exact .cons h1 (h2.take k)
def IsLs.set: ∀{a:List DV} {m:List Value} (k:Nat) {d:DV} {y:Value},IsLs G a m->Is G d y->IsLs G (a.set k d) (m.set k y)
 |[],m,k,d,y,h,_=>by rw[cA.1 h];exact .nil
 |x::t,m,0,d,y,h,k=>by
  obtain⟨u,m',rfl,h1,h2⟩:=ba.1 h;exact .cons k h2
 |x::t,m,j+1,d,y,h,k=>by
  obtain⟨u,m',rfl,h1,h2⟩:=ba.1 h;exact .cons h1 (h2.set j k)
end
def DV.flat:DV->Bool
 | .v x=>Go.Sx.flat x
 | .ag _=>false
 | .tp _=>false
 | .pt _=>true
 | .op .. =>true
 | .sl .. =>true
def DV.okc:DV->Bool
 | .ag l=>l.all DV.flat
 |d=>d.flat
def DV.cells:DV->List DV
 | .ag l=>l
 |d=>[d]
section
variable {G:Gh}
def Is.flat{d:DV}{y:Value}(h:Is G d y)(k:d.flat=true):Go.Sx.flat y=true:=by
 cases d with
 |v x=>rw[aG.1 h];exact k
 |ag l=>cases k
 |tp l=>cases k
 |pt l=>obtain⟨b,m,rfl,_⟩:=nI.1 h;rfl
 |op b l=>
  rcases qI.1 h with⟨_,rfl⟩|⟨_,h⟩
  ·rfl
  ·obtain⟨b,m,rfl,_⟩:=nI.1 h;rfl
 |sl l=>obtain⟨s,x,es,rfl,_⟩:=gz.1 h;rfl
def Ac{y:Value}(h:Go.Sx.flat y=true):aE y=[y]:=by cases y<;>first|rfl|(simp[Go.Sx.flat] at h)
def IsLs.flat: ∀{l:List DV} {m:List Value},IsLs G l m->l.all DV.flat=true-> ∀v∈m,Go.Sx.flat v=true
 |[],m,h,_,v,hv=>by rw[cA.1 h] at hv;cases hv
 |d::t,m,h,k,v,hv=>by
  obtain⟨y,n,rfl,h1,h2⟩:=ba.1 h;simp only[List.all_cons,aN] at k;rcases aW.1 hv with rfl|hv
  ·exact h1.flat k.1
  ·exact h2.flat k.2 v hv
def Is.cells{d:DV}{y:Value}(h:Is G d y)(k:d.okc=true):IsLs G d.cells (aE y)/\ ∀v∈aE y,Go.Sx.flat v=true:=by
 cases d with
 |ag l=>obtain⟨m,rfl,hm⟩:=c6.1 h;exact⟨hm,hm.flat k⟩
 |_=>
  have:=h.flat k;rw[Ac this];exact⟨.cons h .nil,fun v hv=>by rw[aU.1 hv];exact this⟩
end
def takeD:List DV->Nat->Nat->Option (List DV)
 |_,0,0=>some []
 |[],0,_+1=>none
 |v::t,0,k+1=>match takeD t 0 k with|some l=>some (v::l)|none=>none
 |[],_+1,_=>none
 |_::t,off+1,k=>takeD t off k
def yw:List DV->Nat->List DV->List DV
 |cs,_,[]=>cs
 |cs,off,v::vs=>yw (cs.set off v) (off+1) vs
section
variable {G:Gh}
def IsLs.takeD: ∀{ds:List DV} {m:List Value} {off k:Nat} {l:List DV},IsLs G ds m->takeD ds off k=some l-> ∃n,cv m off k=some n/\IsLs G l n
 |[],m,0,0,l,h,e=>by rw[cA.1 h];simp only[Sx.takeD] at e;cases e;exact⟨[],J, .nil⟩
 |d::t,m,0,0,l,h,e=>by
  obtain⟨y,m',rfl,h1,h2⟩:=ba.1 h;simp only[Sx.takeD] at e;cases e;exact⟨[],J, .nil⟩
 |[],m,0,k+1,l,h,e=>by simp[Sx.takeD] at e
 |d::t,m,0,k+1,l,h,e=>by
  obtain⟨y,m',rfl,h1,h2⟩:=ba.1 h;simp only[Sx.takeD] at e;split at e
  ·rename_i l' hl'
   cases e
   obtain⟨n,hn,hl⟩:=h2.takeD hl';exact⟨y::n,by simp only[cv,hn], .cons h1 hl⟩
  ·cases e
 |[],m,off+1,k,l,h,e=>by simp[Sx.takeD] at e
 |d::t,m,off+1,k,l,h,e=>by
  obtain⟨y,m',rfl,h1,h2⟩:=ba.1 h;exact h2.takeD (off:=off) (k:=k) e
def IsLs.ov: ∀{vs ds:List DV} {n m:List Value} {off:Nat},IsLs G ds m->IsLs G vs n->IsLs G (yw ds off vs) (ck m off n)
 |[],ds,n,m,off,h,k=>by rw[cA.1 k];exact h
 |v::vs,ds,n,m,off,h,k=>by
  obtain⟨y,n',rfl,h1,h2⟩:=ba.1 k;exact(h.set off h1).ov h2
end
inductive FV where
 |d (x:DV)
 /-- a pointer to cells that are written no more -/
 |ep (l:List DV)
 /-- a pointer to a cell of element i of a row of the call's own -/
 |be (x:SV) (s i j:Nat)
 /-- a slice bD room behind it -/
 |ct (l:List DV)
abbrev dH:=List (Nat×FV)
def Jq(G:Gh):FV->Value->Prop
 | .d x,y=>Is G x y
 | .ep l,y=> ∃b off cs m,y= .pointer (some ⟨b,off,none⟩)/\G b=some cs/\cv cs off l.length=some m/\IsLs G l m
 | .be x s i j,y=> ∃b,x.a=some ⟨b,0,none⟩/\y= .pointer (some ⟨b,i*s+j,none⟩)
 | .ct l,y=>(∃a n,y= .slice a n n)/\Is G (.sl l) y
def tQ:dH->Nat->Option FV
 |[],_=>none
 |(k,v)::t,j=>bif Nat.beq k j then some v else tQ t j
def aFW(fr:dH)(dst:Option Nat)(v:FV):dH:=match dst with|some d=>(d,v)::fr|none=>fr
def Df(G:Gh):dH->Fr->Prop
 |[],m=>m=[]
 |(k,f)::t,m=> ∃y n,m=(k,y)::n/\Jq G f y/\Df G t n
def DU(fr:dH):Operand->Option FV
 | .tmp k=>tQ fr k
 | .const v=>some (.d (.v v))
 | .global g=>some (.d (.v (.pointer (some ⟨g,0,none⟩))))
 | .func f=>some (.d (.v (.func (.func f) #[] #[])))
def NA:FV->Option DV
 | .d (.v (.slice none 0 0))=>some (.sl [])
 | .d d=>some d
 | .ct l=>some (.sl l)
 |_=>none
def BU(fr:dH)(x:Operand):Option DV:=(DU fr x).bind NA
def Ta(fr:dH):List Operand->Option (List DV)
 |[]=>some []
 |x::t=>match BU fr x,Ta fr t with
  |some d,some l=>some (d::l)
  |_,_=>none
structure cI where
 b:Nat
 cs:List DV
 ty:TypeId
 lo:Bool
structure dt where
 x:SV
 s:Nat
 ty:TypeId
 ds:List DV
 lo:Bool
class tX (own:List cI) (b:Nat) (cs:outParam (List DV)) (ty:outParam TypeId) (lo:outParam Bool):Prop where
 mem:⟨b,cs,ty,lo⟩∈own
instance tX.i1 (b:Nat) (cs:List DV) (ty:TypeId) (lo:Bool) (t:List cI):tX (⟨b,cs,ty,lo⟩::t) b cs ty lo:=⟨aQ⟩
instance tX.i2 (o:cI) (t:List cI) (b:Nat) (cs:List DV) (ty:TypeId) (lo:Bool) [h:tX t b cs ty lo]:tX (o::t) b cs ty lo:=⟨aZ _ h.mem⟩
class Ai (bs:List dt) (x:SV) (s:outParam Nat) (ty:outParam TypeId) (ds:outParam (List DV)) (lo:outParam Bool):Prop where
 mem:⟨x,s,ty,ds,lo⟩∈bs
instance Ai.i1 (x:SV) (s:Nat) (ty:TypeId) (ds:List DV) (lo:Bool) (t:List dt):Ai (⟨x,s,ty,ds,lo⟩::t) x s ty ds lo:=⟨aQ⟩
instance Ai.i2 (o:dt) (t:List dt) (x:SV) (s:Nat) (ty:TypeId) (ds:List DV) (lo:Bool) [h:Ai t x s ty ds lo]:Ai (o::t) x s ty ds lo:=⟨aZ _ h.mem⟩
def Nw(G:Gh):List cI->List aj->Prop
 |[],m=>m=[]
 |o::t,m=> ∃cs n,m=⟨o.b,cs,o.ty,o.lo⟩::n/\IsLs G o.cs cs/\Nw G t n
def de(G:Gh)(β:dt)(B:List aj):Prop:=
 ∃vs,gq β.s β.ty β.x vs B/\IsLs G β.ds vs/\(∀v∈vs,(aE v).length=β.s)/\(β.lo=true-> ∀o∈B,o.lo=true)
def MM(G:Gh):List dt->List aj->Prop
 |[],m=>m=[]
 |β::t,m=> ∃B n,m=B++n/\de G β B/\MM G t n
def OB(G:Gh)(own:List cI)(bs:List dt)(ov:List aj):Prop:= ∃a b,ov=a++b/\Nw G own a/\MM G bs b
structure Sr (GB G:Gh) (fr:dH) (own:List cI) (bs:List dt) (frv:Fr) (ov:List aj):Prop where
 gb:bz GB G
 fr:Df G fr frv
 ob:OB G own bs ov
structure nq where
 fr:Fr
 own:List aj
def E0:nq:=⟨[],[]⟩
structure SD (GB:Gh) (C:aD) (n:Nat) (E:nq) (fr:dH) (own:List cI) (bs:List dt) (Φ:Act->World->Prop):Prop where
 run: ∀G frv ov,Sr GB G fr own bs frv ov->St C n (frv++E.fr) (ov++E.own) G Φ
instance {GB:Gh} {C:aD} {n:Nat} {E:nq} {fr:dH} {own:List cI} {bs:List dt} {Φ:Act->World->Prop}:CoeFun (SD GB C n E fr own bs Φ) (fun _=> ∀G frv ov,Sr GB G fr own bs frv ov->St C n (frv++E.fr) (ov++E.own) G Φ):=⟨SD.run⟩
def YD(P:Program)(GB:Gh)(C:aD)(fr:dH)(own:List cI)(bs:List dt)(o:Oper)(f:FV):Prop:=
 ∀G frv ov,Sr GB G fr own bs frv ov-> ∃y,Jq G f y/\ ∀G',bz G G'->Yd P C frv ov G' o y
def CD(P:Program)(GB:Gh)(C:aD)(n:Nat)(E:nq)(fr:dH)(own:List cI)(bs:List dt)(o:Oper)(Φ:Act->World->Prop):Prop:=
 ∀G frv ov,Sr GB G fr own bs frv ov->Ch P C n (frv++E.fr) (ov++E.own) G o Φ
def TD(P:Program)(GB:Gh)(C:aD)(n:Nat)(fr:dH)(own:List cI)(bs:List dt)(o:Oper)(fr':dH)(own':List cI)(bs':List dt):Prop:=
 ∀(GB':Gh) (E:nq) (Φ:Act->World->Prop),bz GB GB'->SD GB' C n E fr' own' bs' Φ->CD P GB' C n E fr own bs o Φ
def TF(P:Program)(GB:Gh)(C:aD)(n:Nat)(fr:dH)(own:List cI)(bs:List dt)(o:Oper)(ι:Type)(fr':ι->dH)(own':ι->List cI)(bs':ι->List dt):Prop:=
 ∀(GB':Gh) (E:nq) (Φ:Act->World->Prop),bz GB GB'->(∀x,SD GB' C n E (fr' x) (own' x) (bs' x) Φ)->CD P GB' C n E fr own bs o Φ
section
variable {P:Program} {GB:Gh} {C:aD} {n:Nat} {E:nq} {fr fr':dH} {own own':List cI} {bs bs':List dt} {ops:Array Oper} {Q:Exit->Act->World->Prop} {r:List Oper} {Φ:Act->World->Prop}
def aGv(P:Program)(y:Code)(Q:Exit->Act->World->Prop):Exit->Act->World->Prop:=Exit.then (y.wp P Q) Q
def aGj(fr' fr:dH):Prop:= ∀e∈fr',tQ fr e.1=some e.2
def aEw(GB:Gh)(C:aD)(n:Nat){X:Type}(F:X->dH)(O:X->List cI)(B:X->List dt)(I:X->Prop)(μ:X->Nat)(m:Nat)(a:Act)(w:World):Prop:=
 ∃x G frv ov,I x/\μ x<m/\Sr GB G (F x) (O x) (B x) frv ov/\gh C n frv ov G a w
def AtD(GB:Gh)(C:aD)(n:Nat){X:Type}(F:X->dH)(O:X->List cI)(B:X->List dt)(I:X->Prop)(a:Act)(w:World):Prop:=
 ∃x G frv ov,I x/\Sr GB G (F x) (O x) (B x) frv ov/\gh C n frv ov G a w
def PF(GB:Gh)(P:Program)(f:FuncId)(ds:List DV)(r:DV):Prop:=
 ∀G vs,bz GB G->IsLs G ds vs->Fn P f vs G (fun v G'=>Is G' r v)
def PM(GB:Gh)(P:Program)(f:FuncId)(ds:List DV)(b:Nat)(ty:TypeId)(cs:List DV)(r:DV)(cs':List DV):Prop:=
 ∀G vs m lo,bz GB G->IsLs G ds vs->IsLs G cs m->jb P f vs [⟨b,m,ty,lo⟩] G (fun v css G'=>Is G' r v/\ ∃m',css=[m']/\IsLs G' cs' m')
def Yf:Nat->List DV->dH
 |_,[]=>[]
 |i,v::t=>(i, .d v)::Yf (i+1) t
inductive t6 (P:Program) (fr:dH) (own:List cI):List ResultVar->List DV->Prop
 |nil:t6 P fr own [] []
 |tmp {t:Nat} {v:DV} {rs:List ResultVar} {vs:List DV} (h:(tQ fr t).bind NA=some v) (k:t6 P fr own rs vs):t6 P fr own (.tmp t::rs) (v::vs)
 |agg {a b k:Nat} {t:TypeId} {cs l:List DV} {ty:TypeId} {lo:Bool} {rs:List ResultVar} {vs:List DV} (h:tQ fr a=some (.d (.v (.pointer (some ⟨b,0,none⟩))))) (ho:tX own b cs ty lo) (ht:jI P t k) (hl:takeD cs 0 k=some l) (h2:t6 P fr own rs vs):
   t6 P fr own (.cell a t::rs) (.ag l::vs)
 |sc {a b:Nat} {t:TypeId} {cs:List DV} {v:DV} {ty:TypeId} {lo:Bool} {rs:List ResultVar} {vs:List DV} (h:tQ fr a=some (.d (.v (.pointer (some ⟨b,0,none⟩))))) (ho:tX own b cs ty lo) (ht:gk P t) (hl:cs[0]? =some v) (h2:t6 P fr own rs vs):
   t6 P fr own (.cell a t::rs) (v::vs)
def gH:List DV->DV
 |[d]=>d
 |l=> .tp l
def zk{G:Gh}{ds:List DV}{vs:List Value}(h:IsLs G ds vs):Is G (gH ds) (f9 vs):=by
 match ds,h with
 |[],h=>rw[cA.1 h];exact iD.2 ⟨[],J, .nil⟩
 |[d],h=>
  obtain⟨y,m,rfl,h1,h2⟩:=ba.1 h;rw[cA.1 h2];exact h1
 |a::b::t,h=>
  obtain⟨y,m,rfl,h1,h2⟩:=ba.1 h;obtain⟨z,m',rfl,h3,h4⟩:=ba.1 h2;exact iD.2 ⟨_,J,h⟩
end
def Bb{cs l:List Value}{o k:Nat}(h:cv cs o k=some l):l.length=k:=(o9 _ _ _ _ h).1
def B8: ∀{cs m:List Value} {o k:Nat},cv cs o k=some m-> ∀{d:Nat},d<=k->cv cs (o+d) (k-d)=some (m.drop d)
 |cs,m,o,k,h,0,_=>by simpa using h
 |[],m,0,0,h,d+1,hd=>by omega
 |v::t,m,0,0,h,d+1,hd=>by omega
 |[],m,0,k+1,h,d+1,hd=>by simp[cv] at h
 |v::t,m,0,k+1,h,d+1,hd=>by
  simp only[cv] at h;split at h
  ·rename_i l hl
   cases h
   have:=B8 hl (d:=d) (by omega);rw[dK] at this;rw[dK,Nat.add_sub_add_right,sK];exact this
  ·cases h
 |[],m,o+1,k,h,d+1,hd=>by simp[cv] at h
 |v::t,m,o+1,k,h,d+1,hd=>by
  simp only[cv] at h;have:=B8 h (d:=d+1) hd;rw[show o+1+(d+1)=(o+(d+1))+1 by omega];exact this
def FB: ∀{cs m:List Value} {o k:Nat},cv cs o k=some m-> ∀{j:Nat},j<=k->cv cs o j=some (m.take j)
 |cs,m,0,k,h,0,_=>by cases cs<;>rfl
 |[],m,0,0,h,j+1,hd=>by omega
 |v::t,m,0,0,h,j+1,hd=>by omega
 |[],m,0,k+1,h,j+1,hd=>by simp[cv] at h
 |v::t,m,0,k+1,h,j+1,hd=>by
  simp only[cv] at h;split at h
  ·rename_i l hl
   cases h
   have:=FB hl (j:=j) (by omega);simp[cv,this]
  ·cases h
 |[],m,o+1,k,h,j,hd=>by simp[cv] at h
 |v::t,m,o+1,k,h,j,hd=>by
  simp only[cv] at h⊢;exact FB h hd
def zr{m l:List Value}{j k:Nat}(h:cv m j k=some l):j+k<=m.length/\l=(m.drop j).take k:=by
 obtain⟨h1,h2⟩:=o9 _ _ _ _ h;have hle:j<=m.length:=by
  clear h1 h2
  induction m generalizing j with
  |nil=>cases j with
   |zero=>exact aL _
   |succ j=>simp[cv] at h
  |cons v t ih=>cases j with
   |zero=>exact bL _
   |succ j=>have:=ih (j:=j) h;simp;omega
 have hlen:j+k<=m.length:=by
  rcases fY k with h0|h0
  ·omega
  ·have h3:=h2 (k-1) (by omega)
   rw[aX (by omega:k-1<l.length)] at h3;have:=(aS.1 h3).1;omega
 rw[ku _ _ _ hlen] at h
 cases h
 exact⟨hlen,J⟩
def I4{cs m l:List Value}{o s j k:Nat}(h:cv cs o s=some m)(hm:cv m j k=some l):cv cs (o+j) k=some l:=by
 obtain⟨h1,rfl⟩:=zr hm;have hl:=Bb h;have h2:=B8 h (d:=j) (by omega);exact FB h2 (j:=k) (by omega)
def WJ{cs:List Value}{o:Nat}{v:Value}:cv cs o 1=some [v]↔cs[o]? =some v:=by
 constructor
 ·intro h
  obtain⟨_,h2⟩:=o9 _ _ _ _ h;simpa using h2 0 (by omega)
 ·intro h
  obtain⟨h1,h2⟩:=aS.1 h;rw[ku _ _ _ (by omega),cJ h1,nT,h2];rfl
def Mf{m l:List Value}{j k i:Nat}(h:cv m j k=some l)(hi:i<k):m[j+i]? =l[i]? :=(o9 _ _ _ _ h).2 i hi
inductive HP:List cI->Nat->List DV->TypeId->Bool->List DV->List cI->Prop
 |hd (b:Nat) (cs cs':List DV) (ty:TypeId) (lo:Bool) (t:List cI):HP (⟨b,cs,ty,lo⟩::t) b cs ty lo cs' (⟨b,cs',ty,lo⟩::t)
 |tl (o:cI) (t t':List cI) (b:Nat) (cs cs':List DV) (ty:TypeId) (lo:Bool) (h:HP t b cs ty lo cs' t'):HP (o::t) b cs ty lo cs' (o::t')
inductive GP:List cI->Nat->List DV->TypeId->Bool->List cI->Prop
 |hd (b:Nat) (cs:List DV) (ty:TypeId) (lo:Bool) (t:List cI):GP (⟨b,cs,ty,lo⟩::t) b cs ty lo t
 |tl (o:cI) (t t':List cI) (b:Nat) (cs:List DV) (ty:TypeId) (lo:Bool) (h:GP t b cs ty lo t'):GP (o::t) b cs ty lo (o::t')
inductive Ht:List dt->dt->List dt->Prop
 |hd (β:dt) (t:List dt):Ht (β::t) β t
 |tl (o:dt) (t t':List dt) (β:dt) (h:Ht t β t'):Ht (o::t) β (o::t')
section
variable {P:Program} {GB:Gh} {C:aD} {n:Nat} {E:nq} {fr fr':dH} {own own':List cI} {bs bs':List dt} {ops:Array Oper} {Q:Exit->Act->World->Prop} {r:List Oper} {Φ:Act->World->Prop}
variable {dst:Option Nat} {t t' ty':TypeId} {pos:String} {af:Array Edge} {gd:Option (Nat×Bool)} {x y z:Operand} {e s by_:Nat}
def de.elem{G:Gh}{β:dt}{B:List aj}(h:de G β B){i:Nat}{d:DV}(hi:β.ds[i]? =some d)(hd:d.okc=true):
  ∃b m rest lo l,β.x.a=some ⟨b,0,none⟩/\B=[⟨b,m++rest,β.ty,lo⟩]/\cv (m++rest) (i*β.s) β.s=some l/\IsLs G d.cells l:=by
 obtain⟨vs,hB,hv,hs,_⟩:=h;obtain⟨v,h1,h2⟩:=hv.get hi;rcases hB with⟨e,_,_⟩|⟨b,rest,lo,h3,h4,h5,h6,h7⟩
 ·rw[e] at h1;simp at h1
 ·obtain⟨h8,h9⟩:=aS.1 h1
  refine⟨b,aC vs,rest,lo,aE v,by rw[h3],h4,?_,(h2.cells hd).1⟩;have:=F7 (rest:=rest) hs h8;rw[h9] at this;exact this
def VZ(fr:dH)(offs:List (Nat×Nat)):List DV->List (Nat×Operand)->Option (List DV)
 |cs,[]=>some cs
 |cs,(i,x)::r=>match offs[i]?,BU fr x with
  |some (off,k),some d=>bif d.okc&&(Nat.beq d.cells.length k&&Nat.ble (off+k) cs.length) then VZ fr offs (yw cs off d.cells) r else none
  |_,_=>none
class aGq (P:Program) (t:TypeId) (z:outParam Value) (cs:outParam (List DV)):Prop where
 tz:fk P t z
 iz:IsLs (fun _=>none) cs (aE z)
def IsLs.all{G:Gh}: ∀{l:List DV} {m:List Value},IsLs G l m-> ∀v∈m,∃d∈l,Is G d v
 |[],m,h,v,hv=>by rw[cA.1 h] at hv;cases hv
 |d::t,m,h,v,hv=>by
  obtain⟨y,n,rfl,h1,h2⟩:=ba.1 h;rcases aW.1 hv with rfl|hv
  ·exact⟨d,aQ,h1⟩
  ·obtain⟨d',hd,h3⟩:=h2.all v hv
   exact⟨d',aZ _ hd,h3⟩
def d5.sub{G:Gh}{s:Nat}{x:SV}{es:List Value}(h:d5 G s x es)(lo hi mx:Nat)(h1:lo<=hi)(h2:hi<=es.length)(h3:hi<=mx)(_h4:mx<=x.c):
  d5 G s ⟨if mx=lo then x.a else x.a.map (·.add (lo*s)),hi-lo,mx-lo⟩ ((es.take hi).drop lo):=by
 refine⟨by simp;omega,by simp only[];omega,?_⟩;rcases h.mem with h0|⟨b,off,cs,ha,hg,hc⟩
 ·left;simp[h0]
 ·by_cases he:hi=lo
  ·left;simp[he]
  ·right
   refine⟨b,off+lo*s,cs,?_,hg,fun i hi'=>?_⟩
   ·simp only[]
    rw[if_neg (by omega),ha];simp[nj]
   ·simp only[gM,bM] at hi'
    have:=hc (lo+i) (by omega);rw[kW,<-cY,this];simp
def dB(s:Nat)(l:List DV):Prop:= ∀d∈l,d.okc=true/\d.cells.length=s
def Af{G:Gh}{l:List DV}{s' s:Nat}{w:SV}{es:List Value}(hsl:d5 G s' w es)(hl:IsLs G l es)(ho:dB s l):es=[]\/s'=s:=by
 rcases hsl.mem with h|⟨b,off,cs,ha,hg,hcs⟩
 ·exact .inl h
 ·cases es with
  |nil=>exact .inl J
  |cons v t=>
   right;have h1:=hcs 0 (by simp);have h2:=Bb h1;obtain⟨d,hd,h3⟩:=hl.all v aQ;obtain⟨h4,h5⟩:=ho d hd;have:=(h3.cells h4).1.len;simp only[oV] at h2;omega
end
section
variable {P:Program} {GB:Gh} {C:aD} {n:Nat} {E:nq} {fr:dH} {own:List cI} {bs:List dt} {ops:Array Oper} {Q:Exit->Act->World->Prop} {r:List Oper} {dst:Option Nat} {ty':TypeId} {pos:String} {af:Array Edge} {x:Operand}
end
inductive FX where
 |d (x:DV)
 /-- a pointer to cells that are written no more -/
 |ep (l:List DV)
 /-- a pointer into a variable -/
 |ov (nm off:Nat)
 /-- a row -/
 |rw(nm:Nat)
 /-- a pointer into element i of a row -/
 |be (nm s i j:Nat)
 /-- a slice of n elements of a row, from element off on -/
 |rs (nm s off n:Nat)
 /-- a slice bD room behind it -/
 |ct (l:List DV)
 |tt
 |ff
 |pr (p:Prop) (h:Decidable p)
 |nl
 /-- an aggregate (or a tuple) with one row in it -/
 |bx (tp:Bool) (pre:List DV) (nm:Nat) (post:List DV)
 |un
 /-- nothing is known -/
 |no
abbrev NE:=Nat->SV
def bP(ρ:NE)(G:Gh):FX->Value->Prop
 | .d x,y=>Is G x y
 | .ep l,y=> ∃b off cs m,y= .pointer (some ⟨b,off,none⟩)/\G b=some cs/\cv cs off l.length=some m/\IsLs G l m
 | .ov nm off,y=> ∃b,(ρ nm).a=some ⟨b,0,none⟩/\y= .pointer (some ⟨b,off,none⟩)
 | .rw nm,y=>y= .slice (ρ nm).a (ρ nm).n (ρ nm).c
 | .be nm s i j,y=> ∃b,(ρ nm).a=some ⟨b,0,none⟩/\y= .pointer (some ⟨b,i*s+j,none⟩)
 | .rs nm s off n,y=> ∃b c,(ρ nm).a=some ⟨b,0,none⟩/\y= .slice (some ⟨b,off*s,none⟩) n c/\n<=c
 | .ct l,y=>(∃a n,y= .slice a n n)/\Is G (.sl l) y
 | .tt,y=>y= .bool true
 | .ff,y=>y= .bool false
 | .pr p h,y=>y= .bool (@decide p h)
 | .nl,y=>y= .slice none 0 0
 | .bx tp pre nm post,y=> ∃m1 m2,y=(bif tp then Value.tuple ⟨m1++Value.slice (ρ nm).a (ρ nm).n (ρ nm).c::m2⟩ else .agg ⟨m1++Value.slice (ρ nm).a (ρ nm).n (ρ nm).c::m2⟩)/\IsLs G pre m1/\IsLs G post m2
 | .un,y=>y=undef
 | .no,_=>True
def dl(ρ:NE)(G:Gh):List FX->List Value->Prop
 |[],m=>m=[]
 |f::t,m=> ∃y n,m=y::n/\bP ρ G f y/\dl ρ G t n
def FX.nm:FX->Option Nat
 | .ov n _=>some n
 | .rw n=>some n
 | .be n _ _ _=>some n
 | .rs n _ _ _=>some n
 | .bx _ _ n _=>some n
 |_=>none
section
variable {ρ:NE} {G:Gh}
def bP.up{A:Gh}{f:FX}{y:Value}(h:bP ρ A f y)(k:bz A G):bP ρ G f y:=by
 cases f with
 |d x=>exact Is.up h k
 |ep l=>obtain⟨b,off,cs,m,e,hb,ht,hl⟩:=h;exact⟨b,off,cs,m,e,k _ _ hb,ht,hl.up k⟩
 |ct l=>exact⟨h.1,h.2.up k⟩
 |bx tp pre nm post=>obtain⟨m1,m2,e,h1,h2⟩:=h;exact⟨m1,m2,e,h1.up k,h2.up k⟩
 |_=>exact h
def bP.ren{ρ':NE}{f:FX}{y:Value}(h:bP ρ G f y)(k: ∀n,f.nm=some n->ρ' n=ρ n):bP ρ' G f y:=by
 cases f with
 |ov n o=>have e:=k n J;simp only[bP] at h⊢;rw[e];exact h
 |rw n=>have e:=k n J;simp only[bP] at h⊢;rw[e];exact h
 |be n s i j=>have e:=k n J;simp only[bP] at h⊢;rw[e];exact h
 |rs n s i j=>have e:=k n J;simp only[bP] at h⊢;rw[e];exact h
 |bx tp pre n post=>have e:=k n J;simp only[bP] at h⊢;rw[e];exact h
 |_=>exact h
def dl.up{A:Gh}(k:bz A G): ∀{l:List FX} {m:List Value},dl ρ A l m->dl ρ G l m
 |[],_,h=>h
 |_::_,_,⟨y,n,e,h1,h2⟩=>⟨y,n,e,h1.up k,h2.up k⟩
def dl.ren{ρ':NE}: ∀{l:List FX} {m:List Value},dl ρ G l m->(∀f∈l,∀n,f.nm=some n->ρ' n=ρ n)->dl ρ' G l m
 |[],_,h,_=>h
 |f::t,_,⟨y,n,e,h1,h2⟩,k=>⟨y,n,e,h1.ren (k f aQ),h2.ren fun g hg=>k g (aZ _ hg)⟩
def dl.len: ∀{l:List FX} {m:List Value},dl ρ G l m->m.length=l.length
 |[],m,h=>by rw[show m=[] from h];rfl
 |f::t,m,⟨y,n,e,h1,h2⟩=>by subst e;simp[h2.len]
def dl.get: ∀{l:List FX} {m:List Value} {i:Nat} {f:FX},dl ρ G l m->l[i]? =some f-> ∃y,m[i]? =some y/\bP ρ G f y
 |[],m,i,f,h,e=>by simp at e
 |x::t,m,0,f,⟨y,n,e1,h1,h2⟩,e=>by subst e1;simp at e;subst e;exact⟨y,J,h1⟩
 |x::t,m,i+1,f,⟨y,n,e1,h1,h2⟩,e=>by subst e1;simp at e;simpa using h2.get e
def dl.set: ∀{a:List FX} {m:List Value} (k:Nat) {f:FX} {y:Value},dl ρ G a m->bP ρ G f y->dl ρ G (a.set k f) (m.set k y)
 |[],m,k,f,y,h,_=>by rw[show m=[] from h];rfl
 |x::t,m,0,f,y,⟨u,n,e,h1,h2⟩,k=>by subst e;exact⟨y,n,J,k,h2⟩
 |x::t,m,j+1,f,y,⟨u,n,e,h1,h2⟩,k=>by subst e;exact⟨u,n.set j y,J,h1,h2.set j k⟩
end
def lB:FX->Option DV
 | .d x=>some x
 | .ct l=>some (.sl l)
 | .tt=>some (.v (.bool true))
 | .ff=>some (.v (.bool false))
 | .pr p h=>some (.v (.bool (@decide p h)))
 | .nl=>some (.sl [])
 |_=>none
def oP{ρ:NE}{G:Gh}{f:FX}{d:DV}{y:Value}(h:bP ρ G f y)(e:lB f=some d):Is G d y:=by
 cases f with
 |d x=>cases e;exact h
 |ct l=>cases e;exact h.2
 |tt=>cases e;exact aG.2 h
 |ff=>cases e;exact aG.2 h
 |pr p i=>cases e;exact aG.2 h
 |nl=>cases e;rw[show y= .slice none 0 0 from h];exact gz.2 ⟨0,⟨none,0,0⟩,[],J, .nil G 0, .nil⟩
 |_=>cases e
def kB:List FX->Option (List DV)
 |[]=>some []
 |f::t=>match lB f,kB t with
  |some d,some l=>some (d::l)
  |_,_=>none
def uD{ρ:NE}{G:Gh}: ∀{l:List FX} {ds:List DV} {m:List Value},dl ρ G l m->kB l=some ds->IsLs G ds m
 |[],ds,m,h,e=>by cases e;rw[show m=[] from h];exact .nil
 |f::t,ds,m,⟨y,n,e1,h1,h2⟩,e=>by
  subst e1;simp only[kB] at e;split at e
  ·rename_i d l hd hl
   cases e
   exact .cons (oP h1 hd) (uD h2 hl)
  ·cases e
def FX.okc:FX->Bool
 | .d x=>x.okc
 | .bx false pre _ post=>(DV.ag pre).okc&&(DV.ag post).okc
 | .bx true _ _ _=>false
 | .un=>false
 | .no=>false
 |_=>true
def FX.cells:FX->List FX
 | .d (.ag l)=>l.map .d
 | .bx false pre nm post=>pre.map .d++ .rw nm::post.map .d
 |f=>[f]
def dl.app{ρ:NE}{G:Gh}: ∀{a b:List FX} {m n:List Value},dl ρ G a m->dl ρ G b n->dl ρ G (a++b) (m++n)
 |[],b,m,n,h,k=>by rw[show m=[] from h];exact k
 |f::t,b,m,n,⟨y,q,e,h1,h2⟩,k=>by subst e;exact⟨y,q++n,J,h1,h2.app k⟩
def uk{ρ:NE}{G:Gh}: ∀{l:List DV} {m:List Value},IsLs G l m->dl ρ G (l.map .d) m
 |[],m,h=>cA.1 h
 |d::t,m,h=>by
  obtain⟨y,n,rfl,h1,h2⟩:=ba.1 h;exact⟨y,n,J,h1,uk h2⟩
def bP.cells{ρ:NE}{G:Gh}{f:FX}{y:Value}(h:bP ρ G f y)(k:f.okc=true):dl ρ G f.cells (aE y)/\ ∀v∈aE y,Go.Sx.flat v=true:=by
 have one: ∀g:FX,bP ρ G g y->Go.Sx.flat y=true->dl ρ G [g] (aE y)/\ ∀v∈aE y,Go.Sx.flat v=true:=fun g hg hf=>by
  rw[Ac hf];exact⟨⟨y,[],J,hg,J⟩,fun v hv=>by rw[aU.1 hv];exact hf⟩
 cases f with
 |d x=>
  cases x with
  |ag l=>
   obtain⟨m,rfl,hm⟩:=c6.1 (show Is G (.ag l) y from h);exact⟨uk hm,hm.flat k⟩
  |_=>exact one _ h (Is.flat (show Is G _ y from h) k)
 |ep l=>obtain⟨b,off,cs,m,rfl,_⟩:=h;exact one (.ep l) ⟨b,off,cs,m,rfl,by assumption⟩ rfl
 |ov nm off=>obtain⟨b,hb,rfl⟩:=h;exact one (.ov nm off) ⟨b,hb,rfl⟩ rfl
 |rw nm=>cases h;exact one (.rw nm) J J
 |be nm s i j=>obtain⟨b,hb,rfl⟩:=h;exact one (.be nm s i j) ⟨b,hb,rfl⟩ rfl
 |rs nm s i j=>obtain⟨b,c,hb,rfl,hc⟩:=h;exact one (.rs nm s i j) ⟨b,c,hb,rfl,hc⟩ rfl
 |ct l=>obtain⟨⟨a,n,rfl⟩,h2⟩:=h;exact one (.ct l) ⟨⟨a,n,rfl⟩,h2⟩ rfl
 |tt=>cases h;exact one .tt J J
 |ff=>cases h;exact one .ff J J
 |pr p i=>cases h;exact one (.pr p i) J J
 |nl=>cases h;exact one .nl J J
 |bx tp pre nm post=>
  cases tp with
  |true=>cases k
  |false=>
   obtain⟨m1,m2,rfl,h1,h2⟩:=h;simp only[FX.okc,aN] at k;refine⟨(uk h1).app ⟨_,m2,J,J,uk h2⟩,fun v hv=>?_⟩;rcases cX.1 (show v∈m1++_::m2 from hv) with hv|hv
   ·exact h1.flat k.1 v hv
   ·rcases aW.1 hv with rfl|hv
    ·rfl
    ·exact h2.flat k.2 v hv
 |un=>cases k
 |no=>cases k
inductive Bk where
 |o (ty:TypeId) (cs:List FX) (lo:Bool)
 |b (ty:TypeId) (s:Nat) (ds:List DV) (lo:Bool)
 /-- a row with room for cap elements in all -/
 |c (ty:TypeId) (s:Nat) (ds:List DV) (cap:Nat)
def jA(ρ:NE)(G:Gh)(nm:Nat):Bk->List aj->Prop
 | .o ty cs lo,B=> ∃b m,(ρ nm).a=some ⟨b,0,none⟩/\B=[⟨b,m,ty,lo⟩]/\dl ρ G cs m
 | .b ty s ds lo,B=> ∃vs,gq s ty (ρ nm) vs B/\IsLs G ds vs/\(∀v∈vs,(aE v).length=s)/\(lo=true-> ∀o∈B,o.lo=true)
 | .c ty s ds cap,B=> ∃vs,gq s ty (ρ nm) vs B/\IsLs G ds vs/\(∀v∈vs,(aE v).length=s)/\(∀o∈B,o.lo=true)/\cap<=(ρ nm).c
def Bk.men(n:Nat):Bk->Prop
 | .o _ cs _=> ∃f∈cs,f.nm=some n
 | .b .. =>False
 | .c .. =>False
section
variable {ρ:NE} {G:Gh} {nm:Nat} {B:Bk} {os:List aj}
def jA.up{A:Gh}(h:jA ρ A nm B os)(k:bz A G):jA ρ G nm B os:=by
 cases B with
 |o ty cs lo=>obtain⟨b,m,h1,h2,h3⟩:=h;exact⟨b,m,h1,h2,h3.up k⟩
 |b ty s ds lo=>obtain⟨vs,h1,h2,h3,h4⟩:=h;exact⟨vs,h1,h2.up k,h3,h4⟩
 |c ty s ds cap=>obtain⟨vs,h1,h2,h3,h4⟩:=h;exact⟨vs,h1,h2.up k,h3,h4⟩
def jA.ren{ρ':NE}(h:jA ρ G nm B os)(h0:ρ' nm=ρ nm)(k: ∀n,B.men n->ρ' n=ρ n):jA ρ' G nm B os:=by
 cases B with
 |o ty cs lo=>obtain⟨b,m,h1,h2,h3⟩:=h;exact⟨b,m,by rw[h0];exact h1,h2,h3.ren fun f hf n hn=>k n ⟨f,hf,hn⟩⟩
 |b ty s ds lo=>obtain⟨vs,h1,h2,h3,h4⟩:=h;exact⟨vs,by rw[h0];exact h1,h2,h3,h4⟩
 |c ty s ds cap=>obtain⟨vs,h1,h2,h3,h4,h5⟩:=h;exact⟨vs,by rw[h0];exact h1,h2,h3,h4,by rw[h0];exact h5⟩
def jA.blk(h:jA ρ G nm B os){o:aj}(ho:o∈os):(ρ nm).a=some ⟨o.b,0,none⟩:=by
 cases B with
 |o ty cs lo=>obtain⟨b,m,h1,rfl,h3⟩:=h;rw[aU.1 ho];exact h1
 |b ty s ds lo=>
  obtain⟨vs,h1,_⟩:=h;rcases h1 with⟨_,_,rfl⟩|⟨b,rest,lo',e,rfl,_⟩
  ·cases ho
  ·rw[aU.1 ho,e]
 |c ty s ds cap=>
  obtain⟨vs,h1,_⟩:=h;rcases h1 with⟨_,_,rfl⟩|⟨b,rest,lo',e,rfl,_⟩
  ·cases ho
  ·rw[aU.1 ho,e]
def jA.mem_of(h:jA ρ G nm B os){b:Nat}(hb:(ρ nm).a=some ⟨b,0,none⟩): ∃o∈os,o.b=b:=by
 cases B with
 |o ty cs lo=>obtain⟨b',m,h1,rfl,h3⟩:=h;rw[h1] at hb;cases hb;exact⟨_,aQ,rfl⟩
 |b ty s ds lo=>
  obtain⟨vs,h1,_⟩:=h;rcases h1 with⟨_,e,rfl⟩|⟨b',rest,lo',e,rfl,_⟩
  ·rw[e] at hb;cases hb
  ·rw[e] at hb;cases hb;exact⟨_,aQ,J⟩
 |c ty s ds cap=>
  obtain⟨vs,h1,_⟩:=h;rcases h1 with⟨_,e,rfl⟩|⟨b',rest,lo',e,rfl,_⟩
  ·rw[e] at hb;cases hb
  ·rw[e] at hb;cases hb;exact⟨_,aQ,J⟩
end
abbrev LK:=Nat->Option FX
abbrev BM:=Nat->Option Bk
structure bE (GB:Gh) (C:aD) (n:Nat) (lk:LK) (bk:BM) (ρ:NE) (G:Gh) (ov:List aj) (a:Act) (w:World):Prop where
 gb:bz GB G
 h:bm C ov G w
 sz:a.tmps.size=n
 df:a.defers=C.mks
 fx: ∀k f,lk k=some f-> ∃y,a.tmps[k]? =some y/\bP ρ G f y
 bx: ∀nm B,bk nm=some B-> ∃os,jA ρ G nm B os/\ ∀o∈os,o∈ov
 dj: ∀nm nm' B B',bk nm=some B->bk nm'=some B'->nm≠nm'-> ∀b,(ρ nm).a=some ⟨b,0,none⟩->(ρ nm').a≠some ⟨b,0,none⟩
 fxd: ∀nm p,n<=nm->2000000<=nm->C.fx nm=some p->(ρ nm).a=some p
structure SX (GB:Gh) (C:aD) (n:Nat) (lk:LK) (bk:BM) (Φ:Act->World->Prop):Prop where
 run: ∀ρ G ov a w,bE GB C n lk bk ρ G ov a w->Φ a w
def i0{α:Type}(f g:Nat->Option α):Prop:= ∀k x,f k=some x->g k=some x
def i0.refl{α:Type}(f:Nat->Option α):i0 f f:=fun _ _ h=>h
def dP(lk:LK)(d:Option Nat)(f:FX):LK:=match d with
 |some d=>fun k=>if k=d then some f else lk k
 |none=>lk
def upB:BM->List (Nat×Option Bk)->BM
 |tb,[]=>tb
 |tb,(nm,B)::t=>upB (fun k=>if k=nm then B else tb k) t
def kc(nw:List Nat)(dst:Option Nat)(tl:LK)(tb:BM):Prop:=
 ∀nm∈nw,(∀k f,some k≠dst->tl k=some f->f.nm≠some nm)/\ ∀k B,k≠nm->tb k=some B-> ¬B.men nm
section
variable {GB:Gh} {C:aD} {n:Nat} {lk tl:LK} {bk tb:BM} {ρ:NE} {G:Gh} {ov:List aj} {a:Act} {w:World} {Φ Ψ:Act->World->Prop}
def bE.mono(h:bE GB C n tl tb ρ G ov a w)(h1:i0 lk tl)(h2:i0 bk tb):bE GB C n lk bk ρ G ov a w:=
 ⟨h.gb,h.h,h.sz,h.df,fun k f e=>h.fx k f (h1 _ _ e),fun k B e=>h.bx k B (h2 _ _ e),fun k k' B B' e e'=>h.dj k k' B B' (h2 _ _ e) (h2 _ _ e'),h.fxd⟩
def SX.imp(h:SX GB C n lk bk Φ)(k: ∀a w,Φ a w->Ψ a w):SX GB C n lk bk Ψ:=⟨fun ρ G ov a w r=>k _ _ (h.run ρ G ov a w r)⟩
structure tH (C:aD) (n:Nat) (a:Act) (dst:Option Nat) (y:Value) (a':Act):Prop where
 sz:a'.tmps.size=n
 df:a'.defers=C.mks
 old: ∀k v,a.tmps[k]? =some v->dst≠some k->a'.tmps[k]? =some v
 new: ∀d,dst=some d->a'.tmps[d]? =some y
def tH.fx{a a':Act}{dst:Option Nat}{y:Value}{ρ':NE}{G':Gh}{f:FX}(p:tH C n a dst y a')(h: ∀k g,some k≠dst->lk k=some g-> ∃u,a.tmps[k]? =some u/\bP ρ' G' g u)(hy:bP ρ' G' f y)(k:Nat)(g:FX)(e:dP lk dst f k=some g):
  ∃u,a'.tmps[k]? =some u/\bP ρ' G' g u:=by
 by_cases hk:some k=dst
 ·subst hk
  simp only[dP,if_true] at e;cases e;exact⟨y,p.new _ J,hy⟩
 ·have e':lk k=some g:=by
   cases dst with
   |none=>exact e
   |some d=>simpa[dP,show k≠d from fun c=>hk (c▸rfl)] using e
  obtain⟨u,h1,h2⟩:=h k g hk e';exact⟨u,p.old _ _ h1 (Ne.symm hk),h2⟩
def bE.putA(r:bE GB C n lk bk ρ G ov a w){dst:Option Nat}(y:Value)(hd:b7 n dst=true):tH C n a dst y (a.put dst y):=by
 refine⟨by rw[LL];exact r.sz,by rw[JU];exact r.df,fun k v h hk=>?_,fun d hk=>?_⟩
 ·cases dst with
  |none=>exact h
  |some d=>simp only[Act.put,dV];rw[if_neg (fun e=>hk (by rw[e]))];exact h
 ·subst hk
  have hdn:d<a.tmps.size:=by rw[r.sz];simpa[b7,mJ] using hd
  simp[Act.put,dV,hdn]
def bE.put(r:bE GB C n lk bk ρ G ov a w){dst:Option Nat}{f:FX}{y:Value}{a':Act}(hy:bP ρ G f y)(hp:tH C n a dst y a'):bE GB C n (dP lk dst f) bk ρ G ov a' w:=
 ⟨r.gb,r.h,hp.sz,hp.df,hp.fx (fun k g _ e=>r.fx k g e) hy,r.bx,r.dj,r.fxd⟩
def cF(a:Act):Fr:=l8 0 a.tmps.toList
def cP(a:Act):jD (cF a) a:=fun k v h=>by
 obtain⟨j,e,h2⟩:=rO _ _ _ _ h;rw[dK] at e;subst e;simpa using h2
def uZ: ∀(vs:List Value) (i j:Nat) (v:Value),vs[j]? =some v->gj (l8 i vs) (i+j)=some v
 |[],i,j,v,h=>by simp at h
 |x::t,i,0,v,h=>by simp at h;subst h;simp[l8,gj]
 |x::t,i,j+1,v,h=>by
  simp at h;have:=uZ t (i+1) j v h;rw[show i+(j+1)=i+1+j by omega];simp only[l8,rC];rw[if_neg (by omega)];exact this
def jO{dst:Option Nat}{y:Value}{ov':List aj}{G':Gh}{a':Act}{w':World}(h:gh C n (Sx.put (cF a) dst y) ov' G' a' w'):tH C n a dst y a':=by
 refine⟨h.sz,h.df,fun k v hk hd=>?_,fun d hd=>?_⟩
 ·have:=uZ a.tmps.toList 0 k v (by simpa using hk)
  rw[dK] at this
  cases dst with
  |none=>exact h.fr k v this
  |some d=>exact h.fr k v (by simp only[Sx.put,rC];rw[if_neg (fun e=>hd (by rw[e]))];exact this)
 ·subst hd;exact h.fr d y (by simp[Sx.put,rC])
def vT{k:Nat}{v:Value}(h:a.tmps[k]? =some v):gj (cF a) k=some v:=by
 have:=uZ a.tmps.toList 0 k v (by simpa using h);simpa[cF] using this
def aI(lk:LK):Operand->Option FX
 | .tmp k=>lk k
 | .const (.bool true)=>some .tt
 | .const (.bool false)=>some .ff
 | .const (.slice none 0 0)=>some .nl
 | .const v=>some (.d (.v v))
 | .global g=>some (.d (.v (.pointer (some ⟨g,0,none⟩))))
 | .func f=>some (.d (.v (.func (.func f) #[] #[])))
def bE.ev(r:bE GB C n lk bk ρ G ov a w){x:Operand}{f:FX}(e:aI lk x=some f): ∃y,av (cF a) x=some y/\bP ρ G f y:=by
 cases x with
 |tmp k=>obtain⟨y,h1,h2⟩:=r.fx k f e;exact⟨y,vT h1,h2⟩
 |const v=>
  refine⟨v,J,?_⟩;unfold aI at e;split at e
  all_goals simp only[Operand.const.injEq,reduceCtorEq] at*
  all_goals (cases e;subst_vars;first|exact J|exact(aG (G:=G)).2 J)
 |global g=>cases e;exact⟨_,J,(aG (G:=G)).2 J⟩
 |func g=>cases e;exact⟨_,J,(aG (G:=G)).2 J⟩
def evD(lk:LK)(x:Operand):Option DV:=match aI lk x with
 |some f=>lB f
 |none=>none
def bE.evD(r:bE GB C n lk bk ρ G ov a w){x:Operand}{d:DV}(e:Sx.evD lk x=some d): ∃y,av (cF a) x=some y/\Is G d y:=by
 unfold Sx.evD at e;split at e
 ·rename_i f hf
  obtain⟨y,h1,h2⟩:=r.ev hf;exact⟨y,h1,oP h2 e⟩
 ·cases e
def evDs(lk:LK):List Operand->Option (List DV)
 |[]=>some []
 |x::t=>match evD lk x,evDs lk t with
  |some d,some l=>some (d::l)
  |_,_=>none
def bE.evDs(r:bE GB C n lk bk ρ G ov a w): ∀{x:List Operand} {l:List DV},Sx.evDs lk x=some l-> ∃y,fy (cF a) x=some y/\IsLs G l y
 |[],l,e=>by cases e;exact⟨[],J, .nil⟩
 |x::t,l,e=>by
  simp only[Sx.evDs] at e;split at e
  ·rename_i d l' hd hl'
   cases e
   obtain⟨y,h1,h2⟩:=r.evD hd;obtain⟨ys,h3,h4⟩:=r.evDs hl';exact⟨y::ys,by simp only[fy,h1,h3], .cons h2 h4⟩
  ·cases e
def bE.upB(r:bE GB C n lk bk ρ G ov a w){nm:Nat}{B':Bk}{os:List aj}{ov':List aj}{G':Gh}{w':World}(hg:bz G G')(hh:bm C ov' G' w')(hB:jA ρ G' nm B' os)(hos: ∀o∈os,o∈ov')
  (hk: ∀o∈ov,(ρ nm).a≠some ⟨o.b,0,none⟩->o∈ov')(hn: ∃B,bk nm=some B):bE GB C n lk (upB bk [(nm,some B')]) ρ G' ov' a w':=by
 obtain⟨B0,hB0⟩:=hn;refine⟨r.gb.trans hg,hh,r.sz,r.df,fun k f e=>?_,fun m B e=>?_,fun m m' B B2 e e' hne=>?_,r.fxd⟩
 ·obtain⟨y,h1,h2⟩:=r.fx k f e;exact⟨y,h1,h2.up hg⟩
 ·simp only[Sx.upB] at e
  by_cases hm:m=nm
  ·subst hm;simp only[if_true] at e;cases e;exact⟨os,hB,hos⟩
  ·simp only[hm,if_false] at e
   obtain⟨os',h1,h2⟩:=r.bx m B e;refine⟨os',h1.up hg,fun o ho=>hk o (h2 o ho) fun hc=>?_⟩;exact r.dj m nm B B0 e hB0 hm _ (h1.blk ho) hc
 ·simp only[Sx.upB] at e e'
  by_cases hm:m=nm<;>by_cases hm':m'=nm
  ·exact absurd (hm.trans hm'.symm) hne
  ·subst hm;simp only[hm',if_false] at e';exact r.dj m m' B0 B2 hB0 e' hne
  ·subst hm';simp only[hm,if_false] at e;exact r.dj m m' B B0 e hB0 hne
  ·simp only[hm,hm',if_false] at e e';exact r.dj m m' B B2 e e' hne
def bE.dropB(r:bE GB C n lk bk ρ G ov a w)(nm:Nat):bE GB C n lk (Sx.upB bk [(nm,none)]) ρ G ov a w:=
 r.mono (i0.refl _) fun k B e=>by
  simp only[Sx.upB] at e;split at e
  ·cases e
  ·exact e
def sr{m nm:Nat}(x:SV)(h:m≠nm):(fun k=>if k=nm then x else ρ k) m=ρ m:=if_neg h
def bE.new'(r:bE GB C n tl tb ρ G ov a w){nm:Nat}{dst:Option Nat}{x:SV}{B':Bk}{os:List aj}{ov':List aj}{G':Gh}{w':World}{f:FX}{y:Value}(hf:kc [nm] dst tl tb)(hg:bz G G')(hh:bm C ov' G' w')
  (hB:jA (fun k=>if k=nm then x else ρ k) G' nm B' os)(hos: ∀o∈os,o∈ov')(hov: ∀m B,m≠nm->tb m=some B-> ∀o∈ov,(ρ m).a=some ⟨o.b,0,none⟩->o∈ov'/\x.a≠some ⟨o.b,0,none⟩)
  (hy:bP (fun k=>if k=nm then x else ρ k) G' f y){a':Act}(hp:tH C n a dst y a')(hdn:dst=some nm:=by rfl):bE GB C n (dP tl dst f) (Sx.upB tb [(nm,some B')]) (fun k=>if k=nm then x else ρ k) G' ov' a' w':=by
 obtain⟨f1,f2⟩:=hf nm aQ;refine⟨r.gb.trans hg,hh,hp.sz,hp.df,hp.fx (fun k g hk e=>?_) hy,fun m B e=>?_,fun m m' B B2 e e' hne=>?_,fun m p hm hm2 e=>?_⟩
 ·obtain⟨u,h1,h2⟩:=r.fx k g e
  exact⟨u,h1,(h2.up hg).ren fun m hm=>sr x fun hc=>f1 k g hk e (by rw[hm,hc])⟩
 ·simp only[Sx.upB] at e
  by_cases hm:m=nm
  ·subst hm;simp only[if_true] at e;cases e;exact⟨os,hB,hos⟩
  ·simp only[hm,if_false] at e
   obtain⟨os',h1,h2⟩:=r.bx m B e;exact⟨os',(h1.up hg).ren (if_neg hm) fun q hq=>sr x fun hc=>f2 m B hm e (by rw[<-hc];exact hq),fun o ho=>(hov m B hm e o (h2 o ho) (h1.blk ho)).1⟩
 ·simp only[Sx.upB] at e e'
  by_cases hm:m=nm<;>by_cases hm':m'=nm
  ·exact absurd (hm.trans hm'.symm) hne
  ·subst hm;simp only[hm',if_false] at e'
   intro b hb hb';simp only[if_true] at hb;rw[if_neg hm'] at hb';obtain⟨os',h1,h2⟩:=r.bx m' B2 e';obtain⟨o,ho,rfl⟩:=h1.mem_of hb';exact(hov m' B2 hm' e' o (h2 o ho) hb').2 hb
  ·subst hm';simp only[hm,if_false] at e
   intro b hb hb';simp only[if_true] at hb';rw[if_neg hm] at hb;obtain⟨os',h1,h2⟩:=r.bx m B e;obtain⟨o,ho,rfl⟩:=h1.mem_of hb;exact(hov m B hm e o (h2 o ho) hb).2 hb'
  ·simp only[hm,hm',if_false] at e e'
   intro b hb hb';rw[if_neg hm] at hb;rw[if_neg hm'] at hb';exact r.dj m m' B B2 e e' hne b hb hb'
 ·have hlt:nm<n:=by
   obtain⟨h,_⟩:=fK.1 (hp.new nm hdn);rw[hp.sz] at h;exact h
  rw[if_neg (by omega)];exact r.fxd m p hm hm2 e
def bE.new(r:bE GB C n tl tb ρ G ov a w){nm:Nat}{dst:Option Nat}{x:SV}{B':Bk}{os:List aj}{ov':List aj}{G':Gh}{w':World}{f:FX}{y:Value}(hf:kc [nm] dst tl tb)(hg:bz G G')(hh:bm C ov' G' w')
  (hB:jA (fun k=>if k=nm then x else ρ k) G' nm B' os)(hos: ∀o∈os,o∈ov')(hov: ∀o∈ov,o∈ov')(hnew: ∀o∈ov,x.a≠some ⟨o.b,0,none⟩)
  (hy:bP (fun k=>if k=nm then x else ρ k) G' f y){a':Act}(hp:tH C n a dst y a')(hdn:dst=some nm:=by rfl):bE GB C n (dP tl dst f) (Sx.upB tb [(nm,some B')]) (fun k=>if k=nm then x else ρ k) G' ov' a' w':=
 r.new' hf hg hh hB hos (fun _ _ _ _ o ho _=>⟨hov o ho,hnew o ho⟩) hy hp hdn
end
def bH(P:Program)(GB:Gh)(C:aD)(n:Nat)(lk:LK)(bk:BM)(o:Oper)(f:FX)(bl:List (Nat×Option Bk))(nw:List Nat):Prop:=
 b7 n o.dst=true-> ∀(tl:LK) (tb:BM) (K:Act->World->Prop),i0 lk tl->i0 bk tb->kc nw o.dst tl tb->SX GB C n (dP tl o.dst f) (upB tb bl) K->SX GB C n tl tb (fun a w=> ∀Q,o.wp P a w K Q)
section
variable {P:Program} {GB:Gh} {C:aD} {n:Nat} {lk:LK} {bk:BM} {f:FX}
def bH.yd{o:Oper}(h: ∀ρ G ov a w,bE GB C n lk bk ρ G ov a w-> ∃y,bP ρ G f y/\Yd P C (cF a) ov G o y):bH P GB C n lk bk o f [] []:=by
 intro hd tl tb K h1 h2 _ hk;refine⟨fun ρ G ov a w r Q=>?_⟩;obtain⟨y,hy,hY⟩:=h ρ G ov a w (r.mono h1 h2);exact jh (hY a w (cP a) r.h) (hk.run ρ G ov _ w (r.put hy (r.putA y hd)))
end
inductive TK where
 |st (fo:List (Nat×Nat×Nat))
 |sl (e s b:Nat)
 |int (k:IntKind)
 |bl
 |pt
 |fc
 |sc
 |o
structure TI where
 k:TK
 sz:Nat
 z:Option (List FX)
 za:Bool
def H6:Option Value->Bool
 |some (.agg _)=>true
 |_=>false
def tO:Value->FX
 | .slice none 0 0=> .nl
 | .bool true=> .tt
 | .bool false=> .ff
 |v=> .d (.v v)
def ue(P:Program):List Field->Option (List (Nat×Nat×Nat))
 |[]=>some []
 |f::t=>match P.info? f.type,ue P t with
  |some i,some l=>some ((f.offset,f.type,i.size)::l)
  |_,_=>none
def ju(P:Program)(t:TypeId):TK:=match P.underlying t with
 |some (.struct fs)=>match ue P fs.toList with
  |some l=> .st l
  |none=> .o
 |some (.slice e)=>match P.info? e with
  |some i=> .sl e i.size i.bytes
  |none=> .o
 |some (.int k)=> .int k
 |some .bool=> .bl
 |some (.pointer _)=> .pt
 |some (.interface _)=> .fc
 |some (.array ..)=> .o
 |some .string=> .sc
 |_=> .o
def er(P:Program)(t:TypeId):Option TI:=match P.info? t with
 |some i=>some ⟨ju P t,i.size,i.zero.map fun v=>(aE v).map tO,H6 i.zero⟩
 |none=>none
abbrev TT:=List (Nat×TI)
def cO:TT->Nat->Option TI
 |[],_=>none
 |(k,v)::t,j=>bif Nat.beq k j then some v else cO t j
def lc(P:Program)(T:TT):Prop:= ∀t i,cO T t=some i->er P t=some i
def lc.of{P:Program}: ∀{T:TT},T.map (fun e=>some e.2)=T.map (fun e=>er P e.1)->lc P T
 |[],_,t,i,h=>by cases h
 |(k,v)::T,e,t,i,h=>by
  simp only[bW,List.cons.injEq] at e;simp only[cO] at h
  cases hb:Nat.beq k t with
  |true=>rw[hb] at h;cases h;rw[<-aY hb];exact e.1.symm
  |false=>rw[hb] at h;exact lc.of e.2 t i h
def Yj(ρ:NE)(G:Gh)(v:Value):bP ρ G (tO v) v:=by
 unfold tO;split
 ·exact J
 ·exact J
 ·exact J
 ·exact(aG (G:=G)).2 J
def Po(ρ:NE)(G:Gh): ∀m:List Value,dl ρ G (m.map tO) m
 |[]=>rfl
 |v::m=>⟨v,m,J,Yj ρ G v,Po ρ G m⟩
section
variable {P:Program} {t:TypeId} {i:TI}
def om(h:er P t=some i): ∃j,P.info? t=some j/\i=⟨ju P t,j.size,j.zero.map fun v=>(aE v).map tO,H6 j.zero⟩:=by
 unfold er at h;split at h
 ·rename_i j hj;cases h;exact⟨j,hj,rfl⟩
 ·cases h
def ph{d:TypeDesc}(h:P.underlying t=some d)(w:World):(underlying t).run P w= .ok d w:=by
 show(program>>=_).run P w=_;rw[aP (w':=w) (a:=P) J,h];rfl
def Y9{j:TypeInfo}(h:P.info? t=some j)(w:World):(typeInfo t).run P w= .ok j w:=by
 show(program>>=_).run P w=_;rw[aP (w':=w) (a:=P) J,h];rfl
def sA{j:TypeInfo}(h:P.info? t=some j)(w:World):(sizeOf t).run P w= .ok j.size w:=by
 show(typeInfo t>>=_).run P w=_;rw[aP (Y9 h w)];rfl
def xf{d:TypeDesc}(h:P.underlying t=some d)(w:World):(isAgg t).run P w= .ok (match d with| .struct _| .array _ _=>true|_=>false) w:=by
 show(underlying t>>=_).run P w=_;rw[aP (ph h w)]
 cases d<;>rfl
def TI.ag(i:TI):Option (Option Nat):=match i.k with
 | .st _=>some (some i.sz)
 | .o=>none
 |_=>bif Nat.beq i.sz 1 then some none else none
theorem vG{k:Nat}(h:er P t=some i)(hk:i.ag=some (some k)):jI P t k:=by
 obtain⟨j,h1,rfl⟩:=om h;unfold TI.ag at hk
 cases e:ju P t with
 |st fo=>
  simp only[e] at hk;cases hk;unfold ju at e;split at e<;>first|(cases e;done)|skip
  ·rename_i fs hu;exact⟨fun w=>xf hu w,fun w=>sA h1 w⟩
  ·split at e<;>cases e
 |o=>simp only[e] at hk;cases hk
 |_=>simp only[e,cond_eq_ite] at hk;split at hk<;>cases hk
theorem ur(h:er P t=some i)(hk:i.ag=some none):gk P t:=by
 obtain⟨j,h1,rfl⟩:=om h;unfold TI.ag at hk;have key:j.size=1->(∀w,(isAgg t).run P w= .ok false w)->gk P t:=fun e1 e2=>⟨e2,fun w=>by rw[sA h1 w,e1]⟩
 cases e:ju P t with
 |st fo=>simp only[e] at hk;cases hk
 |o=>simp only[e] at hk;cases hk
 |_=>
  simp only[e,cond_eq_ite] at hk;split at hk
  ·rename_i hb
   refine key (aY hb) fun w=>?_;unfold ju at e;split at e<;>first|(cases e;done)|skip
   all_goals first
    |(rename_i hu;rw[xf hu w];done)
    |(split at e<;>first|(cases e;done)|(rename_i hu _ _ _;rw[xf hu w];done))
  ·cases hk
def Dc{z:List FX}(h:er P t=some i)(hz:i.z=some z): ∃v,fk P t v/\ ∀ρ G,dl ρ G z (aE v):=by
 obtain⟨j,h1,rfl⟩:=om h
 cases hv:j.zero with
 |none=>simp only[hv] at hz;cases hz
 |some v=>
  simp only[hv] at hz;cases hz;exact⟨v,⟨by rw[h1];simp[hv]⟩,fun ρ G=>Po ρ G _⟩
def Fd: ∀{fs:List Field} {l:List (Nat×Nat×Nat)} {k off ft s:Nat},ue P fs=some l->l[k]? =some (off,ft,s)-> ∃f,fs[k]? =some f/\f.offset=off/\f.type=ft/\ ∃j,P.info? ft=some j/\j.size=s
 |[],l,k,off,ft,s,h,e=>by cases h;simp at e
 |f::fs,l,k,off,ft,s,h,e=>by
  simp only[ue] at h;split at h
  ·rename_i j l' hj hl
   cases h
   cases k with
   |zero=>simp at e;obtain⟨rfl,rfl,rfl⟩:=e;exact⟨f,rfl,rfl,rfl,j,hj,rfl⟩
   |succ k=>simp at e;obtain⟨g,h1,h2⟩:=Fd hl e;exact⟨g,by simpa using h1,h2⟩
  ·cases h
def JX: ∀{fs:List Field} {l:List (Nat×Nat×Nat)},ue P fs=some l-> ∀w,(fs.mapM (m:=Sem) fun f=>do pure (f.offset,<-sizeOf f.type)).run P w= .ok (l.map fun x=>(x.1,x.2.2)) w
 |[],l,h,w=>by cases h;rfl
 |f::fs,l,h,w=>by
  simp only[ue] at h;split at h
  ·rename_i j l' hj hl
   cases h
   rw[nR];have h1:(do pure (f.offset,<-sizeOf f.type):Sem (Nat×Nat)).run P w= .ok (f.offset,j.size) w:=by
    rw[aP (sA hj w)];rfl
   rw[aP h1,aP (JX hl w)];rfl
  ·cases h
def FN{fo:List (Nat×Nat×Nat)}(h:er P t=some i)(hk:i.k= .st fo): ∃fs,P.underlying t=some (.struct fs)/\ue P fs.toList=some fo:=by
 obtain⟨j,h1,rfl⟩:=om h;have e:ju P t= .st fo:=hk;unfold ju at e;split at e<;>first|(cases e;done)|skip
 ·rename_i fs hu
  split at e
  ·rename_i l hl;cases e;exact⟨fs,hu,hl⟩
  ·cases e
 ·split at e<;>cases e
theorem TB{fo:List (Nat×Nat×Nat)}{f off ft s:Nat}(h:er P t=some i)(hk:i.k= .st fo)(hf:fo[f]? =some (off,ft,s)):Ev P t f off ft:=by
 obtain⟨fs,hu,hl⟩:=FN h hk;obtain⟨g,h1,h2,h3,_⟩:=Fd hl hf;exact⟨fs,g,fun w=>ph hu w,by simpa using h1,h2,h3⟩
theorem SY{fo:List (Nat×Nat×Nat)}{f off ft s:Nat}(h:er P t=some i)(hk:i.k= .st fo)(hf:fo[f]? =some (off,ft,s+1)):jF P t f off:=by
 obtain⟨fs,hu,hl⟩:=FN h hk;obtain⟨g,h2,h3,h4,j,h5,h6⟩:=Fd hl hf;refine⟨fun b o w=>?_⟩;unfold Instr.fieldAt;rw[aP (ph hu w)];have h2':fs[f]? =some g:=by simpa using h2
 simp only[h2'];have:(fieldPlace ⟨b,o,none⟩ g).run P w= .ok (Addr.add ⟨b,o,none⟩ off) w:=by
  unfold fieldPlace;rw[h4,aP (sA h5 w),h6,h3];rfl
 show(fieldPlace ⟨b,o,none⟩ g>>=_).run P w=_;rw[aP this];rfl
theorem U0{fo:List (Nat×Nat×Nat)}(h:er P t=some i)(hk:i.k= .st fo):CG P t (fo.map fun x=>(x.1,x.2.2)):=by
 obtain⟨fs,hu,hl⟩:=FN h hk;refine⟨fs,fun w=>ph hu w,fun w=>?_⟩;rw[Array.mapM_eq_mapM_toList,map_eq_pure_bind,aP (JX hl w)];rfl
theorem i5{e s b:Nat}(h:er P t=some i)(hk:i.k= .sl e s b):cd P t e s b:=by
 obtain⟨j,h1,rfl⟩:=om h;have e':ju P t= .sl e s b:=hk;unfold ju at e';split at e'<;>first|(cases e';done)|skip
 ·split at e'<;>cases e'
 ·rename_i el hu
  split at e'
  ·rename_i q hq;cases e';exact⟨hu,by rw[hq];rfl⟩
  ·cases e'
theorem vX{k:IntKind}(h:er P t=some i)(hk:i.k= .int k):kI P t k:=by
 obtain⟨j,h1,rfl⟩:=om h;have e:ju P t= .int k:=hk;unfold ju at e;split at e<;>first|(cases e;done)|(split at e<;>cases e;done)|skip
 rename_i k' hu;cases e;exact⟨fun w=>ph hu w⟩
theorem TV(h:er P t=some i)(hk:i.k= .bl):HI P t:=by
 obtain⟨j,h1,rfl⟩:=om h;have e:ju P t= .bl:=hk;unfold ju at e;split at e<;>first|(cases e;done)|(split at e<;>cases e;done)|skip
 rename_i hu;exact⟨fun w=>ph hu w⟩
theorem JF(h:er P t=some i)(hk:i.k= .pt):E4 P t:=by
 obtain⟨j,h1,rfl⟩:=om h;have e:ju P t= .pt:=hk;unfold ju at e;split at e<;>first|(cases e;done)|(split at e<;>cases e;done)|skip
 rename_i el hu;exact⟨el,fun w=>ph hu w⟩
theorem TA(h:er P t=some i)(hk:i.k= .fc):HB P t:=by
 obtain⟨j,h1,rfl⟩:=om h;have e:ju P t= .fc:=hk;unfold ju at e;split at e<;>first|(cases e;done)|(split at e<;>cases e;done)|skip
 rename_i el hu;exact⟨el,fun w=>ph hu w⟩
end
end Go.Sx
end
