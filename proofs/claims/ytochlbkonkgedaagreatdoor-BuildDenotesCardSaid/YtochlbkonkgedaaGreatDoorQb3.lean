import Derived.Test.YtochlbkonkgedaaGreatDoorQb2
import Derived.Laws.Externs
import Derived.Lib.Overlaps
set_option linter.all false
set_option maxRecDepth 100000
section
namespace Go.Sx
open Go
section
variable {P:Program} {C:aD} {n:Nat} {fr:Fr} {own own' own1:List ak} {G:Gh} {Φ:Act->World->Prop}
variable {dst:Option Nat} {t t' ty':TypeId} {pos:String} {af:Array Edge} {gd:Option (Nat×Bool)} {x y:Operand} {e s by_:Nat}
def CZ{v:Value}{b off k:Nat}{cs cs':List Value}{ty:TypeId}{lo:Bool}(hx:aw fr x=some (.pointer (some ⟨b,off,none⟩)))(hy:aw fr y=some v)[hs:lA P t k][ho:im own b cs ty lo]
  (hc:cE cs off (aF v)=cs')(hu:fG own b cs ty lo cs' own')(hk:(aF v).length=k)(hl:off+k<=cs.length)(hf:(aF v).all flat=true)(hd:cd n dst=true)(h:St C n (put fr dst undef) own' G Φ):
  Ch P C n fr own G ⟨dst, .store t x y,ty',pos,af,gd⟩ Φ:=Fi hx hy (hc▸hu) hk hl hf hd h
def uw{v:Value}{b off:Nat}{cs cs':List Value}{ty:TypeId}{lo:Bool}(hx:aw fr x=some (.pointer (some ⟨b,off,none⟩)))(hy:aw fr y=some v)[hs:gG P t][ho:im own b cs ty lo]
  (hc:cs.set off v=cs')(hu:fG own b cs ty lo cs' own')(hl:off<cs.length)(hf:flat v=true)(hd:cd n dst=true)(h:St C n (put fr dst undef) own' G Φ):
  Ch P C n fr own G ⟨dst, .store t x y,ty',pos,af,gd⟩ Φ:=tM hx hy (hc▸hu) hl hf hd h
def Wb[hT:cv P t e s by_]{ad:Option Addr}{len cap:Nat}(hx:aw fr x=some (.slice ad len cap)):
  Yd P C fr own G ⟨dst, .call ⟨.builtin .cap, #[x], #[t]⟩,ty',pos,af,gd⟩ (.int .i64 cap):=by
 intro a w hf hh;simp only[execOp,resolve,gL,bL,fK,bm hf hx];have h1:(Builtin.cap_ #[t] ty' #[.slice ad len cap]).run P w= .ok (.int .i64 cap) w:=by
  simp only[Builtin.cap_];show(underlying t>>=_).run P w=_;rw[bc (hT.u w)];rfl
 exact c6 h1
def axg{w:World}[hT:cv P t e s by_]{b off l c l2 c2 m:Nat}{ad2:Option Addr}{cs ys:List Value}{ty:TypeId}(hm:Nat.min l2 l=m)
  (hb:w.heap[b]? =some (.cells ⟨cs⟩ ty (0,0)))(hsy:(Builtin.firstCells s m (.slice ad2 l2 c2)).run P w= .ok ⟨ys⟩ w)(hf: ∀v∈ys,flat v=true)(hl:off+ys.length<=cs.length):
  (Builtin.copy_ #[t,t'] ty' #[.slice (some ⟨b,off,none⟩) l c, .slice ad2 l2 c2]).run P w=
   .ok (.int .i64 m) (gk w b (.cells ⟨cE cs off ys⟩ ty (0,0))):=by
 obtain⟨i,hi,his,hib⟩:=hT.info;subst his;have hst:=As (P:=P) ys w off 0 cs hf hb (by omega);rw[fJ] at hst;subst hm;simp[Builtin.copy_,run_underlying hT.un,sizeOf,typeInfo,hi,Builtin.lenOf,hsy,hst];rfl
def OX[hT:cv P t e s by_]{b off l c l2 c2 m:Nat}{ad2:Option Addr}{cs ys:List Value}{ty:TypeId}{lo:Bool}(hx:aw fr x=some (.slice (some ⟨b,off,none⟩) l c))(hy:aw fr y=some (.slice ad2 l2 c2))
  (hm:Nat.min l2 l=m)(hsy:mO P C own G s m (.slice ad2 l2 c2) ys)(hf: ∀v∈ys,flat v=true)(hl:off+ys.length<=cs.length)(hu:fG own b cs ty lo (cE cs off ys) own')(hd:cd n dst=true)
  (h:St C n (put fr dst (.int .i64 m)) own' G Φ):Ch P C n fr own G ⟨dst, .call ⟨.builtin .copy, #[x,y], #[t,t']⟩,ty',pos,af,gd⟩ Φ:=by
 intro a w Q rl;have hb:=(rl.h.hown _ (hu.spec rl.h.nd).1).1;refine ke (v:= .int .i64 m) (w':=gk w b (.cells ⟨cE cs off ys⟩ ty (0,0))) ?_ (h _ _ ((rl.heap (rl.h.store hu)).put _ hd));simp only[execOp,resolve,gL,bL,fK,bm rl.fr hx,bm rl.fr hy];exact c6 (axg hm hb (hsy w rl.h) hf hl)
def Nm[hT:cv P t e s by_][hN:kj P t']{b len cap m cap2:Nat}{ad2:Option Addr}{cs ys:List Value}{lo:Bool}
  (hx:aw fr x=some (.slice (some ⟨b,0,none⟩) len cap))(hy:aw fr y=some (.slice ad2 m cap2))(hu:fG own b cs e lo (cE cs (len*s) ys) own')(hcs:cs.length=cap*s)
  (hsy:mO P C own G s m (.slice ad2 m cap2) ys)(hys:ys.length=m*s)(hf: ∀v∈ys,flat v=true)(hneed:len+m<=cap)(hd:cd n dst=true)
  (h:St C n (put fr dst (.slice (some ⟨b,0,none⟩) (len+m) cap)) own' G Φ):
  Ch P C n fr own G ⟨dst, .call ⟨.builtin .append, #[x,y], #[t,t']⟩,ty',pos,af,gd⟩ Φ:=by
 intro a w Q rl;have hb:=(rl.h.hown _ (hu.spec rl.h.nd).1).1;refine ke (v:= .slice (some ⟨b,0,none⟩) (len+m) cap) (w':=gk w b (.cells ⟨cE cs (len*s) ys⟩ e (0,0))) ?_ (h _ _ ((rl.heap (rl.h.store hu)).put _ hd));simp only[execOp,resolve,gL,bL,fK,bm rl.fr hx,bm rl.fr hy];exact c6 (JZ hb hcs (hsy w rl.h) hys hf hneed)
def T4[hT:cv P t e s by_][hN:kj P t']{z:Value}[hz:gh P e z]{b len cap m cap2:Nat}{ad2:Option Addr}{xs ys rest:List Value}{lo:Bool}
  (hx:aw fr x=some (.slice (some ⟨b,0,none⟩) len cap))(hy:aw fr y=some (.slice ad2 m cap2))(hr:jy own ⟨b,xs++rest,e,lo⟩ own1)(hxs:xs.length=len*s)(hcap:xs.length+rest.length=cap*s)(hlc:len<=cap)
  (hsy:mO P C own G s m (.slice ad2 m cap2) ys)(hys:ys.length=m*s)(hf: ∀v∈ys,flat v=true)
  (hby:0<by_)(hb:(len+m)*by_<=140737488355328)(hzs:(aF z).length=s)(hd:cd n dst=true)
  (h: ∀b lo' cap' rest',len+m<=cap'->rest'.length+(len+m)*s=cap'*s->St C n (put fr dst (.slice (some ⟨b,0,none⟩) (len+m) cap')) (⟨b,xs++ys++rest',e,lo'⟩::own1) G Φ):
  Ch P C n fr own G ⟨dst, .call ⟨.builtin .append, #[x,y], #[t,t']⟩,ty',pos,af,gd⟩ Φ:=by
 intro a w Q rl;have hp:=rl.h.perm hr.perm;have hblk:=(hp.hown _ aQ).1;simp only[] at hblk;by_cases hneed:len+m<=cap
 ·have hcs:(xs++rest).length=cap*s:=by simp;omega
  have hrun:=JZ (P:=P) (t:=t) (t':=t') (ty':=ty') (w:=w) (len:=len) hblk hcs (hsy w rl.h) hys hf hneed;have hle:len*s+m*s<=cap*s:=by rw[<-dQ];exact bR _ hneed
  have hov:cE (xs++rest) (len*s) ys=xs++ys++rest.drop (m*s):=by
   rw[pD _ _ _ (by rw[hys];omega),<-hxs];simp[hys,nZ]
  refine ke (v:= .slice (some ⟨b,0,none⟩) (len+m) cap) (w':=gk w b (.cells ⟨cE (xs++rest) (len*s) ys⟩ e (0,0))) ?_ ?_
  ·simp only[execOp,resolve,gL,bL,fK,bm rl.fr hx,bm rl.fr hy]
   exact c6 hrun
  ·rw[hov]
   refine h b lo cap (rest.drop (m*s)) hneed ?_ _ _ ((rl.heap (hp.store (.hd ..))).put _ hd);rw[iW,dQ];omega
 ·have hx':mO P C own G s len (.slice (some ⟨b,0,none⟩) len cap) xs:=fun w' hw'=>by
   have hb':=(((hw'.perm hr.perm).hown _ aQ).1);refine GI hb' ?_;rw[ma _ _ _ (by simp;omega),<-hxs];simp
  have hcap':len+m<=grownCap w (len+m) cap e:=by unfold grownCap;simp only[Question.cut];omega
  have hrun:=Lo (P:=P) (t:=t) (t':=t') (ty':=ty') (w:=w) (w':=w) (hx' _ rl.h.drew) (hsy _ rl.h.drew) (by omega) hby hb;refine ke (v:= .slice (some ⟨w.heap.size,0,none⟩) (len+m) (grownCap w (len+m) cap e)) (w':=w.drew.alloc (.cells ⟨xs++ys++cP z (grownCap w (len+m) cap e-(len+m))⟩ e)) ?_ ?_
  ·simp only[execOp,resolve,gL,bL,fK,bm rl.fr hx,bm rl.fr hy]
   exact c6 hrun
  ·refine h w.heap.size _ _ _ hcap' ?_ _ _ ((rl.heap (((hp.drew).drop (rL _ _)).alloc _ _)).put _ hd)
   rw[nG,hzs,<-dQ];congr 1;omega
def UV{f:FuncId}{fn:Func}{tS tR:TypeId}(hf:P.funcs[f]? =some fn)(hname:(fn.name== "runtime.NumGoroutine")=false)(hb:fn.body.isNone=true)(hn:Extern.findNext fn=none)
  (he:Extern.find fn=some (Extern.SlicesOverlaps.overlaps #[tS,tS] #[tR]))[hT:cv P tS e s by_]{args:Array Operand}{tys:Array TypeId}{fo:Operand}
  {b1 b2 o1 o2 l1 l2 c1 c2:Nat}{cs1 cs2:List Value}{t1 t2:TypeId}{lo1 lo2:Bool}(ho:aw fr fo=some (.func (.func f) #[] #[]))
  (hv:fI fr args.toList=some [.slice (some ⟨b1,o1,none⟩) l1 c1, .slice (some ⟨b2,o2,none⟩) l2 c2])[h1:im own b1 cs1 t1 lo1][h2:im own b2 cs2 t2 lo2](hne:b1≠b2)(hc2:cs2≠[]):
  Yd P C fr own G ⟨dst, .call ⟨.value fo,args,tys⟩,ty',pos,af,gd⟩ (.bool false):=by
 intro a w hfr hh;have e1:=(hh.hown _ h1.mem).1;have e2:=(hh.hown _ h2.mem).1;have ev:args.map a.eval=⟨[.slice (some ⟨b1,o1,none⟩) l1 c1, .slice (some ⟨b2,o2,none⟩) l2 c2]⟩:=by apply Array.ext';simpa using BA hfr hv
 simp only[] at e1 e2;have hrun:=Lib.run_overlaps_apart (P:=P) w tS tR e hT.un s hT.siz ⟨b1,o1,none⟩ ⟨b2,o2,none⟩ l1 c1 l2 c2 hne t1 t2 cs1.length cs2.length
  (by simp[World.shape?,e1]) (by simp[World.shape?,e2]) (by simpa using hc2) (by simp[World.frozen?,e1]) (by simp[World.frozen?,e1])
 simp only[execOp,resolve,bm hfr ho,ev,Deferred.ofValue];show(invoke (.fn (.func f) #[]) _).run P w=_;simp only[invoke];have h3:=run_callFunc_extern (P:=P) hf hname hb hn he;rw[h3];simp[hrun,Result.andThen]
end
instance km.cons2 (l m:List ak) (o:ak) [h:km l m]:km (o::l) (o::m):=⟨h.s.cons_cons o⟩
def XF{P:Program}{C:aD}{n:Nat}{fr:Fr}{own own0:List ak}{G:Gh}{ops:Array Oper}{Q:Exit->Act->World->Prop}{b:Nat}{cs:List Value}{ty:TypeId}{lo:Bool}(fin:Nat->Bool)(π:List (Nat×Bool)){id:Nat}(hm:P.follows .mixedOrders=true)(_hr:jy own ⟨b,cs,ty,lo⟩ own0)(ho:(qx ops fin π (Array.replicate ops.size false)&&Nat.ble π.length ops.size)=true)
  (h:St C n fr own G (f9 P ops (fH Q) (HS C own0 G) fin π)):St C n fr own G ((Code.region id ops true).wp P Q):=by
 simp only[aL] at ho;intro a w rl;exact wp_mono (wp_region_any hm (Gp _ _ _ _ (CK (fun _ _ _ _ _ h=>h) π _ a _ ho.1 (h a _ (rl.heap rl.h.drew)) _ (by simpa using ho.2)))) fH.imp
def aC(vs:List Value):List Value:=(vs.map aF).flatten
def ew{s:Nat}: ∀(vs:List Value),(∀v∈vs,(aF v).length=s)->(aC vs).length=vs.length*s
 |[],_=>by simp[aC]
 |v::vs,h=>by
  have h1:=ew vs (fun u hu=>h u (aZ _ hu));have h2:=h v aQ;unfold aC at*;simp only[bL,lZ,aR,bV,h1,h2,gS];omega
def nq(us vs:List Value):aC (us++vs)=aC us++aC vs:=by simp[aC]
def wm(v:Value):aC [v]=aF v:=by simp[aC]
def E9{s:Nat}: ∀(vs:List Value) (i:Nat),(∀v∈vs,(aF v).length=s)->i<=vs.length->(aC vs).take (i*s)=aC (vs.take i)
 |vs,0,_,_=>by simp[aC]
 |[],i+1,_,h=>by simp at h
 |v::vs,i+1,h,hi=>by
  have h1:=E9 vs i (fun u hu=>h u (aZ _ hu)) (by simpa using hi);have h2:=h v aQ;unfold aC at*;simp only[bL,lZ,oW];rw[List.take_append,h2,bX (by rw[h2,gS];omega),gS,mZ,h1]
def Fo{s:Nat}: ∀(vs:List Value) (i:Nat),(∀v∈vs,(aF v).length=s)->i<=vs.length->(aC vs).drop (i*s)=aC (vs.drop i)
 |vs,0,_,_=>by simp
 |[],i+1,_,h=>by simp at h
 |v::vs,i+1,h,hi=>by
  have h1:=Fo vs i (fun u hu=>h u (aZ _ hu)) (by simpa using hi);have h2:=h v aQ;unfold aC at*;simp only[bL,lZ,tJ];rw[nZ,h2,pQ (by rw[h2,gS];omega),gS,mZ,h1,cY]
def HH{s:Nat}{vs rest:List Value}(h: ∀v∈vs,(aF v).length=s){i:Nat}(hi:i<vs.length):cH (aC vs++rest) (i*s) s=some (aF vs[i]):=by
 have hl:=ew vs h;have hle:i*s+s<=vs.length*s:=by rw[<-gS];exact bR _ hi
 rw[ma _ _ _ (by simp only[aR];omega)];congr 1;rw[jR (by omega),Fo vs i h (by omega),cX hi];have h2:=h vs[i] (gV hi);rw[show(vs[i]::vs.drop (i+1))=[vs[i]]++vs.drop (i+1) from J,nq,wm,dX,fV (by omega),bX (by omega)]
def eH.of_flat{G:Gh}{b c s:Nat}{vs rest:List Value}(h: ∀v∈vs,(aF v).length=s)(hg:G b=some (aC vs++rest))(hc:vs.length<=c):eH G s ⟨some ⟨b,0,none⟩,vs.length,c⟩ vs:=
 ⟨J,hc, .inr ⟨b,0,_,J,hg,fun i hi=>by rw[fQ];exact HH h hi⟩⟩
section
variable {P:Program} {C:aD} {n:Nat} {fr:Fr} {own own':List ak} {G:Gh} {Φ:Act->World->Prop}
variable {dst:Option Nat} {ty':TypeId} {pos:String} {af:Array Edge} {gd:Option (Nat×Bool)} {x y:Operand} {tys:Array TypeId}
def CI{ops:Array Oper}{Q:Exit->Act->World->Prop}(own0:List ak)(fin:Nat->Bool)(π:List (Nat×Bool)){id:Nat}(hm:P.follows .mixedOrders=true)(ho:(qx ops fin π (Array.replicate ops.size false)&&Nat.ble π.length ops.size)=true)
  (h:St C n fr own G (f9 P ops (fH Q) (HS C own0 G) fin π)):St C n fr own G ((Code.region id ops true).wp P Q):=by
 simp only[aL] at ho;intro a w rl;exact wp_mono (wp_region_any hm (Gp _ _ _ _ (CK (fun _ _ _ _ _ h=>h) π _ a _ ho.1 (h a _ (rl.heap rl.h.drew)) _ (by simpa using ho.2)))) fH.imp
end
section
variable {P:Program} {ops:Array Oper} {Q:Exit->Act->World->Prop} {S:World->Prop} {fin:Nat->Bool} {π₂:List (Nat×Bool)}
def bH(l:List Nat)(k:Nat):List Nat:=l.filter fun j=>!Nat.beq j k
def Ja{l:List Nat}{k:Nat}(h:k∈l):(bH l k).length<l.length:=by
 unfold bH;rw[pT];exact⟨k,h,by simp⟩
def B7(ops:Array Oper)(fin:Nat->Bool)(π₂:List (Nat×Bool)):Nat->List Nat->List (Nat×Bool)->Array Bool->Bool
 |0,_,_,_=>false
 |_+1,[],[],listed=>qx ops fin π₂ listed
 |n+1,k::ks,[],listed=>!(Region.ready .any ops listed).isEmpty&&(Region.ready .any ops listed).all (fun j=>(k::ks).contains j)&&(k::ks).all fun j=>B7 ops fin π₂ n (bH (k::ks) j) [] (listed.setIfInBounds j true)
 |n+1,ks,(i,true)::r,listed=>AT ops fin listed i&&B7 ops fin π₂ n ks r (listed.setIfInBounds i true)
 |n+1,ks,(i,false)::r,listed=>!(Region.ready .any ops listed).isEmpty&&(Region.ready .any ops listed).all (fun j=>Nat.beq j i||ks.contains j)&&B7 ops fin π₂ n ks r (listed.setIfInBounds i true)&&ks.all fun j=>B7 ops fin π₂ n (bH ks j) ((i,false)::r) (listed.setIfInBounds j true)
def CY(P:Program)(ops:Array Oper)(Q:Exit->Act->World->Prop)(S:World->Prop)(fin:Nat->Bool)(π₂:List (Nat×Bool)):List Nat->List (Nat×Bool)->Act->World->Prop
 |[],[],a,w=>f9 P ops Q S fin π₂ a w
 |k::ks,[],a,w=> ∀j,(h:j∈k::ks)->wpOp P ops Q j (fun a' w'=>(fin j=true\/S w')/\CY P ops Q S fin π₂ (bH (k::ks) j) [] a' w') a w
 |ks,(i,true)::r,a,w=> ∃o v,ops[i]? =some o/\S w/\YieldsIf P ops S o v a/\CY P ops Q S fin π₂ ks r (a.put o.dst v) w
 |ks,(i,false)::r,a,w=>wpOp P ops Q i (fun a' w'=>(fin i=true\/S w')/\CY P ops Q S fin π₂ ks r a' w') a w/\
   ∀j,(h:j∈ks)->wpOp P ops Q j (fun a' w'=>(fin j=true\/S w')/\CY P ops Q S fin π₂ (bH ks j) ((i,false)::r) a' w') a w
termination_by ks π=>ks.length+π.length
decreasing_by
 all_goals (first|(have:=Ja h;simp only[bV,gM] at*;omega)|(simp only[bV];omega))
end
structure FD where
 k:Nat
 d:Nat
 t:TypeId
 z:Value
abbrev Fs:=Nat->Option Nat
def Lj:List FD->Fs->Fr
 |[],_=>[]
 |f::r,fs=>fF f.d (fs f.k)++Lj r fs
def Hs:List FD->Fs->List ak
 |[],_=>[]
 |f::r,fs=>fO f.t f.z (fs f.k)++Hs r fs
def Jm(fd:List FD)(fs:Fs):List Nat:=(fd.filter fun f=>(fs f.k).isNone).map (·.k)
def aKy(fs:Fs)(k b:Nat):Fs:=fun j=>if j=k then some b else fs j
structure aJM (P:Program) (ops:Array Oper) (n:Nat) (fd:List FD):Prop where
 op: ∀f∈fd,∃ty' pos af,ops[f.k]? =some ⟨some f.d, .alloc f.t,ty',pos,af,none⟩/\cd n (some f.d)=true
 z: ∀f∈fd,gh P f.t f.z
 nd:(fd.map (·.k)).Nodup
 dd: ∀f∈fd,∀g∈fd,f.d=g.d->f.k=g.k
section
variable {P:Program} {C:aD} {n:Nat} {fr:Fr} {own own0:List ak} {G G0:Gh} {ops:Array Oper} {Q:Exit->Act->World->Prop} {fin:Nat->Bool} {π π₂:List (Nat×Bool)} {fd:List FD}
def dwH(P:Program)(ops:Array Oper)(Q:Exit->Act->World->Prop)(S:World->Prop)(fin:Nat->Bool)(π₂:List (Nat×Bool))(fd:List FD)(fs:Fs)(π:List (Nat×Bool)):Act->World->Prop:=CY P ops Q S fin π₂ (Jm fd fs) π
end
def iF(s:Nat)(ty:TypeId)(x:SV)(vs:List Value)(B:List ak):Prop:=
 (vs=[]/\x=⟨none,0,0⟩/\B=[])\/
 ∃b rest lo,x=⟨some ⟨b,0,none⟩,vs.length,x.c⟩/\B=[⟨b,aC vs++rest,ty,lo⟩]/\(aC vs).length=vs.length*s/\(aC vs).length+rest.length=x.c*s/\vs.length<=x.c
def iF.nil(s:Nat)(ty:TypeId):iF s ty ⟨none,0,0⟩ [] []:= .inl ⟨J,J,J⟩
def iF.relo{s:Nat}{ty:TypeId}{x:SV}{vs:List Value}{B:List ak}(h:iF s ty x vs B)(fl:Nat->Bool):iF s ty x vs (B.map (Go.Sx.relo fl)):=by
 rcases h with⟨h1,h2,h3⟩|⟨b,rest,lo,h1,h2,h3,h4,h5⟩
 ·exact .inl ⟨h1,h2,by rw[h3];rfl⟩
 ·exact .inr ⟨b,rest,fl b,h1,by rw[h2];rfl,h3,h4,h5⟩
def iF.asB{s:Nat}{ty:TypeId}{x:SV}{vs:List Value}{B:List ak}(h:iF s ty x vs B):iF s ty x vs (asB B):=by
 rcases h with⟨h1,h2,h3⟩|⟨b,rest,lo,h1,h2,h3,h4,h5⟩
 ·exact .inl ⟨h1,h2,by rw[h3];rfl⟩
 ·exact .inr ⟨b,rest,false,h1,by rw[h2];rfl,h3,h4,h5⟩
def iF.len{s:Nat}{ty:TypeId}{x:SV}{vs:List Value}{B:List ak}(h:iF s ty x vs B):x.n=vs.length:=by
 rcases h with⟨h1,h2,h3⟩|⟨b,rest,lo,h1,h2,h3,h4,h5⟩
 ·rw[h2,h1];rfl
 ·rw[h1]
def UR{M:List ak}{m:ak}(h:m∈M)(hl:m.lo=false):jp M m.b=false:=by
 refine List.all_eq_false.2 ⟨m,h,?_⟩;simp[hl]
def DE{M:List ak}(b:Nat)(h: ∀m∈M,m.lo=true):jp M b=true:=by
 refine fW.2 fun m hm=>?_;simp[h m hm]
section
variable {P:Program} {C:aD} {n:Nat} {fr:Fr} {own own':List ak} {G:Gh} {Φ:Act->World->Prop}
variable {dst:Option Nat} {t t' ty':TypeId} {pos:String} {af:Array Edge} {gd:Option (Nat×Bool)} {x y:Operand} {e s by_:Nat}
def XD[hT:cv P t e s by_][hN:kj P t']{z:Value}[hz:gh P e z]{w:SV}{vs:List Value}{v:Value}{B:List ak}(L:List ak){ad2:Option Addr}{cap2:Nat}
  (ho:own=L++B)(hB:iF s e w vs B)(hx:aw fr x=some (.slice w.a w.n w.c))(hy:aw fr y=some (.slice ad2 1 cap2))
  (hsy:mO P C own G s 1 (.slice ad2 1 cap2) (aF v))(hv:(aF v).length=s)(hf: ∀c∈aF v,flat c=true)
  (hby:0<by_)(hb:(vs.length+1)*by_<=140737488355328)(hzs:(aF z).length=s)(hd:cd n dst=true)
  (h: ∀w' B',iF s e w' (vs++[v]) B'->St C n (put fr dst (.slice w'.a w'.n w'.c)) (L++B') G Φ):
  Ch P C n fr own G ⟨dst, .call ⟨.builtin .append, #[x,y], #[t,t']⟩,ty',pos,af,gd⟩ Φ:=by
 subst ho;rcases hB with⟨h1,h2,h3⟩|⟨b,rest,lo,h1,h2,h3,h4,h5⟩
 ·subst h1 h2 h3
  rw[iU] at hsy⊢;refine BS (z:=z) (xs:=[]) (ys:=aF v) hx hy (vU) hsy (by show 0<0+1;omega) hby (by simpa using hb) hd (fun b cap' hc=>?_);refine E3 (L++[⟨b,[]++aF v++cP z (cap'-(0+1)),e,true⟩]) ?_ (h ⟨some ⟨b,0,none⟩,1,cap'⟩ _ (.inr ⟨b,cP z (cap'-(0+1)),true,J,?_,?_,?_,by simpa using hc⟩))
  ·exact(lN (l₁:=[_]) (l₂:=L))
  ·simp[aC]
  ·simp[aC,hv]
  ·simp only[cY,wm,hv,nG,hzs]
   obtain⟨c,rfl⟩: ∃c,cap'=c+1:=⟨cap'-1,by have:0+1<=cap':=hc;omega⟩;rw[show c+1-(0+1)=c by omega,gS,lX]
 ·have hwc:w.a=some ⟨b,0,none⟩/\w.n=vs.length:=by rw[h1];exact⟨J,J⟩
  rw[hwc.1,hwc.2] at hx;subst h2;have hsub:jy (L++[⟨b,aC vs++rest,e,lo⟩]) ⟨b,aC vs++rest,e,lo⟩ L:=by
   clear hsy h
   induction L with
   |nil=>exact .hd ..
   |cons a l ih=>exact .tl _ _ _ _ ih
  refine T4 (z:=z) (xs:=aC vs) (ys:=aF v) (rest:=rest) hx hy hsub h3 h4 h5 hsy (by rw[hv,mN]) hf hby hb hzs hd (fun b' lo' cap' rest' hc hr=>?_);refine E3 (L++[⟨b',aC vs++aF v++rest',e,lo'⟩]) ?_ (h ⟨some ⟨b',0,none⟩,vs.length+1,cap'⟩ _ (.inr ⟨b',rest',lo',by simp,?_,?_,?_,by simpa using hc⟩))
  ·exact(lN (l₁:=[_]) (l₂:=L))
  ·rw[nq,wm]
  ·rw[nq,wm,aR,h3,hv,aR,nU,gS]
  ·rw[nq,wm,aR,h3,hv]
   rw[gS] at hr;show vs.length*s+s+rest'.length=cap'*s;omega
end
instance km.nil (l:List ak):km [] l:=⟨kJ l⟩
def Ii{C:aD}{n:Nat}{fr:Fr}{own own':List ak}{G:Gh}{Φ:Act->World->Prop}(e:own=own')(h:St C n fr own' G Φ):St C n fr own G Φ:=e▸h
def ID{P:Program}{C:aD}{n:Nat}{fr:Fr}{own:List ak}{G:Gh}{Φ:Act->World->Prop}{dst:Option Nat}{ty':TypeId}{pos:String}{af:Array Edge}{gd:Option (Nat×Bool)}{f:FuncId}{fo:Operand}{args:Array Operand}{tys:Array TypeId}{vs c1 c2:List Value}{M rest:List ak}{K:Value->List ak->Gh->Prop}(ho:aw fr fo=some (.func (.func f) ⟨c1⟩ ⟨c2⟩))(hv:fI fr args.toList=some vs)
  (hp:own.Perm (M++rest))(hF:je P f (c1++vs++c2) M G K)(hd:cd n dst=true)
  (h: ∀v own1 (G':Gh) (fl:Nat->Bool),[GE G G']->(∀m∈M,m.lo=false->fl m.b=false)->((∀m∈M,m.lo=true)-> ∀b,fl b=true)->K v own1 G'->St C n (put fr dst v) (own1.map (relo fl)++rest) G' Φ):
  Ch P C n fr own G ⟨dst, .call ⟨.value fo,args,tys⟩,ty',pos,af,gd⟩ Φ:=
 O0 ho hv hp hF hd (fun v own1 G' _ hK=>h v own1 G' (jp M) (fun _ hm hl=>UR hm hl) (fun hl b=>DE b hl) hK)
def Tx{s:Nat}{rest:List Value}{x:Value}{j:Nat}(hj:j<s): ∀(vs:List Value) (n:Nat) (hn:n<vs.length),(∀v∈vs,(aF v).length=s)->
  (aC vs++rest).set (n*s+j) x=aC (vs.take n)++((aF vs[n]).set j x++(aC (vs.drop (n+1))++rest))
 |[],n,hn,_=>by simp at hn
 |v::vs,0,hn,h=>by
  have h2:=h v aQ;have e:aC (v::vs)=aF v++aC vs:=by simp[aC]
  rw[e,dX,kY,fQ,List.set_append_left _ _ (by omega)];simp[aC]
 |v::vs,n+1,hn,h=>by
  have h2:=h v aQ;have ih:=Tx (rest:=rest) (x:=x) hj vs n (by simpa using hn) (fun u hu=>h u (aZ _ hu));have e:aC (v::vs)=aF v++aC vs:=by simp[aC]
  rw[e,dX,nY _ _ (by rw[h2,gS];omega),h2,show(n+1)*s+j-s=n*s+j by rw[gS];omega,ih];simp[aC]
def Wl{C:aD}{n:Nat}{fr:Fr}{L B:List ak}{G:Gh}{Φ:Act->World->Prop}{s:Nat}{ty:TypeId}{x:SV}{vs:List Value}(hC:C.mb=[])(hB:iF s ty x vs B)(hvs: ∀v∈vs,(aF v).length=s)
  (h: ∀G':Gh,[GE G G']->eH G' s x vs->St C n fr L G' Φ):St C n fr (L++B) G Φ:=by
 rcases hB with⟨h1,h2,h3⟩|⟨b,rest,lo,h1,h2,h3,h4,h5⟩
 ·subst h1 h2 h3
  rw[iU];exact @h G ⟨bD.refl _⟩ (eH.nil _ _)
 ·subst h2
  refine E3 (⟨b,aC vs++rest,ty,lo⟩::L) lN ?_;refine XG hC ?_;refine qm b (.hd ..) ?_;intro G' hG hg;refine @h G' hG ?_;rw[h1];exact eH.of_flat hvs hg.h h5
inductive DV where
 |v (x:Value)
 |ag (l:List DV)
 |tp (l:List DV)
 |pt (l:List DV)
 |op (b:Bool) (l:List DV)
 |sl (l:List DV)
mutual
def Is(G:Gh):DV->Value->Prop
 | .v x,y=>y=x
 | .ag l,y=> ∃m,y= .agg ⟨m⟩/\IsLs G l m
 | .tp l,y=> ∃m,y= .tuple ⟨m⟩/\IsLs G l m
 | .pt l,y=> ∃b m,y= .pointer (some ⟨b,0,none⟩)/\G b=some m/\IsLs G l m
 | .op b l,y=>(b=false/\y= .pointer none)\/(b=true/\ ∃b m,y= .pointer (some ⟨b,0,none⟩)/\G b=some m/\IsLs G l m)
 | .sl l,y=> ∃(s:Nat) (x:SV) (es:List Value),y= .slice x.a x.n x.c/\eH G s x es/\IsLs G l es
def IsLs(G:Gh):List DV->List Value->Prop
 |[],m=>m=[]
 |d::t,m=> ∃y n,m=y::n/\Is G d y/\IsLs G t n
end
mutual
def Is.up'{A G:Gh}(h:bD A G): ∀(d:DV) (y:Value),Is A d y->Is G d y
 | .v x,y,k=>by simp only[Is] at k⊢;exact k
 | .ag l,y,k=>by simp only[Is] at k⊢;obtain⟨m,e,k⟩:=k;exact⟨m,e,IsLs.up' h l m k⟩
 | .tp l,y,k=>by simp only[Is] at k⊢;obtain⟨m,e,k⟩:=k;exact⟨m,e,IsLs.up' h l m k⟩
 | .pt l,y,k=>by simp only[Is] at k⊢;obtain⟨b,m,e,hb,k⟩:=k;exact⟨b,m,e,h _ _ hb,IsLs.up' h l m k⟩
 | .op _ l,y,k=>by simp only[Is] at k⊢;exact k.imp id fun⟨e1,b,m,e,hb,k⟩=>⟨e1,b,m,e,h _ _ hb,IsLs.up' h l m k⟩
 | .sl l,y,k=>by simp only[Is] at k⊢;obtain⟨s,x,es,e,hs,k⟩:=k;exact⟨s,x,es,e,hs.up' h,IsLs.up' h l es k⟩
def IsLs.up'{A G:Gh}(h:bD A G): ∀(d:List DV) (y:List Value),IsLs A d y->IsLs G d y
 |[],y,k=>by simp only[IsLs] at k⊢;exact k
 |d::t,y,k=>by simp only[IsLs] at k⊢;obtain⟨u,n,e,h1,h2⟩:=k;exact⟨u,n,e,Is.up' h d u h1,IsLs.up' h t n h2⟩
end
section
variable {G:Gh}
def Is.up{A:Gh}{d:DV}{y:Value}(k:Is A d y)(h:bD A G):Is G d y:=Is.up' h d y k
def IsLs.up{A:Gh}{d:List DV}{y:List Value}(k:IsLs A d y)(h:bD A G):IsLs G d y:=IsLs.up' h d y k
def aH{x y:Value}:Is G (.v x) y↔y=x:=by simp only[Is]
def c7{l:List DV}{y:Value}:Is G (.ag l) y↔ ∃m,y= .agg ⟨m⟩/\IsLs G l m:=by simp only[Is]
def jv{l:List DV}{y:Value}:Is G (.tp l) y↔ ∃m,y= .tuple ⟨m⟩/\IsLs G l m:=by simp only[Is]
def pH{l:List DV}{y:Value}:Is G (.pt l) y↔ ∃b m,y= .pointer (some ⟨b,0,none⟩)/\G b=some m/\IsLs G l m:=by simp only[Is]
def tj{b:Bool}{l:List DV}{y:Value}:Is G (.op b l) y↔(b=false/\y= .pointer none)\/(b=true/\Is G (.pt l) y):=by simp only[Is]
def iu{l:List DV}{y:Value}:Is G (.sl l) y↔ ∃(s:Nat) (x:SV) (es:List Value),y= .slice x.a x.n x.c/\eH G s x es/\IsLs G l es:=by simp only[Is]
def co{m:List Value}:IsLs G [] m↔m=[]:=by simp only[IsLs]
def aP{d:DV}{t:List DV}{m:List Value}:IsLs G (d::t) m↔ ∃y n,m=y::n/\Is G d y/\IsLs G t n:=by simp only[IsLs]
def IsLs.nil:IsLs G [] []:=co.2 J
def IsLs.cons{d:DV}{t:List DV}{y:Value}{n:List Value}(h:Is G d y)(k:IsLs G t n):IsLs G (d::t) (y::n):=aP.2 ⟨y,n,J,h,k⟩
def IsLs.uncons{d:DV}{t:List DV}{y:Value}{n:List Value}(h:IsLs G (d::t) (y::n)):Is G d y/\IsLs G t n:=by
 obtain⟨u,m,e,h1,h2⟩:=aP.1 h
 cases e
 exact⟨h1,h2⟩
def IsLs.len: ∀{d:List DV} {m:List Value},IsLs G d m->m.length=d.length
 |[],m,h=>by rw[co.1 h];rfl
 |d::t,m,h=>by
  obtain⟨y,n,rfl,_,h2⟩:=aP.1 h;simp[h2.len]
def IsLs.get: ∀{l:List DV} {m:List Value} {i:Nat} {d:DV},IsLs G l m->l[i]? =some d-> ∃y,m[i]? =some y/\Is G d y
 |[],m,i,d,h,e=>by simp at e
 |x::t,m,0,d,h,e=>by
  obtain⟨y,n,rfl,h1,h2⟩:=aP.1 h;simp at e;subst e;exact⟨y,J,h1⟩
 |x::t,m,i+1,d,h,e=>by
  obtain⟨y,n,rfl,h1,h2⟩:=aP.1 h;simp at e;simpa using h2.get e
def IsLs.app: ∀{a b:List DV} {m n:List Value},IsLs G a m->IsLs G b n->IsLs G (a++b) (m++n)
 |[],b,m,n,h,k=>by rw[co.1 h];exact k
 |d::t,b,m,n,h,k=>by
  obtain⟨y,m',rfl,h1,h2⟩:=aP.1 h;exact .cons h1 (h2.app k)
def IsLs.unapp: ∀{a b:List DV} {m:List Value},IsLs G (a++b) m-> ∃x y,m=x++y/\IsLs G a x/\IsLs G b y
 |[],b,m,h=>⟨[],m,J, .nil,h⟩
 |d::t,b,m,h=>by
  obtain⟨y,m',rfl,h1,h2⟩:=aP.1 h;obtain⟨u,v,rfl,h3,h4⟩:=h2.unapp;exact⟨y::u,v,J, .cons h1 h3,h4⟩
def IsLs.drop: ∀{a:List DV} {m:List Value} (k:Nat),IsLs G a m->IsLs G (a.drop k) (m.drop k)
 |_,_,0,h=>h
 |[],m,k+1,h=>by rw[co.1 h];exact .nil
 |d::t,m,k+1,h=>by
  obtain⟨y,m',rfl,h1,h2⟩:=aP.1 h;exact h2.drop k
def IsLs.take: ∀{a:List DV} {m:List Value} (k:Nat),IsLs G a m->IsLs G (a.take k) (m.take k)
 |_,_,0,h=> .nil
 |[],m,k+1,h=>by rw[co.1 h];exact .nil
 |d::t,m,k+1,h=>by
  obtain⟨y,m',rfl,h1,h2⟩:=aP.1 h;exact .cons h1 (h2.take k)
def IsLs.set: ∀{a:List DV} {m:List Value} (k:Nat) {d:DV} {y:Value},IsLs G a m->Is G d y->IsLs G (a.set k d) (m.set k y)
 |[],m,k,d,y,h,_=>by rw[co.1 h];exact .nil
 |x::t,m,0,d,y,h,k=>by
  obtain⟨u,m',rfl,h1,h2⟩:=aP.1 h;exact .cons k h2
 |x::t,m,j+1,d,y,h,k=>by
  obtain⟨u,m',rfl,h1,h2⟩:=aP.1 h;exact .cons h1 (h2.set j k)
end
def DV.flat:DV->Bool
 | .v x=>Go.Sx.flat x
 | .ag _=>false
 | .tp _=>false
 | .pt _=>true
 | .op .. =>true
 | .sl .. =>true
def DV.okc:DV->Bool
 | .ag l=>l.all DV.flat
 |d=>d.flat
def DV.cells:DV->List DV
 | .ag l=>l
 |d=>[d]
section
variable {G:Gh}
def Is.flat{d:DV}{y:Value}(h:Is G d y)(k:d.flat=true):Go.Sx.flat y=true:=by
 cases d with
 |v x=>rw[aH.1 h];exact k
 |ag l=>cases k
 |tp l=>cases k
 |pt l=>obtain⟨b,m,rfl,_⟩:=pH.1 h;rfl
 |op b l=>
  rcases tj.1 h with⟨_,rfl⟩|⟨_,h⟩
  ·rfl
  ·obtain⟨b,m,rfl,_⟩:=pH.1 h;rfl
 |sl l=>obtain⟨s,x,es,rfl,_⟩:=iu.1 h;rfl
def BF{y:Value}(h:Go.Sx.flat y=true):aF y=[y]:=by cases y<;>first|rfl|(simp[Go.Sx.flat] at h)
def IsLs.flat: ∀{l:List DV} {m:List Value},IsLs G l m->l.all DV.flat=true-> ∀v∈m,Go.Sx.flat v=true
 |[],m,h,_,v,hv=>by rw[co.1 h] at hv;cases hv
 |d::t,m,h,k,v,hv=>by
  obtain⟨y,n,rfl,h1,h2⟩:=aP.1 h;simp only[sS,aL] at k;rcases aW.1 hv with rfl|hv
  ·exact h1.flat k.1
  ·exact h2.flat k.2 v hv
def Is.cells{d:DV}{y:Value}(h:Is G d y)(k:d.okc=true):IsLs G d.cells (aF y)/\ ∀v∈aF y,Go.Sx.flat v=true:=by
 cases d with
 |ag l=>obtain⟨m,rfl,hm⟩:=c7.1 h;exact⟨hm,hm.flat k⟩
 |_=>
  have:=h.flat k;rw[BF this];exact⟨.cons h .nil,fun v hv=>by rw[aV.1 hv];exact this⟩
end
def takeD:List DV->Nat->Nat->Option (List DV)
 |_,0,0=>some []
 |[],0,_+1=>none
 |v::t,0,k+1=>match takeD t 0 k with|some l=>some (v::l)|none=>none
 |[],_+1,_=>none
 |_::t,off+1,k=>takeD t off k
def CJ:List DV->Nat->List DV->List DV
 |cs,_,[]=>cs
 |cs,off,v::vs=>CJ (cs.set off v) (off+1) vs
section
variable {G:Gh}
def IsLs.takeD: ∀{ds:List DV} {m:List Value} {off k:Nat} {l:List DV},IsLs G ds m->takeD ds off k=some l-> ∃n,cH m off k=some n/\IsLs G l n
 |[],m,0,0,l,h,e=>by rw[co.1 h];simp only[Sx.takeD] at e;cases e;exact⟨[],J, .nil⟩
 |d::t,m,0,0,l,h,e=>by
  obtain⟨y,m',rfl,h1,h2⟩:=aP.1 h;simp only[Sx.takeD] at e;cases e;exact⟨[],J, .nil⟩
 |[],m,0,k+1,l,h,e=>by simp[Sx.takeD] at e
 |d::t,m,0,k+1,l,h,e=>by
  obtain⟨y,m',rfl,h1,h2⟩:=aP.1 h;simp only[Sx.takeD] at e;split at e
  ·rename_i l' hl'
   cases e
   obtain⟨n,hn,hl⟩:=h2.takeD hl';exact⟨y::n,by simp only[cH,hn], .cons h1 hl⟩
  ·cases e
 |[],m,off+1,k,l,h,e=>by simp[Sx.takeD] at e
 |d::t,m,off+1,k,l,h,e=>by
  obtain⟨y,m',rfl,h1,h2⟩:=aP.1 h;exact h2.takeD (off:=off) (k:=k) e
def IsLs.ov: ∀{vs ds:List DV} {n m:List Value} {off:Nat},IsLs G ds m->IsLs G vs n->IsLs G (CJ ds off vs) (cE m off n)
 |[],ds,n,m,off,h,k=>by rw[co.1 k];exact h
 |v::vs,ds,n,m,off,h,k=>by
  obtain⟨y,n',rfl,h1,h2⟩:=aP.1 k;exact(h.set off h1).ov h2
end
inductive FV where
 |d (x:DV)
 /-- a pointer to cells that are written no more -/
 |ep (l:List DV)
 /-- a pointer to a cell of element i of a row of the call's own -/
 |be (x:SV) (s i j:Nat)
 /-- a slice bH room behind it -/
 |ct (l:List DV)
abbrev eo:=List (Nat×FV)
def OS(G:Gh):FV->Value->Prop
 | .d x,y=>Is G x y
 | .ep l,y=> ∃b off cs m,y= .pointer (some ⟨b,off,none⟩)/\G b=some cs/\cH cs off l.length=some m/\IsLs G l m
 | .be x s i j,y=> ∃b,x.a=some ⟨b,0,none⟩/\y= .pointer (some ⟨b,i*s+j,none⟩)
 | .ct l,y=>(∃a n,y= .slice a n n)/\Is G (.sl l) y
def yv:eo->Nat->Option FV
 |[],_=>none
 |(k,v)::t,j=>bif Nat.beq k j then some v else yv t j
def aKs(fr:eo)(dst:Option Nat)(v:FV):eo:=match dst with|some d=>(d,v)::fr|none=>fr
def Fb(G:Gh):eo->Fr->Prop
 |[],m=>m=[]
 |(k,f)::t,m=> ∃y n,m=(k,y)::n/\OS G f y/\Fb G t n
def Jw(fr:eo):Operand->Option FV
 | .tmp k=>yv fr k
 | .const v=>some (.d (.v v))
 | .global g=>some (.d (.v (.pointer (some ⟨g,0,none⟩))))
 | .func f=>some (.d (.v (.func (.func f) #[] #[])))
def LW:FV->Option DV
 | .d (.v (.slice none 0 0))=>some (.sl [])
 | .d d=>some d
 | .ct l=>some (.sl l)
 |_=>none
def D8(fr:eo)(x:Operand):Option DV:=(Jw fr x).bind LW
def Ut(fr:eo):List Operand->Option (List DV)
 |[]=>some []
 |x::t=>match D8 fr x,Ut fr t with
  |some d,some l=>some (d::l)
  |_,_=>none
structure dt where
 b:Nat
 cs:List DV
 ty:TypeId
 lo:Bool
structure d4 where
 x:SV
 s:Nat
 ty:TypeId
 ds:List DV
 lo:Bool
class xk (own:List dt) (b:Nat) (cs:outParam (List DV)) (ty:outParam TypeId) (lo:outParam Bool):Prop where
 mem:⟨b,cs,ty,lo⟩∈own
instance xk.i1 (b:Nat) (cs:List DV) (ty:TypeId) (lo:Bool) (t:List dt):xk (⟨b,cs,ty,lo⟩::t) b cs ty lo:=⟨aQ⟩
instance xk.i2 (o:dt) (t:List dt) (b:Nat) (cs:List DV) (ty:TypeId) (lo:Bool) [h:xk t b cs ty lo]:xk (o::t) b cs ty lo:=⟨aZ _ h.mem⟩
class CL (bs:List d4) (x:SV) (s:outParam Nat) (ty:outParam TypeId) (ds:outParam (List DV)) (lo:outParam Bool):Prop where
 mem:⟨x,s,ty,ds,lo⟩∈bs
instance CL.i1 (x:SV) (s:Nat) (ty:TypeId) (ds:List DV) (lo:Bool) (t:List d4):CL (⟨x,s,ty,ds,lo⟩::t) x s ty ds lo:=⟨aQ⟩
instance CL.i2 (o:d4) (t:List d4) (x:SV) (s:Nat) (ty:TypeId) (ds:List DV) (lo:Bool) [h:CL t x s ty ds lo]:CL (o::t) x s ty ds lo:=⟨aZ _ h.mem⟩
def LY(G:Gh):List dt->List ak->Prop
 |[],m=>m=[]
 |o::t,m=> ∃cs n,m=⟨o.b,cs,o.ty,o.lo⟩::n/\IsLs G o.cs cs/\LY G t n
def du(G:Gh)(β:d4)(B:List ak):Prop:=
 ∃vs,iF β.s β.ty β.x vs B/\IsLs G β.ds vs/\(∀v∈vs,(aF v).length=β.s)/\(β.lo=true-> ∀o∈B,o.lo=true)
def Nx(G:Gh):List d4->List ak->Prop
 |[],m=>m=[]
 |β::t,m=> ∃B n,m=B++n/\du G β B/\Nx G t n
def OB(G:Gh)(own:List dt)(bs:List d4)(ov:List ak):Prop:= ∃a b,ov=a++b/\LY G own a/\Nx G bs b
structure Sr (GB G:Gh) (fr:eo) (own:List dt) (bs:List d4) (frv:Fr) (ov:List ak):Prop where
 gb:bD GB G
 fr:Fb G fr frv
 ob:OB G own bs ov
structure pG where
 fr:Fr
 own:List ak
def E0:pG:=⟨[],[]⟩
structure SD (GB:Gh) (C:aD) (n:Nat) (E:pG) (fr:eo) (own:List dt) (bs:List d4) (Φ:Act->World->Prop):Prop where
 run: ∀G frv ov,Sr GB G fr own bs frv ov->St C n (frv++E.fr) (ov++E.own) G Φ
instance {GB:Gh} {C:aD} {n:Nat} {E:pG} {fr:eo} {own:List dt} {bs:List d4} {Φ:Act->World->Prop}:CoeFun (SD GB C n E fr own bs Φ) (fun _=> ∀G frv ov,Sr GB G fr own bs frv ov->St C n (frv++E.fr) (ov++E.own) G Φ):=⟨SD.run⟩
def YD(P:Program)(GB:Gh)(C:aD)(fr:eo)(own:List dt)(bs:List d4)(o:Oper)(f:FV):Prop:=
 ∀G frv ov,Sr GB G fr own bs frv ov-> ∃y,OS G f y/\ ∀G',bD G G'->Yd P C frv ov G' o y
def CD(P:Program)(GB:Gh)(C:aD)(n:Nat)(E:pG)(fr:eo)(own:List dt)(bs:List d4)(o:Oper)(Φ:Act->World->Prop):Prop:=
 ∀G frv ov,Sr GB G fr own bs frv ov->Ch P C n (frv++E.fr) (ov++E.own) G o Φ
def TD(P:Program)(GB:Gh)(C:aD)(n:Nat)(fr:eo)(own:List dt)(bs:List d4)(o:Oper)(fr':eo)(own':List dt)(bs':List d4):Prop:=
 ∀(GB':Gh) (E:pG) (Φ:Act->World->Prop),bD GB GB'->SD GB' C n E fr' own' bs' Φ->CD P GB' C n E fr own bs o Φ
def TF(P:Program)(GB:Gh)(C:aD)(n:Nat)(fr:eo)(own:List dt)(bs:List d4)(o:Oper)(ι:Type)(fr':ι->eo)(own':ι->List dt)(bs':ι->List d4):Prop:=
 ∀(GB':Gh) (E:pG) (Φ:Act->World->Prop),bD GB GB'->(∀x,SD GB' C n E (fr' x) (own' x) (bs' x) Φ)->CD P GB' C n E fr own bs o Φ
section
variable {P:Program} {GB:Gh} {C:aD} {n:Nat} {E:pG} {fr fr':eo} {own own':List dt} {bs bs':List d4} {ops:Array Oper} {Q:Exit->Act->World->Prop} {r:List Oper} {Φ:Act->World->Prop}
def aKe(P:Program)(y:Code)(Q:Exit->Act->World->Prop):Exit->Act->World->Prop:=Exit.then (y.wp P Q) Q
def aJ5(fr' fr:eo):Prop:= ∀e∈fr',yv fr e.1=some e.2
def aH8(GB:Gh)(C:aD)(n:Nat){X:Type}(F:X->eo)(O:X->List dt)(B:X->List d4)(I:X->Prop)(μ:X->Nat)(m:Nat)(a:Act)(w:World):Prop:=
 ∃x G frv ov,I x/\μ x<m/\Sr GB G (F x) (O x) (B x) frv ov/\gu C n frv ov G a w
def AtD(GB:Gh)(C:aD)(n:Nat){X:Type}(F:X->eo)(O:X->List dt)(B:X->List d4)(I:X->Prop)(a:Act)(w:World):Prop:=
 ∃x G frv ov,I x/\Sr GB G (F x) (O x) (B x) frv ov/\gu C n frv ov G a w
def PF(GB:Gh)(P:Program)(f:FuncId)(ds:List DV)(r:DV):Prop:=
 ∀G vs,bD GB G->IsLs G ds vs->Fn P f vs G (fun v G'=>Is G' r v)
def PM(GB:Gh)(P:Program)(f:FuncId)(ds:List DV)(b:Nat)(ty:TypeId)(cs:List DV)(r:DV)(cs':List DV):Prop:=
 ∀G vs m lo,bD GB G->IsLs G ds vs->IsLs G cs m->j0 P f vs [⟨b,m,ty,lo⟩] G (fun v css G'=>Is G' r v/\ ∃m',css=[m']/\IsLs G' cs' m')
def Z6:Nat->List DV->eo
 |_,[]=>[]
 |i,v::t=>(i, .d v)::Z6 (i+1) t
inductive xz (P:Program) (fr:eo) (own:List dt):List ResultVar->List DV->Prop
 |nil:xz P fr own [] []
 |tmp {t:Nat} {v:DV} {rs:List ResultVar} {vs:List DV} (h:(yv fr t).bind LW=some v) (k:xz P fr own rs vs):xz P fr own (.tmp t::rs) (v::vs)
 |agg {a b k:Nat} {t:TypeId} {cs l:List DV} {ty:TypeId} {lo:Bool} {rs:List ResultVar} {vs:List DV} (h:yv fr a=some (.d (.v (.pointer (some ⟨b,0,none⟩))))) (ho:xk own b cs ty lo) (ht:lA P t k) (hl:takeD cs 0 k=some l) (h2:xz P fr own rs vs):
   xz P fr own (.cell a t::rs) (.ag l::vs)
 |sc {a b:Nat} {t:TypeId} {cs:List DV} {v:DV} {ty:TypeId} {lo:Bool} {rs:List ResultVar} {vs:List DV} (h:yv fr a=some (.d (.v (.pointer (some ⟨b,0,none⟩))))) (ho:xk own b cs ty lo) (ht:gG P t) (hl:cs[0]? =some v) (h2:xz P fr own rs vs):
   xz P fr own (.cell a t::rs) (v::vs)
def ji:List DV->DV
 |[d]=>d
 |l=> .tp l
def Ck{G:Gh}{ds:List DV}{vs:List Value}(h:IsLs G ds vs):Is G (ji ds) (gI vs):=by
 match ds,h with
 |[],h=>rw[co.1 h];exact jv.2 ⟨[],J, .nil⟩
 |[d],h=>
  obtain⟨y,m,rfl,h1,h2⟩:=aP.1 h;rw[co.1 h2];exact h1
 |a::b::t,h=>
  obtain⟨y,m,rfl,h1,h2⟩:=aP.1 h;obtain⟨z,m',rfl,h3,h4⟩:=aP.1 h2;exact jv.2 ⟨_,J,h⟩
end
def Ep{cs l:List Value}{o k:Nat}(h:cH cs o k=some l):l.length=k:=(qq _ _ _ _ h).1
def FB: ∀{cs m:List Value} {o k:Nat},cH cs o k=some m-> ∀{d:Nat},d<=k->cH cs (o+d) (k-d)=some (m.drop d)
 |cs,m,o,k,h,0,_=>by simpa using h
 |[],m,0,0,h,d+1,hd=>by omega
 |v::t,m,0,0,h,d+1,hd=>by omega
 |[],m,0,k+1,h,d+1,hd=>by simp[cH] at h
 |v::t,m,0,k+1,h,d+1,hd=>by
  simp only[cH] at h;split at h
  ·rename_i l hl
   cases h
   have:=FB hl (d:=d) (by omega);rw[fQ] at this;rw[fQ,Nat.add_sub_add_right,tJ];exact this
  ·cases h
 |[],m,o+1,k,h,d+1,hd=>by simp[cH] at h
 |v::t,m,o+1,k,h,d+1,hd=>by
  simp only[cH] at h;have:=FB h (d:=d+1) hd;rw[show o+1+(d+1)=(o+(d+1))+1 by omega];exact this
def Lr: ∀{cs m:List Value} {o k:Nat},cH cs o k=some m-> ∀{j:Nat},j<=k->cH cs o j=some (m.take j)
 |cs,m,0,k,h,0,_=>by cases cs<;>rfl
 |[],m,0,0,h,j+1,hd=>by omega
 |v::t,m,0,0,h,j+1,hd=>by omega
 |[],m,0,k+1,h,j+1,hd=>by simp[cH] at h
 |v::t,m,0,k+1,h,j+1,hd=>by
  simp only[cH] at h;split at h
  ·rename_i l hl
   cases h
   have:=Lr hl (j:=j) (by omega);simp[cH,this]
  ·cases h
 |[],m,o+1,k,h,j,hd=>by simp[cH] at h
 |v::t,m,o+1,k,h,j,hd=>by
  simp only[cH] at h⊢;exact Lr h hd
def BW{m l:List Value}{j k:Nat}(h:cH m j k=some l):j+k<=m.length/\l=(m.drop j).take k:=by
 obtain⟨h1,h2⟩:=qq _ _ _ _ h;have hle:j<=m.length:=by
  clear h1 h2
  induction m generalizing j with
  |nil=>cases j with
   |zero=>exact bQ _
   |succ j=>simp[cH] at h
  |cons v t ih=>cases j with
   |zero=>exact bT _
   |succ j=>have:=ih (j:=j) h;simp;omega
 have hlen:j+k<=m.length:=by
  rcases fR k with h0|h0
  ·omega
  ·have h3:=h2 (k-1) (by omega)
   rw[aX (by omega:k-1<l.length)] at h3;have:=(aS.1 h3).1;omega
 rw[ma _ _ _ hlen] at h
 cases h
 exact⟨hlen,J⟩
def MT{cs m l:List Value}{o s j k:Nat}(h:cH cs o s=some m)(hm:cH m j k=some l):cH cs (o+j) k=some l:=by
 obtain⟨h1,rfl⟩:=BW hm;have hl:=Ep h;have h2:=FB h (d:=j) (by omega);exact Lr h2 (j:=k) (by omega)
def UH{cs:List Value}{o:Nat}{v:Value}:cH cs o 1=some [v]↔cs[o]? =some v:=by
 constructor
 ·intro h
  obtain⟨_,h2⟩:=qq _ _ _ _ h;simpa using h2 0 (by omega)
 ·intro h
  obtain⟨h1,h2⟩:=aS.1 h;rw[ma _ _ _ (by omega),cX h1,oW,h2];rfl
def Kq{m l:List Value}{j k i:Nat}(h:cH m j k=some l)(hi:i<k):m[j+i]? =l[i]? :=(qq _ _ _ _ h).2 i hi
inductive Im:List dt->Nat->List DV->TypeId->Bool->List DV->List dt->Prop
 |hd (b:Nat) (cs cs':List DV) (ty:TypeId) (lo:Bool) (t:List dt):Im (⟨b,cs,ty,lo⟩::t) b cs ty lo cs' (⟨b,cs',ty,lo⟩::t)
 |tl (o:dt) (t t':List dt) (b:Nat) (cs cs':List DV) (ty:TypeId) (lo:Bool) (h:Im t b cs ty lo cs' t'):Im (o::t) b cs ty lo cs' (o::t')
inductive JR:List dt->Nat->List DV->TypeId->Bool->List dt->Prop
 |hd (b:Nat) (cs:List DV) (ty:TypeId) (lo:Bool) (t:List dt):JR (⟨b,cs,ty,lo⟩::t) b cs ty lo t
 |tl (o:dt) (t t':List dt) (b:Nat) (cs:List DV) (ty:TypeId) (lo:Bool) (h:JR t b cs ty lo t'):JR (o::t) b cs ty lo (o::t')
inductive JC:List d4->d4->List d4->Prop
 |hd (β:d4) (t:List d4):JC (β::t) β t
 |tl (o:d4) (t t':List d4) (β:d4) (h:JC t β t'):JC (o::t) β (o::t')
section
variable {P:Program} {GB:Gh} {C:aD} {n:Nat} {E:pG} {fr fr':eo} {own own':List dt} {bs bs':List d4} {ops:Array Oper} {Q:Exit->Act->World->Prop} {r:List Oper} {Φ:Act->World->Prop}
variable {dst:Option Nat} {t t' ty':TypeId} {pos:String} {af:Array Edge} {gd:Option (Nat×Bool)} {x y z:Operand} {e s by_:Nat}
def du.elem{G:Gh}{β:d4}{B:List ak}(h:du G β B){i:Nat}{d:DV}(hi:β.ds[i]? =some d)(hd:d.okc=true):
  ∃b m rest lo l,β.x.a=some ⟨b,0,none⟩/\B=[⟨b,m++rest,β.ty,lo⟩]/\cH (m++rest) (i*β.s) β.s=some l/\IsLs G d.cells l:=by
 obtain⟨vs,hB,hv,hs,_⟩:=h;obtain⟨v,h1,h2⟩:=hv.get hi;rcases hB with⟨e,_,_⟩|⟨b,rest,lo,h3,h4,h5,h6,h7⟩
 ·rw[e] at h1;simp at h1
 ·obtain⟨h8,h9⟩:=aS.1 h1
  refine⟨b,aC vs,rest,lo,aF v,by rw[h3],h4,?_,(h2.cells hd).1⟩;have:=HH (rest:=rest) hs h8;rw[h9] at this;exact this
def YP(fr:eo)(offs:List (Nat×Nat)):List DV->List (Nat×Operand)->Option (List DV)
 |cs,[]=>some cs
 |cs,(i,x)::r=>match offs[i]?,D8 fr x with
  |some (off,k),some d=>bif d.okc&&(Nat.beq d.cells.length k&&Nat.ble (off+k) cs.length) then YP fr offs (CJ cs off d.cells) r else none
  |_,_=>none
class aKu (P:Program) (t:TypeId) (z:outParam Value) (cs:outParam (List DV)):Prop where
 tz:gh P t z
 iz:IsLs (fun _=>none) cs (aF z)
def IsLs.all{G:Gh}: ∀{l:List DV} {m:List Value},IsLs G l m-> ∀v∈m,∃d∈l,Is G d v
 |[],m,h,v,hv=>by rw[co.1 h] at hv;cases hv
 |d::t,m,h,v,hv=>by
  obtain⟨y,n,rfl,h1,h2⟩:=aP.1 h;rcases aW.1 hv with rfl|hv
  ·exact⟨d,aQ,h1⟩
  ·obtain⟨d',hd,h3⟩:=h2.all v hv
   exact⟨d',aZ _ hd,h3⟩
def eH.sub{G:Gh}{s:Nat}{x:SV}{es:List Value}(h:eH G s x es)(lo hi mx:Nat)(h1:lo<=hi)(h2:hi<=es.length)(h3:hi<=mx)(_h4:mx<=x.c):
  eH G s ⟨if mx=lo then x.a else x.a.map (·.add (lo*s)),hi-lo,mx-lo⟩ ((es.take hi).drop lo):=by
 refine⟨by simp;omega,by simp only[];omega,?_⟩;rcases h.mem with h0|⟨b,off,cs,ha,hg,hc⟩
 ·left;simp[h0]
 ·by_cases he:hi=lo
  ·left;simp[he]
  ·right
   refine⟨b,off+lo*s,cs,?_,hg,fun i hi'=>?_⟩
   ·simp only[]
    rw[if_neg (by omega),ha];simp[pB]
   ·simp only[iW,cK] at hi'
    have:=hc (lo+i) (by omega);rw[kN,<-dQ,this];simp
def dH(s:Nat)(l:List DV):Prop:= ∀d∈l,d.okc=true/\d.cells.length=s
def C7{G:Gh}{l:List DV}{s' s:Nat}{w:SV}{es:List Value}(hsl:eH G s' w es)(hl:IsLs G l es)(ho:dH s l):es=[]\/s'=s:=by
 rcases hsl.mem with h|⟨b,off,cs,ha,hg,hcs⟩
 ·exact .inl h
 ·cases es with
  |nil=>exact .inl J
  |cons v t=>
   right;have h1:=hcs 0 (by simp);have h2:=Ep h1;obtain⟨d,hd,h3⟩:=hl.all v aQ;obtain⟨h4,h5⟩:=ho d hd;have:=(h3.cells h4).1.len;simp only[pJ] at h2;omega
end
section
variable {P:Program} {GB:Gh} {C:aD} {n:Nat} {E:pG} {fr:eo} {own:List dt} {bs:List d4} {ops:Array Oper} {Q:Exit->Act->World->Prop} {r:List Oper} {dst:Option Nat} {ty':TypeId} {pos:String} {af:Array Edge} {x:Operand}
end
inductive FX where
 |d (x:DV)
 /-- a pointer to cells that are written no more -/
 |ep (l:List DV)
 /-- a pointer into a variable -/
 |ov (nm off:Nat)
 /-- a row -/
 |rw(nm:Nat)
 /-- a pointer into element i of a row -/
 |be (nm s i j:Nat)
 /-- a slice of n elements of a row, from element off on -/
 |rs (nm s off n:Nat)
 /-- a slice bH room behind it -/
 |ct (l:List DV)
 |tt
 |ff
 |pr (p:Prop) (h:Decidable p)
 |nl
 /-- an aggregate (or a tuple) with one row in it -/
 |bx (tp:Bool) (pre:List DV) (nm:Nat) (post:List DV)
 |un
 /-- nothing is known -/
 |no
abbrev NE:=Nat->SV
def cb(ρ:NE)(G:Gh):FX->Value->Prop
 | .d x,y=>Is G x y
 | .ep l,y=> ∃b off cs m,y= .pointer (some ⟨b,off,none⟩)/\G b=some cs/\cH cs off l.length=some m/\IsLs G l m
 | .ov nm off,y=> ∃b,(ρ nm).a=some ⟨b,0,none⟩/\y= .pointer (some ⟨b,off,none⟩)
 | .rw nm,y=>y= .slice (ρ nm).a (ρ nm).n (ρ nm).c
 | .be nm s i j,y=> ∃b,(ρ nm).a=some ⟨b,0,none⟩/\y= .pointer (some ⟨b,i*s+j,none⟩)
 | .rs nm s off n,y=> ∃b c,(ρ nm).a=some ⟨b,0,none⟩/\y= .slice (some ⟨b,off*s,none⟩) n c/\n<=c
 | .ct l,y=>(∃a n,y= .slice a n n)/\Is G (.sl l) y
 | .tt,y=>y= .bool true
 | .ff,y=>y= .bool false
 | .pr p h,y=>y= .bool (@decide p h)
 | .nl,y=>y= .slice none 0 0
 | .bx tp pre nm post,y=> ∃m1 m2,y=(bif tp then Value.tuple ⟨m1++Value.slice (ρ nm).a (ρ nm).n (ρ nm).c::m2⟩ else .agg ⟨m1++Value.slice (ρ nm).a (ρ nm).n (ρ nm).c::m2⟩)/\IsLs G pre m1/\IsLs G post m2
 | .un,y=>y=undef
 | .no,_=>True
def dC(ρ:NE)(G:Gh):List FX->List Value->Prop
 |[],m=>m=[]
 |f::t,m=> ∃y n,m=y::n/\cb ρ G f y/\dC ρ G t n
def FX.nm:FX->Option Nat
 | .ov n _=>some n
 | .rw n=>some n
 | .be n _ _ _=>some n
 | .rs n _ _ _=>some n
 | .bx _ _ n _=>some n
 |_=>none
section
variable {ρ:NE} {G:Gh}
def cb.up{A:Gh}{f:FX}{y:Value}(h:cb ρ A f y)(k:bD A G):cb ρ G f y:=by
 cases f with
 |d x=>exact Is.up h k
 |ep l=>obtain⟨b,off,cs,m,e,hb,ht,hl⟩:=h;exact⟨b,off,cs,m,e,k _ _ hb,ht,hl.up k⟩
 |ct l=>exact⟨h.1,h.2.up k⟩
 |bx tp pre nm post=>obtain⟨m1,m2,e,h1,h2⟩:=h;exact⟨m1,m2,e,h1.up k,h2.up k⟩
 |_=>exact h
def cb.ren{ρ':NE}{f:FX}{y:Value}(h:cb ρ G f y)(k: ∀n,f.nm=some n->ρ' n=ρ n):cb ρ' G f y:=by
 cases f with
 |ov n o=>have e:=k n J;simp only[cb] at h⊢;rw[e];exact h
 |rw n=>have e:=k n J;simp only[cb] at h⊢;rw[e];exact h
 |be n s i j=>have e:=k n J;simp only[cb] at h⊢;rw[e];exact h
 |rs n s i j=>have e:=k n J;simp only[cb] at h⊢;rw[e];exact h
 |bx tp pre n post=>have e:=k n J;simp only[cb] at h⊢;rw[e];exact h
 |_=>exact h
def dC.up{A:Gh}(k:bD A G): ∀{l:List FX} {m:List Value},dC ρ A l m->dC ρ G l m
 |[],_,h=>h
 |_::_,_,⟨y,n,e,h1,h2⟩=>⟨y,n,e,h1.up k,h2.up k⟩
def dC.ren{ρ':NE}: ∀{l:List FX} {m:List Value},dC ρ G l m->(∀f∈l,∀n,f.nm=some n->ρ' n=ρ n)->dC ρ' G l m
 |[],_,h,_=>h
 |f::t,_,⟨y,n,e,h1,h2⟩,k=>⟨y,n,e,h1.ren (k f aQ),h2.ren fun g hg=>k g (aZ _ hg)⟩
def dC.len: ∀{l:List FX} {m:List Value},dC ρ G l m->m.length=l.length
 |[],m,h=>by rw[show m=[] from h];rfl
 |f::t,m,⟨y,n,e,h1,h2⟩=>by subst e;simp[h2.len]
def dC.get: ∀{l:List FX} {m:List Value} {i:Nat} {f:FX},dC ρ G l m->l[i]? =some f-> ∃y,m[i]? =some y/\cb ρ G f y
 |[],m,i,f,h,e=>by simp at e
 |x::t,m,0,f,⟨y,n,e1,h1,h2⟩,e=>by subst e1;simp at e;subst e;exact⟨y,J,h1⟩
 |x::t,m,i+1,f,⟨y,n,e1,h1,h2⟩,e=>by subst e1;simp at e;simpa using h2.get e
def dC.set: ∀{a:List FX} {m:List Value} (k:Nat) {f:FX} {y:Value},dC ρ G a m->cb ρ G f y->dC ρ G (a.set k f) (m.set k y)
 |[],m,k,f,y,h,_=>by rw[show m=[] from h];rfl
 |x::t,m,0,f,y,⟨u,n,e,h1,h2⟩,k=>by subst e;exact⟨y,n,J,k,h2⟩
 |x::t,m,j+1,f,y,⟨u,n,e,h1,h2⟩,k=>by subst e;exact⟨u,n.set j y,J,h1,h2.set j k⟩
end
def lh:FX->Option DV
 | .d x=>some x
 | .ct l=>some (.sl l)
 | .tt=>some (.v (.bool true))
 | .ff=>some (.v (.bool false))
 | .pr p h=>some (.v (.bool (@decide p h)))
 | .nl=>some (.sl [])
 |_=>none
def oy{ρ:NE}{G:Gh}{f:FX}{d:DV}{y:Value}(h:cb ρ G f y)(e:lh f=some d):Is G d y:=by
 cases f with
 |d x=>cases e;exact h
 |ct l=>cases e;exact h.2
 |tt=>cases e;exact aH.2 h
 |ff=>cases e;exact aH.2 h
 |pr p i=>cases e;exact aH.2 h
 |nl=>cases e;rw[show y= .slice none 0 0 from h];exact iu.2 ⟨0,⟨none,0,0⟩,[],J, .nil G 0, .nil⟩
 |_=>cases e
def js:List FX->Option (List DV)
 |[]=>some []
 |f::t=>match lh f,js t with
  |some d,some l=>some (d::l)
  |_,_=>none
def tv{ρ:NE}{G:Gh}: ∀{l:List FX} {ds:List DV} {m:List Value},dC ρ G l m->js l=some ds->IsLs G ds m
 |[],ds,m,h,e=>by cases e;rw[show m=[] from h];exact .nil
 |f::t,ds,m,⟨y,n,e1,h1,h2⟩,e=>by
  subst e1;simp only[js] at e;split at e
  ·rename_i d l hd hl
   cases e
   exact .cons (oy h1 hd) (tv h2 hl)
  ·cases e
def FX.okc:FX->Bool
 | .d x=>x.okc
 | .bx false pre _ post=>(DV.ag pre).okc&&(DV.ag post).okc
 | .bx true _ _ _=>false
 | .un=>false
 | .no=>false
 |_=>true
def FX.cells:FX->List FX
 | .d (.ag l)=>l.map .d
 | .bx false pre nm post=>pre.map .d++ .rw nm::post.map .d
 |f=>[f]
def dC.app{ρ:NE}{G:Gh}: ∀{a b:List FX} {m n:List Value},dC ρ G a m->dC ρ G b n->dC ρ G (a++b) (m++n)
 |[],b,m,n,h,k=>by rw[show m=[] from h];exact k
 |f::t,b,m,n,⟨y,q,e,h1,h2⟩,k=>by subst e;exact⟨y,q++n,J,h1,h2.app k⟩
def uH{ρ:NE}{G:Gh}: ∀{l:List DV} {m:List Value},IsLs G l m->dC ρ G (l.map .d) m
 |[],m,h=>co.1 h
 |d::t,m,h=>by
  obtain⟨y,n,rfl,h1,h2⟩:=aP.1 h;exact⟨y,n,J,h1,uH h2⟩
def cb.cells{ρ:NE}{G:Gh}{f:FX}{y:Value}(h:cb ρ G f y)(k:f.okc=true):dC ρ G f.cells (aF y)/\ ∀v∈aF y,Go.Sx.flat v=true:=by
 have one: ∀g:FX,cb ρ G g y->Go.Sx.flat y=true->dC ρ G [g] (aF y)/\ ∀v∈aF y,Go.Sx.flat v=true:=fun g hg hf=>by
  rw[BF hf];exact⟨⟨y,[],J,hg,J⟩,fun v hv=>by rw[aV.1 hv];exact hf⟩
 cases f with
 |d x=>
  cases x with
  |ag l=>
   obtain⟨m,rfl,hm⟩:=c7.1 (show Is G (.ag l) y from h);exact⟨uH hm,hm.flat k⟩
  |_=>exact one _ h (Is.flat (show Is G _ y from h) k)
 |ep l=>obtain⟨b,off,cs,m,rfl,_⟩:=h;exact one (.ep l) ⟨b,off,cs,m,rfl,by assumption⟩ rfl
 |ov nm off=>obtain⟨b,hb,rfl⟩:=h;exact one (.ov nm off) ⟨b,hb,rfl⟩ rfl
 |rw nm=>cases h;exact one (.rw nm) J J
 |be nm s i j=>obtain⟨b,hb,rfl⟩:=h;exact one (.be nm s i j) ⟨b,hb,rfl⟩ rfl
 |rs nm s i j=>obtain⟨b,c,hb,rfl,hc⟩:=h;exact one (.rs nm s i j) ⟨b,c,hb,rfl,hc⟩ rfl
 |ct l=>obtain⟨⟨a,n,rfl⟩,h2⟩:=h;exact one (.ct l) ⟨⟨a,n,rfl⟩,h2⟩ rfl
 |tt=>cases h;exact one .tt J J
 |ff=>cases h;exact one .ff J J
 |pr p i=>cases h;exact one (.pr p i) J J
 |nl=>cases h;exact one .nl J J
 |bx tp pre nm post=>
  cases tp with
  |true=>cases k
  |false=>
   obtain⟨m1,m2,rfl,h1,h2⟩:=h;simp only[FX.okc,aL] at k;refine⟨(uH h1).app ⟨_,m2,J,J,uH h2⟩,fun v hv=>?_⟩;rcases bW.1 (show v∈m1++_::m2 from hv) with hv|hv
   ·exact h1.flat k.1 v hv
   ·rcases aW.1 hv with rfl|hv
    ·rfl
    ·exact h2.flat k.2 v hv
 |un=>cases k
 |no=>cases k
inductive Bk where
 |o (ty:TypeId) (cs:List FX) (lo:Bool)
 |b (ty:TypeId) (s:Nat) (ds:List DV) (lo:Bool)
 /-- a row with room for cap elements in all -/
 |c (ty:TypeId) (s:Nat) (ds:List DV) (cap:Nat)
def lC(ρ:NE)(G:Gh)(nm:Nat):Bk->List ak->Prop
 | .o ty cs lo,B=> ∃b m,(ρ nm).a=some ⟨b,0,none⟩/\B=[⟨b,m,ty,lo⟩]/\dC ρ G cs m
 | .b ty s ds lo,B=> ∃vs,iF s ty (ρ nm) vs B/\IsLs G ds vs/\(∀v∈vs,(aF v).length=s)/\(lo=true-> ∀o∈B,o.lo=true)
 | .c ty s ds cap,B=> ∃vs,iF s ty (ρ nm) vs B/\IsLs G ds vs/\(∀v∈vs,(aF v).length=s)/\(∀o∈B,o.lo=true)/\cap<=(ρ nm).c
def Bk.men(n:Nat):Bk->Prop
 | .o _ cs _=> ∃f∈cs,f.nm=some n
 | .b .. =>False
 | .c .. =>False
section
variable {ρ:NE} {G:Gh} {nm:Nat} {B:Bk} {os:List ak}
def lC.up{A:Gh}(h:lC ρ A nm B os)(k:bD A G):lC ρ G nm B os:=by
 cases B with
 |o ty cs lo=>obtain⟨b,m,h1,h2,h3⟩:=h;exact⟨b,m,h1,h2,h3.up k⟩
 |b ty s ds lo=>obtain⟨vs,h1,h2,h3,h4⟩:=h;exact⟨vs,h1,h2.up k,h3,h4⟩
 |c ty s ds cap=>obtain⟨vs,h1,h2,h3,h4⟩:=h;exact⟨vs,h1,h2.up k,h3,h4⟩
def lC.ren{ρ':NE}(h:lC ρ G nm B os)(h0:ρ' nm=ρ nm)(k: ∀n,B.men n->ρ' n=ρ n):lC ρ' G nm B os:=by
 cases B with
 |o ty cs lo=>obtain⟨b,m,h1,h2,h3⟩:=h;exact⟨b,m,by rw[h0];exact h1,h2,h3.ren fun f hf n hn=>k n ⟨f,hf,hn⟩⟩
 |b ty s ds lo=>obtain⟨vs,h1,h2,h3,h4⟩:=h;exact⟨vs,by rw[h0];exact h1,h2,h3,h4⟩
 |c ty s ds cap=>obtain⟨vs,h1,h2,h3,h4,h5⟩:=h;exact⟨vs,by rw[h0];exact h1,h2,h3,h4,by rw[h0];exact h5⟩
def lC.blk(h:lC ρ G nm B os){o:ak}(ho:o∈os):(ρ nm).a=some ⟨o.b,0,none⟩:=by
 cases B with
 |o ty cs lo=>obtain⟨b,m,h1,rfl,h3⟩:=h;rw[aV.1 ho];exact h1
 |b ty s ds lo=>
  obtain⟨vs,h1,_⟩:=h;rcases h1 with⟨_,_,rfl⟩|⟨b,rest,lo',e,rfl,_⟩
  ·cases ho
  ·rw[aV.1 ho,e]
 |c ty s ds cap=>
  obtain⟨vs,h1,_⟩:=h;rcases h1 with⟨_,_,rfl⟩|⟨b,rest,lo',e,rfl,_⟩
  ·cases ho
  ·rw[aV.1 ho,e]
def lC.mem_of(h:lC ρ G nm B os){b:Nat}(hb:(ρ nm).a=some ⟨b,0,none⟩): ∃o∈os,o.b=b:=by
 cases B with
 |o ty cs lo=>obtain⟨b',m,h1,rfl,h3⟩:=h;rw[h1] at hb;cases hb;exact⟨_,aQ,rfl⟩
 |b ty s ds lo=>
  obtain⟨vs,h1,_⟩:=h;rcases h1 with⟨_,e,rfl⟩|⟨b',rest,lo',e,rfl,_⟩
  ·rw[e] at hb;cases hb
  ·rw[e] at hb;cases hb;exact⟨_,aQ,J⟩
 |c ty s ds cap=>
  obtain⟨vs,h1,_⟩:=h;rcases h1 with⟨_,e,rfl⟩|⟨b',rest,lo',e,rfl,_⟩
  ·rw[e] at hb;cases hb
  ·rw[e] at hb;cases hb;exact⟨_,aQ,J⟩
end
abbrev LK:=Nat->Option FX
abbrev BM:=Nat->Option Bk
structure bG (GB:Gh) (C:aD) (n:Nat) (lk:LK) (bk:BM) (ρ:NE) (G:Gh) (ov:List ak) (a:Act) (w:World):Prop where
 gb:bD GB G
 h:bu C ov G w
 sz:a.tmps.size=n
 df:a.defers=C.mks
 fx: ∀k f,lk k=some f-> ∃y,a.tmps[k]? =some y/\cb ρ G f y
 bx: ∀nm B,bk nm=some B-> ∃os,lC ρ G nm B os/\ ∀o∈os,o∈ov
 dj: ∀nm nm' B B',bk nm=some B->bk nm'=some B'->nm≠nm'-> ∀b,(ρ nm).a=some ⟨b,0,none⟩->(ρ nm').a≠some ⟨b,0,none⟩
 fxd: ∀nm p,n<=nm->2000000<=nm->C.fx nm=some p->(ρ nm).a=some p
structure SX (GB:Gh) (C:aD) (n:Nat) (lk:LK) (bk:BM) (Φ:Act->World->Prop):Prop where
 run: ∀ρ G ov a w,bG GB C n lk bk ρ G ov a w->Φ a w
def kd{α:Type}(f g:Nat->Option α):Prop:= ∀k x,f k=some x->g k=some x
def kd.refl{α:Type}(f:Nat->Option α):kd f f:=fun _ _ h=>h
def ey(lk:LK)(d:Option Nat)(f:FX):LK:=match d with
 |some d=>fun k=>if k=d then some f else lk k
 |none=>lk
def upB:BM->List (Nat×Option Bk)->BM
 |tb,[]=>tb
 |tb,(nm,B)::t=>upB (fun k=>if k=nm then B else tb k) t
def kz(nw:List Nat)(dst:Option Nat)(tl:LK)(tb:BM):Prop:=
 ∀nm∈nw,(∀k f,some k≠dst->tl k=some f->f.nm≠some nm)/\ ∀k B,k≠nm->tb k=some B-> ¬B.men nm
section
variable {GB:Gh} {C:aD} {n:Nat} {lk tl:LK} {bk tb:BM} {ρ:NE} {G:Gh} {ov:List ak} {a:Act} {w:World} {Φ Ψ:Act->World->Prop}
def bG.mono(h:bG GB C n tl tb ρ G ov a w)(h1:kd lk tl)(h2:kd bk tb):bG GB C n lk bk ρ G ov a w:=
 ⟨h.gb,h.h,h.sz,h.df,fun k f e=>h.fx k f (h1 _ _ e),fun k B e=>h.bx k B (h2 _ _ e),fun k k' B B' e e'=>h.dj k k' B B' (h2 _ _ e) (h2 _ _ e'),h.fxd⟩
def SX.imp(h:SX GB C n lk bk Φ)(k: ∀a w,Φ a w->Ψ a w):SX GB C n lk bk Ψ:=⟨fun ρ G ov a w r=>k _ _ (h.run ρ G ov a w r)⟩
structure yw (C:aD) (n:Nat) (a:Act) (dst:Option Nat) (y:Value) (a':Act):Prop where
 sz:a'.tmps.size=n
 df:a'.defers=C.mks
 old: ∀k v,a.tmps[k]? =some v->dst≠some k->a'.tmps[k]? =some v
 new: ∀d,dst=some d->a'.tmps[d]? =some y
def yw.fx{a a':Act}{dst:Option Nat}{y:Value}{ρ':NE}{G':Gh}{f:FX}(p:yw C n a dst y a')(h: ∀k g,some k≠dst->lk k=some g-> ∃u,a.tmps[k]? =some u/\cb ρ' G' g u)(hy:cb ρ' G' f y)(k:Nat)(g:FX)(e:ey lk dst f k=some g):
  ∃u,a'.tmps[k]? =some u/\cb ρ' G' g u:=by
 by_cases hk:some k=dst
 ·subst hk
  simp only[ey,if_true] at e;cases e;exact⟨y,p.new _ J,hy⟩
 ·have e':lk k=some g:=by
   cases dst with
   |none=>exact e
   |some d=>simpa[ey,show k≠d from fun c=>hk (c▸rfl)] using e
  obtain⟨u,h1,h2⟩:=h k g hk e';exact⟨u,p.old _ _ h1 (Ne.symm hk),h2⟩
def bG.putA(r:bG GB C n lk bk ρ G ov a w){dst:Option Nat}(y:Value)(hd:cd n dst=true):yw C n a dst y (a.put dst y):=by
 refine⟨by rw[Q2];exact r.sz,by rw[LU];exact r.df,fun k v h hk=>?_,fun d hk=>?_⟩
 ·cases dst with
  |none=>exact h
  |some d=>simp only[Act.put,fX];rw[if_neg (fun e=>hk (by rw[e]))];exact h
 ·subst hk
  have hdn:d<a.tmps.size:=by rw[r.sz];simpa[cd,mT] using hd
  simp[Act.put,fX,hdn]
def bG.put(r:bG GB C n lk bk ρ G ov a w){dst:Option Nat}{f:FX}{y:Value}{a':Act}(hy:cb ρ G f y)(hp:yw C n a dst y a'):bG GB C n (ey lk dst f) bk ρ G ov a' w:=
 ⟨r.gb,r.h,hp.sz,hp.df,hp.fx (fun k g _ e=>r.fx k g e) hy,r.bx,r.dj,r.fxd⟩
def cG(a:Act):Fr:=nP 0 a.tmps.toList
def c9(a:Act):l7 (cG a) a:=fun k v h=>by
 obtain⟨j,e,h2⟩:=vm _ _ _ _ h;rw[fQ] at e;subst e;simpa using h2
def y4: ∀(vs:List Value) (i j:Nat) (v:Value),vs[j]? =some v->io (nP i vs) (i+j)=some v
 |[],i,j,v,h=>by simp at h
 |x::t,i,0,v,h=>by simp at h;subst h;simp[nP,io]
 |x::t,i,j+1,v,h=>by
  simp at h;have:=y4 t (i+1) j v h;rw[show i+(j+1)=i+1+j by omega];simp only[nP,vS];rw[if_neg (by omega)];exact this
def kG{dst:Option Nat}{y:Value}{ov':List ak}{G':Gh}{a':Act}{w':World}(h:gu C n (Sx.put (cG a) dst y) ov' G' a' w'):yw C n a dst y a':=by
 refine⟨h.sz,h.df,fun k v hk hd=>?_,fun d hd=>?_⟩
 ·have:=y4 a.tmps.toList 0 k v (by simpa using hk)
  rw[fQ] at this
  cases dst with
  |none=>exact h.fr k v this
  |some d=>exact h.fr k v (by simp only[Sx.put,vS];rw[if_neg (fun e=>hd (by rw[e]))];exact this)
 ·subst hd;exact h.fr d y (by simp[Sx.put,vS])
def Ab{k:Nat}{v:Value}(h:a.tmps[k]? =some v):io (cG a) k=some v:=by
 have:=y4 a.tmps.toList 0 k v (by simpa using h);simpa[cG] using this
def aO(lk:LK):Operand->Option FX
 | .tmp k=>lk k
 | .const (.bool true)=>some .tt
 | .const (.bool false)=>some .ff
 | .const (.slice none 0 0)=>some .nl
 | .const v=>some (.d (.v v))
 | .global g=>some (.d (.v (.pointer (some ⟨g,0,none⟩))))
 | .func f=>some (.d (.v (.func (.func f) #[] #[])))
def bG.ev(r:bG GB C n lk bk ρ G ov a w){x:Operand}{f:FX}(e:aO lk x=some f): ∃y,aw (cG a) x=some y/\cb ρ G f y:=by
 cases x with
 |tmp k=>obtain⟨y,h1,h2⟩:=r.fx k f e;exact⟨y,Ab h1,h2⟩
 |const v=>
  refine⟨v,J,?_⟩;unfold aO at e;split at e
  all_goals simp only[Operand.const.injEq,reduceCtorEq] at*
  all_goals (cases e;subst_vars;first|exact J|exact(aH (G:=G)).2 J)
 |global g=>cases e;exact⟨_,J,(aH (G:=G)).2 J⟩
 |func g=>cases e;exact⟨_,J,(aH (G:=G)).2 J⟩
def evD(lk:LK)(x:Operand):Option DV:=match aO lk x with
 |some f=>lh f
 |none=>none
def bG.evD(r:bG GB C n lk bk ρ G ov a w){x:Operand}{d:DV}(e:Sx.evD lk x=some d): ∃y,aw (cG a) x=some y/\Is G d y:=by
 unfold Sx.evD at e;split at e
 ·rename_i f hf
  obtain⟨y,h1,h2⟩:=r.ev hf;exact⟨y,h1,oy h2 e⟩
 ·cases e
def evDs(lk:LK):List Operand->Option (List DV)
 |[]=>some []
 |x::t=>match evD lk x,evDs lk t with
  |some d,some l=>some (d::l)
  |_,_=>none
def bG.evDs(r:bG GB C n lk bk ρ G ov a w): ∀{x:List Operand} {l:List DV},Sx.evDs lk x=some l-> ∃y,fI (cG a) x=some y/\IsLs G l y
 |[],l,e=>by cases e;exact⟨[],J, .nil⟩
 |x::t,l,e=>by
  simp only[Sx.evDs] at e;split at e
  ·rename_i d l' hd hl'
   cases e
   obtain⟨y,h1,h2⟩:=r.evD hd;obtain⟨ys,h3,h4⟩:=r.evDs hl';exact⟨y::ys,by simp only[fI,h1,h3], .cons h2 h4⟩
  ·cases e
def bG.upB(r:bG GB C n lk bk ρ G ov a w){nm:Nat}{B':Bk}{os:List ak}{ov':List ak}{G':Gh}{w':World}(hg:bD G G')(hh:bu C ov' G' w')(hB:lC ρ G' nm B' os)(hos: ∀o∈os,o∈ov')
  (hk: ∀o∈ov,(ρ nm).a≠some ⟨o.b,0,none⟩->o∈ov')(hn: ∃B,bk nm=some B):bG GB C n lk (upB bk [(nm,some B')]) ρ G' ov' a w':=by
 obtain⟨B0,hB0⟩:=hn;refine⟨r.gb.trans hg,hh,r.sz,r.df,fun k f e=>?_,fun m B e=>?_,fun m m' B B2 e e' hne=>?_,r.fxd⟩
 ·obtain⟨y,h1,h2⟩:=r.fx k f e;exact⟨y,h1,h2.up hg⟩
 ·simp only[Sx.upB] at e
  by_cases hm:m=nm
  ·subst hm;simp only[if_true] at e;cases e;exact⟨os,hB,hos⟩
  ·simp only[hm,if_false] at e
   obtain⟨os',h1,h2⟩:=r.bx m B e;refine⟨os',h1.up hg,fun o ho=>hk o (h2 o ho) fun hc=>?_⟩;exact r.dj m nm B B0 e hB0 hm _ (h1.blk ho) hc
 ·simp only[Sx.upB] at e e'
  by_cases hm:m=nm<;>by_cases hm':m'=nm
  ·exact absurd (hm.trans hm'.symm) hne
  ·subst hm;simp only[hm',if_false] at e';exact r.dj m m' B0 B2 hB0 e' hne
  ·subst hm';simp only[hm,if_false] at e;exact r.dj m m' B B0 e hB0 hne
  ·simp only[hm,hm',if_false] at e e';exact r.dj m m' B B2 e e' hne
def bG.dropB(r:bG GB C n lk bk ρ G ov a w)(nm:Nat):bG GB C n lk (Sx.upB bk [(nm,none)]) ρ G ov a w:=
 r.mono (kd.refl _) fun k B e=>by
  simp only[Sx.upB] at e;split at e
  ·cases e
  ·exact e
def vg{m nm:Nat}(x:SV)(h:m≠nm):(fun k=>if k=nm then x else ρ k) m=ρ m:=if_neg h
def bG.new'(r:bG GB C n tl tb ρ G ov a w){nm:Nat}{dst:Option Nat}{x:SV}{B':Bk}{os:List ak}{ov':List ak}{G':Gh}{w':World}{f:FX}{y:Value}(hf:kz [nm] dst tl tb)(hg:bD G G')(hh:bu C ov' G' w')
  (hB:lC (fun k=>if k=nm then x else ρ k) G' nm B' os)(hos: ∀o∈os,o∈ov')(hov: ∀m B,m≠nm->tb m=some B-> ∀o∈ov,(ρ m).a=some ⟨o.b,0,none⟩->o∈ov'/\x.a≠some ⟨o.b,0,none⟩)
  (hy:cb (fun k=>if k=nm then x else ρ k) G' f y){a':Act}(hp:yw C n a dst y a')(hdn:dst=some nm:=by rfl):bG GB C n (ey tl dst f) (Sx.upB tb [(nm,some B')]) (fun k=>if k=nm then x else ρ k) G' ov' a' w':=by
 obtain⟨f1,f2⟩:=hf nm aQ;refine⟨r.gb.trans hg,hh,hp.sz,hp.df,hp.fx (fun k g hk e=>?_) hy,fun m B e=>?_,fun m m' B B2 e e' hne=>?_,fun m p hm hm2 e=>?_⟩
 ·obtain⟨u,h1,h2⟩:=r.fx k g e
  exact⟨u,h1,(h2.up hg).ren fun m hm=>vg x fun hc=>f1 k g hk e (by rw[hm,hc])⟩
 ·simp only[Sx.upB] at e
  by_cases hm:m=nm
  ·subst hm;simp only[if_true] at e;cases e;exact⟨os,hB,hos⟩
  ·simp only[hm,if_false] at e
   obtain⟨os',h1,h2⟩:=r.bx m B e;exact⟨os',(h1.up hg).ren (if_neg hm) fun q hq=>vg x fun hc=>f2 m B hm e (by rw[<-hc];exact hq),fun o ho=>(hov m B hm e o (h2 o ho) (h1.blk ho)).1⟩
 ·simp only[Sx.upB] at e e'
  by_cases hm:m=nm<;>by_cases hm':m'=nm
  ·exact absurd (hm.trans hm'.symm) hne
  ·subst hm;simp only[hm',if_false] at e'
   intro b hb hb';simp only[if_true] at hb;rw[if_neg hm'] at hb';obtain⟨os',h1,h2⟩:=r.bx m' B2 e';obtain⟨o,ho,rfl⟩:=h1.mem_of hb';exact(hov m' B2 hm' e' o (h2 o ho) hb').2 hb
  ·subst hm';simp only[hm,if_false] at e
   intro b hb hb';simp only[if_true] at hb';rw[if_neg hm] at hb;obtain⟨os',h1,h2⟩:=r.bx m B e;obtain⟨o,ho,rfl⟩:=h1.mem_of hb;exact(hov m B hm e o (h2 o ho) hb).2 hb'
  ·simp only[hm,hm',if_false] at e e'
   intro b hb hb';rw[if_neg hm] at hb;rw[if_neg hm'] at hb';exact r.dj m m' B B2 e e' hne b hb hb'
 ·have hlt:nm<n:=by
   obtain⟨h,_⟩:=gQ.1 (hp.new nm hdn);rw[hp.sz] at h;exact h
  rw[if_neg (by omega)];exact r.fxd m p hm hm2 e
def bG.new(r:bG GB C n tl tb ρ G ov a w){nm:Nat}{dst:Option Nat}{x:SV}{B':Bk}{os:List ak}{ov':List ak}{G':Gh}{w':World}{f:FX}{y:Value}(hf:kz [nm] dst tl tb)(hg:bD G G')(hh:bu C ov' G' w')
  (hB:lC (fun k=>if k=nm then x else ρ k) G' nm B' os)(hos: ∀o∈os,o∈ov')(hov: ∀o∈ov,o∈ov')(hnew: ∀o∈ov,x.a≠some ⟨o.b,0,none⟩)
  (hy:cb (fun k=>if k=nm then x else ρ k) G' f y){a':Act}(hp:yw C n a dst y a')(hdn:dst=some nm:=by rfl):bG GB C n (ey tl dst f) (Sx.upB tb [(nm,some B')]) (fun k=>if k=nm then x else ρ k) G' ov' a' w':=
 r.new' hf hg hh hB hos (fun _ _ _ _ o ho _=>⟨hov o ho,hnew o ho⟩) hy hp hdn
end
def b8(P:Program)(GB:Gh)(C:aD)(n:Nat)(lk:LK)(bk:BM)(o:Oper)(f:FX)(bl:List (Nat×Option Bk))(nw:List Nat):Prop:=
 cd n o.dst=true-> ∀(tl:LK) (tb:BM) (K:Act->World->Prop),kd lk tl->kd bk tb->kz nw o.dst tl tb->SX GB C n (ey tl o.dst f) (upB tb bl) K->SX GB C n tl tb (fun a w=> ∀Q,o.wp P a w K Q)
section
variable {P:Program} {GB:Gh} {C:aD} {n:Nat} {lk:LK} {bk:BM} {f:FX}
def b8.yd{o:Oper}(h: ∀ρ G ov a w,bG GB C n lk bk ρ G ov a w-> ∃y,cb ρ G f y/\Yd P C (cG a) ov G o y):b8 P GB C n lk bk o f [] []:=by
 intro hd tl tb K h1 h2 _ hk;refine⟨fun ρ G ov a w r Q=>?_⟩;obtain⟨y,hy,hY⟩:=h ρ G ov a w (r.mono h1 h2);exact ke (hY a w (c9 a) r.h) (hk.run ρ G ov _ w (r.put hy (r.putA y hd)))
end
inductive TK where
 |st (fo:List (Nat×Nat×Nat))
 |sl (e s b:Nat)
 |int (k:IntKind)
 |bl
 |pt
 |fc
 |sc
 |o
structure TI where
 k:TK
 sz:Nat
 z:Option (List FX)
 za:Bool
def Lx:Option Value->Bool
 |some (.agg _)=>true
 |_=>false
def yg:Value->FX
 | .slice none 0 0=> .nl
 | .bool true=> .tt
 | .bool false=> .ff
 |v=> .d (.v v)
def wn(P:Program):List Field->Option (List (Nat×Nat×Nat))
 |[]=>some []
 |f::t=>match P.info? f.type,wn P t with
  |some i,some l=>some ((f.offset,f.type,i.size)::l)
  |_,_=>none
def kw(P:Program)(t:TypeId):TK:=match P.underlying t with
 |some (.struct fs)=>match wn P fs.toList with
  |some l=> .st l
  |none=> .o
 |some (.slice e)=>match P.info? e with
  |some i=> .sl e i.size i.bytes
  |none=> .o
 |some (.int k)=> .int k
 |some .bool=> .bl
 |some (.pointer _)=> .pt
 |some (.interface _)=> .fc
 |some (.array ..)=> .o
 |some .string=> .sc
 |_=> .o
def fg(P:Program)(t:TypeId):Option TI:=match P.info? t with
 |some i=>some ⟨kw P t,i.size,i.zero.map fun v=>(aF v).map yg,Lx i.zero⟩
 |none=>none
abbrev TT:=List (Nat×TI)
def dB:TT->Nat->Option TI
 |[],_=>none
 |(k,v)::t,j=>bif Nat.beq k j then some v else dB t j
def nf(P:Program)(T:TT):Prop:= ∀t i,dB T t=some i->fg P t=some i
def nf.of{P:Program}: ∀{T:TT},T.map (fun e=>some e.2)=T.map (fun e=>fg P e.1)->nf P T
 |[],_,t,i,h=>by cases h
 |(k,v)::T,e,t,i,h=>by
  simp only[bL,List.cons.injEq] at e;simp only[dB] at h
  cases hb:Nat.beq k t with
  |true=>rw[hb] at h;cases h;rw[<-aT hb];exact e.1.symm
  |false=>rw[hb] at h;exact nf.of e.2 t i h
def Wc(ρ:NE)(G:Gh)(v:Value):cb ρ G (yg v) v:=by
 unfold yg;split
 ·exact J
 ·exact J
 ·exact J
 ·exact(aH (G:=G)).2 J
def OG(ρ:NE)(G:Gh): ∀m:List Value,dC ρ G (m.map yg) m
 |[]=>rfl
 |v::m=>⟨v,m,J,Wc ρ G v,OG ρ G m⟩
section
variable {P:Program} {t:TypeId} {i:TI}
def qE(h:fg P t=some i): ∃j,P.info? t=some j/\i=⟨kw P t,j.size,j.zero.map fun v=>(aF v).map yg,Lx j.zero⟩:=by
 unfold fg at h;split at h
 ·rename_i j hj;cases h;exact⟨j,hj,rfl⟩
 ·cases h
def q6{d:TypeDesc}(h:P.underlying t=some d)(w:World):(underlying t).run P w= .ok d w:=by
 show(program>>=_).run P w=_;rw[bc (w':=w) (a:=P) J,h];rfl
def Yq{j:TypeInfo}(h:P.info? t=some j)(w:World):(typeInfo t).run P w= .ok j w:=by
 show(program>>=_).run P w=_;rw[bc (w':=w) (a:=P) J,h];rfl
def tw{j:TypeInfo}(h:P.info? t=some j)(w:World):(sizeOf t).run P w= .ok j.size w:=by
 show(typeInfo t>>=_).run P w=_;rw[bc (Yq h w)];rfl
def A6{d:TypeDesc}(h:P.underlying t=some d)(w:World):(isAgg t).run P w= .ok (match d with| .struct _| .array _ _=>true|_=>false) w:=by
 show(underlying t>>=_).run P w=_;rw[bc (q6 h w)]
 cases d<;>rfl
def TI.ag(i:TI):Option (Option Nat):=match i.k with
 | .st _=>some (some i.sz)
 | .o=>none
 |_=>bif Nat.beq i.sz 1 then some none else none
theorem Aq{k:Nat}(h:fg P t=some i)(hk:i.ag=some (some k)):lA P t k:=by
 obtain⟨j,h1,rfl⟩:=qE h;unfold TI.ag at hk
 cases e:kw P t with
 |st fo=>
  simp only[e] at hk;cases hk;unfold kw at e;split at e<;>first|(cases e;done)|skip
  ·rename_i fs hu;exact⟨fun w=>A6 hu w,fun w=>tw h1 w⟩
  ·split at e<;>cases e
 |o=>simp only[e] at hk;cases hk
 |_=>simp only[e,cond_eq_ite] at hk;split at hk<;>cases hk
theorem A3(h:fg P t=some i)(hk:i.ag=some none):gG P t:=by
 obtain⟨j,h1,rfl⟩:=qE h;unfold TI.ag at hk;have key:j.size=1->(∀w,(isAgg t).run P w= .ok false w)->gG P t:=fun e1 e2=>⟨e2,fun w=>by rw[tw h1 w,e1]⟩
 cases e:kw P t with
 |st fo=>simp only[e] at hk;cases hk
 |o=>simp only[e] at hk;cases hk
 |_=>
  simp only[e,cond_eq_ite] at hk;split at hk
  ·rename_i hb
   refine key (aT hb) fun w=>?_;unfold kw at e;split at e<;>first|(cases e;done)|skip
   all_goals first
    |(rename_i hu;rw[A6 hu w];done)
    |(split at e<;>first|(cases e;done)|(rename_i hu _ _ _;rw[A6 hu w];done))
  ·cases hk
def Bs{z:List FX}(h:fg P t=some i)(hz:i.z=some z): ∃v,gh P t v/\ ∀ρ G,dC ρ G z (aF v):=by
 obtain⟨j,h1,rfl⟩:=qE h
 cases hv:j.zero with
 |none=>simp only[hv] at hz;cases hz
 |some v=>
  simp only[hv] at hz;cases hz;exact⟨v,⟨by rw[h1];simp[hv]⟩,fun ρ G=>OG ρ G _⟩
def IA: ∀{fs:List Field} {l:List (Nat×Nat×Nat)} {k off ft s:Nat},wn P fs=some l->l[k]? =some (off,ft,s)-> ∃f,fs[k]? =some f/\f.offset=off/\f.type=ft/\ ∃j,P.info? ft=some j/\j.size=s
 |[],l,k,off,ft,s,h,e=>by cases h;simp at e
 |f::fs,l,k,off,ft,s,h,e=>by
  simp only[wn] at h;split at h
  ·rename_i j l' hj hl
   cases h
   cases k with
   |zero=>simp at e;obtain⟨rfl,rfl,rfl⟩:=e;exact⟨f,rfl,rfl,rfl,j,hj,rfl⟩
   |succ k=>simp at e;obtain⟨g,h1,h2⟩:=IA hl e;exact⟨g,by simpa using h1,h2⟩
  ·cases h
def Ud: ∀{fs:List Field} {l:List (Nat×Nat×Nat)},wn P fs=some l-> ∀w,(fs.mapM (m:=Sem) fun f=>do pure (f.offset,<-sizeOf f.type)).run P w= .ok (l.map fun x=>(x.1,x.2.2)) w
 |[],l,h,w=>by cases h;rfl
 |f::fs,l,h,w=>by
  simp only[wn] at h;split at h
  ·rename_i j l' hj hl
   cases h
   rw[oU];have h1:(do pure (f.offset,<-sizeOf f.type):Sem (Nat×Nat)).run P w= .ok (f.offset,j.size) w:=by
    rw[bc (tw hj w)];rfl
   rw[bc h1,bc (Ud hl w)];rfl
  ·cases h
def K5{fo:List (Nat×Nat×Nat)}(h:fg P t=some i)(hk:i.k= .st fo): ∃fs,P.underlying t=some (.struct fs)/\wn P fs.toList=some fo:=by
 obtain⟨j,h1,rfl⟩:=qE h;have e:kw P t= .st fo:=hk;unfold kw at e;split at e<;>first|(cases e;done)|skip
 ·rename_i fs hu
  split at e
  ·rename_i l hl;cases e;exact⟨fs,hu,hl⟩
  ·cases e
 ·split at e<;>cases e
theorem aGB{fo:List (Nat×Nat×Nat)}{f off ft s:Nat}(h:fg P t=some i)(hk:i.k= .st fo)(hf:fo[f]? =some (off,ft,s)):I4 P t f off ft:=by
 obtain⟨fs,hu,hl⟩:=K5 h hk;obtain⟨g,h1,h2,h3,_⟩:=IA hl hf;exact⟨fs,g,fun w=>q6 hu w,by simpa using h1,h2,h3⟩
theorem aGx{fo:List (Nat×Nat×Nat)}{f off ft s:Nat}(h:fg P t=some i)(hk:i.k= .st fo)(hf:fo[f]? =some (off,ft,s+1)):ly P t f off:=by
 obtain⟨fs,hu,hl⟩:=K5 h hk;obtain⟨g,h2,h3,h4,j,h5,h6⟩:=IA hl hf;refine⟨fun b o w=>?_⟩;unfold Instr.fieldAt;rw[bc (q6 hu w)];have h2':fs[f]? =some g:=by simpa using h2
 simp only[h2'];have:(fieldPlace ⟨b,o,none⟩ g).run P w= .ok (Addr.add ⟨b,o,none⟩ off) w:=by
  unfold fieldPlace;rw[h4,bc (tw h5 w),h6,h3];rfl
 show(fieldPlace ⟨b,o,none⟩ g>>=_).run P w=_;rw[bc this];rfl
theorem Se{fo:List (Nat×Nat×Nat)}(h:fg P t=some i)(hk:i.k= .st fo):EE P t (fo.map fun x=>(x.1,x.2.2)):=by
 obtain⟨fs,hu,hl⟩:=K5 h hk;refine⟨fs,fun w=>q6 hu w,fun w=>?_⟩;rw[Array.mapM_eq_mapM_toList,map_eq_pure_bind,bc (Ud hl w)];rfl
theorem ja{e s b:Nat}(h:fg P t=some i)(hk:i.k= .sl e s b):cv P t e s b:=by
 obtain⟨j,h1,rfl⟩:=qE h;have e':kw P t= .sl e s b:=hk;unfold kw at e';split at e'<;>first|(cases e';done)|skip
 ·split at e'<;>cases e'
 ·rename_i el hu
  split at e'
  ·rename_i q hq;cases e';exact⟨hu,by rw[hq];rfl⟩
  ·cases e'
theorem A9{k:IntKind}(h:fg P t=some i)(hk:i.k= .int k):nk P t k:=by
 obtain⟨j,h1,rfl⟩:=qE h;have e:kw P t= .int k:=hk;unfold kw at e;split at e<;>first|(cases e;done)|(split at e<;>cases e;done)|skip
 rename_i k' hu;cases e;exact⟨fun w=>q6 hu w⟩
theorem WY(h:fg P t=some i)(hk:i.k= .bl):JI P t:=by
 obtain⟨j,h1,rfl⟩:=qE h;have e:kw P t= .bl:=hk;unfold kw at e;split at e<;>first|(cases e;done)|(split at e<;>cases e;done)|skip
 rename_i hu;exact⟨fun w=>q6 hu w⟩
theorem Sd(h:fg P t=some i)(hk:i.k= .pt):JH P t:=by
 obtain⟨j,h1,rfl⟩:=qE h;have e:kw P t= .pt:=hk;unfold kw at e;split at e<;>first|(cases e;done)|(split at e<;>cases e;done)|skip
 rename_i el hu;exact⟨el,fun w=>q6 hu w⟩
theorem aF5(h:fg P t=some i)(hk:i.k= .fc):HT P t:=by
 obtain⟨j,h1,rfl⟩:=qE h;have e:kw P t= .fc:=hk;unfold kw at e;split at e<;>first|(cases e;done)|(split at e<;>cases e;done)|skip
 rename_i el hu;exact⟨el,fun w=>q6 hu w⟩
end
end Go.Sx
end
