/- Part 17 of a proof. -/
import Derived.Test.YtopfgminkdfpkaaGreatDoorMx16
set_option linter.unusedSimpArgs false
set_option maxHeartbeats 4000000
set_option maxRecDepth 100000
set_option linter.unusedVariables false
section
namespace Go.Sx
open Go Go.Proofs Tryz
variable {GB:Gh}
section
variable {GB:Gh} {C:Ctx} {n:Nat} {Q0:Exit→Act→World→Prop} {fr fr':FrX} {own own':OwX} {cf cf':Cf} {vc:List Prop}
def PR(GB:Gh)(P:Program)(f:FuncId)(ds:List DV)(s:Nat)(ty:TypeId)(rows:List DV):Prop:=
 ∀G vs,GLe GB G→IsLs G ds vs→FnO P f vs [] G (fun v own' G'=> ∃w:SV,v= .slice w.a w.n w.c∧abb G' ⟨w,s,ty,rows,true⟩ own')
theorem asC: ∀(l:List Own),(∀o∈l,o.lo=true)→l.map (relo (flM []))=l
 |[],_=>rfl
 |a::t,h=>by
  have h1:=h a aQ
  rw[bY,asC t fun o ho=>h o (aX _ ho)]
  congr 1
  cases a
  simp[relo,flM] at*
  exact h1
theorem avA{lk:LK}{bk:BM}{fo:Operand}{args:Array Operand}{tys:Array TypeId}{f:FuncId}{d s:Nat}{ds rows:List DV}{ty ty2:TypeId}{pos:String}{af:Array Edge}{gd:Option (Nat×Bool)}
  (ha:al5 lk fo args=some (f,ds))(hF:PR GB prog f ds s ty2 rows):OpR prog GB C n lk bk ⟨some d, .call ⟨.value fo,args,tys⟩,ty,pos,af,gd⟩ (.rw d) [(d,some (.b ty2 s rows true))] [d]:=by
 intro hd tl tb K' s1 s2 hf hk
 refine⟨fun ρ G ov a w r Q=>?_⟩
 have r1:=r.mono s1 s2
 obtain⟨h1,h2⟩:=al3 ha
 obtain⟨y,hy,hy'⟩:=r1.ev h1
 rw[(aaP (G:=G)).1 hy'] at hy
 obtain⟨vs,h3,h4⟩:=r1.evDs h2
 refine ad3 (M:=[]) (rest:=ov) hy h3 (List.Perm.refl _) (hF G vs r.gb h4) hd (fun v own1 G' hG hK a' w' rl=>?_) a w Q ⟨r.h,r.sz,aaQ a,r.df⟩
 obtain⟨z,rfl,vs',k1,k2,k3,k4⟩:=hK
 rw[asC _ (k4 rfl)] at rl
 have rl':Rel C n (Sx.put (frA a) (some d) (.slice z.a z.n z.c)) (own1++ov) G' a' w':=rl
 have hdis:=(gU.1 rl'.h.nd).2.2
 have r3:=r.new' (x:=z) (B':= .b ty2 s rows true) (os:=own1) (ov':=own1++ov) (f:= .rw d) (y:= .slice z.a z.n z.c) hf hG.le rl'.h ⟨vs',by simpa using k1,k2,k3,k4⟩ (fun o ho=>bN _ ho)
  (fun q B0 hq e o ho hbq=>⟨cJ _ ho,fun hc=>by
   have hx: ∃o1∈own1,o1.b=o.b:=by
    rcases k1 with⟨_,h,_⟩|⟨b0,rest0,lo0,h,hB,_⟩
    ·rw[show z=_ from h] at hc;cases hc
    ·rw[show z=_ from h] at hc;cases hc;exact⟨⟨_,aag vs'++rest0,_,lo0⟩,by rw[hB];exact aQ,rfl⟩
   obtain⟨o1,ho1,he1⟩:=hx
   exact hdis o1 ho1 o ho he1⟩) (by simp[IsX]) (abg rl')
 exact hk.run _ G' _ a' w' r3
def aFP(fr:FrX)(cf:Cf):Option (FuncId×List DV×Nat):=match opC fr cf with
 |some ⟨some d, .call ⟨.value fo,args,_⟩,_,_,_,_⟩=>match al5 (lkC fr cf) fo args with
  |some (f,ds)=>some (f,ds,d)
  |none=>none
 |_=>none
theorem cr[fu:Fu]{f:FuncId}{d s:Nat}{ds rows:List DV}{ty:TypeId}(ha:aFP fr cf=some (f,ds,d))(hF:PR GB prog f ds s ty rows)
  (hgo:goA tt n fu.n fr own cf (.rw d) [(d,some (.b ty s rows true))] [d]=⟨vc,fr',own',cf'⟩)(k:CfS prog GB C n Q0 fr' own' cf')
  (hv:aai vc:=by first|exact trivial|(simp only[aai];kernel_rfl)|(simp only[aai];omega)|(simp only[aai,aJ,aS,aW];omega)):CfS prog GB C n Q0 fr own cf:=by
 unfold aFP at ha
 split at ha<;>try (cases ha;done)
 rename_i hh
 split at ha<;>cases ha
 rename_i h1
 exact us hh (avA h1 hF) hgo hv k
def ap4(C:Ctx)(s:Nat)(ty:TypeId)(rows:List DV):Ending→World→Prop:=af2 C (fun v own' G'=> ∃w:SV,v= .slice w.a w.n w.c∧abb G' ⟨w,s,ty,rows,true⟩ own')
theorem fnR[fu:Fu]{f:FuncId}{fb:Func}{c:Code}{m s:Nat}{ds rows:List DV}{ty:TypeId}(hf:prog.funcs[f]? =some fb)(hb:fb.body=some c)(hn:(fb.name== "runtime.NumGoroutine")=false)(hm:fb.ntmps=m)(hlen:Nat.ble ds.length m=true)
  (hgo:go tt m fu.n [] (ai8 0 ds) [] (.code c [])=⟨vc,fr,own,cf⟩)(k: ∀C:Ctx,C.mb=[]→CfS prog GB C m (bodyPost prog fb (ap4 C s ty rows)) fr own cf)
  (hv:aai vc:=by first|exact trivial|(simp only[aai];kernel_rfl)|(simp only[aai];omega)|(simp only[aai,aJ,aS,aW];omega)):PR GB prog f ds s ty rows:=by
 intro G vs hg hvs
 refine FnO.intro hf hb hn hm (by rw[hvs.len];exact hlen) fun C _ hmb=>?_
 intro a w rl
 have h:=gx' (GB:=GB) (C:=C) (Q0:=bodyPost prog fb (ap4 C s ty rows)) hgo hv (k C (by simpa using hmb))
 exact h.run (fun _=>⟨none,0,0⟩) G [] a w ⟨hg,rl.h,rl.sz,rl.df,(fun k f e=>aov hvs rl.fr k f e),(fun nm B e=>by cases e),(fun nm nm' B B' e=>by cases e)⟩
theorem rzR{fb:Func}{t d s:Nat}{ty:TypeId}{rows rws:List DV}(hr:fb.results.toList=[.tmp t])(hl:aay fr t=some (.rw d))(hw:aaA own d=some (.b ty s rws true))(er:rws=rows):
  CfS prog GB C n (bodyPost prog fb (ap4 C s ty rows)) fr own (.ex .ret []):=by
 subst er
 refine⟨fun ρ G ov a w r=>?_⟩
 obtain⟨B,g1,g2⟩:=r.bx _ _ hw
 have hB:abb G ⟨ρ d,s,ty,rws,true⟩ B:=g1
 obtain⟨rest,hp⟩:=alG hB g2
 obtain⟨y,hy,hy'⟩:=r.ev (x:= .tmp t) (f:= .rw d) hl
 cases (show y=_ from hy')
 exact aeH (C:=C) (n:=n) (fr:=frA a) (own:=ov) (G:=G) (vs:=[.slice (ρ d).a (ρ d).n (ρ d).c]) (by rw[hr];exact .tmp hy .nil) (B++rest) B hp (nQ _ _) ⟨ρ d,rfl,hB⟩ a w ⟨r.h,r.sz,aaQ a,r.df⟩
theorem aGe{fb:Func}{t s:Nat}{ty:TypeId}{rows:List DV}(hr:fb.results.toList=[.tmp t])(hl:aay fr t=some .nl)(er:rows=[]):
  CfS prog GB C n (bodyPost prog fb (ap4 C s ty rows)) fr own (.ex .ret []):=by
 subst er
 refine⟨fun ρ G ov a w r=>?_⟩
 obtain⟨y,hy,hy'⟩:=r.ev (x:= .tmp t) (f:= .nl) hl
 cases (show y=_ from hy')
 exact aeH (C:=C) (n:=n) (fr:=frA a) (own:=ov) (G:=G) (vs:=[.slice none 0 0]) (by rw[hr];exact .tmp hy .nil) ([]++ov) [] (List.Perm.refl _) (kL _) ⟨⟨none,0,0⟩,rfl,[], .inl ⟨rfl,rfl,rfl⟩,aaH.2 rfl,fun v h=>(by cases h),fun _ o h=>(by cases h)⟩ a w ⟨r.h,r.sz,aaQ a,r.df⟩
end
theorem amK{b:Bool}:PR GB prog 53 [eT (Tr.leaf b)] 6 88 ((Tr.leaf b).lns.map eL):=by
 refine fnR (fu:=⟨11⟩) func53 J J ntmps53 J J (fun C hmb=>?_)
 refine knT J J J<|?_
 exact aGe J J J
theorem anb{l:LnQ}{x y:Tr}(hs:(Tr.node l x y).size≤100000)(ihx:PR GB prog 53 [eT x] 6 88 (x.lns.map eL))(ihy:PR GB prog 53 [eT y] 6 88 (y.lns.map eL)):PR GB prog 53 [eT (Tr.node l x y)] 6 88 ((Tr.node l x y).lns.map eL):=by
 have hsx:=agf x
 have hsy:=agf y
 have hsz:(Tr.node l x y).size=1+x.size+y.size:=rfl
 refine fnR (fu:=⟨11⟩) func53 J J ntmps53 J J (fun C hmb=>?_)
 refine knF J J J<|ro J J<|cr rfl ihx rfl<|ap (hbd:=by simp only[aJ,bJ,dV];omega) ((l::x.lns).map eL) rfl (by rw[bY];rfl) (abz _) rfl<|?_
 refine cr rfl ihy rfl<|ap (hbd:=by simp only[aJ,bJ,dV];omega) ((l::(x.lns++y.lns)).map eL) rfl (by rw[bY,bY,bK];rfl) (abz _) rfl<|?_
 exact rzR J J J J
theorem aoz: ∀{t:Tr},t.size≤100000→PR GB prog 53 [eT t] 6 88 (t.lns.map eL)
 | .leaf _,_=>amK
 | .node l x y,h=>anb h (aoz (by have:(Tr.node l x y).size=1+x.size+y.size:=rfl;omega)) (aoz (by have:(Tr.node l x y).size=1+x.size+y.size:=rfl;omega))
def atO:Tr→PtQ→Bool
 | .leaf _,_=>true
 | .node l x y,p=>if(l.value p).num.sign=1 then atO x p else if(l.value p).num.sign= -1 then atO y p else false
theorem aCM{t:Tr}{p:PtQ}{i:Nat}[hp:BPt p i](hb:t.all LB)(hi:i≤400000:=by decide):PF GB prog 34 [eT t,eP p] (.tp [vB (atQ t p),vB (atO t p)]):=by
 refine fn func34 J J ntmps34 J J (fun C=>?_)
 refine lp (fu:=⟨3⟩) (X:=Tr) (fun s=>[(0, .d (eT s))]) (fun s=>[]) (fun s=>atQ s p=atQ t p∧atO s p=atO t p∧s.all LB) (fun s=>s.size) t rfl ⟨rfl,rfl,hb⟩ (fun _=>rfl) (fun s hk=>?_)
 obtain⟨h1,h2,hb2⟩:=hk
 rcases s with b|⟨l,x,y⟩
 ·
  have hA:atQ t p=b:=h1.symm
  have hO:atO t p=true:=h2.symm
  refine gx (fu:=⟨3⟩) rfl<|knT J J J<|?_
  exact rz rfl (by rw[hA,hO];rfl)
 ·
  have hAn:=h1.symm
  have hOn:=h2.symm
  rw[atQ] at hAn
  rw[atO] at hOn
  haveI:=hb2.1
  refine gx (fu:=⟨3⟩) rfl<|knF J J J<|cl rfl (ans (l:=l) (p:=p) (i:=i) hi) rfl<|?_
  refine br J J J (fun hc17=>?_) (fun hc17=>?_)
  ·
   exact at_ x ⟨⟨by rw[hAn,if_pos hc17],by rw[hOn,if_pos hc17],hb2.2.1⟩,(by simp only[Tr.size];omega)⟩
  ·
   refine br J J J (fun hc23=>?_) (fun hc23=>?_)
   ·
    exact at_ y ⟨⟨by rw[hAn,if_neg hc17,if_pos hc23],by rw[hOn,if_neg hc17,if_pos hc23],hb2.2.2⟩,(by simp only[Tr.size];omega)⟩
   ·
    exact rz rfl (by rw[hAn,hOn,if_neg hc17,if_neg hc23,if_neg hc17,if_neg hc23];rfl)
theorem aiP(ls:List LnQ):(aa5 ls).length≤ls.length:=by
 have:=agw ael (ls.map LnQ.canon) []
 unfold aa5 ahF
 rw[aJ,dV] at this
 omega
theorem awP{l:List LnQ}(hl: ∀a∈l,LB a): ∀p∈adW l,BPt p 4900:=fun p hp=>by
 obtain⟨h1,h2⟩:=anL.1 hp
 have hx:BQ p.x 1900:=aln (k:=900) (fun q hq=>an3 hl q (aew.1 hq)) _ h1
 have hy:BQ p.y 4900:=aln (k:=2400) (fun q hq=>ayt hl hx q (aew.1 hq)) _ h2
 exact⟨hx.mono (by decide),hy⟩
theorem alz{ls:List LnQ}(h: ∀l∈ls,LB l): ∀l∈aa5 ls,LB l:=fun l hl=>by
 obtain⟨x,hx,rfl⟩:=afg hl
 haveI:=h x hx
 infer_instance
theorem auO{ls:List LnQ}(h: ∀l∈ls,l.ok): ∀l∈aa5 ls,l.Ne:=fun l hl=>by
 obtain⟨x,hx,rfl⟩:=afg hl
 exact(alE (h x hx)).ne
structure Two (a b:Tr):Prop where
 ga:a.gd
 gb:b.gd
 sa:a.size≤3000
 sb:b.size≤3000
def f1R(x y:Bool):Bool:=x&&!y
def f2R(x y:Bool):Bool:=y&&!x
def f3R(x y:Bool):Bool:=x&&y
def f4R(x y:Bool):Bool:=!x&&!y
def anK(f:Bool→Bool→Bool)(a b:Tr)(k:Nat):Bool:=((fcs a b).take k).any fun p=>f (atQ a p) (atQ b p)
def aFE(t:Tr):List aan:=((t.parts []).filter (·.1)).map (·.2)
def aFH(l:LnQ)(p:PtQ):aan→Rat→Rat
 |[],f=>f
 |s::c,f=>aFH l p c (if Int.sign (s.l.nor.dot l.nor).num<0 then(if-(s.l.value p/s.l.nor.dot l.nor)<f then-(s.l.value p/s.l.nor.dot l.nor) else f) else f)
def aF4:aan→PtQ
 |[]=>⟨0,0⟩
 |s::c=>aeF (s.l.at s.v.sample) s.l.nor (aFH s.l (s.l.at s.v.sample) c 1*mkRat 1 2)
def ago:Tr→PtQ→PtQ→Bool×Bool
 | .leaf b,_,_=>(b,true)
 | .node l x y,p,v=>match (if(l.value p).num.sign=0 then(l.dir.cross v).num.sign else(l.value p).num.sign) with
  |1=>ago x p v
  | -1=>ago y p v
  |_=>(false,false)
theorem aeB(l:LnQ)(v:PtQ):l.dir.cross v=l.nor.dot v:=by
 unfold LnQ.dir LnQ.nor PtQ.cross PtQ.dot
 grind
def Gn(L:List LnQ)(p v:PtQ):Prop:= ∀l∈L,l.value p=0→l.nor.dot v≠0
theorem aaU(p:PtQ):(p.half=1∧(0<p.y∨(p.y=0∧0<p.x)))∨(p.half=2∧(p.y<0∨(p.y=0∧p.x<0)))∨(p.half=0∧p.y=0∧p.x=0):=by
 unfold PtQ.half
 simp only[acZ,ajd,ab3]
 split
 ·rename_i h;exact .inl ⟨rfl,h⟩
 ·rename_i h
  split
  ·rename_i h2
   exact .inr (.inl ⟨rfl,by grind⟩)
  ·rename_i h2
   exact .inr (.inr ⟨rfl,by grind,by grind⟩)
theorem aeN{p:PtQ}:p.half=1↔(0<p.y∨(p.y=0∧0<p.x)):=by
 rcases aaU p with⟨h,k⟩|⟨h,k⟩|⟨h,k⟩<;>rw[h]<;>grind
theorem ae0{p:PtQ}:p.half=2↔(p.y<0∨(p.y=0∧p.x<0)):=by
 rcases aaU p with⟨h,k⟩|⟨h,k⟩|⟨h,k⟩<;>rw[h]<;>grind
def Bef(u v:PtQ):Prop:=u.half<v.half∨(u.half=v.half∧0<u.cross v)
theorem ad9{u v:PtQ}:aaE u v<0↔Bef u v:=by
 unfold aaE Bef
 split
 ·rename_i h;exact⟨fun _=> .inl h,fun _=>by decide⟩
 ·rename_i h
  split
  ·rename_i h2;exact⟨fun e=>absurd e (by decide),fun e=>by omega⟩
  ·rename_i h2
   have e:u.half=v.half:=by omega
   rw[←acZ]
   constructor
   ·intro k;exact .inr ⟨e,by omega⟩
   ·rintro (k|⟨_,k⟩)
    ·omega
    ·omega
def ack(d:PtQ):PtQ:=⟨-d.x, -d.y⟩
theorem adU{d:PtQ}(h:d.half≠0):(ack d).half=3-d.half:=by
 rcases aaU d with⟨e,k⟩|⟨e,k⟩|⟨e,k⟩
 ·rw[e];exact ae0.2 (by unfold ack;grind)
 ·rw[e];exact aeN.2 (by unfold ack;grind)
 ·exact absurd e h
theorem abX{d:PtQ}(h:d.half≠0):d.half=1∨d.half=2:=by
 rcases aaU d with⟨e,_⟩|⟨e,_⟩|⟨e,_⟩
 ·exact .inl e
 ·exact .inr e
 ·exact absurd e h
def Nxt(ds:List PtQ)(u w:PtQ):Prop:=(Bef u w∧ ∀d∈ds,¬(Bef u d∧Bef d w))∨((∀d∈ds,¬Bef u d)∧ ∀d∈ds,¬Bef d w)
structure axZ (ds:List PtQ):Prop where
 nz: ∀d∈ds,d.half≠0
 neg: ∀d∈ds,ack d∈ds
theorem aki(u:PtQ):u.cross u=0:=by unfold PtQ.cross;grind
theorem aaz(u v:PtQ):v.cross u= -u.cross v:=by unfold PtQ.cross;grind
theorem abJ(u v:PtQ):u.cross (ack v)= -u.cross v:=by unfold PtQ.cross ack;grind
theorem Nxt.spec{ds:List PtQ}{u w:PtQ}(h:axZ ds)(hu:u∈ds)(hw:w∈ds)(hn:Nxt ds u w):
  (u.half=w.half∧0<u.cross w∧ ∀d∈ds,¬(Bef u d∧Bef d w))∨(u.half≠w.half∧(∀d∈ds,d.half=u.half→0≤d.cross u)∧ ∀d∈ds,d.half=w.half→0≤w.cross d):=by
 have zu:=abX (h.nz u hu)
 have zw:=abX (h.nz w hw)
 rcases hn with⟨h1,h2⟩|⟨h1,h2⟩
 ·rcases h1 with k|⟨k,k2⟩
  ·refine .inr ⟨by omega,fun d hd e=>?_,fun d hd e=>?_⟩
   ·have:=h2 d hd
    rw[aaz]
    by_cases hc:0<u.cross d
    ·exact absurd ⟨.inr ⟨e.symm,hc⟩, .inl (by omega)⟩ this
    ·grind
   ·have:=h2 d hd
    by_cases hc:0<d.cross w
    ·exact absurd ⟨.inl (by omega), .inr ⟨e,hc⟩⟩ this
    ·rw[aaz] at hc;grind
  ·exact .inl ⟨k,k2,h2⟩
 ·have nu:=adU (h.nz u hu)
  have a1:=h1 _ (h.neg u hu)
  have a2:=h2 _ (h.neg u hu)
  unfold Bef at a1 a2
  rw[nu] at a1 a2
  refine .inr ⟨fun e=>?_,fun d hd e=>?_,fun d hd e=>?_⟩
  ·rcases zu with z|z
   ·exact a1 (.inl (by omega))
   ·exact a2 (.inl (by omega))
  ·have:=h1 d hd
   rw[aaz]
   by_cases hc:0<u.cross d
   ·exact absurd (.inr ⟨e.symm,hc⟩) this
   ·grind
  ·have:=h2 d hd
   by_cases hc:0<d.cross w
   ·exact absurd (.inr ⟨e,hc⟩) this
   ·rw[aaz] at hc;grind
theorem Nxt.pos{ds:List PtQ}{u w:PtQ}(h:axZ ds)(hu:u∈ds)(hw:w∈ds)(hn:Nxt ds u w):0≤u.cross w:=by
 rcases hn.spec h hu hw with⟨_,h2,_⟩|⟨h1,h2,h3⟩
 ·grind
 ·have:=h3 _ (h.neg u hu) (by rw[adU (h.nz u hu)];have:=abX (h.nz u hu);have:=abX (h.nz w hw);omega)
  rw[abJ] at this
  rw[aaz];exact this
def btw(a b:Rat)(u w:PtQ):PtQ:=⟨a*u.x+b*w.x,a*u.y+b*w.y⟩
theorem am0{a b:Rat}{u w:PtQ}:u.cross (btw a b u w)=b*u.cross w∧(btw a b u w).cross w=a*u.cross w:=by
 unfold PtQ.cross btw
 constructor<;>grind
theorem alf{a b:Rat}{u w:PtQ}(ha:0<a)(hb:0<b)(h:u.half=w.half)(hz:u.half≠0):(btw a b u w).half=u.half:=by
 rcases aaU u with⟨e,k⟩|⟨e,k⟩|⟨e,k⟩
 ·rw[e] at h⊢
  have k2:=aeN.1 h.symm
  refine aeN.2 ?_
  unfold btw
  simp only
  have p1: ∀z:Rat,0<z→0<a*z:=fun z hz=>aad ha hz
  have p2: ∀z:Rat,0<z→0<b*z:=fun z hz=>aad hb hz
  rcases k with k|⟨k,k'⟩<;>rcases k2 with l|⟨l,l'⟩
  ·have:=p1 _ k;have:=p2 _ l;grind
  ·have:=p1 _ k;rw[l];grind
  ·have:=p2 _ l;rw[k];grind
  ·have:=p1 _ k';have:=p2 _ l';rw[k,l];grind
 ·rw[e] at h⊢
  have k2:=ae0.1 h.symm
  refine ae0.2 ?_
  unfold btw
  simp only
  have p1: ∀z:Rat,z<0→a*z<0:=fun z hz=>by have:=aad (a:=a) (b:= -z) ha (by grind);grind
  have p2: ∀z:Rat,z<0→b*z<0:=fun z hz=>by have:=aad (a:=b) (b:= -z) hb (by grind);grind
  rcases k with k|⟨k,k'⟩<;>rcases k2 with l|⟨l,l'⟩
  ·have:=p1 _ k;have:=p2 _ l;grind
  ·have:=p1 _ k;rw[l];grind
  ·have:=p2 _ l;rw[k];grind
  ·have:=p1 _ k';have:=p2 _ l';rw[k,l];grind
 ·exact absurd e hz
theorem Nxt.none{ds:List PtQ}{u w:PtQ}(h:axZ ds)(hu:u∈ds)(hw:w∈ds)(hn:Nxt ds u w)(hc:u.cross w≠0){a b:Rat}(ha:0<a)(hb:0<b):btw a b u w∉ds:=fun hd=>by
 have hp:=hn.pos h hu hw
 have hp:0<u.cross w:=by grind
 obtain⟨c1,c2⟩:=am0 (a:=a) (b:=b) (u:=u) (w:=w)
 have d1:0<u.cross (btw a b u w):=by rw[c1];exact aad hb hp
 have d2:0<(btw a b u w).cross w:=by rw[c2];exact aad ha hp
 have zu:=abX (h.nz u hu)
 have zw:=abX (h.nz w hw)
 have zd:=abX (h.nz _ hd)
 rcases hn.spec h hu hw with⟨h1,_,h3⟩|⟨h1,h2,h3⟩
 ·have e:=alf ha hb h1 (h.nz u hu)
  exact h3 _ hd ⟨.inr ⟨e.symm,d1⟩, .inr ⟨e.trans h1,d2⟩⟩
 ·rcases(show(btw a b u w).half=u.half∨(btw a b u w).half=w.half by omega) with e|e
  ·have:=h2 _ hd e
   rw[aaz] at this;grind
  ·have:=h3 _ hd e
   rw[aaz] at this;grind
theorem ahU{d e:PtQ}(h:e.cross d=0)(hp:0<e.dot d): ∃g:Rat,0<g∧e=⟨g*d.x,g*d.y⟩:=by
 have hd:0<d.dot d:=by
  unfold PtQ.dot at*
  have h1:=abq d.x
  have h2:=abq d.y
  rcases abk d.x with k|k|k
  ·rcases abk d.y with l|l|l
   ·rw[k,l] at hp;grind
   ·have:=aad l l;grind
   ·have:=aad (a:= -d.y) (b:= -d.y) (by grind) (by grind);grind
  ·have:=aad k k;grind
  ·have:=aad (a:= -d.x) (b:= -d.x) (by grind) (by grind);grind
 have key:e.x*d.dot d=e.dot d*d.x∧e.y*d.dot d=e.dot d*d.y:=by
  unfold PtQ.dot PtQ.cross at*
  constructor<;>grind
 have hg:e.dot d/d.dot d*d.dot d=e.dot d:=by grind
 refine⟨e.dot d/d.dot d,(aaD hd).1 (by rw[hg];exact hp),?_⟩
 generalize e.dot d/d.dot d=g at*
 have x1:e.x=g*d.x:=by
  have:(e.x-g*d.x)*d.dot d=0:=by rw[←hg] at key;grind
  have hz:d.dot d≠0:=by grind
  grind
 have x2:e.y=g*d.y:=by
  have:(e.y-g*d.y)*d.dot d=0:=by rw[←hg] at key;grind
  have hz:d.dot d≠0:=by grind
  grind
 rw[←x1,←x2]
theorem aph{e u:PtQ}(he:e.half≠0)(hu:u.half≠0)(hp:e.cross u=0):e.dot u≠0:=fun hz=>by
 have e1:e.x*(u.x*u.x+u.y*u.y)=0:=by unfold PtQ.dot PtQ.cross at*;grind
 have e2:e.y*(u.x*u.x+u.y*u.y)=0:=by unfold PtQ.dot PtQ.cross at*;grind
 have hu2:u.x*u.x+u.y*u.y≠0:=fun q=>by
  have h1:=abq u.x
  have h2:=abq u.y
  have x0:u.x=0:=by
   have:u.x*u.x=0:=by grind
   grind
  have y0:u.y=0:=by
   have:u.y*u.y=0:=by grind
   grind
  rcases aaU u with⟨_,q⟩|⟨_,q⟩|⟨q,_⟩
  ·grind
  ·grind
  ·exact hu q
 have x0:e.x=0:=by grind
 have y0:e.y=0:=by grind
 rcases aaU e with⟨_,q⟩|⟨_,q⟩|⟨q,_⟩
 ·grind
 ·grind
 ·exact he q
theorem Nxt.gen{ds:List PtQ}{u w:PtQ}(h:axZ ds)(hu:u∈ds)(hw:w∈ds)(hn:Nxt ds u w)(hc:u.cross w≠0){a b:Rat}(ha:0<a)(hb:0<b): ∀d∈ds,d.cross (btw a b u w)≠0:=fun d hd hz=>by
 have hp:=hn.pos h hu hw
 have hp:0<u.cross w:=by grind
 obtain⟨c1,c2⟩:=am0 (a:=a) (b:=b) (u:=u) (w:=w)
 have d1:0<u.cross (btw a b u w):=by rw[c1];exact aad hb hp
 -- of d and its opposite, one points the same way
 have key: ∀e∈ds,e.cross (btw a b u w)=0→0<e.dot (btw a b u w)→False:=fun e he h1 h2=>by
  obtain⟨g,g1,g2⟩:=ahU h1 h2
  refine hn.none h hu hw hc (a:=g*a) (b:=g*b) (aad g1 ha) (aad g1 hb) ?_
  have:btw (g*a) (g*b) u w=e:=by rw[g2];unfold btw;simp only[PtQ.mk.injEq];constructor<;>grind
  rw[this];exact he
 rcases abk (d.dot (btw a b u w)) with k|k|k
 ·-- both 0: then d is 0, or the other is
  have hnz:=h.nz d hd
  generalize btw a b u w=v at*
  have e1:d.x*(v.x*v.x+v.y*v.y)=0:=by unfold PtQ.dot PtQ.cross at*;grind
  have e2:d.y*(v.x*v.x+v.y*v.y)=0:=by unfold PtQ.dot PtQ.cross at*;grind
  have hv:v.x*v.x+v.y*v.y≠0:=fun e=>by
   have h1:=abq v.x
   have h2:=abq v.y
   have x0:v.x=0:=by have:v.x*v.x=0:=(by grind);grind
   have y0:v.y=0:=by have:v.y*v.y=0:=(by grind);grind
   unfold PtQ.cross at d1
   rw[x0,y0] at d1;grind
  have x0:d.x=0:=by grind
  have y0:d.y=0:=by grind
  rcases aaU d with⟨_,q⟩|⟨_,q⟩|⟨q,_⟩
  ·grind
  ·grind
  ·exact hnz q
 ·exact key d hd hz k
 ·refine key _ (h.neg d hd) ?_ ?_
  ·unfold PtQ.cross ack at*;grind
  ·unfold PtQ.dot ack at*;grind
theorem akV(d u:PtQ):d.cross (ae9 u)=d.dot u:=by unfold PtQ.cross ae9 PtQ.dot;grind
theorem Nxt.turn{ds:List PtQ}{u w:PtQ}(h:axZ ds)(hu:u∈ds)(hw:w∈ds)(hn:Nxt ds u w)(hc:u.cross w=0): ∀d∈ds,d.cross (ae9 u)≠0:=fun d hd=>by
 have zu:=abX (h.nz u hu)
 have zw:=abX (h.nz w hw)
 rw[akV]
 rcases hn.spec h hu hw with⟨_,h2,_⟩|⟨h1,h2,h3⟩
 ·rw[hc] at h2;exact absurd h2 (by decide)
 have par: ∀e∈ds,e.half=u.half→e.cross u=0:=fun e he k=>by
  have a1:=h2 e he k
  have a2:=h3 _ (h.neg e he) (by rw[adU (h.nz e he)];omega)
  rw[abJ] at a2
  -- w = -g u
  have hwu:w.cross u=0:=by rw[aaz,hc];rfl
  have huw:w.dot u<0:=by
   rcases abk (w.dot u) with k0|k0|k0
   ·exact absurd k0 (aph (h.nz w hw) (h.nz u hu) hwu)
   ·obtain⟨g,g1,g2⟩:=ahU hwu k0
    exfalso
    apply h1
    rcases aaU u with⟨x,q⟩|⟨x,q⟩|⟨x,q⟩
    ·rw[x]
     refine(aeN.2 ?_).symm
     rw[g2]
     simp only
     rcases q with q|⟨q,q'⟩
     ·exact .inl (aad g1 q)
     ·exact .inr ⟨by rw[q];grind,aad g1 q'⟩
    ·rw[x]
     refine(ae0.2 ?_).symm
     rw[g2]
     simp only
     rcases q with q|⟨q,q'⟩
     ·have:=aad (a:=g) (b:= -u.y) g1 (by grind);exact .inl (by grind)
     ·have:=aad (a:=g) (b:= -u.x) g1 (by grind);exact .inr ⟨by rw[q];grind,by grind⟩
    ·exact absurd x (h.nz u hu)
   ·exact k0
  obtain⟨g,g1,g2⟩:=ahU (d:=u) (e:=ack w) (by unfold PtQ.cross ack at*;grind) (by unfold PtQ.dot ack at*;grind)
  have a3:0≤ -(g*e.cross u):=by
   have e1:w=⟨-(g*u.x), -(g*u.y)⟩:=by
    have:=congrArg ack g2
    unfold ack at this
    cases w
    simp only[Rat.neg_neg] at this
    exact this
   rw[e1] at a2
   unfold PtQ.cross at*
   grind
  by_cases hz:0<e.cross u
  ·have:=aad g1 hz;grind
  ·grind
 have nzd: ∀e∈ds,e.half=u.half→e.dot u≠0:=fun e he k=>aph (h.nz e he) (h.nz u hu) (par e he k)
 by_cases k:d.half=u.half
 ·exact nzd d hd k
 ·have:=nzd _ (h.neg d hd) (by rw[adU (h.nz d hd)];have:=abX (h.nz d hd);omega)
  unfold PtQ.dot ack at*
  grind
/-! ### lists in order -/
theorem apR{α:Type}{c:α→α→Int}(hT: ∀u v w,c u v<0→c v w<0→c u w<0)(hA: ∀u v,¬c u v<0→c u v≠0→c v u<0){x:α}: ∀{xs:List α},xs.Pairwise (fun a b=>c a b<0)→(ac0 c x xs).Pairwise (fun a b=>c a b<0)
 |[],_=>by rw[ac0];exact List.pairwise_singleton _ _
 |u::t,h=>by
  obtain⟨h1,h2⟩:=bS.1 h
  rw[ac0]
  split
  ·rename_i hu
   refine bS.2 ⟨fun y hy=>?_,apR hT hA h2⟩
   rcases alo c hy with rfl|hy
   ·exact hu
   ·exact h1 y hy
  ·rename_i hu
   split
   ·exact h
   ·rename_i hz
    have hx:=hA u x hu hz
    refine bS.2 ⟨fun y hy=>?_,h⟩
    rcases aT.1 hy with rfl|hy
    ·exact hx
    ·exact hT _ _ _ hx (h1 y hy)
theorem amS{α:Type}{c:α→α→Int}(hT: ∀u v w,c u v<0→c v w<0→c u w<0)(hA: ∀u v,¬c u v<0→c u v≠0→c v u<0): ∀{l o:List α},o.Pairwise (fun a b=>c a b<0)→(l.foldl (fun out x=>ac0 c x out) o).Pairwise (fun a b=>c a b<0)
 |[],o,h=>h
 |x::l,o,h=>amS (l:=l) (o:=ac0 c x o) hT hA (apR hT hA h)
/-! ### directions -/
def aEx(L:List LnQ)(p:PtQ):List PtQ:=L.flatMap fun l=>if Int.sign (l.value p).num=0 then [l.dir,ack l.dir] else []
theorem azB{u v:PtQ}:0<aaE u v↔Bef v u:=by
 unfold aaE Bef
 split
 ·rename_i h;exact⟨fun e=>absurd e (by decide),fun e=>by omega⟩
 ·rename_i h
  split
  ·rename_i h2;exact⟨fun _=> .inl h2,fun _=>by decide⟩
  ·rename_i h2
   have e:v.half=u.half:=by omega
   rw[aaz u v]
   constructor
   ·intro k
    have:Int.sign (u.cross v).num<0:=by omega
    rw[ajd] at this
    exact .inr ⟨e,by grind⟩
   ·rintro (k|⟨_,k⟩)
    ·omega
    ·have:Int.sign (u.cross v).num<0:=(ajd _).2 (by grind)
     omega
theorem Bef.trans{u v w:PtQ}(hu:u.half≠0)(hv:v.half≠0)(hw:w.half≠0)(h:Bef u v)(k:Bef v w):Bef u w:=by
 rcases h with h|⟨h,h'⟩<;>rcases k with k|⟨k,k'⟩
 ·exact .inl (by omega)
 ·exact .inl (by omega)
 ·exact .inl (by omega)
 ·refine .inr ⟨h.trans k,?_⟩
  have id1:u.cross w*v.y=u.cross v*w.y+v.cross w*u.y:=by unfold PtQ.cross;grind
  rcases aaU v with⟨x,q⟩|⟨x,q⟩|⟨x,q⟩
  ·rw[x] at h k
   have qu:=aeN.1 h
   have qw:=aeN.1 k.symm
   rcases q with q|⟨q,q'⟩
   ·rw[←aaD q,id1]
    have wy:0≤w.y:=by grind
    have uy:0≤u.y:=by grind
    have a1:=aal (gN h') wy
    rcases qu with qu|⟨qu,qu'⟩
    ·have:=aad k' qu;grind
    ·rcases qw with qw|⟨qw,qw'⟩
     ·have:=aad h' qw;rw[qu];grind
     ·exfalso
      have hx:v.cross w= -(w.x*v.y):=by unfold PtQ.cross;rw[qw];grind
      have:=aad qw' q
      grind
   ·exfalso
    have hx:u.cross v= -(v.x*u.y):=by unfold PtQ.cross;rw[q];grind
    have:=aal (a:=v.x) (b:=u.y) (gN q') (by grind)
    grind
  ·rw[x] at h k
   have qu:=ae0.1 h
   have qw:=ae0.1 k.symm
   rcases q with q|⟨q,q'⟩
   ·have e1:u.cross w* -v.y=u.cross v* -w.y+v.cross w* -u.y:=by grind
    rw[←aaD (k:= -v.y) (by grind),e1]
    have a1:=aal (a:=u.cross v) (b:= -w.y) (gN h') (by grind)
    rcases qu with qu|⟨qu,qu'⟩
    ·have:=aad (a:=v.cross w) (b:= -u.y) k' (by grind);grind
    ·rcases qw with qw|⟨qw,qw'⟩
     ·have:=aad (a:=u.cross v) (b:= -w.y) h' (by grind);rw[qu];grind
     ·exfalso
      have hx:v.cross w= -(-w.x* -v.y):=by unfold PtQ.cross;rw[qw];grind
      have:=aad (a:= -w.x) (b:= -v.y) (by grind) (by grind)
      grind
   ·exfalso
    have hx:u.cross v= -(-v.x* -u.y):=by unfold PtQ.cross;rw[q];grind
    have:=aal (a:= -v.x) (b:= -u.y) (by grind) (by grind)
    grind
  ·exact absurd x hv
def aEY(S:List PtQ)(x:PtQ):Nat→Nat
 |0=>0
 |k+1=>if 0<aaE (S.getD k ⟨0,0⟩) x then aEY S x k else k+1
def aGm(S:List PtQ)(x:PtQ):List PtQ:=S.take (aEY S x S.length)++x::S.drop (aEY S x S.length)
def aEz(ds:List PtQ):List PtQ:=ds.foldl aGm []
structure aG4 (L:List LnQ):Prop where
 ok: ∀l∈L,l.ok
 cn: ∀l∈L,arA l=false
 nd:L.Pairwise (fun a b=>a≠b)
theorem ane{l:LnQ}(h:l.ok):arA l.canon=false:=by
 have hn:=h.ne
 unfold LnQ.Ne at hn
 unfold LnQ.canon
 split
 ·rename_i k
  unfold arA at*
  rw[decide_eq_true_eq] at k
  rw[decide_eq_false_iff_not]
  show¬(-l.a<0∨(-l.a=0∧ -l.b<0))
  omega
 ·rename_i k;simpa using k
theorem amf{l:LnQ}(h:l.ok):l.dir.half≠0:=fun e=>by
 have hn:=h.ne
 unfold LnQ.Ne at hn
 rcases aaU l.dir with⟨k,_⟩|⟨k,_⟩|⟨_,k1,k2⟩
 ·rw[k] at e;cases e
 ·rw[k] at e;cases e
 ·unfold LnQ.dir at k1 k2
  simp only at k1 k2
  apply hn
  refine⟨?_,cY.1 k2⟩
  have:(l.a:Rat)=0:=by grind
  exact cY.1 this
theorem aAH{d:PtQ}(h:d.half≠0):(ack d).half≠0:=by rw[adU h];have:=abX h;omega
theorem afv(d:PtQ):ack (ack d)=d:=by unfold ack;cases d;simp
theorem azo{l m:LnQ}(hl:l.ok)(hm:m.ok)(cl:arA l=false)(cm:arA m=false){p:PtQ}(h1:l.value p=0)(h2:m.value p=0)(hc:l.dir.cross m.dir=0):l=m:=by
 have key: ∀t,l.value (m.at t)=0:=fun t=>by
  obtain⟨s,rfl⟩:=axw hm.ne h2
  rw[afn] at h1⊢
  have hk:m.cutK l=0:=by
   unfold LnQ.cutK
   rw[←aeB];exact hc
  rw[hk] at h1⊢
  grind
 rcases agT hl hm key with e|e
 ·exact e
 ·exfalso
  have hn:=hm.ne
  unfold LnQ.Ne at hn
  rw[e] at cl
  unfold arA at cl cm
  rw[decide_eq_false_iff_not] at cl cm
  have cl: ¬(-m.a<0∨(-m.a=0∧ -m.b<0)):=cl
  omega
theorem ayx{ds:List PtQ}(h:ds.Pairwise Bef)(hd:axZ ds){i:Nat}(hi:i<ds.length)(hj:(i+1)%ds.length<ds.length):Nxt ds ds[i] ds[(i+1)%ds.length]:=by
 have hp:=List.pairwise_iff_getElem.1 h
 have irr: ∀{u v:PtQ},Bef u v→ ¬Bef v u:=fun{u v} a b=>by
  unfold Bef at a b
  rw[aaz u v] at b
  rcases a with a|⟨a,a'⟩<;>rcases b with b|⟨b,b'⟩
  ·omega
  ·omega
  ·omega
  ·grind
 have ord: ∀{j k:Nat} (a:j<ds.length) (b:k<ds.length),Bef ds[j] ds[k]→j<k:=fun{j k} a b q=>by
  rcases qW j k with e|e|e
  ·exact e
  ·subst e;exact absurd q (irr q)
  ·exact absurd (hp k j b a e) (irr q)
 by_cases hl:i+1<ds.length
 ·have e:(i+1)%ds.length=i+1:=eM hl
  simp only[e]
  refine .inl ⟨hp i (i+1) hi hl (by omega),fun d hd' ⟨q1,q2⟩=>?_⟩
  obtain⟨j,hj',rfl⟩:=pW hd'
  have:=ord hi hj' q1
  have:=ord hj' hl q2
  omega
 ·have e:(i+1)%ds.length=0:=by rw[show i+1=ds.length by omega];exact Nat.mod_self _
  simp only[e]
  refine .inr ⟨fun d hd' q=>?_,fun d hd' q=>?_⟩
  ·obtain⟨j,hj',rfl⟩:=pW hd'
   have:=ord hi hj' q
   omega
  ·obtain⟨j,hj',rfl⟩:=pW hd'
   have:=ord hj' (by omega) q
   omega
def aDu(v:PtQ):Nat:=Nat.gcd (v.x.num.natAbs*v.y.den) (v.y.num.natAbs*v.x.den)
def aCv(n:Int)(d g:Nat):Int:=if n<0 then-((n.natAbs*d/g:Nat):Int) else((n.natAbs*d/g:Nat):Int)
def aCt(v:PtQ):PtQ:=if v.half=0 then⟨0,0⟩ else⟨(aCv v.x.num v.y.den (aDu v):Int),(aCv v.y.num v.x.den (aDu v):Int)⟩
def aGp(ds:List PtQ)(i:Nat):List PtQ:=
 if aaE (ds.getD i ⟨0,0⟩) (ds.getD ((i+1)%ds.length) ⟨0,0⟩)=0∧2<ds.length then []
 else if Int.sign ((ds.getD i ⟨0,0⟩).cross (ds.getD ((i+1)%ds.length) ⟨0,0⟩)).num=0 then [ae9 (ds.getD i ⟨0,0⟩)]
 else [aeF (aCt (ds.getD i ⟨0,0⟩)) (aCt (ds.getD ((i+1)%ds.length) ⟨0,0⟩)) 1]
def aEf(ds:List PtQ):List PtQ:=if ds.length=0 then [⟨1,0⟩] else(List.range ds.length).flatMap (aGp ds)
def aCm(L:List LnQ)(p:PtQ):List PtQ:=aEf (aEz (aEx L p))
theorem alr{ds:List PtQ}{i:Nat}(h:i<ds.length):ds.getD i ⟨0,0⟩=ds[i]:=by
 rw[aK,aZ h,kS]
def aG0(t:Tr)(p:PtQ):Bool:=(aCm (aa5 t.lns) p).any fun v=>(ago t p v).1
def aGX(t:Tr)(p:PtQ):Bool:=(aCm (aa5 t.lns) p).all fun v=>(ago t p v).1
/-! ### witnesses -/
theorem ajP{z:Rat}(h:z<0):Int.sign z.num= -1:=by
 have:=(ajd _).2 h
 rcases mL z.num 0 with q|q|q
 ·exact dR q
 ·rw[q] at this;simp at this
 ·rw[fU q] at this;simp at this
def ams:Tr→PtQ→List LnQ
 | .leaf _,_=>[]
 | .node l x y,p=>(if Int.sign (l.value p).num=0 then [l] else [])++((if 0≤Int.sign (l.value p).num then ams x p else [])++(if Int.sign (l.value p).num≤0 then ams y p else []))
theorem acr: ∀{t:Tr} {p:PtQ} {l:LnQ},l∈ams t p→l∈t.lns∧l.value p=0
 | .leaf _,p,l,h=>by cases h
 | .node m x y,p,l,h=>by
  rw[ams,bV,bV] at h
  rcases h with h|h|h
  ·split at h
   ·rw[aR] at h;subst h
    rename_i k;exact⟨aQ,(ab3 _).1 k⟩
   ·cases h
  ·split at h
   ·have:=acr h;exact⟨aX _ (bN _ this.1),this.2⟩
   ·cases h
  ·split at h
   ·have:=acr h;exact⟨aX _ (cJ _ this.1),this.2⟩
   ·cases h
theorem aCJ{t:Tr}{p v:PtQ}(h:Gn t.lns p v):Gn (ams t p) p v:=fun l hl hz=>h l (acr hl).1 hz
theorem aiv: ∀{t:Tr} {p v w:PtQ},(∀l∈ams t p,Int.sign (l.nor.dot v).num=Int.sign (l.nor.dot w).num)→ago t p v=ago t p w
 | .leaf _,_,_,_,_=>rfl
 | .node l x y,p,v,w,h=>by
  have hx:0≤Int.sign (l.value p).num→ago x p v=ago x p w:=fun k=>aiv fun m hm=>h m (by rw[ams,bV,bV,if_pos k];exact .inr (.inl hm))
  have hy:Int.sign (l.value p).num≤0→ago y p v=ago y p w:=fun k=>aiv fun m hm=>h m (by rw[ams,bV,bV,if_pos k];exact .inr (.inr hm))
  rw[ago,ago,aeB,aeB]
  by_cases k:Int.sign (l.value p).num=0
  ·rw[if_pos k,if_pos k,←h l (by rw[ams,if_pos k];exact aQ),hx (by omega),hy (by omega)]
  ·rw[if_neg k,if_neg k]
   generalize Int.sign (l.value p).num=s at*
   split
   ·exact hx (by decide)
   ·exact hy (by decide)
   ·rfl
theorem axs{L M:List LnQ}{p v:PtQ}(hM: ∀l∈M,l.ok)(hL:Gn L p v): ∃w,Gn M p w∧ ∀l∈L,l.value p=0→Int.sign (l.nor.dot v).num=Int.sign (l.nor.dot w).num:=by
 have e2: ∀l:LnQ,l.value p=0→l.value (aeF p v 1)=l.nor.dot v:=fun l hz=>by rw[aci,hz];grind
 have hp':InD ((L.filter fun l=>decide (l.value p=0)).map fun l=>(⟨if 0<l.value (aeF p v 1) then l else l.rev,IvQ.all⟩:FrQ)) (aeF p v 1):=fun s hs=>by
  obtain⟨l,hl,rfl⟩:=bR.1 hs
  obtain⟨h1,h2⟩:=kQ.1 hl
  have h3:=of_decide_eq_true h2
  have h0:l.value (aeF p v 1)≠0:=by rw[e2 l h3];exact hL l h1 h3
  simp only
  split
  ·assumption
  ·rw[aaY];grind
 obtain⟨q,q1,q2⟩:=apF hp' M hM
 have e: ∀l:LnQ,l.value p=0→l.value q=l.nor.dot ⟨q.x-p.x,q.y-p.y⟩:=fun l hz=>by
  have h1:=aci l p ⟨q.x-p.x,q.y-p.y⟩ 1
  rw[hz] at h1
  have h2:aeF p ⟨q.x-p.x,q.y-p.y⟩ 1=q:=by
   unfold aeF
   cases q
   simp only[PtQ.mk.injEq]
   constructor<;>grind
  rw[h2] at h1
  rw[h1];grind
 refine⟨⟨q.x-p.x,q.y-p.y⟩,fun m hm hz=>?_,fun l hl hz=>?_⟩
 ·rw[←e m hz];exact q2 m hm
 ·have h1:=q1 _ (bR.2 ⟨l,kQ.2 ⟨hl,decide_eq_true hz⟩,rfl⟩)
  simp only at h1
  rw[e2 l hz] at h1
  rw[←e l hz]
  have h0:=hL l hl hz
  split at h1
  ·rename_i k
   rw[(adF _).2 k,(adF _).2 h1]
  ·rename_i k
   rw[aaY] at h1
   rw[ajP (by grind),ajP (by grind)]
def axW(t:Tr)(p:PtQ)(b:Bool):Prop:= ∃v,Gn (ams t p) p v∧(ago t p v).1=b
theorem aCG{t:Tr}{p w:PtQ}(h:Gn t.lns p w):axW t p (ago t p w).1:=⟨w,aCJ h,rfl⟩
theorem aEa{M:List LnQ}(hM: ∀l∈M,l.ok)(p:PtQ): ∃w,Gn M p w:=by
 obtain⟨w,h,_⟩:=axs (L:=[]) (M:=M) (p:=p) (v:=⟨1,0⟩) hM fun l hl=>by cases hl
 exact⟨w,h⟩
theorem axh{t:Tr}(ht:t.all LnQ.ok)(p:PtQ):axW t p true∨axW t p false:=by
 obtain⟨w,h⟩:=aEa (aek ht) p
 have:=aCG h
 cases hb:(ago t p w).1 with
 |true=>rw[hb] at this;exact .inl this
 |false=>rw[hb] at this;exact .inr this
/-! ### sectors -/
def aru(ds:List PtQ)(i:Nat):PtQ:=
 if 0<Int.sign ((ds.getD i ⟨0,0⟩).cross (ds.getD ((i+1)%ds.length) ⟨0,0⟩)).num then(ds.getD i ⟨0,0⟩).add (ds.getD ((i+1)%ds.length) ⟨0,0⟩) else ae9 (ds.getD i ⟨0,0⟩)
def afa(ds:List PtQ):List PtQ:=if ds.length=0 then [⟨1,0⟩] else(List.range ds.length).map (aru ds)
theorem ats(u w:PtQ):u.add w=btw 1 1 u w:=by
 unfold PtQ.add btw
 simp only[PtQ.mk.injEq]
 constructor<;>grind
theorem apg{x:PtQ}: ∀{S:List PtQ},S≠[]→(∀d∈S,0<d.cross x)→ ∃u∈S,∀d∈S,0≤d.cross u
 |[],h,_=>absurd rfl h
 |[d],_,_=>⟨d,aQ,fun e he=>by rw[aR] at he;subst he;rw[aki];exact kU⟩
 |d0::d1::S,_,h=>by
  obtain⟨u,h1,h2⟩:=apg (S:=d1::S) (by simp) fun d hd=>h d (aX _ hd)
  by_cases k:0≤d0.cross u
  ·exact⟨u,aX _ h1,fun d hd=>(aT.1 hd).elim (fun e=>e▸k) (h2 d)⟩
  ·refine⟨d0,aQ,fun d hd=>(aT.1 hd).elim (fun e=>by rw[e,aki];exact kU) fun hd=>?_⟩
   have p0:=h d0 aQ
   have pu:=h u (aX _ h1)
   have pd:=h d (aX _ hd)
   have k1:=h2 d hd
   have k2:0<u.cross d0:=by rw[aaz] at k;grind
   have e:d.cross d0*u.cross x=u.cross d0*d.cross x+d.cross u*d0.cross x:=by unfold PtQ.cross;grind
   have n1:=aad k2 pd
   have n2:=aal k1 (gN p0)
   generalize d.cross d0=A at*
   generalize u.cross x=B at*
   by_cases hA:0≤A
   ·exact hA
   ·have:=aad (a:= -A) (b:=B) (by grind) pu
    grind
theorem avP{ds:List PtQ}(h:ds.Pairwise Bef)(hd:axZ ds)(hn:ds≠[]){x:PtQ}(hx: ∀d∈ds,d.cross x≠0): ∃i,i<ds.length∧ ∀d∈ds,Int.sign (d.cross x).num=Int.sign (d.cross (aru ds i)).num:=by
 have hne:(ds.filter fun d=>decide (0<d.cross x))≠[]:=by
  obtain⟨d,r,rfl⟩:=List.exists_cons_of_ne_nil hn
  intro e
  have h1: ¬0<d.cross x:=fun k=>by
   have:d∈(d::r).filter fun d=>decide (0<d.cross x):=kQ.2 ⟨aQ,decide_eq_true k⟩
   rw[e] at this;cases this
  have h2:=hx d aQ
  have h3:0<(ack d).cross x:=by rw[aaz,abJ,←aaz];grind
  have:ack d∈(d::r).filter fun d=>decide (0<d.cross x):=kQ.2 ⟨hd.neg d aQ,decide_eq_true h3⟩
  rw[e] at this;cases this
 obtain⟨u,hu,hl⟩:=apg hne fun d hd=>of_decide_eq_true (kQ.1 hd).2
 obtain⟨hu1,hu2⟩:=kQ.1 hu
 have hux:=of_decide_eq_true hu2
 obtain⟨i,hi,rfl⟩:=pW hu1
 have hj:(i+1)%ds.length<ds.length:=dX _ (by omega)
 have hnx:=ayx h hd hi hj
 have mw:=cX hj
 refine⟨i,hi,?_⟩
 have key: ∀d∈ds,0<d.cross x→0<d.cross (aru ds i):=fun d hdm hdx=>by
  have hdu:0≤d.cross ds[i]:=hl d (kQ.2 ⟨hdm,decide_eq_true hdx⟩)
  unfold aru
  rw[alr hi,alr hj]
  generalize ds[(i+1)%ds.length]=w at*
  generalize ds[i]=u at*
  have hp:=hnx.pos hd hu1 mw
  have zd:=hd.nz d hdm
  have zu:=hd.nz u hu1
  split
  ·rename_i k
   have hc:=(acZ _).1 k
   rw[ats]
   have hg:=hnx.gen hd hu1 mw (by grind) (a:=1) (b:=1) (by decide) (by decide) d hdm
   have e:d.cross (btw 1 1 u w)=d.cross u+d.cross w:=by unfold PtQ.cross btw;grind
   rw[e] at hg⊢
   by_cases hw:0≤d.cross w
   ·grind
   ·exfalso
    -- -d lies between u and w
    rcases abk (d.cross u) with q|q|q
    ·-- d runs along u
     have hdd:0<d.dot u:=by
      rcases abk (d.dot u) with r|r|r
      ·exact absurd r (aph zd zu q)
      ·exact r
      ·exfalso
       have q':(ack d).cross u=0:=by unfold PtQ.cross ack at*;grind
       have r':0<(ack d).dot u:=by unfold PtQ.dot ack at*;grind
       obtain⟨g,g1,g2⟩:=ahU q' r'
       have:d.cross x= -(g*u.cross x):=by
        have h1:(ack d).x=g*u.x:=by rw[g2]
        have h2:(ack d).y=g*u.y:=by rw[g2]
        unfold ack at h1 h2
        simp only at h1 h2
        unfold PtQ.cross;grind
       have:=aad g1 hux
       grind
     obtain⟨g,g1,g2⟩:=ahU q hdd
     have:d.cross w=g*u.cross w:=by rw[g2];unfold PtQ.cross;grind
     have:=aad g1 hc
     grind
    ·have hb:ack d=btw (-(d.cross w)/u.cross w) (d.cross u/u.cross w) u w:=by
      have hz:u.cross w≠0:=by grind
      have e1: -(d.cross w)/u.cross w*u.cross w= -(d.cross w):=by grind
      have e2:d.cross u/u.cross w*u.cross w=d.cross u:=by grind
      unfold ack btw
      generalize-(d.cross w)/u.cross w=a at*
      generalize d.cross u/u.cross w=b at*
      simp only[PtQ.mk.injEq]
      have f1:(a*u.x+b*w.x+d.x)*u.cross w=0:=by
       have:(a*u.x+b*w.x+d.x)*u.cross w=a*u.cross w*u.x+b*u.cross w*w.x+d.x*u.cross w:=by grind
       rw[this,e1,e2];unfold PtQ.cross;grind
      have f2:(a*u.y+b*w.y+d.y)*u.cross w=0:=by
       have:(a*u.y+b*w.y+d.y)*u.cross w=a*u.cross w*u.y+b*u.cross w*w.y+d.y*u.cross w:=by grind
       rw[this,e1,e2];unfold PtQ.cross;grind
      constructor<;>grind
     refine hnx.none hd hu1 mw (by grind) (a:= -(d.cross w)/u.cross w) (b:=d.cross u/u.cross w) ?_ ?_ (by rw[←hb];exact hd.neg d hdm)
     ·refine(aaD (k:=u.cross w) hc).1 ?_
      have e1: -(d.cross w)/u.cross w*u.cross w= -(d.cross w):=by grind
      rw[e1];grind
     ·refine(aaD (k:=u.cross w) hc).1 ?_
      have e1:d.cross u/u.cross w*u.cross w=d.cross u:=by grind
      rw[e1];exact q
    ·grind
  ·rename_i k
   have hc:u.cross w=0:=by have: ¬0<u.cross w:=fun e=>k ((acZ _).2 e);grind
   have hg:=hnx.turn hd hu1 mw hc d hdm
   rw[akV] at hg⊢
   rcases abk (d.dot u) with r|r|r
   ·exact absurd r hg
   ·exact r
   ·exfalso
    -- all directions run along u
    have hdc:d.cross u=0:=by
     rcases hnx.spec hd hu1 mw with⟨_,h2,_⟩|⟨h1,h2,h3⟩
     ·rw[hc] at h2;exact absurd h2 (by decide)
     ·have zw:=abX (hd.nz w mw)
      have zu':=abX zu
      have zd':=abX zd
      have hwu: ∃g:Rat,0<g∧w=⟨g*(ack u).x,g*(ack u).y⟩:=by
       refine ahU (d:=ack u) (e:=w) (by rw[abJ,aaz,hc];grind) ?_
       rcases abk (w.dot u) with s|s|s
       ·exact absurd s (aph (hd.nz w mw) zu (by rw[aaz,hc];rfl))
       ·exfalso
        obtain⟨g,g1,g2⟩:=ahU (d:=u) (e:=w) (by rw[aaz,hc];rfl) s
        apply h1
        rw[g2]
        rcases aaU u with⟨x0,s0⟩|⟨x0,s0⟩|⟨x0,s0⟩
        ·rw[x0]
         refine(aeN.2 ?_).symm
         rcases s0 with s0|⟨s0,s1⟩
         ·exact .inl (aad g1 s0)
         ·exact .inr ⟨by show g*u.y=0;rw[s0];grind,aad g1 s1⟩
        ·rw[x0]
         refine(ae0.2 ?_).symm
         rcases s0 with s0|⟨s0,s1⟩
         ·exact .inl (by show g*u.y<0;have:=aad (a:=g) (b:= -u.y) g1 (by grind);grind)
         ·exact .inr ⟨by show g*u.y=0;rw[s0];grind,by show g*u.x<0;have:=aad (a:=g) (b:= -u.x) g1 (by grind);grind⟩
        ·exact absurd x0 zu
       ·unfold PtQ.dot ack at*;grind
      obtain⟨g,g1,g2⟩:=hwu
      have cw: ∀e:PtQ,w.cross e=g* -(u.cross e):=fun e=>by rw[g2];unfold PtQ.cross ack;grind
      by_cases hh:d.half=u.half
      ·have a1:=h2 d hdm hh
       have a2:=h3 _ (hd.neg d hdm) (by rw[adU zd];omega)
       rw[cw,abJ,aaz d u] at a2
       rcases abk (d.cross u) with s|s|s
       ·exact s
       ·have:=aad g1 s;grind
       ·grind
      ·have a1:=h2 _ (hd.neg d hdm) (by rw[adU zd];omega)
       have a2:=h3 d hdm (by omega)
       rw[cw,aaz d u] at a2
       have e3:(ack d).cross u= -(d.cross u):=by unfold PtQ.cross ack;grind
       rw[e3] at a1
       rcases abk (d.cross u) with s|s|s
       ·exact s
       ·grind
       ·have:=aad (a:=g) (b:= -(d.cross u)) g1 (by grind);grind
    have q':(ack d).cross u=0:=by unfold PtQ.cross ack at*;grind
    have r':0<(ack d).dot u:=by unfold PtQ.dot ack at*;grind
    obtain⟨g,g1,g2⟩:=ahU q' r'
    have:d.cross x= -(g*u.cross x):=by
     have h1:(ack d).x=g*u.x:=by rw[g2]
     have h2:(ack d).y=g*u.y:=by rw[g2]
     unfold ack at h1 h2
     simp only at h1 h2
     unfold PtQ.cross;grind
    have:=aad g1 hux
    grind
 intro d hdm
 rcases abk (d.cross x) with k|k|k
 ·exact absurd k (hx d hdm)
 ·rw[(adF _).2 k,(adF _).2 (key d hdm k)]
 ·have en: ∀y:PtQ,(ack d).cross y= -(d.cross y):=fun y=>by unfold PtQ.cross ack;grind
  have:=key _ (hd.neg d hdm) (by rw[en];grind)
  rw[en] at this
  rw[ajP k,ajP (by grind)]
def aeg(v:PtQ):PtQ:=v.scale (rgcd v.x v.y)⁻¹
def abv(t:Tr)(p:PtQ):List PtQ:=(ams t p).flatMap fun l=>[aeg l.dir,ack (aeg l.dir)]
def ah8(ds:List PtQ):List PtQ:=ahF aaE ds
theorem abR{t:Tr}{p d:PtQ}:d∈abv t p↔ ∃l∈ams t p,d=aeg l.dir∨d=ack (aeg l.dir):=by
 unfold abv
 rw[nS]
 constructor
 ·rintro ⟨l,h1,h2⟩
  refine⟨l,h1,?_⟩
  rcases aT.1 h2 with h|h
  ·exact .inl h
  ·exact .inr (aR.1 h)
 ·rintro ⟨l,h1,rfl|rfl⟩
  ·exact⟨l,h1,aQ⟩
  ·exact⟨l,h1,aX _ aQ⟩
theorem avr{x y:Rat}(h:x≠0∨y≠0):0<rgcd x y:=by
 unfold rgcd
 have hd:0<x.den*y.den:=iT x.den_pos y.den_pos
 have hg:0<Nat.gcd (x.num.natAbs*y.den) (y.num.natAbs*x.den):=by
  rcases h with h|h
  ·exact nT _ (iT (Int.natAbs_pos.2 fun e=>h (lJ.1 e)) y.den_pos)
  ·exact nZ _ (iT (Int.natAbs_pos.2 fun e=>h (lJ.1 e)) x.den_pos)
 generalize Nat.gcd (x.num.natAbs*y.den) (y.num.natAbs*x.den)=g at*
 generalize x.den*y.den=d at*
 rw[←alq]
 have h1:mkRat (g:Int) d=(g:Rat)/(d:Rat):=by rw[nU];rfl
 rw[alq,h1]
 have hg':(0:Rat)<(g:Rat):=by exact_mod_cast hg
 have hd':(0:Rat)<(d:Rat):=by exact_mod_cast hd
 have e:(g:Rat)/(d:Rat)*(d:Rat)=(g:Rat):=by grind
 exact(aaD (k:=(d:Rat)) hd').1 (by rw[e];exact hg')
theorem azS{v:PtQ}(h:v.half≠0):v.x≠0∨v.y≠0:=by
 rcases aaU v with⟨_,k⟩|⟨_,k⟩|⟨k,_⟩
 ·rcases k with k|⟨_,k⟩
  ·exact .inr (by grind)
  ·exact .inl (by grind)
 ·rcases k with k|⟨_,k⟩
  ·exact .inr (by grind)
  ·exact .inl (by grind)
 ·exact absurd k h
theorem aiD{v:PtQ}(h:v.half≠0): ∃a:Rat,0<a∧aeg v=⟨a*v.x,a*v.y⟩:=by
 have hg:=avr (azS h)
 refine⟨(rgcd v.x v.y)⁻¹,?_,?_⟩
 ·generalize rgcd v.x v.y=g at*
  have e:g⁻¹*g=1:=by grind
  exact(aaD (k:=g) hg).1 (by rw[e];decide)
 ·unfold aeg PtQ.scale
  simp only[PtQ.mk.injEq]
  constructor<;>grind
theorem azs(v:PtQ):aeg (ack v)=ack (aeg v):=by
 have e:rgcd (-v.x) (-v.y)=rgcd v.x v.y:=by
  unfold rgcd
  rw[lT,lT,oT,oT,iL,iL]
 unfold aeg PtQ.scale ack
 simp only[PtQ.mk.injEq,e]
 constructor<;>grind
theorem alC{v:PtQ}(h:v.half≠0):(aeg v).half=v.half:=by
 obtain⟨a,a1,e⟩:=aiD h
 have:=alf (a:=a) (b:=a) (u:=v) (w:=v) a1 a1 rfl h
 rw[←this]
 have h2:aeg v=btw (a*(1/2)) (a*(1/2)) v v:=by rw[e];unfold btw;simp only[PtQ.mk.injEq];constructor<;>grind
 have h3:=alf (a:=a*(1/2)) (b:=a*(1/2)) (u:=v) (w:=v) (aad a1 (by grind)) (aad a1 (by grind)) rfl h
 rw[h2,h3,this]
theorem avD{u v:PtQ}:aaE u v=0↔u.half=v.half∧u.cross v=0:=by
 unfold aaE
 split
 ·constructor
  ·intro h;exact absurd h (by decide)
  ·intro h;omega
 ·split
  ·constructor
   ·intro h;exact absurd h (by decide)
   ·intro h;omega
  ·constructor
   ·intro h
    exact⟨by omega,(ab3 _).1 (by omega)⟩
   ·intro h
    rw[(ab3 _).2 h.2];rfl
theorem agU{u v w:PtQ}(h:Bef u v)(k:Bef v w):Bef u w:=by
 by_cases hu:u.half=0
 ·by_cases hw:w.half=0
  ·have z: ∀x y:PtQ,x.half=0→x.cross y=0:=fun x y hx=>by
    rcases aaU x with⟨e,_⟩|⟨e,_⟩|⟨_,e1,e2⟩
    ·rw[hx] at e;exact absurd e (by decide)
    ·rw[hx] at e;exact absurd e (by decide)
    ·unfold PtQ.cross;rw[e1,e2];grind
   rcases h with h|⟨h,h'⟩
   ·rcases k with k|⟨k,k'⟩
    ·omega
    ·have hv:v.half≠0:=by omega
     omega
   ·rw[z u v hu] at h';exact absurd h' (by decide)
  ·refine .inl ?_
   have h1:=abX hw
   omega
 ·have hv:v.half≠0:=by
   intro e
   rcases h with h|⟨h,_⟩
   ·have:=abX hu;omega
   ·omega
  have hw:w.half≠0:=by
   intro e
   rcases k with k|⟨k,_⟩
   ·have:=abX hv;omega
   ·omega
  exact Bef.trans hu hv hw h k
section
variable {α:Type} (c:α→α→Int)
theorem atF{x y:α}: ∀{xs:List α},y∈xs→y∈ac0 c x xs
 |[],h=>by cases h
 |u::t,h=>by
  rw[ac0]
  split
  ·rcases aT.1 h with rfl|h
   ·exact aQ
   ·exact aX _ (atF h)
  ·split
   ·exact h
   ·exact aX _ h
theorem atq{x:α}: ∀{xs:List α},∃e∈ac0 c x xs,e=x∨c e x=0
 |[]=>⟨x,aQ, .inl rfl⟩
 |u::t=>by
  rw[ac0]
  split
  ·obtain⟨e,h1,h2⟩:=atq (x:=x) (xs:=t)
   exact⟨e,aX _ h1,h2⟩
  ·split
   ·exact⟨u,aQ, .inr (by assumption)⟩
   ·exact⟨x,aQ, .inl rfl⟩
theorem anE{y:α}: ∀{l o:List α},y∈o→y∈l.foldl (fun out x=>ac0 c x out) o
 |[],o,h=>h
 |x::t,o,h=>anE (l:=t) (atF c h)
theorem alZ{d:α}: ∀{l o:List α},d∈l→ ∃e∈l.foldl (fun out x=>ac0 c x out) o,e=d∨c e d=0
 |[],o,h=>by cases h
 |x::t,o,h=>by
  rcases aT.1 h with rfl|h
  ·obtain⟨e,h1,h2⟩:=atq c (x:=d) (xs:=o)
   exact⟨e,anE c (l:=t) h1,h2⟩
  ·exact alZ (l:=t) h
end
theorem ap6(ds:List PtQ):(ah8 ds).Pairwise Bef:=by
 have:=amS (c:=aaE) (fun u v w h k=>ad9.2 (agU (ad9.1 h) (ad9.1 k))) (fun u v h k=>ad9.2 (azB.1 (by omega))) (l:=ds) (o:=[]) List.Pairwise.nil
 exact this.imp fun h=>ad9.1 h
theorem axF{l m:LnQ}(hl:l.ok)(hm:m.ok){p:PtQ}(h1:l.value p=0)(h2:m.value p=0){d e:PtQ}(hd:d=aeg l.dir∨d=ack (aeg l.dir))(he:e=aeg m.dir∨e=ack (aeg m.dir))(h:aaE d e=0):d=e:=by
 obtain⟨hh,hc⟩:=avD.1 h
 have zl:=amf hl
 have zm:=amf hm
 have zpl:(aeg l.dir).half≠0:=by rw[alC zl];exact zl
 have zpm:(aeg m.dir).half≠0:=by rw[alC zm];exact zm
 have cr:l.dir.cross m.dir=0:=by
  obtain⟨a,a1,e1⟩:=aiD zl
  obtain⟨b,b1,e2⟩:=aiD zm
  have c0:(aeg l.dir).cross (aeg m.dir)=0:=by
   rcases hd with rfl|rfl<;>rcases he with rfl|rfl
   ·exact hc
   ·rw[abJ] at hc;grind
   ·rw[aaz,abJ] at hc;rw[aaz];grind
   ·rw[abJ,aaz,abJ] at hc;rw[aaz];grind
  have e3:(aeg l.dir).cross (aeg m.dir)=(a*b)*l.dir.cross m.dir:=by rw[e1,e2];unfold PtQ.cross;grind
  have hab:=aad a1 b1
  rw[e3] at c0
  clear e1 e2 e3
  generalize a*b=k at*
  generalize l.dir.cross m.dir=z at*
  rcases abk z with q|q|q
  ·exact q
  ·have:=aad hab q;grind
  ·have:=aad (a:=k) (b:= -z) hab (by grind);grind
 have dirR: ∀k:LnQ,k.rev.dir=ack k.dir:=fun k=>by
  unfold LnQ.dir LnQ.rev ack
  simp only[PtQ.mk.injEq,oQ]
  try constructor<;>grind
 have cdir: ∀k:LnQ,k.canon.dir=k.dir∨k.canon.dir=ack k.dir:=fun k=>by
  unfold LnQ.canon
  split
  ·exact .inr (dirR k)
  ·exact .inl rfl
 have cval: ∀k:LnQ,k.value p=0→k.canon.value p=0:=fun k hk=>by rcases ajs k p with e|e<;>rw[e,hk]<;>rfl
 have okc: ∀k:LnQ,k.ok→k.canon.ok:=fun k hk=>by unfold LnQ.canon;split;exact hk.rev;exact hk
 have ec:l.canon=m.canon:=azo (okc l hl) (okc m hm) (ane hl) (ane hm) (cval l h1) (cval m h2) (by
  rcases cdir l with e1|e1<;>rcases cdir m with e2|e2<;>rw[e1,e2]
  ·exact cr
  ·rw[abJ,cr];rfl
  ·rw[aaz,abJ,aaz,cr];rfl
  ·rw[abJ,aaz,abJ,aaz,cr];rfl)
 have hdir:l.dir=m.dir∨l.dir=ack m.dir:=by
  have e1:=cdir l
  have e2:=cdir m
  rw[ec] at e1
  rcases e1 with e1|e1<;>rcases e2 with e2|e2
  ·exact .inl (e1.symm.trans e2)
  ·exact .inr (e1.symm.trans e2)
  ·right;rw[←e2,e1,afv]
  ·left;rw[←afv l.dir,←e1,e2,afv]
 have hP:aeg l.dir=aeg m.dir∨aeg l.dir=ack (aeg m.dir):=by
  rcases hdir with e|e
  ·exact .inl (by rw[e])
  ·exact .inr (by rw[e,azs])
 have hn:=adU zpm
 have h3:=abX zpm
 have key:d=aeg m.dir∨d=ack (aeg m.dir):=by
  rcases hd with rfl|rfl<;>rcases hP with e|e
  ·exact .inl e
  ·exact .inr e
  ·exact .inr (by rw[e])
  ·exact .inl (by rw[e,afv])
 rcases key with rfl|rfl<;>rcases he with rfl|rfl
 ·rfl
 ·exfalso;omega
 ·exfalso;omega
 ·rfl
theorem anY{t:Tr}(ht:t.all LnQ.ok)(p:PtQ):(ah8 (abv t p)).Pairwise Bef∧axZ (ah8 (abv t p))∧ ∀y,y∈ah8 (abv t p)↔y∈abv t p:=by
 have h2: ∀y,y∈ah8 (abv t p)→y∈abv t p:=fun y hy=>by
  rcases afz aaE hy with h|h
  ·exact h
  ·cases h
 have h3: ∀y,y∈abv t p→y∈ah8 (abv t p):=fun y hy=>by
  obtain⟨e,e1,e2⟩:=alZ aaE (o:=[]) hy
  rcases e2 with rfl|e2
  ·exact e1
  ·obtain⟨l,k1,k2⟩:=abR.1 hy
   obtain⟨m,k3,k4⟩:=abR.1 (h2 e e1)
   obtain⟨a1,a2⟩:=acr k1
   obtain⟨b1,b2⟩:=acr k3
   rw[←axF (aek ht _ b1) (aek ht _ a1) b2 a2 k4 k2 e2]
   exact e1
 refine⟨ap6 _,⟨fun d hd=>?_,fun d hd=>?_⟩,fun y=>⟨h2 y,h3 y⟩⟩
 ·obtain⟨l,k1,k2⟩:=abR.1 (h2 d hd)
  have z:=amf (aek ht _ (acr k1).1)
  have z2:(aeg l.dir).half≠0:=by rw[alC z];exact z
  rcases k2 with rfl|rfl
  ·exact z2
  ·exact aAH z2
 ·obtain⟨l,k1,k2⟩:=abR.1 (h2 d hd)
  refine h3 _ (abR.2 ⟨l,k1,?_⟩)
  rcases k2 with rfl|rfl
  ·exact .inr rfl
  ·exact .inl (afv _)
theorem at4{t:Tr}(ht:t.all LnQ.ok){p v:PtQ}(hv:v∈afa (ah8 (abv t p))):Gn (ams t p) p v:=by
 obtain⟨h1,h2,h3⟩:=anY ht p
 have key:(∀d∈ah8 (abv t p),d.cross v≠0)→Gn (ams t p) p v:=fun k l hl hz e=>by
  have z:=amf (aek ht _ (acr hl).1)
  obtain⟨a,a1,a2⟩:=aiD z
  refine k _ ((h3 _).2 (abR.2 ⟨l,hl, .inl rfl⟩)) ?_
  rw[←aeB] at e
  have:(aeg l.dir).cross v=a*l.dir.cross v:=by rw[a2];unfold PtQ.cross;grind
  rw[this,e];grind
 generalize ah8 (abv t p)=ds at*
 unfold afa at hv
 split at hv
 ·rename_i hn
  refine key fun d hd=>?_
  rw[List.length_eq_zero_iff.1 hn] at hd;cases hd
 ·obtain⟨i,hi,rfl⟩:=bR.1 hv
  rw[oU] at hi
  have hj:(i+1)%ds.length<ds.length:=dX _ (by omega)
  have hx:=ayx h1 h2 hi hj
  have mu:=cX hi
  have mw:=cX hj
  have hp:=hx.pos h2 mu mw
  refine key ?_
  unfold aru
  rw[alr hi,alr hj]
  split
  ·rename_i k
   have hc:=(acZ _).1 k
   rw[ats]
   exact hx.gen h2 mu mw (by grind) (by decide) (by decide)
  ·rename_i k
   exact hx.turn h2 mu mw (by have: ¬0<ds[i].cross ds[(i+1)%ds.length]:=fun e=>k ((acZ _).2 e);grind)
theorem amq{t:Tr}(ht:t.all LnQ.ok){p x:PtQ}(hx:Gn (ams t p) p x): ∃v∈afa (ah8 (abv t p)),(ago t p v).1=(ago t p x).1:=by
 obtain⟨h1,h2,h3⟩:=anY ht p
 have cr: ∀l∈ams t p,∃a:Rat,0<a∧ ∀y,(aeg l.dir).cross y=a*l.nor.dot y:=fun l hl=>by
  obtain⟨a,a1,a2⟩:=aiD (amf (aek ht _ (acr hl).1))
  exact⟨a,a1,fun y=>by rw[a2,←aeB];unfold PtQ.cross;grind⟩
 by_cases hn:ah8 (abv t p)=[]
 ·refine⟨⟨1,0⟩,by unfold afa;rw[if_pos (by rw[hn];rfl)];exact aQ,?_⟩
  rw[aiv fun l hl=>?_]
  have:=(h3 _).2 (abR.2 ⟨l,hl, .inl rfl⟩)
  rw[hn] at this;cases this
 ·obtain⟨i,hi,hs⟩:=avP h1 h2 hn (x:=x) fun d hd=>by
   obtain⟨l,k1,k2⟩:=abR.1 ((h3 d).1 hd)
   obtain⟨a,a1,a2⟩:=cr l k1
   have hz:=hx l k1 (acr k1).2
   have e:(aeg l.dir).cross x≠0:=by rw[a2];grind
   rcases k2 with rfl|rfl
   ·exact e
   ·intro q;apply e;unfold PtQ.cross ack at*;grind
  refine⟨aru (ah8 (abv t p)) i,?_,?_⟩
  ·unfold afa
   rw[if_neg (by omega)]
   exact bR.2 ⟨i,oU.2 hi,rfl⟩
  ·rw[aiv fun l hl=>?_]
   have:=hs _ ((h3 _).2 (abR.2 ⟨l,hl, .inl rfl⟩))
   obtain⟨a,a1,a2⟩:=cr l hl
   rw[a2,a2] at this
   have sg: ∀z:Rat,Int.sign (a*z).num=Int.sign z.num:=fun z=>by
    rcases abk z with k|k|k
    ·subst k;rw[show a*0=0 by grind]
    ·rw[(adF _).2 k,(adF _).2 (aad a1 k)]
    ·rw[ajP k,ajP (by have:=aad (a:=a) (b:= -z) a1 (by grind);grind)]
   rw[sg,sg] at this
   exact this.symm
def inP(t:Tr)(p:PtQ):Bool:=(afa (ah8 (abv t p))).any fun v=>(ago t p v).1
def alP(t:Tr)(p:PtQ):Bool:=(afa (ah8 (abv t p))).all fun v=>(ago t p v).1
def ag9(t:Tr)(p:PtQ):Int:=if inP t p&&alP t p then 2 else if inP t p then 1 else 0
theorem auc{t:Tr}(ht:t.all LnQ.ok){p:PtQ}:inP t p=true↔axW t p true:=by
 unfold inP
 rw[kN]
 constructor
 ·rintro ⟨v,h1,h2⟩;exact⟨v,at4 ht h1,h2⟩
 ·rintro ⟨x,h1,h2⟩
  obtain⟨v,k1,k2⟩:=amq ht h1
  exact⟨v,k1,by rw[k2,h2]⟩
theorem axN{t:Tr}(ht:t.all LnQ.ok){p:PtQ}:alP t p=true↔ ¬axW t p false:=by
 unfold alP
 rw[gJ]
 constructor
 ·rintro h ⟨x,h1,h2⟩
  obtain⟨v,k1,k2⟩:=amq ht h1
  have:=h v k1
  rw[k2,h2] at this;cases this
 ·intro h v hv
  cases hb:(ago t p v).1 with
  |true=>rfl
  |false=>exact absurd ⟨v,at4 ht hv,hb⟩ h
theorem aut{t:Tr}(ht:t.all LnQ.ok){p:PtQ}:ag9 t p=2↔ ¬axW t p false:=by
 unfold ag9
 constructor
 ·intro h
  split at h
  ·rename_i k;rw[cZ] at k;exact(axN ht).1 k.2
  ·split at h<;>exact absurd h (by decide)
 ·intro h
  have h1:=(axN ht).2 h
  have h2:=(auc ht).2 ((axh ht p).resolve_right h)
  rw[h1,h2];rfl
theorem aqX{t:Tr}(ht:t.all LnQ.ok){p:PtQ}:ag9 t p=0↔ ¬axW t p true:=by
 unfold ag9
 constructor
 ·intro h k
  rw[(auc ht).2 k] at h
  split at h
  ·exact absurd h (by decide)
  ·exact absurd h (by decide)
 ·intro h
  have h1:inP t p=false:=by
   cases e:inP t p with
   |false=>rfl
   |true=>exact absurd ((auc ht).1 e) h
  rw[h1];rfl
theorem aoA{p v:PtQ}: ∀{u:Tr},Off u.lns p→(ago u p v).1=u.val p
 | .leaf b,_=>rfl
 | .node l x y,ho=>by
  have h0:=ho.l
  rw[ago,if_neg (fun e=>h0 ((ab3 _).1 e))]
  by_cases k:0<l.value p
  ·rw[(adF _).2 k,Tr.val_pos k];exact aoA ho.x
  ·rw[ajP (by grind),Tr.val_neg k];exact aoA ho.y
theorem auJ{t:Tr}(ht:t.all LnQ.ok){p:PtQ}(h:Off t.lns p):ag9 t p=if t.val p then 2 else 0:=by
 have key: ∀b,axW t p b→t.val p=b:=fun b ⟨v,_,h2⟩=>by rw[←h2,aoA h]
 cases hb:t.val p with
 |true=>exact(aut ht).2 fun k=>by have:=key _ k;rw[hb] at this;cases this
 |false=>exact(aqX ht).2 fun k=>by have:=key _ k;rw[hb] at this;cases this
theorem aiU{ls:List LnQ}(hb: ∀p∈ls,LB p)(hn:ls.length≤100000):PR GB prog 32 [.sl (ls.map eL)] 6 88 ((aa5 ls).map eL):=by
 have hm':=aau eL ls
 refine fnR (fu:=⟨15⟩) func32 J J ntmps32 J J (fun C hmb=>?_)
 refine eqF 8 (.d (vI (ls.length:Nat))) rfl (by rw[hm']<;>rfl) ?_
 refine gx rfl<|?_
 refine nr 3 3 88 6 J J J ?_
 refine lp (X:=List LnQ×Nat) (fun⟨xs,k⟩=>[(9, .d (vI (k:Nat))),(3, .rw 3)]) (fun⟨xs,k⟩=>[(3,some (.b 88 6 (xs.map eL) true))]) (fun⟨xs,k⟩=>xs=ah6 ael LnQ.canon ls k∧k≤ls.length) (fun⟨xs,k⟩=>ls.length-k) ⟨[],0⟩ rfl ⟨rfl,bX _⟩ (fun _=>rfl) (fun⟨xs,k⟩ hk=>?_)
 try dsimp only at hk⊢
 obtain⟨hS,hkl⟩:=hk
 refine br J J J (fun hc10=>?_) (fun hc10=>?_)
 ·
  have hk:k<ls.length:=by omega
  obtain⟨z,hm⟩: ∃m,m=ls[k]:=⟨_,rfl⟩
  have hz:ls[k]? =some z:=by rw[hm];exact aZ hk
  haveI hzb:LB z:=hm▸hb _ (cX hk)
  obtain⟨m,hmc⟩: ∃m,m=z.canon:=⟨_,rfl⟩
  haveI hmb:LB m:=by rw[hmc];infer_instance
  have hxl:=aau eL xs
  have hxn:xs.length≤k:=by rw[hS];exact ahj
  have hxb: ∀q∈xs,LB q:=fun q hq=>by rw[hS] at hq;obtain⟨z,hz,rfl⟩:=ag7 hq;haveI:=hb z hz;infer_instance
  refine ix (fu:=⟨1⟩) _ rfl (abC hk) rfl<|?_
  refine eqF 12 (.d (eL z)) rfl (by rw[hm];rfl) ?_
  refine gx rfl<|cl (fu:=⟨2⟩) rfl (aqi (l:=z)) rfl<|?_
  refine eqF 16 (.d (eL m)) rfl (by rw[hmc]) ?_
  refine gx (fu:=⟨10⟩) rfl<|?_
  refine mg (fu:=⟨0⟩) (X:=Nat) (fun n=>[(6, .d (vI (n:Nat)))]) (fun n=>[]) (fun n=>aj2 ael m xs=n) [6] [] rfl ?_ (fun _=>rfl) (fun n hnx=>?_)
  ·
   refine gx rfl<|?_
   refine lp (fu:=⟨6⟩) (X:=Nat) (fun n=>[(6, .d (vI (n:Nat)))]) (fun n=>[]) (fun n=>n≤xs.length∧ ∀j (h:j<xs.length),j<n→ael xs[j] m<0) (fun n=>xs.length-n) 0 rfl ⟨bX _,fun j _ hj=>absurd hj (by omega)⟩ (fun _=>rfl) (fun n hk=>?_)
   obtain⟨n1,n2⟩:=hk
   refine csS (v2:=fun hg21=>by simp only[aai];kernel_rfl) J J J J (fun hg21=>?_) (fun hg21=>?_)
   ·
    refine lb _ rfl (abC (by omega)) rfl<|cl rfl (ajm (l:=xs[n]'(by omega)) (m:=m) (hl:=hxb _ (cX (by omega))) (hm:=hmb)) rfl<|?_
    refine br J J J (fun hc30=>?_) (fun hc30=>?_)
    ·
     exact at_ (n+1) ⟨⟨by omega,fun j h hj=>by by_cases q:j=n;(subst q;exact hc30);exact n2 j h (by omega)⟩,(by omega)⟩
    ·
     exact at_ n (adn ael n1 n2 (fun h=>hc30))
   ·
    exact at_ n (adn ael n1 n2 (fun h=>absurd h (by omega)))
  ·
   have hnl:n≤xs.length:=by rw[←hnx];exact aho _ _ _
   rcases(show n=xs.length∨(∃h:n<xs.length,ael xs[n] m≠0)∨ ∃h:n<xs.length,ael xs[n] m=0 by by_cases q:n<xs.length;(by_cases q2:ael xs[n] m=0;exact .inr (.inr ⟨q,q2⟩);exact .inr (.inl ⟨q,q2⟩));exact .inl (by omega)) with hq|⟨hq,hq2⟩|⟨hq,hq2⟩
   ·
    have hnew: ∀h:n<xs.length,ael xs[n] m≠0:=fun h=>absurd h (by omega)
    obtain⟨ys,hys⟩: ∃ys,ys=xs.take n++m::xs.drop n:=⟨_,rfl⟩
    have hin:ac0 ael m xs=ys:=by rw[hys];exact acg ael hnx hnew
    have hyl:ys.length≤xs.length+1:=by rw[hys];simp;omega
    refine fzC 3 rfl ?_
    refine gx (fu:=⟨5⟩) rfl<|knT rfl (by show some (decide _)=some true;rw[decide_eq_true (by rw[hxl];omega)]) rfl<|s3 n _ J J J J (abz _) (by rw[hxl];exact hnl) rfl<|?_
    refine ro J J<|sc' n xs.length _ J J (by rw[hxl]) rfl (abz _) hnl (by omega) rfl<|ap _ J J (slD abz _ _ _) rfl<|ap (hv:=by simp only[aai];exact⟨by kernel_rfl,by omega⟩) (ho:=fun _=>⟨slT abz _ _,by simp⟩) (ys.map eL) rfl (by rw[hys,bK,bY,fS,hJ,aY (l:=xs.map eL) (i:=xs.length) (by simp)];rfl) (slI abz _ _ _ _) rfl<|?_
    refine rnE 56 3 rfl ?_
    exact at_ ⟨ys,k+1⟩ (by dsimp only;exact⟨⟨by rw[abl hz,←hS,←hmc];exact hin.symm,by omega⟩,(by omega)⟩)
   ·
    have hnew: ∀h:n<xs.length,ael xs[n] m≠0:=fun h=>hq2
    obtain⟨ys,hys⟩: ∃ys,ys=xs.take n++m::xs.drop n:=⟨_,rfl⟩
    have hin:ac0 ael m xs=ys:=by rw[hys];exact acg ael hnx hnew
    have hyl:ys.length≤xs.length+1:=by rw[hys];simp;omega
    refine fzC 3 rfl ?_
    refine gx (fu:=⟨5⟩) rfl<|knF rfl (by show some (decide _)=some false;rw[decide_eq_false (by rw[hxl];omega)]) rfl<|ix _ rfl (abC hq) rfl<|cl (fu:=⟨0⟩) rfl (ajm (l:=xs[n]'(by omega)) (m:=m) (hl:=hxb _ (cX (by omega))) (hm:=hmb)) rfl<|?_
    refine knT rfl (by show some (decide _)=some true;rw[decide_eq_true (by assumption)]) rfl<|s3 n _ J J J J (abz _) (by rw[hxl];exact hnl) rfl<|?_
    refine ro J J<|sc' n xs.length _ J J (by rw[hxl]) rfl (abz _) hnl (by omega) rfl<|ap _ J J (slD abz _ _ _) rfl<|ap (hv:=by simp only[aai];exact⟨by kernel_rfl,by omega⟩) (ho:=fun _=>⟨slT abz _ _,by simp⟩) (ys.map eL) rfl (by rw[hys,bK,bY,fS,hJ,aY (l:=xs.map eL) (i:=xs.length) (by simp)];rfl) (slI abz _ _ _ _) rfl<|?_
    refine rnE 56 3 rfl ?_
    exact at_ ⟨ys,k+1⟩ (by dsimp only;exact⟨⟨by rw[abl hz,←hS,←hmc];exact hin.symm,by omega⟩,(by omega)⟩)
   ·
    have hin:ac0 ael m xs=xs:=aeV ael hnx hq hq2
    refine gx (fu:=⟨5⟩) rfl<|knF rfl (by show some (decide _)=some false;rw[decide_eq_false (by rw[hxl];omega)]) rfl<|lb _ rfl (abC hq) rfl<|cl (fu:=⟨0⟩) rfl (ajm (l:=xs[n]'(by omega)) (m:=m) (hl:=hxb _ (cX (by omega))) (hm:=hmb)) rfl<|?_
    refine knF (hv:=by simp only[aai];exact⟨by kernel_rfl,by omega⟩) rfl (by show some (decide _)=some false;rw[decide_eq_false (fun h=>h hq2)]) rfl<|?_
    exact at_ ⟨xs,k+1⟩ (by dsimp only;exact⟨⟨by rw[abl hz,←hS,←hmc];exact hin.symm,by omega⟩,(by omega)⟩)
 ·
  have hfin:aa5 ls=xs:=by rw[hS,agS (by omega)];rfl
  exact rzR J J J (by rw[hfin])
theorem aqH{t:Tr}(hb:t.all LB)(hs:t.size≤100000):PR GB prog 33 [eT t] 6 88 ((aa5 t.lns).map eL):=by
 refine fnR func33 J J ntmps33 J J (fun C hmb=>?_)
 refine cr rfl (aoz hs) rfl<|fz 4 J J<|cr rfl (aiU (acB.1 hb) (by rw[agf];exact hs)) rfl<|?_
 exact rzR J J J J
theorem aFS{op:Int}{x y:Bool}:PF GB prog 35 [vI op,vB x,vB y] (vB (opB op x y)):=by
 refine fn func35 J J ntmps35 J J (fun C=>?_)
 refine br J J J (fun hc8=>?_) (fun hc8=>?_)
 ·
  refine csb 11 J J J (fun hg11=>?_) (fun hg11=>?_)
  ·
   exact rz rfl (by unfold opB;rw[if_pos hc8,hg11];rfl)
  ·
   exact rz rfl (by unfold opB;rw[if_pos hc8,hg11];rfl)
 ·
  refine br J J J (fun hc14=>?_) (fun hc14=>?_)
  ·
   refine csb 17 J J J (fun hg17=>?_) (fun hg17=>?_)
   ·
    exact rz rfl (by unfold opB;rw[if_neg hc8,if_pos hc14,hg17];rfl)
   ·
    exact rz rfl (by unfold opB;rw[if_neg hc8,if_pos hc14,hg17];rfl)
  ·
   refine br J J J (fun hc20=>?_) (fun hc20=>?_)
   ·
    refine csb 23 J J J (fun hg23=>?_) (fun hg23=>?_)
    ·
     exact rz rfl (by unfold opB;rw[if_neg hc8,if_neg hc14,if_pos hc20,hg23];rfl)
    ·
     exact rz rfl (by unfold opB;rw[if_neg hc8,if_neg hc14,if_pos hc20,hg23];rfl)
   ·
    exact rz rfl (by unfold opB;rw[if_neg hc8,if_neg hc14,if_neg hc20];rfl)
theorem den{op:Int}{a b:Tr}(ha:a.all LnQ.ok)(hb:b.all LnQ.ok){p:PtQ}(hp:p∈adW (aa5 (aa5 a.lns++aa5 b.lns))):ag9 (a.mergeQ op b []) p=if opB op (atQ a p) (atQ b p) then 2 else 0:=by
 have hd: ∀{L:List LnQ},(∀l∈L,l.ok)→ ∀l∈aa5 L,l.ok:=fun{L} h l hl=>by obtain⟨x,hx,rfl⟩:=afg hl;exact alE (h x hx)
 have hne: ∀l∈aa5 a.lns++aa5 b.lns,l.ok:=fun l hl=>(bV.1 hl).elim (hd (aek ha) l) (hd (aek hb) l)
 have h1:=alb.1 (atV (auO hne) hp)
 have oa:Off a.lns p:=alb.1 fun l hl=>h1 l (bN _ hl)
 have ob:Off b.lns p:=alb.1 fun l hl=>h1 l (cJ _ hl)
 have om:Off (a.mergeQ op b []).lns p:=fun l hl=>(bV.1 (aq4 (L:=a.lns++b.lns) (fun l hl=>bN _ hl) (fun l hl=>cJ _ hl) [] l hl)).elim (oa l) (ob l)
 rw[auJ (Tr.mergeQ_all LnQ.ok op hb a [] ha) om,ald oa,ald ob,Tr.val_merge op b hb a [] p ha acf.nil (az0 p) oa ob]
def RN.of(n:NQ):RN:=⟨⟨decide (n.l.a<0),dg n.l.a.natAbs,decide (n.l.b<0),dg n.l.b.natAbs,decide (n.l.c<0),dg n.l.c.natAbs⟩,n.a,n.b⟩
theorem aD5(ns:List NQ):ns.map eN=(ns.map RN.of).map RN.d:=by
 rw[List.map_map];rfl
theorem avp(t:Tr):eA t=eRT (t.num 0) ((t.wr 0).map RN.of):=by
 unfold eA eRT
 rw[aD5];rfl
theorem ava(a:Int):ahG (decide (a<0)) (dg a.natAbs)=a:=by
 unfold ahG
 rw[(aaK _).1]
 split
 ·rename_i h;have:=of_decide_eq_true h;omega
 ·rename_i h;have: ¬a<0:=fun e=>h (decide_eq_true e);omega
theorem aoB(a:Int):an6 (decide (a<0)) (dg a.natAbs):=⟨(aaK _).2.2,fun h=>ahw.2 (by have:=of_decide_eq_true h;omega)⟩
theorem RN.of_l(n:NQ):(RN.of n).g.l=n.l:=by
 unfold RN.of RL.l
 simp only[ava]
theorem RN.of_ln{n:NQ}(h:n.l.ok):(RN.of n).g.ln=some n.l:=by
 unfold RL.ln
 rw[if_pos ⟨⟨aoB _,aoB _,aoB _⟩,by rw[RN.of_l];exact h⟩,RN.of_l]
theorem RN.of_sm{n:NQ}(h:LB n.l):(RN.of n).g.sm:=by
 have key: ∀a:Int,a.natAbs<2^96→DOk (dg a.natAbs)∧(dg a.natAbs).length≤3:=fun a ha=>⟨(aaK _).2.1,by have:=aa9 ha;omega⟩
 exact⟨key _ h.bl.a,key _ h.bl.b,key _ h.bl.c⟩
theorem aeL(b:Bool)(k:Nat):ac7 b≠(k:Int):=by cases b<;>(unfold ac7;simp)
theorem RR.det{ns:List RN}{rt:Int}{s s1:RS}{t1:Tr}(h:RR ns rt s t1 s1): ∀{s2:RS} {t2:Tr},RR ns rt s t2 s2→t1=t2∧s1=s2:=by
 induction h with
 |leaf b s=>
  intro s2 t2 h
  generalize hr:ac7 b=r at h
  cases h with
  |leaf b' s=>
   have:b=b':=by cases b<;>cases b'<;>first|rfl|(simp[ac7] at hr)
   subst this;exact⟨rfl,rfl⟩
  |bad rt s h1 h2 h=>cases b<;>simp[ac7] at hr<;>omega
  |line k=>exact absurd hr (aeL _ _)
  |node k=>exact absurd hr (aeL _ _)
 |bad rt s h1 h2 h=>
  intro s2 t2 h'
  cases h' with
  |leaf b s=>cases b<;>simp[ac7] at h1 h2
  |bad=>exact⟨rfl,rfl⟩
  |line k n s hn hf=>
   have:=(aN.1 hn).1
   rcases h with h|h|⟨j,e,_,hj⟩
   ·omega
   ·omega
   ·have:j=k:=by omega
    subst this;rw[hf] at hj;cases hj
  |node k n l s s2 s3 x y hn hf=>
   have:=(aN.1 hn).1
   rcases h with h|h|⟨j,e,_,hj⟩
   ·omega
   ·omega
   ·have:j=k:=by omega
    subst this;rw[hf] at hj;cases hj
 |line k n s hn hf hl=>
  intro s2 t2 h'
  generalize hr:(k:Int)=r at h'
  cases h' with
  |leaf b s=>exact absurd hr.symm (aeL _ _)
  |bad rt s h1 h2 h=>
   have:=(aN.1 hn).1
   rcases h with h|h|⟨j,e,_,hj⟩
   ·omega
   ·omega
   ·have:j=k:=by omega
    subst this;rw[hf] at hj;cases hj
  |line k' n' s hn' hf' hl'=>
   have:k=k':=by omega
   subst this;exact⟨rfl,rfl⟩
  |node k' n' l s s2 s3 x y hn' hf' hl'=>
   have:k=k':=by omega
   subst this;rw[hn] at hn';cases hn';rw[hl] at hl';cases hl'
 |node k n l s s2 s3 x y hn hf hl h1 h2 i1 i2=>
  intro s4 t4 h'
  generalize hr:(k:Int)=r at h'
  cases h' with
  |leaf b s=>exact absurd hr.symm (aeL _ _)
  |bad rt s h1 h2 h=>
   have:=(aN.1 hn).1
   rcases h with h|h|⟨j,e,_,hj⟩
   ·omega
   ·omega
   ·have:j=k:=by omega
    subst this;rw[hf] at hj;cases hj
  |line k' n' s hn' hf' hl'=>
   have:k=k':=by omega
   subst this;rw[hn] at hn';cases hn';rw[hl] at hl';cases hl'
  |node k' n' l' s s2' s3' x' y' hn' hf' hl' h1' h2'=>
   have:k=k':=by omega
   subst this;rw[hn] at hn';cases hn';rw[hl] at hl';cases hl'
   obtain⟨rfl,rfl⟩:=i1 h1'
   obtain⟨rfl,rfl⟩:=i2 h2'
   exact⟨rfl,rfl⟩
def RT'(ns:List NQ):Tr→Int→List Nat→Prop
 | .leaf b,rt,L=>rt=ac7 b∧L=[]
 | .node l x y,rt,L=> ∃(k:Nat) (a b:Int) (L1 L2:List Nat),rt=(k:Int)∧ns[k]? =some ⟨l,a,b⟩∧RT' ns x a L1∧RT' ns y b L2∧L=k::(L1++L2)
theorem RT'.rr{ns:List NQ}: ∀{t:Tr} {rt:Int} {L:List Nat} {s:RS},RT' ns t rt L→t.all LnQ.ok→L.Nodup→(∀j∈L,s.f j=false)→ ∃f,RR (ns.map RN.of) rt s t ⟨f,s.c+t.size,s.b⟩∧ ∀j,j∉L→f j=s.f j
 | .leaf b,rt,L,s,⟨e,e2⟩,_,_,_=>by
  subst e e2
  exact⟨s.f, .leaf b s,fun _ _=>rfl⟩
 | .node l x y,rt,L,s,⟨k,a,b,L1,L2,e,hk,hx,hy,e2⟩,⟨h0,h1,h2⟩,hnd,hf=>by
  subst e e2
  obtain⟨hkn,hnd⟩:=List.nodup_cons.1 hnd
  obtain⟨hd1,hd2,hdis⟩:=List.nodup_append.1 hnd
  have hfk:=hf k aQ
  have hn1: ∀j∈L1,j≠k:=fun j hj e=>hkn (e▸bN _ hj)
  have hn2: ∀j∈L2,j≠k:=fun j hj e=>hkn (e▸cJ _ hj)
  obtain⟨f1,r1,g1⟩:=RT'.rr (s:=⟨anr s.f k,s.c+1,s.b⟩) hx h1 hd1 (fun j hj=>by simp only;rw[aiA (hn1 j hj)];exact hf j (aX _ (bN _ hj)))
  simp only at r1 g1
  obtain⟨f2,r2,g2⟩:=RT'.rr (s:=⟨f1,s.c+1+x.size,s.b⟩) hy h2 hd2 (fun j hj=>by
   simp only
   rw[g1 j (fun h=>hdis _ h _ hj rfl),aiA (hn2 j hj)]
   exact hf j (aX _ (cJ _ hj)))
  simp only at r2 g2
  have hc:s.c+(Tr.node l x y).size=s.c+1+x.size+y.size:=by simp only[Tr.size];omega
  rw[hc]
  refine⟨f2, .node k (RN.of ⟨l,a,b⟩) l s _ _ x y (by rw[dZ,hk];rfl) hfk (RN.of_ln h0) r1 r2,fun j hj=>?_⟩
  simp only[aT,bV,not_or] at hj
  rw[g2 j hj.2.2,g1 j hj.2.1,aiA hj.1]
theorem RT'.len{ns:List NQ}: ∀{t:Tr} {rt:Int} {L:List Nat},RT' ns t rt L→L.length=t.size
 | .leaf _,_,_,⟨_,h⟩=>by rw[h];rfl
 | .node l x y,_,_,⟨k,a,b,L1,L2,_,_,h1,h2,h⟩=>by
  rw[h,bJ,aV,RT'.len h1,RT'.len h2]
  simp only[Tr.size]
  omega
def RD'(ns:List NQ)(t:Tr)(rt:Int):Prop:= ∃L,RT' ns t rt L∧L.Nodup∧L.length=ns.length
theorem aBb{ns:List NQ}{t:Tr}{rt:Int}(h:RD' ns t rt)(ho:t.all LnQ.ok):ofQ (ns.map RN.of) rt=some t:=by
 obtain⟨L,h1,h2,h3⟩:=h
 obtain⟨f,r,_⟩:=h1.rr (s:=rs0) ho h2 (fun _ _=>rfl)
 have hr:=amM (ns:=ns.map RN.of) (m:=(ns.map RN.of).length+1) (rt:=rt) (s:=rs0) (by have:=agx (ns.map RN.of).length rs0.f;omega)
 obtain⟨e1,e2⟩:=hr.1.det r
 unfold ofQ
 simp only
 rw[e2,e1,if_pos ⟨rfl,by show rs0.c+t.size=_;rw[aJ,←h3,h1.len];show 0+_=_;omega⟩]
theorem azK{ns:List NQ}: ∀{t:Tr} {n:Nat},(∀i,i<t.size→ns[n+i]? =(t.wr n)[i]?)→RT' ns t (t.num n) (List.range' n t.size)
 | .leaf b,n,_=>⟨rfl,rfl⟩
 | .node l x y,n,h=>by
  have hsz:(Tr.node l x y).size=1+x.size+y.size:=rfl
  have hw:(Tr.node l x y).wr n=⟨l,x.num (n+1),y.num (n+1+x.size)⟩::(x.wr (n+1)++y.wr (n+1+x.size)):=by simp[Tr.wr]
  have hx:=x.wr_len (n+1)
  have hy:=y.wr_len (n+1+x.size)
  refine⟨n,x.num (n+1),y.num (n+1+x.size),List.range' (n+1) x.size,List.range' (n+1+x.size) y.size,rfl,?_,azK fun i hi=>?_,azK fun i hi=>?_,?_⟩
  ·have:=h 0 (by omega)
   rw[hw,dY] at this
   rw[this];rfl
  ·have:=h (1+i) (by omega)
   rw[hw,jQ 1 i,List.getElem?_cons_succ,fX (by omega)] at this
   rw[show n+1+i=n+(i+1) by omega];exact this
  ·have:=h (1+x.size+i) (by omega)
   rw[hw,show 1+x.size+i=(x.size+i)+1 by omega,List.getElem?_cons_succ,fV (by omega),hx,Nat.add_sub_cancel_left] at this
   rw[show n+1+x.size+i=n+(x.size+i+1) by omega];exact this
  ·rw[hsz,show 1+x.size+y.size=(x.size+y.size)+1 by omega,List.range'_succ,List.range'_append_1]
theorem aqF{t:Tr}(ho:t.all LnQ.ok):ofQ ((t.wr 0).map RN.of) (t.num 0)=some t:=
 aBb ⟨_,azK (n:=0) (fun i _=>by rw[dK]),List.nodup_range',by rw[List.length_range',t.wr_len]⟩ ho
theorem awS{t:Tr}(hb:t.all LB): ∀n∈(t.wr 0).map RN.of,n.g.sm:=fun n hn=>by
 obtain⟨m,hm,rfl⟩:=bR.1 hn
 exact RN.of_sm (Tr.all_wr 0 hb m hm)
def aGU(cs:List RL):Option (List LnQ):=if cs.all (fun r=>r.ln.isSome) then some (cs.filterMap RL.ln) else none
def aHd:Option (List LnQ)→DV
 |some ls=> .tp [.sl (ls.map eLn),vB true]
 |none=> .tp [.sl [],vB false]
def aG6:Option aan→DV
 |some c=> .tp [.sl (c.map eFr),vB true]
 |none=> .tp [.sl [],vB false]
def aGM(ai al:Addr)(more:Nat):Option Tr→DV
 |none=> .tp [.v (.pointer none),aAl ai]
 |some t=>if 1024<t.depth+more then .tp [.v (.pointer none),aAl al] else .tp [eU t, .v .nilIface]
def aG7(ai:Addr)(f:Tr→Tr):Option Tr→Tr ⊕ Addr
 |some t=> .inl (f t)
 |none=> .inr ai
def aF9(ai ae:Addr):Option Tr→Option (List LnQ)→Tr ⊕ Addr
 |some t,some ls=>(match afk ls [] with
  |some c=> .inl (t.restrict c)
  |none=> .inr ae)
 |_,_=> .inr ai
def aGV(ai:Addr):Option LnQ→Option Tr→DV
 |some m,some t=> .tp [eA (t.restrict (aaR [] m)),eA (t.restrict (aaR [] m.rev)), .v .nilIface]
 |_,_=> .tp [trZ,trZ,aAl ai]

end Go.Sx
end
