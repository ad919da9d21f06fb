/-
  Reference: sorted points, distinct lines. Reference: spans: classes, probes, ends. Reference: the half of a line, segments. Reference: sets of marked gaps. Reference: the intersection of lists of spans. The abstract machine: elements of an array of the call's own. Reference: fragments split by a line. Reference: edges, winding numbers, regions of rings. Reference: regions made of rings of package api.
-/
import Derived.Test.YtlnphbkcelfboaaGreatDoorMr15
set_option linter.unusedSimpArgs false
set_option linter.unusedVariables false
section
set_option maxRecDepth 100000
namespace Go.Sx
open Go Go.Proofs
def sortK{α β:Type}(c:β→β→Int)(g:α→β)(l:List α)(k:Nat):List β:=sortG c ((l.take k).map g)
section
variable {α β:Type} {c:β→β→Int} {g:α→β} {l:List α} {k:Nat}
theorem sortK_succ{x:α}(h:l[k]? =some x):sortK c g l (k+1)=insG c (g x) (sortK c g l k):=by
 unfold sortK sortG
 rw[List.take_add_one,h,Option.toList_some,List.map_append,List.foldl_append];rfl
theorem sortK_all(h:k=l.length):sortK c g l k=sortG c (l.map g):=by unfold sortK;rw[h,List.take_length]
theorem sortK_len:(sortK c g l k).length≤k:=by
 have:=foldG_len c ((l.take k).map g) []
 have h2:((l.take k).map g).length≤k:=by rw[List.length_map,List.length_take];omega
 rw[List.length_nil] at this
 unfold sortK sortG
 omega
theorem sortK_mem{y:β}(h:y∈sortK c g l k): ∃x∈l,y=g x:=by
 rcases foldG_mem c h with h|h
 ·obtain⟨x,hx,rfl⟩:=List.mem_map.1 h
  exact⟨x,List.mem_of_mem_take hx,rfl⟩
 ·cases h
end
theorem slT{α:Type}{f:α→DV}{s:Nat}(ok: ∀l:List α,slOk s (l.map f))(xs:List α)(n:Nat):slOk s ((xs.map f).take n):=fun d hd=>ok xs d (List.mem_of_mem_take hd)
theorem slD{α:Type}{f:α→DV}{s:Nat}(ok: ∀l:List α,slOk s (l.map f))(xs:List α)(n m:Nat):slOk s (((xs.map f).take n).drop m):=fun d hd=>ok xs d (List.mem_of_mem_take (List.mem_of_mem_drop hd))
theorem slI{α:Type}{f:α→DV}{s:Nat}(ok: ∀l:List α,slOk s (l.map f))(xs:List α)(n m:Nat)(x:α):slOk s ([f x]++((xs.map f).take n).drop m):=fun d hd=>by
 rcases List.mem_append.1 hd with h|h
 ·exact ok [x] d h
 ·exact slD ok xs n m d h
theorem map_getN{α:Type}{f:α→DV}{l:List α}{i:Nat}(h:i<l.length):(l.map f)[(i:Int).toNat]? =some (f l[i]):=by
 rw[Int.toNat_natCast,List.getElem?_map,List.getElem?_eq_getElem h];rfl
set_option maxHeartbeats 4000000 in
theorem q_Sorted{GB:Gh}{ps:List PtQ}(hb: ∀p∈ps,BPt p 1200)(hn:ps.length≤100000):PF GB Tryz.prog 202 [.sl (ps.map eP)] (.sl ((sortG cmpP ps).map eP)):=by
 have hm':=map_len' eP ps
 refine fn (fu:=⟨15⟩) Tryz.func202 rfl rfl Tryz.ntmps202 rfl rfl (fun C=>?_)
 refine eqF 8 (.d (vI (ps.length:Nat))) rfl (by rw[hm'];rfl) ?_
 refine gx rfl<|?_
 refine nlC 3 rfl ?_
 refine lp (X:=List PtQ×Nat) (fun⟨xs,k⟩=>[(9, .d (vI (k:Nat))),(8, .d (vI (ps.length:Nat))),(7, .d (.sl (ps.map eP))),(0, .d (.sl (ps.map eP))),(3, .d (.sl (xs.map eP)))]) (fun⟨xs,k⟩=>[]) (fun⟨xs,k⟩=>xs=sortK cmpP id ps k∧k≤ps.length) (fun⟨xs,k⟩=>ps.length-k) ⟨[],0⟩ rfl ⟨rfl,Nat.zero_le _⟩ (fun _=>rfl) (fun⟨xs,k⟩ hk=>?_)
 try dsimp only at hk⊢
 obtain⟨hS,hkl⟩:=hk
 refine br rfl rfl rfl (fun hc10=>?_) (fun hc10=>?_)
 ·
  have hk:k<ps.length:=by omega
  obtain⟨m,hm⟩: ∃m,m=ps[k]:=⟨_,rfl⟩
  have hz:ps[k]? =some m:=by rw[hm];exact List.getElem?_eq_getElem hk
  haveI hmb:BPt m 1200:=hm▸hb _ (List.getElem_mem hk)
  have hxl:=map_len' eP xs
  have hxn:xs.length≤k:=by rw[hS];exact sortK_len
  have hxb: ∀q∈xs,BPt q 1200:=fun q hq=>by rw[hS] at hq;obtain⟨z,hz,he⟩:=sortK_mem hq;rw[he];exact hb z hz
  refine ix (fu:=⟨1⟩) _ rfl (map_getN hk) rfl<|?_
  refine eqF 12 (.d (eP m)) rfl (by rw[hm];rfl) ?_
  refine gx (fu:=⟨10⟩) rfl<|?_
  refine mg (fu:=⟨5⟩) (X:=Unit) (fun _=>[(9, .d (vI (k:Nat))),(8, .d (vI (ps.length:Nat))),(7, .d (.sl (ps.map eP))),(0, .d (.sl (ps.map eP))),(3, .d (.sl (xs.map eP))),(5, .ov 5 0),(6, .d (vI (idxG cmpP m xs:Nat)))]) (fun _=>[(5,some (.o 86 [.d ((.v (.bool (decide (m.x.num<0))))), .d (dN m.x.num.natAbs), .d (dD m.x.den), .d ((.v (.bool (decide (m.y.num<0))))), .d (dN m.y.num.natAbs), .d (dD m.y.den)] true))]) (fun _=>True) [9,8,7,0,3,5,6] [5] rfl ?_ (fun _=>rfl) (fun _ _=>?_)
  ·
   refine gx rfl<|?_
   refine lp (fu:=⟨6⟩) (X:=Nat) (fun n=>[(9, .d (vI (k:Nat))),(8, .d (vI (ps.length:Nat))),(7, .d (.sl (ps.map eP))),(0, .d (.sl (ps.map eP))),(3, .d (.sl (xs.map eP))),(5, .ov 5 0),(6, .d (vI (n:Nat)))]) (fun n=>[(5,some (.o 86 [.d ((.v (.bool (decide (m.x.num<0))))), .d (dN m.x.num.natAbs), .d (dD m.x.den), .d ((.v (.bool (decide (m.y.num<0))))), .d (dN m.y.num.natAbs), .d (dD m.y.den)] true))]) (fun n=>n≤xs.length∧ ∀j (h:j<xs.length),j<n→cmpP xs[j] m<0) (fun n=>xs.length-n) 0 rfl ⟨Nat.zero_le _,fun j _ hj=>absurd hj (by omega)⟩ (fun _=>rfl) (fun n hk=>?_)
   obtain⟨n1,n2⟩:=hk
   refine csS (v2:=fun hg16=>by simp only[allP];kernel_rfl) rfl rfl rfl rfl (fun hg16=>?_) (fun hg16=>?_)
   ·
    refine ix _ rfl (map_getN (by omega)) rfl<|cl rfl (q_PCompare (p:=xs[n]'(by omega)) (q:=m) (hp:=hxb _ (List.getElem_mem (by omega))) (hq:=hmb)) rfl<|?_
    refine br rfl rfl rfl (fun hc25=>?_) (fun hc25=>?_)
    ·
     exact at_ (n+1) ⟨⟨by omega,fun j h hj=>by by_cases q:j=n;(subst q;exact hc25);exact n2 j h (by omega)⟩,(by omega)⟩
    ·
     have hidx:idxG cmpP m xs=n:=idxG_eq cmpP n1 n2 (fun h=>hc25)
     exact at_ () trivial
   ·
    have hidx:idxG cmpP m xs=n:=idxG_eq cmpP n1 n2 (fun h=>absurd h (by omega))
    exact at_ () trivial
  ·
   obtain⟨n,hnx⟩: ∃n,idxG cmpP m xs=n:=⟨_,rfl⟩
   rw[hnx]
   have hnl:n≤xs.length:=by rw[←hnx];exact idxG_le _ _ _
   refine csS (v1:=fun hg31=>by simp only[allP];kernel_rfl) rfl rfl rfl rfl (fun hg31=>?_) (fun hg31=>?_)
   ·
    have hnew: ∀h:n<xs.length,cmpP xs[n] m≠0:=fun h=>absurd h (by omega)
    obtain⟨ys,hys⟩: ∃ys,ys=xs.take n++m::xs.drop n:=⟨_,rfl⟩
    have hin:insG cmpP m xs=ys:=by rw[hys];exact insG_new cmpP hnx hnew
    have hyl:ys.length≤xs.length+1:=by rw[hys];simp;omega
    refine s3 n _ rfl rfl rfl rfl (slOkP _) (by rw[hxl];exact hnl) rfl<|ro rfl rfl<|sc' n xs.length _ rfl rfl (by rw[hxl]) rfl (slOkP _) hnl (by omega) rfl<|?_
    refine ap _ rfl rfl (slD slOkP _ _ _) rfl<|apf (hv:=by simp only[allP];exact⟨by kernel_rfl,by omega⟩) (ho:=fun _=>⟨slT slOkP _ _,by simp⟩) (ys.map eP) rfl (by rw[hys,List.map_append,List.map_cons,List.map_take,List.map_drop,List.take_of_length_le (l:=xs.map eP) (i:=xs.length) (by simp)];rfl) (slI slOkP _ _ _ _) rfl<|?_
    exact at_ ⟨ys,k+1⟩ (by dsimp only;exact⟨⟨by rw[sortK_succ hz,←hS];exact hin.symm,by omega⟩,(by omega)⟩)
   ·
    refine ix _ rfl (map_getN (by omega)) rfl<|cl rfl (q_PCompare (p:=xs[n]'(by omega)) (q:=m) (hp:=hxb _ (List.getElem_mem (by omega))) (hq:=hmb)) rfl<|?_
    refine br rfl rfl rfl (fun hc40=>?_) (fun hc40=>?_)
    ·
     have hnew: ∀h:n<xs.length,cmpP xs[n] m≠0:=fun h=>hc40
     obtain⟨ys,hys⟩: ∃ys,ys=xs.take n++m::xs.drop n:=⟨_,rfl⟩
     have hin:insG cmpP m xs=ys:=by rw[hys];exact insG_new cmpP hnx hnew
     have hyl:ys.length≤xs.length+1:=by rw[hys];simp;omega
     refine s3 n _ rfl rfl rfl rfl (slOkP _) (by rw[hxl];exact hnl) rfl<|ro rfl rfl<|sc' n xs.length _ rfl rfl (by rw[hxl]) rfl (slOkP _) hnl (by omega) rfl<|?_
     refine ap _ rfl rfl (slD slOkP _ _ _) rfl<|apf (hv:=by simp only[allP];exact⟨by kernel_rfl,by omega⟩) (ho:=fun _=>⟨slT slOkP _ _,by simp⟩) (ys.map eP) rfl (by rw[hys,List.map_append,List.map_cons,List.map_take,List.map_drop,List.take_of_length_le (l:=xs.map eP) (i:=xs.length) (by simp)];rfl) (slI slOkP _ _ _ _) rfl<|?_
     exact at_ ⟨ys,k+1⟩ (by dsimp only;exact⟨⟨by rw[sortK_succ hz,←hS];exact hin.symm,by omega⟩,(by omega)⟩)
    ·
     have hin:insG cmpP m xs=xs:=insG_old cmpP hnx (by omega) (Decidable.not_not.1 hc40)
     exact at_ ⟨xs,k+1⟩ (by dsimp only;exact⟨⟨by rw[sortK_succ hz,←hS];exact hin.symm,by omega⟩,(by omega)⟩)
 ·
  have hfin:sortG cmpP ps=xs:=by rw[hS,sortK_all (by omega),List.map_id]
  exact rz rfl (by rw[hfin];rfl)
def distQ(ls:List LnQ):List LnQ:=sortG lcmp (ls.map LnQ.canon)
set_option maxHeartbeats 4000000 in
theorem q_Distinct{GB:Gh}{ls:List LnQ}(hb: ∀p∈ls,LB p)(hn:ls.length≤100000):PF GB Tryz.prog 75 [.sl (ls.map eL)] (.sl ((distQ ls).map eL)):=by
 have hm':=map_len' eL ls
 refine fn (fu:=⟨15⟩) Tryz.func75 rfl rfl Tryz.ntmps75 rfl rfl (fun C=>?_)
 refine eqF 8 (.d (vI (ls.length:Nat))) rfl (by rw[hm'];rfl) ?_
 refine gx rfl<|?_
 refine nlC 3 rfl ?_
 refine lp (X:=List LnQ×Nat) (fun⟨xs,k⟩=>[(9, .d (vI (k:Nat))),(8, .d (vI (ls.length:Nat))),(7, .d (.sl (ls.map eL))),(0, .d (.sl (ls.map eL))),(3, .d (.sl (xs.map eL)))]) (fun⟨xs,k⟩=>[]) (fun⟨xs,k⟩=>xs=sortK lcmp LnQ.canon ls k∧k≤ls.length) (fun⟨xs,k⟩=>ls.length-k) ⟨[],0⟩ rfl ⟨rfl,Nat.zero_le _⟩ (fun _=>rfl) (fun⟨xs,k⟩ hk=>?_)
 try dsimp only at hk⊢
 obtain⟨hS,hkl⟩:=hk
 refine br rfl rfl rfl (fun hc10=>?_) (fun hc10=>?_)
 ·
  have hk:k<ls.length:=by omega
  obtain⟨z,hm⟩: ∃m,m=ls[k]:=⟨_,rfl⟩
  have hz:ls[k]? =some z:=by rw[hm];exact List.getElem?_eq_getElem hk
  haveI hzb:LB z:=hm▸hb _ (List.getElem_mem hk)
  obtain⟨m,hmc⟩: ∃m,m=z.canon:=⟨_,rfl⟩
  haveI hmb:LB m:=by rw[hmc];infer_instance
  have hxl:=map_len' eL xs
  have hxn:xs.length≤k:=by rw[hS];exact sortK_len
  have hxb: ∀q∈xs,LB q:=fun q hq=>by rw[hS] at hq;obtain⟨z,hz,rfl⟩:=sortK_mem hq;haveI:=hb z hz;infer_instance
  refine ix (fu:=⟨1⟩) _ rfl (map_getN hk) rfl<|?_
  refine eqF 12 (.d (eL z)) rfl (by rw[hm];rfl) ?_
  refine gx rfl<|cl (fu:=⟨2⟩) rfl (q_LCanon (l:=z)) rfl<|?_
  refine eqF 16 (.d (eL m)) rfl (by rw[hmc]) ?_
  refine gx (fu:=⟨10⟩) rfl<|?_
  refine mg (fu:=⟨5⟩) (X:=Unit) (fun _=>[(9, .d (vI (k:Nat))),(8, .d (vI (ls.length:Nat))),(7, .d (.sl (ls.map eL))),(0, .d (.sl (ls.map eL))),(3, .d (.sl (xs.map eL))),(5, .ov 5 0),(6, .d (vI (idxG lcmp m xs:Nat)))]) (fun _=>[(5,some (.o 46 [.d ((.v (.bool (decide (m.a<0))))), .d (dN m.a.natAbs), .d ((.v (.bool (decide (m.b<0))))), .d (dN m.b.natAbs), .d ((.v (.bool (decide (m.c<0))))), .d (dN m.c.natAbs)] true))]) (fun _=>True) [9,8,7,0,3,5,6] [5] rfl ?_ (fun _=>rfl) (fun _ _=>?_)
  ·
   refine gx rfl<|?_
   refine lp (fu:=⟨6⟩) (X:=Nat) (fun n=>[(9, .d (vI (k:Nat))),(8, .d (vI (ls.length:Nat))),(7, .d (.sl (ls.map eL))),(0, .d (.sl (ls.map eL))),(3, .d (.sl (xs.map eL))),(5, .ov 5 0),(6, .d (vI (n:Nat)))]) (fun n=>[(5,some (.o 46 [.d ((.v (.bool (decide (m.a<0))))), .d (dN m.a.natAbs), .d ((.v (.bool (decide (m.b<0))))), .d (dN m.b.natAbs), .d ((.v (.bool (decide (m.c<0))))), .d (dN m.c.natAbs)] true))]) (fun n=>n≤xs.length∧ ∀j (h:j<xs.length),j<n→lcmp xs[j] m<0) (fun n=>xs.length-n) 0 rfl ⟨Nat.zero_le _,fun j _ hj=>absurd hj (by omega)⟩ (fun _=>rfl) (fun n hk=>?_)
   obtain⟨n1,n2⟩:=hk
   refine csS (v2:=fun hg21=>by simp only[allP];kernel_rfl) rfl rfl rfl rfl (fun hg21=>?_) (fun hg21=>?_)
   ·
    refine ix _ rfl (map_getN (by omega)) rfl<|cl rfl (q_LCmp (l:=xs[n]'(by omega)) (m:=m) (hl:=hxb _ (List.getElem_mem (by omega))) (hm:=hmb)) rfl<|?_
    refine br rfl rfl rfl (fun hc30=>?_) (fun hc30=>?_)
    ·
     exact at_ (n+1) ⟨⟨by omega,fun j h hj=>by by_cases q:j=n;(subst q;exact hc30);exact n2 j h (by omega)⟩,(by omega)⟩
    ·
     have hidx:idxG lcmp m xs=n:=idxG_eq lcmp n1 n2 (fun h=>hc30)
     exact at_ () trivial
   ·
    have hidx:idxG lcmp m xs=n:=idxG_eq lcmp n1 n2 (fun h=>absurd h (by omega))
    exact at_ () trivial
  ·
   obtain⟨n,hnx⟩: ∃n,idxG lcmp m xs=n:=⟨_,rfl⟩
   rw[hnx]
   have hnl:n≤xs.length:=by rw[←hnx];exact idxG_le _ _ _
   refine csS (v1:=fun hg36=>by simp only[allP];kernel_rfl) rfl rfl rfl rfl (fun hg36=>?_) (fun hg36=>?_)
   ·
    have hnew: ∀h:n<xs.length,lcmp xs[n] m≠0:=fun h=>absurd h (by omega)
    obtain⟨ys,hys⟩: ∃ys,ys=xs.take n++m::xs.drop n:=⟨_,rfl⟩
    have hin:insG lcmp m xs=ys:=by rw[hys];exact insG_new lcmp hnx hnew
    have hyl:ys.length≤xs.length+1:=by rw[hys];simp;omega
    refine s3 n _ rfl rfl rfl rfl (slOkL _) (by rw[hxl];exact hnl) rfl<|ro rfl rfl<|sc' n xs.length _ rfl rfl (by rw[hxl]) rfl (slOkL _) hnl (by omega) rfl<|?_
    refine ap _ rfl rfl (slD slOkL _ _ _) rfl<|apf (hv:=by simp only[allP];exact⟨by kernel_rfl,by omega⟩) (ho:=fun _=>⟨slT slOkL _ _,by simp⟩) (ys.map eL) rfl (by rw[hys,List.map_append,List.map_cons,List.map_take,List.map_drop,List.take_of_length_le (l:=xs.map eL) (i:=xs.length) (by simp)];rfl) (slI slOkL _ _ _ _) rfl<|?_
    exact at_ ⟨ys,k+1⟩ (by dsimp only;exact⟨⟨by rw[sortK_succ hz,←hS,←hmc];exact hin.symm,by omega⟩,(by omega)⟩)
   ·
    refine ix _ rfl (map_getN (by omega)) rfl<|cl rfl (q_LCmp (l:=xs[n]'(by omega)) (m:=m) (hl:=hxb _ (List.getElem_mem (by omega))) (hm:=hmb)) rfl<|?_
    refine br rfl rfl rfl (fun hc45=>?_) (fun hc45=>?_)
    ·
     have hnew: ∀h:n<xs.length,lcmp xs[n] m≠0:=fun h=>hc45
     obtain⟨ys,hys⟩: ∃ys,ys=xs.take n++m::xs.drop n:=⟨_,rfl⟩
     have hin:insG lcmp m xs=ys:=by rw[hys];exact insG_new lcmp hnx hnew
     have hyl:ys.length≤xs.length+1:=by rw[hys];simp;omega
     refine s3 n _ rfl rfl rfl rfl (slOkL _) (by rw[hxl];exact hnl) rfl<|ro rfl rfl<|sc' n xs.length _ rfl rfl (by rw[hxl]) rfl (slOkL _) hnl (by omega) rfl<|?_
     refine ap _ rfl rfl (slD slOkL _ _ _) rfl<|apf (hv:=by simp only[allP];exact⟨by kernel_rfl,by omega⟩) (ho:=fun _=>⟨slT slOkL _ _,by simp⟩) (ys.map eL) rfl (by rw[hys,List.map_append,List.map_cons,List.map_take,List.map_drop,List.take_of_length_le (l:=xs.map eL) (i:=xs.length) (by simp)];rfl) (slI slOkL _ _ _ _) rfl<|?_
     exact at_ ⟨ys,k+1⟩ (by dsimp only;exact⟨⟨by rw[sortK_succ hz,←hS,←hmc];exact hin.symm,by omega⟩,(by omega)⟩)
    ·
     have hin:insG lcmp m xs=xs:=insG_old lcmp hnx (by omega) (Decidable.not_not.1 hc45)
     exact at_ ⟨xs,k+1⟩ (by dsimp only;exact⟨⟨by rw[sortK_succ hz,←hS,←hmc];exact hin.symm,by omega⟩,(by omega)⟩)
 ·
  have hfin:distQ ls=xs:=by rw[hS,sortK_all (by omega)];rfl
  exact rz rfl (by rw[hfin];rfl)
end Go.Sx
end

section
set_option maxRecDepth 100000
namespace Go.Sx
open Go Go.Proofs
theorem slOkV(vs:List IvQ):slOk 8 (vs.map eV):=fun d hd=>by
 obtain⟨u,_,rfl⟩:=List.mem_map.1 hd;exact⟨rfl,rfl⟩
theorem slOkQ(qs:List Rat):slOk 3 (qs.map eQ):=fun d hd=>by
 obtain⟨u,_,rfl⟩:=List.mem_map.1 hd;exact⟨rfl,rfl⟩
theorem slOkB(bs:List Bool):slOk 1 (bs.map vB):=fun d hd=>by
 obtain⟨u,_,rfl⟩:=List.mem_map.1 hd;exact⟨rfl,rfl⟩
theorem cls_step{l:List IvQ}{k:Nat}{v:IvQ}{t:Rat}{a b:Int}(h:l[k]? =some v)(ha:a=if v.nl then 1 else rcmp t v.lo)(hb:b=if v.nh then-1 else rcmp t v.hi):
  clsQ (l.drop k) t=if 0<a∧b<0 then 2 else if(a=0∧b≤0)∨(b=0∧0≤a) then 1 else clsQ (l.drop (k+1)) t:=by
 obtain⟨hk,rfl⟩:=List.getElem?_eq_some_iff.1 h
 rw[List.drop_eq_getElem_cons hk,clsQ,ha,hb]
structure IvB (v:IvQ):Prop where
 lo:BQ v.lo 1200
 hi:BQ v.hi 1200
set_option maxHeartbeats 1000000 in
theorem q_FClass{GB:Gh}{l:List IvQ}{t:Rat}{i:Nat}[ht:BQ t i](hb: ∀v∈l,IvB v)(hn:l.length≤100000)(hi:i≤20000:=by decide):PF GB Tryz.prog 286 [.sl (l.map eV),eQ t] (vI (clsQ l t)):=by
 have hm:=map_len' eV l
 refine fn (fu:=⟨11⟩) Tryz.func286 rfl rfl Tryz.ntmps286 rfl rfl (fun C=>?_)
 refine eqF 10 (.d (vI (l.length:Nat))) rfl (by rw[hm]<;>rfl) ?_
 refine gx rfl<|?_
 refine lp (X:=Nat) (fun k=>[(11, .d (vI (k:Nat)))]) (fun k=>[]) (fun k=>k≤l.length∧clsQ (l.drop k) t=clsQ l t) (fun k=>l.length-k) 0 rfl ⟨Nat.zero_le _,rfl⟩ (fun _=>rfl) (fun k hk=>?_)
 obtain⟨h1,h2⟩:=hk
 refine br rfl rfl rfl (fun hc12=>?_) (fun hc12=>?_)
 ·
  obtain⟨v,hz⟩: ∃s,l[k]? =some s:=⟨_,List.getElem?_eq_getElem (by omega)⟩
  have hv:=hb v (List.mem_of_getElem? hz)
  haveI:=hv.lo
  haveI:=hv.hi
  refine ix (fu:=⟨12⟩) _ rfl (map_getS hz) rfl<|?_
  refine mg (fu:=⟨1⟩) (X:=Int) (fun a=>[(7, .d (vI a))]) (fun a=>[]) (fun a=>a=if v.nl then 1 else rcmp t v.lo) [7] [] rfl ?_ (fun _=>rfl) (fun a ha=>?_)
  ·
   refine gx rfl<|?_
   refine bb rfl rfl rfl (fun hc17=>?_) (fun hc17=>?_)
   ·
    refine cl rfl (q_C (a:=t) (b:=v.lo) (i:=i) (by omega)) rfl<|?_
    exact at_ (rcmp t v.lo) (by rw[if_neg (by simpa using hc17)])
   ·
    exact at_ 1 (by rw[if_pos (by simpa using hc17)])
  ·
   refine mg (X:=Int) (fun b=>[(8, .d (vI b))]) (fun b=>[]) (fun b=>b=if v.nh then-1 else rcmp t v.hi) [8] [] rfl ?_ (fun _=>rfl) (fun b hb'=>?_)
   ·
    refine gx rfl<|?_
    refine bb rfl rfl rfl (fun hc24=>?_) (fun hc24=>?_)
    ·
     refine cl rfl (q_C (a:=t) (b:=v.hi) (i:=i) (by omega)) rfl<|?_
     exact at_ (rcmp t v.hi) (by rw[if_neg (by simpa using hc24)])
    ·
     exact at_ (-1) (by rw[if_pos (by simpa using hc24)])
   ·
    have hst:=cls_step hz ha hb'
    refine cs 31 rfl rfl rfl (fun hg31=>?_) (fun hg31=>?_)
    ·
     refine br rfl rfl rfl (fun hc34=>?_) (fun hc34=>?_)
     ·
      exact rz rfl (by first|(rw[←h2,List.drop_length];rfl)|(rw[←h2,hst,if_pos (by omega)];rfl)|(rw[←h2,hst,if_neg (by omega),if_pos (by omega)];rfl))
     ·
      refine cs 37 rfl rfl rfl (fun hg37=>?_) (fun hg37=>?_)
      ·
       refine cs 41 rfl rfl rfl (fun hg41=>?_) (fun hg41=>?_)
       ·
        exact rz rfl (by first|(rw[←h2,List.drop_length];rfl)|(rw[←h2,hst,if_pos (by omega)];rfl)|(rw[←h2,hst,if_neg (by omega),if_pos (by omega)];rfl))
       ·
        refine cs 44 rfl rfl rfl (fun hg44=>?_) (fun hg44=>?_)
        ·
         refine br rfl rfl rfl (fun hc48=>?_) (fun hc48=>?_)
         ·
          exact rz rfl (by first|(rw[←h2,List.drop_length];rfl)|(rw[←h2,hst,if_pos (by omega)];rfl)|(rw[←h2,hst,if_neg (by omega),if_pos (by omega)];rfl))
         ·
          exact at_ (k+1) ⟨⟨by omega,by rw[←h2,hst,if_neg (by omega),if_neg (by omega)]⟩,(by omega)⟩
        ·
         exact at_ (k+1) ⟨⟨by omega,by rw[←h2,hst,if_neg (by omega),if_neg (by omega)]⟩,(by omega)⟩
      ·
       refine cs 44 rfl rfl rfl (fun hg44=>?_) (fun hg44=>?_)
       ·
        refine br rfl rfl rfl (fun hc48=>?_) (fun hc48=>?_)
        ·
         exact rz rfl (by first|(rw[←h2,List.drop_length];rfl)|(rw[←h2,hst,if_pos (by omega)];rfl)|(rw[←h2,hst,if_neg (by omega),if_pos (by omega)];rfl))
        ·
         exact at_ (k+1) ⟨⟨by omega,by rw[←h2,hst,if_neg (by omega),if_neg (by omega)]⟩,(by omega)⟩
       ·
        exact at_ (k+1) ⟨⟨by omega,by rw[←h2,hst,if_neg (by omega),if_neg (by omega)]⟩,(by omega)⟩
    ·
     refine cs 37 rfl rfl rfl (fun hg37=>?_) (fun hg37=>?_)
     ·
      refine cs 41 rfl rfl rfl (fun hg41=>?_) (fun hg41=>?_)
      ·
       exact rz rfl (by first|(rw[←h2,List.drop_length];rfl)|(rw[←h2,hst,if_pos (by omega)];rfl)|(rw[←h2,hst,if_neg (by omega),if_pos (by omega)];rfl))
      ·
       refine cs 44 rfl rfl rfl (fun hg44=>?_) (fun hg44=>?_)
       ·
        refine br rfl rfl rfl (fun hc48=>?_) (fun hc48=>?_)
        ·
         exact rz rfl (by first|(rw[←h2,List.drop_length];rfl)|(rw[←h2,hst,if_pos (by omega)];rfl)|(rw[←h2,hst,if_neg (by omega),if_pos (by omega)];rfl))
        ·
         exact at_ (k+1) ⟨⟨by omega,by rw[←h2,hst,if_neg (by omega),if_neg (by omega)]⟩,(by omega)⟩
       ·
        exact at_ (k+1) ⟨⟨by omega,by rw[←h2,hst,if_neg (by omega),if_neg (by omega)]⟩,(by omega)⟩
     ·
      refine cs 44 rfl rfl rfl (fun hg44=>?_) (fun hg44=>?_)
      ·
       refine br rfl rfl rfl (fun hc48=>?_) (fun hc48=>?_)
       ·
        exact rz rfl (by first|(rw[←h2,List.drop_length];rfl)|(rw[←h2,hst,if_pos (by omega)];rfl)|(rw[←h2,hst,if_neg (by omega),if_pos (by omega)];rfl))
       ·
        exact at_ (k+1) ⟨⟨by omega,by rw[←h2,hst,if_neg (by omega),if_neg (by omega)]⟩,(by omega)⟩
      ·
       exact at_ (k+1) ⟨⟨by omega,by rw[←h2,hst,if_neg (by omega),if_neg (by omega)]⟩,(by omega)⟩
 ·
  obtain rfl:k=l.length:=by omega
  exact rz rfl (by first|(rw[←h2,List.drop_length];rfl)|(rw[←h2,hst,if_pos (by omega)];rfl)|(rw[←h2,hst,if_neg (by omega),if_pos (by omega)];rfl))
theorem q_Fin{GB:Gh}{l:List IvQ}{t:Rat}{i:Nat}[ht:BQ t i](hb: ∀v∈l,IvB v)(hn:l.length≤100000)(hi:i≤20000:=by decide):PF GB Tryz.prog 260 [.sl (l.map eV),eQ t] (vB (insQ2 l t)):=by
 refine fn Tryz.func260 rfl rfl Tryz.ntmps260 rfl rfl (fun C=>?_)
 refine cl rfl (q_FClass (l:=l) (t:=t) hb hn hi) rfl<|?_
 exact rz rfl rfl
theorem mids_snoc: ∀{l:List Rat} {i:Nat} {a b:Rat},l[i]? =some a→l[i+1]? =some b→midsR (l.take (i+2))=midsR (l.take (i+1))++[(a+b)/2]
 |[],i,a,b,h,_=>by simp at h
 |[_],i,a,b,h,k=>by simp at k
 |c::d::t,0,a,b,h,k=>by
  simp at h k;subst h;subst k
  simp[midsR]
 |c::d::t,i+1,a,b,h,k=>by
  have:=mids_snoc (l:=d::t) (i:=i) (by simpa using h) (by simpa using k)
  rw[show(c::d::t).take (i+1+2)=c::d::t.take (i+1) by simp,show(c::d::t).take (i+1+1)=c::d::t.take i by simp,midsR,midsR,List.cons_append]
  congr 1
theorem midsR_len: ∀l:List Rat,(midsR l).length≤l.length
 |[]=>Nat.le_refl _
 |[_]=>Nat.zero_le _
 |a::b::t=>by rw[midsR,List.length_cons,List.length_cons];exact Nat.succ_le_succ (midsR_len (b::t))
theorem gaps_cons{a:Rat}{t:List Rat}{z:Rat}(h:(a::t)[t.length]? =some z):gapsR (a::t)=(a-1)::(midsR (a::t)++[z+1]):=by
 rw[gapsR]
 have:(a::t).getLast (by simp)=z:=by
  rw[List.getLast_eq_getElem]
  have:=List.getElem?_eq_some_iff.1 h
  obtain⟨h1,h2⟩:=this
  rw[←h2];congr 1
 rw[this]
set_option maxHeartbeats 1000000 in
theorem q_Probes{GB:Gh}{cuts:List Rat}(hb: ∀q∈cuts,BQ q 1200)(hn:cuts.length≤100000):PF GB Tryz.prog 259 [.sl (cuts.map eQ)] (.sl ((gapsR cuts).map eQ)):=by
 have hm:=map_len' eQ cuts
 refine fn (fu:=⟨10⟩) Tryz.func259 rfl rfl Tryz.ntmps259 rfl rfl (fun C=>?_)
 refine eqF 6 (.d (vI (cuts.length:Nat))) rfl (by rw[hm]<;>rfl) ?_
 refine gx rfl<|?_
 refine br rfl rfl rfl (fun hc7=>?_) (fun hc7=>?_)
 ·
  obtain rfl:cuts=[]:=List.eq_nil_of_length_eq_zero (by omega)
  refine rf rfl rfl<|?_
  exact rz rfl (by rw[gapsR];show DV.sl [_]=DV.sl [_];rw[eQ_zero])
 ·
  obtain⟨a,ct,rfl⟩: ∃a t,cuts=a::t:=by cases cuts with|nil=>exact absurd rfl hc7|cons a t=>exact⟨a,t,rfl⟩
  haveI hab:=hb a List.mem_cons_self
  have hcl:ct.length+1≤100000:=hn
  refine ix _ rfl rfl rfl<|cl rfl (q_Of (n:=1) (by decide) (by decide)) rfl<|cl (fu:=⟨0⟩) rfl (q_Sub (a:=a) (b:=((1:Int):Rat))) rfl<|?_
  refine eqF 14 (.d (eQ (a-1))) rfl rfl ?_
  refine gx rfl<|ro rfl rfl<|?_
  refine lp (fu:=⟨6⟩) (X:=Nat) (fun i=>[(4, .d (vI ((i+1:Nat):Int))),(3, .rw 15)]) (fun i=>[(15,some (.b 84 3 (((a-1)::midsR ((a::ct).take (i+1))).map eQ) true))]) (fun i=>i≤ct.length) (fun i=>ct.length-i) 0 rfl (Nat.zero_le _) (fun _=>rfl) (fun i hk=>?_)
  have hm2:=map_len' eQ (a::ct)
  have hml:=midsR_len (a::ct.take i)
  rw[List.length_cons,List.length_take] at hml
  have hml2:=midsR_len (a::ct)
  rw[List.length_cons] at hml2
  refine eqF 18 (.d (vI ((ct.length+1:Nat):Int))) rfl (by rw[hm2]<;>rfl) ?_
  refine gx rfl<|?_
  refine br (fu2:=⟨11⟩) rfl rfl rfl (fun hc19=>?_) (fun hc19=>?_)
  ·
   obtain⟨u,hu⟩: ∃s,(a::ct)[i]? =some s:=⟨_,List.getElem?_eq_getElem (by simp;omega)⟩
   obtain⟨w,hw⟩: ∃s,(a::ct)[i+1]? =some s:=⟨_,List.getElem?_eq_getElem (by simp;omega)⟩
   haveI:=hb u (List.mem_of_getElem? hu)
   haveI:=hb w (List.mem_of_getElem? hw)
   refine ix _ rfl (by rw[show((((i+1:Nat):Int))-1).toNat=i by omega,List.getElem?_map,hu];rfl) rfl<|ix _ rfl (by rw[Int.toNat_natCast,List.getElem?_map,hw];rfl) rfl<|?_
   refine cl rfl (q_Mid (a:=u) (b:=w)) rfl<|rf rfl rfl<|ap (hv:=by simp only[allP];exact⟨by kernel_rfl,by omega⟩) (((a-1)::midsR ((a::ct).take (i+1+1))).map eQ) rfl (by rw[mids_snoc hu hw,←List.cons_append,List.map_append];rfl) (slOkQ [(u+w)/2]) rfl<|?_
   refine rnE 34 15 rfl ?_
   exact at_ (i+1) ⟨(by omega),(by omega)⟩
  ·
   obtain rfl:i=ct.length:=by omega
   obtain⟨z,hz⟩: ∃s,(a::ct)[ct.length]? =some s:=⟨_,List.getElem?_eq_getElem (by simp)⟩
   haveI:=hb z (List.mem_of_getElem? hz)
   rw[show(a::ct).take (ct.length+1)=a::ct from List.take_length (l:=a::ct)]
   refine eqF 38 (.d (vI ((ct.length+1:Nat):Int))) rfl (by rw[hm2]<;>rfl) ?_
   refine gx rfl<|ix _ rfl (by rw[show((((ct.length+1:Nat):Int))-1).toNat=ct.length by omega,List.getElem?_map,hz];rfl) rfl<|cl rfl (q_Of (n:=1) (by decide) (by decide)) rfl<|?_
   refine cl rfl (q_Plus (a:=z) (b:=((1:Int):Rat))) rfl<|rf rfl rfl<|ap ((gapsR (a::ct)).map eQ) rfl (by rw[gaps_cons hz,←List.cons_append,List.map_append];rfl) (slOkQ [z+1]) rfl<|?_
   refine fzE 45 rfl ?_
   exact rz rfl rfl
theorem endS_len(o:List Rat)(s:IvQ):(endS o s).length≤o.length+2:=by
 unfold endS
 have h:=fun(x:Rat) (l:List Rat)=>insR_G (x:=x) (l:=l)▸insG_len rcmp x l
 have h1:=h s.lo o
 have h2:=h s.hi o
 have h3:=h s.hi (insR s.lo o)
 split<;>split<;>omega
def endsK(l:List IvQ)(k:Nat):List Rat:=endsQ (l.take k)
theorem endsK_succ{l:List IvQ}{k:Nat}{v:IvQ}(h:l[k]? =some v):endsK l (k+1)=endS (endsK l k) v:=by
 unfold endsK endsQ;rw[List.take_add_one,h,List.foldl_append];rfl
theorem endsK_len(l:List IvQ): ∀k,(endsK l k).length≤2*k
 |0=>Nat.le_refl _
 |k+1=>by
  cases h:l[k]? with
  |none=>
   have:=endsK_len l k
   unfold endsK at*
   rw[List.take_add_one,h];simp;omega
  |some v=>rw[endsK_succ h];have:=endsK_len l k;have:=endS_len (endsK l k) v;omega
theorem endsK_bd{l:List IvQ}(hb: ∀v∈l,IvB v){k:Nat}: ∀y∈endsK l k,BQ y 1200:=fun y hy=>by
 obtain⟨s,hs,h⟩:=(endsQ_spec _).2 y hy
 have:=hb s (List.mem_of_mem_take hs)
 rcases h with⟨_,rfl⟩|⟨_,rfl⟩
 ·exact this.lo
 ·exact this.hi
def endJ(o:List Rat)(v:IvQ)(j:Nat):List Rat:=if j=0 then o else if j=1 then(if v.nl then o else insR v.lo o) else endS o v
def endX(v:IvQ)(j:Nat):Rat:=if j=0 then v.lo else v.hi
def endP(v:IvQ)(j:Nat):Bool:=if j=0 then v.nl else v.nh
theorem endJ_succ{o:List Rat}{v:IvQ}{j:Nat}(hj:j<2):endJ o v (j+1)=if endP v j then endJ o v j else insG rcmp (endX v j) (endJ o v j):=by
 have:j=0∨j=1:=by omega
 rcases this with rfl|rfl
 ·simp[endJ,endP,endX,insR_G]
 ·simp[endJ,endP,endX,endS,insR_G]
theorem endJ_len{o:List Rat}{v:IvQ}{j:Nat}(hj:j≤2):(endJ o v j).length≤o.length+2:=by
 unfold endJ
 have:=endS_len o v
 have h:=insR_G (x:=v.lo) (l:=o)▸insG_len rcmp v.lo o
 split
 ·omega
 ·split
  ·split<;>omega
  ·exact this
theorem endJ_bd{o:List Rat}(ho: ∀q∈o,BQ q 1200){v:IvQ}(hv:IvB v){j:Nat}(hj:j≤2): ∀q∈endJ o v j,BQ q 1200:=fun q hq=>by
 unfold endJ endS at hq
 have lo:=hv.lo
 have hi:=hv.hi
 split at hq
 ·exact ho q hq
 ·split at hq
  ·split at hq
   ·exact ho q hq
   ·rcases mem_insR.1 hq with rfl|hq
    ·exact lo
    ·exact ho q hq
  ·split at hq
   ·split at hq
    ·exact ho q hq
    ·rcases mem_insR.1 hq with rfl|hq
     ·exact lo
     ·exact ho q hq
   ·rcases mem_insR.1 hq with rfl|hq
    ·exact hi
    ·split at hq
     ·exact ho q hq
     ·rcases mem_insR.1 hq with rfl|hq
      ·exact lo
      ·exact ho q hq
set_option maxHeartbeats 4000000 in
theorem q_ends{GB:Gh}{l:List IvQ}(hb: ∀v∈l,IvB v)(hn:l.length≤10000):PF GB Tryz.prog 258 [.sl (l.map eV)] (.sl ((endsQ l).map eQ)):=by
 have hm:=map_len' eV l
 refine fn (fu:=⟨15⟩) Tryz.func258 rfl rfl Tryz.ntmps258 rfl rfl (fun C=>?_)
 refine eqF 10 (.d (vI (l.length:Nat))) rfl (by rw[hm]<;>rfl) ?_
 refine gx rfl<|?_
 refine nlC 3 rfl ?_
 refine lp (X:=List Rat×Nat) (fun⟨o,k⟩=>[(11, .d (vI (k:Nat))),(3, .d (.sl (o.map eQ)))]) (fun⟨o,k⟩=>[]) (fun⟨o,k⟩=>o=endsK l k∧k≤l.length) (fun⟨o,k⟩=>l.length-k) ([],0) rfl ⟨rfl,Nat.zero_le _⟩ (fun _=>rfl) (fun⟨o,k⟩ hk=>?_)
 dsimp only at hk⊢
 obtain⟨h1,h2⟩:=hk
 refine br rfl rfl rfl (fun hc12=>?_) (fun hc12=>?_)
 ·
  obtain⟨v,hz⟩: ∃s,l[k]? =some s:=⟨_,List.getElem?_eq_getElem (by omega)⟩
  have hv:=hb v (List.mem_of_getElem? hz)
  haveI:=hv.lo
  haveI:=hv.hi
  have hob:=endsK_bd hb (k:=k)
  have hol:=endsK_len l k
  rw[←h1] at hob hol
  refine ix _ rfl (map_getS hz) rfl<|rf rfl rfl<|?_
  refine lp (X:=List Rat×Nat) (fun⟨xs,j⟩=>[(21, .d (vI (j:Nat))),(3, .d (.sl (xs.map eQ)))]) (fun⟨xs,j⟩=>[]) (fun⟨xs,j⟩=>xs=endJ o v j∧j≤2) (fun⟨xs,j⟩=>2-j) (o,0) rfl ⟨rfl,by omega⟩ (fun _=>rfl) (fun⟨xs,j⟩ hk=>?_)
  dsimp only at hk⊢
  obtain⟨g1,g2⟩:=hk
  refine br rfl rfl rfl (fun hc22=>?_) (fun hc22=>?_)
  ·
   have hj2:j<2:=by have:=hc22;simp only[List.length_cons,List.length_nil] at this;omega
   obtain⟨m,hm2⟩: ∃m,m=endX v j:=⟨_,rfl⟩
   haveI hmb:BQ m 1200:=by rw[hm2];unfold endX;split;exact hv.lo;exact hv.hi
   have hxl:=map_len' eQ xs
   have hxn:xs.length≤2*k+2:=by rw[g1];have:=endJ_len (o:=o) (v:=v) (j:=j) g2;omega
   have hxb: ∀q∈xs,BQ q 1200:=by rw[g1];exact endJ_bd hob hv g2
   refine ix (fu:=⟨10⟩) _ rfl (by rw[Int.toNat_natCast];exact(show([v.lo,v.hi].map eQ)[j]? =some (eQ m) by rw[hm2];have:j=0∨j=1:=(by omega);rcases this with rfl|rfl<;>rfl)) rfl<|?_
   rcases(show j=0∨j=1 by omega) with rfl|rfl
   ·
    refine knT rfl rfl rfl<|?_
    refine csb (fu2:=⟨1⟩) 32 rfl rfl rfl (fun hg32=>?_) (fun hg32=>?_)
    ·
     exact at_ (xs,0+1) (by dsimp only;exact⟨⟨by rw[endJ_succ (by decide),if_pos (by simpa[endP] using hg32),←g1],by omega⟩,(by omega)⟩)
    ·
     refine knF (fu:=⟨16⟩) rfl rfl rfl<|?_
     refine mg (fu:=⟨5⟩) (X:=Nat) (fun n=>[(8, .d (vI (n:Nat)))]) (fun n=>[]) (fun n=>idxG rcmp m xs=n) [8] [] rfl ?_ (fun _=>rfl) (fun n hnx=>?_)
     ·
      refine gx rfl<|?_
      refine lp (fu:=⟨6⟩) (X:=Nat) (fun n=>[(8, .d (vI (n:Nat)))]) (fun n=>[]) (fun n=>n≤xs.length∧ ∀j (h:j<xs.length),j<n→rcmp xs[j] m<0) (fun n=>xs.length-n) 0 rfl ⟨Nat.zero_le _,fun j _ hj=>absurd hj (by omega)⟩ (fun _=>rfl) (fun n hk=>?_)
      obtain⟨n1,n2⟩:=hk
      refine csS (v2:=fun hg43=>by simp only[allP];kernel_rfl) rfl rfl rfl rfl (fun hg43=>?_) (fun hg43=>?_)
      ·
       refine ix _ rfl (map_getN (by omega)) rfl<|cl rfl (q_C (a:=xs[n]'(by omega)) (b:=m) (ha:=hxb _ (List.getElem_mem (by omega))) (hb:=hmb)) rfl<|?_
       refine br rfl rfl rfl (fun hc52=>?_) (fun hc52=>?_)
       ·
        exact at_ (n+1) ⟨⟨by omega,fun j h hj=>by by_cases q:j=n;(subst q;exact hc52);exact n2 j h (by omega)⟩,(by omega)⟩
       ·
        exact at_ n (idxG_eq rcmp n1 n2 (fun h=>hc52))
      ·
       exact at_ n (idxG_eq rcmp n1 n2 (fun h=>absurd h (by omega)))
     ·
      have hnl:n≤xs.length:=by rw[←hnx];exact idxG_le _ _ _
      refine csS (v1:=fun hg58=>by simp only[allP];kernel_rfl) rfl rfl rfl rfl (fun hg58=>?_) (fun hg58=>?_)
      ·
       have hnew: ∀h:n<xs.length,rcmp xs[n] m≠0:=fun h=>absurd h (by omega)
       obtain⟨ys,hys⟩: ∃ys,ys=xs.take n++m::xs.drop n:=⟨_,rfl⟩
       have hin:insG rcmp m xs=ys:=by rw[hys];exact insG_new rcmp hnx hnew
       have hyl:ys.length≤xs.length+1:=by rw[hys];simp;omega
       refine s3 n _ rfl rfl rfl rfl (slOkQ _) (by rw[hxl];exact hnl) rfl<|ro rfl rfl<|sc' n xs.length _ rfl rfl (by rw[hxl]) rfl (slOkQ _) hnl (by omega) rfl<|?_
       refine ap _ rfl rfl (slD slOkQ _ _ _) rfl<|apf (hv:=by simp only[allP];exact⟨by kernel_rfl,by omega⟩) (ho:=fun _=>⟨slT slOkQ _ _,by simp⟩) (ys.map eQ) rfl (by rw[hys,List.map_append,List.map_cons,List.map_take,List.map_drop,List.take_of_length_le (l:=xs.map eQ) (i:=xs.length) (by simp)];rfl) (slI slOkQ _ _ _ _) rfl<|?_
       exact at_ (ys,0+1) (by dsimp only;exact⟨⟨by rw[endJ_succ (by decide),if_neg (by simpa[endP] using hg32),←g1,←hm2,hin],by omega⟩,(by omega)⟩)
      ·
       refine ix _ rfl (map_getN (by omega)) rfl<|cl rfl (q_C (a:=xs[n]'(by omega)) (b:=m) (ha:=hxb _ (List.getElem_mem (by omega))) (hb:=hmb)) rfl<|?_
       refine br (fu2:=⟨7⟩) rfl rfl rfl (fun hc67=>?_) (fun hc67=>?_)
       ·
        have hnew: ∀h:n<xs.length,rcmp xs[n] m≠0:=fun h=>hc67
        obtain⟨ys,hys⟩: ∃ys,ys=xs.take n++m::xs.drop n:=⟨_,rfl⟩
        have hin:insG rcmp m xs=ys:=by rw[hys];exact insG_new rcmp hnx hnew
        have hyl:ys.length≤xs.length+1:=by rw[hys];simp;omega
        refine s3 n _ rfl rfl rfl rfl (slOkQ _) (by rw[hxl];exact hnl) rfl<|ro rfl rfl<|sc' n xs.length _ rfl rfl (by rw[hxl]) rfl (slOkQ _) hnl (by omega) rfl<|?_
        refine ap _ rfl rfl (slD slOkQ _ _ _) rfl<|apf (hv:=by simp only[allP];exact⟨by kernel_rfl,by omega⟩) (ho:=fun _=>⟨slT slOkQ _ _,by simp⟩) (ys.map eQ) rfl (by rw[hys,List.map_append,List.map_cons,List.map_take,List.map_drop,List.take_of_length_le (l:=xs.map eQ) (i:=xs.length) (by simp)];rfl) (slI slOkQ _ _ _ _) rfl<|?_
        exact at_ (ys,0+1) (by dsimp only;exact⟨⟨by rw[endJ_succ (by decide),if_neg (by simpa[endP] using hg32),←g1,←hm2,hin],by omega⟩,(by omega)⟩)
       ·
        have hin:insG rcmp m xs=xs:=insG_old rcmp hnx (by omega) (Decidable.not_not.1 hc67)
        exact at_ (xs,0+1) (by dsimp only;exact⟨⟨by rw[endJ_succ (by decide),if_neg (by simpa[endP] using hg32),←g1,←hm2,hin],by omega⟩,(by omega)⟩)
   ·
    refine knF (fu:=⟨6⟩) rfl rfl rfl<|knT rfl rfl rfl<|?_
    refine bb (fu2:=⟨8⟩) rfl rfl rfl (fun hc39=>?_) (fun hc39=>?_)
    ·
     exact at_ (xs,1+1) (by dsimp only;exact⟨⟨by rw[endJ_succ (by decide),if_pos (by simpa[endP] using hc39),←g1],by omega⟩,(by omega)⟩)
    ·
     refine mg (fu:=⟨5⟩) (X:=Nat) (fun n=>[(8, .d (vI (n:Nat)))]) (fun n=>[]) (fun n=>idxG rcmp m xs=n) [8] [] rfl ?_ (fun _=>rfl) (fun n hnx=>?_)
     ·
      refine gx rfl<|?_
      refine lp (fu:=⟨6⟩) (X:=Nat) (fun n=>[(8, .d (vI (n:Nat)))]) (fun n=>[]) (fun n=>n≤xs.length∧ ∀j (h:j<xs.length),j<n→rcmp xs[j] m<0) (fun n=>xs.length-n) 0 rfl ⟨Nat.zero_le _,fun j _ hj=>absurd hj (by omega)⟩ (fun _=>rfl) (fun n hk=>?_)
      obtain⟨n1,n2⟩:=hk
      refine csS (v2:=fun hg43=>by simp only[allP];kernel_rfl) rfl rfl rfl rfl (fun hg43=>?_) (fun hg43=>?_)
      ·
       refine ix _ rfl (map_getN (by omega)) rfl<|cl rfl (q_C (a:=xs[n]'(by omega)) (b:=m) (ha:=hxb _ (List.getElem_mem (by omega))) (hb:=hmb)) rfl<|?_
       refine br rfl rfl rfl (fun hc52=>?_) (fun hc52=>?_)
       ·
        exact at_ (n+1) ⟨⟨by omega,fun j h hj=>by by_cases q:j=n;(subst q;exact hc52);exact n2 j h (by omega)⟩,(by omega)⟩
       ·
        exact at_ n (idxG_eq rcmp n1 n2 (fun h=>hc52))
      ·
       exact at_ n (idxG_eq rcmp n1 n2 (fun h=>absurd h (by omega)))
     ·
      have hnl:n≤xs.length:=by rw[←hnx];exact idxG_le _ _ _
      refine csS (v1:=fun hg58=>by simp only[allP];kernel_rfl) rfl rfl rfl rfl (fun hg58=>?_) (fun hg58=>?_)
      ·
       have hnew: ∀h:n<xs.length,rcmp xs[n] m≠0:=fun h=>absurd h (by omega)
       obtain⟨ys,hys⟩: ∃ys,ys=xs.take n++m::xs.drop n:=⟨_,rfl⟩
       have hin:insG rcmp m xs=ys:=by rw[hys];exact insG_new rcmp hnx hnew
       have hyl:ys.length≤xs.length+1:=by rw[hys];simp;omega
       refine s3 n _ rfl rfl rfl rfl (slOkQ _) (by rw[hxl];exact hnl) rfl<|ro rfl rfl<|sc' n xs.length _ rfl rfl (by rw[hxl]) rfl (slOkQ _) hnl (by omega) rfl<|?_
       refine ap _ rfl rfl (slD slOkQ _ _ _) rfl<|apf (hv:=by simp only[allP];exact⟨by kernel_rfl,by omega⟩) (ho:=fun _=>⟨slT slOkQ _ _,by simp⟩) (ys.map eQ) rfl (by rw[hys,List.map_append,List.map_cons,List.map_take,List.map_drop,List.take_of_length_le (l:=xs.map eQ) (i:=xs.length) (by simp)];rfl) (slI slOkQ _ _ _ _) rfl<|?_
       exact at_ (ys,1+1) (by dsimp only;exact⟨⟨by rw[endJ_succ (by decide),if_neg (by simpa[endP] using hc39),←g1,←hm2,hin],by omega⟩,(by omega)⟩)
      ·
       refine ix _ rfl (map_getN (by omega)) rfl<|cl rfl (q_C (a:=xs[n]'(by omega)) (b:=m) (ha:=hxb _ (List.getElem_mem (by omega))) (hb:=hmb)) rfl<|?_
       refine br rfl rfl rfl (fun hc67=>?_) (fun hc67=>?_)
       ·
        have hnew: ∀h:n<xs.length,rcmp xs[n] m≠0:=fun h=>hc67
        obtain⟨ys,hys⟩: ∃ys,ys=xs.take n++m::xs.drop n:=⟨_,rfl⟩
        have hin:insG rcmp m xs=ys:=by rw[hys];exact insG_new rcmp hnx hnew
        have hyl:ys.length≤xs.length+1:=by rw[hys];simp;omega
        refine s3 n _ rfl rfl rfl rfl (slOkQ _) (by rw[hxl];exact hnl) rfl<|ro rfl rfl<|sc' n xs.length _ rfl rfl (by rw[hxl]) rfl (slOkQ _) hnl (by omega) rfl<|?_
        refine ap _ rfl rfl (slD slOkQ _ _ _) rfl<|apf (hv:=by simp only[allP];exact⟨by kernel_rfl,by omega⟩) (ho:=fun _=>⟨slT slOkQ _ _,by simp⟩) (ys.map eQ) rfl (by rw[hys,List.map_append,List.map_cons,List.map_take,List.map_drop,List.take_of_length_le (l:=xs.map eQ) (i:=xs.length) (by simp)];rfl) (slI slOkQ _ _ _ _) rfl<|?_
        exact at_ (ys,1+1) (by dsimp only;exact⟨⟨by rw[endJ_succ (by decide),if_neg (by simpa[endP] using hc39),←g1,←hm2,hin],by omega⟩,(by omega)⟩)
       ·
        have hin:insG rcmp m xs=xs:=insG_old rcmp hnx (by omega) (Decidable.not_not.1 hc67)
        exact at_ (xs,1+1) (by dsimp only;exact⟨⟨by rw[endJ_succ (by decide),if_neg (by simpa[endP] using hc39),←g1,←hm2,hin],by omega⟩,(by omega)⟩)
  ·
   have hj2: ¬j<2:=by have:=hc22;simp only[List.length_cons,List.length_nil] at this;omega
   exact at_ (xs,k+1) (by dsimp only;exact⟨⟨by rw[endsK_succ hz,←h1,g1,show j=2 by omega];rfl,by omega⟩,(by omega)⟩)
 ·
  have hfin:endsQ l=o:=by rw[h1,show k=l.length by omega];unfold endsK;rw[List.take_length]
  exact rz rfl (by rw[hfin];rfl)
end Go.Sx
end

section
set_option maxRecDepth 100000
namespace Go.Sx
open Go Go.Proofs
theorem eV_half1(t:Rat):eV ⟨t,0,false,true⟩= .ag [.v (.bool (decide (t.num<0))),dN t.num.natAbs,dD t.den, .v (.bool false), .sl [], .sl [], .v (.bool false), .v (.bool true)]:=by
 unfold eV dD
 simp only[show(0:Rat).num=0 from rfl,show(0:Rat).den=1 from rfl,Int.natAbs_zero,dN_zero];rfl
theorem eV_half2(t:Rat):eV ⟨0,t,true,false⟩= .ag [.v (.bool false), .sl [], .sl [], .v (.bool (decide (t.num<0))),dN t.num.natAbs,dD t.den, .v (.bool true), .v (.bool false)]:=by
 unfold eV dD
 simp only[show(0:Rat).num=0 from rfl,show(0:Rat).den=1 from rfl,Int.natAbs_zero,dN_zero];rfl
def halfD(l m:LnQ)(side:Int):DV:= .tp [.sl ((halfQ l m side).map eV),vB (onB l m)]
theorem onB_cross{l m:LnQ}(h:crossI l m≠0):onB l m=false:=by unfold onB;rw[decide_eq_false];exact fun e=>h e.1
theorem onB_par{l m:LnQ}(h:crossI l m=0):onB l m=decide ((m.value l.base).num.sign=0):=by unfold onB;simp[h]
set_option maxHeartbeats 1000000 in
theorem q_half6{GB:Gh}{l m:LnQ}{side:Int}[hl:LB l][hm:LB m](hlo:l.ok)(hmo:m.ok)(hs:side=1∨side= -1):PF GB Tryz.prog 222 [eL l,eL m,vI side] (halfD l m side):=by
 refine fn Tryz.func222 rfl rfl Tryz.ntmps222 rfl rfl (fun C=>?_)
 refine cl rfl (q_Meet (l:=l) (m:=m)) rfl<|?_
 refine bb rfl rfl rfl (fun hc19=>?_) (fun hc19=>?_)
 ·
  have hc:crossI l m=0:=by simpa using hc19
  refine cl rfl (q_Base hlo.ne) rfl<|cl rfl (q_Side (l:=m) (p:=l.base)) rfl<|?_
  refine br rfl rfl rfl (fun hc26=>?_) (fun hc26=>?_)
  ·
   refine cl rfl q_Full rfl<|rf rfl rfl<|?_
   exact rz rfl (by unfold halfD halfQ;rw[if_pos hc,if_pos hc26,onB_par hc];rfl)
  ·
   exact rz rfl (by unfold halfD halfQ;rw[if_pos hc,if_neg hc26,onB_par hc];rfl)
 ·
  have hc:crossI l m≠0:=by simpa using hc19
  haveI hpb:=param_bd (l:=l) (m:=m) hlo.ne hc
  obtain⟨t,ht⟩: ∃t,t=paramQ l (meetP l m):=⟨_,rfl⟩
  refine cl (fu:=⟨0⟩) rfl (q_Param (l:=l) (p:=meetP l m) hlo.ne) rfl<|?_
  refine eqF 35 (.d (eQ t)) rfl (by rw[ht]) ?_
  rw[←ht] at hpb
  refine gx rfl<|cl rfl (q_Of (n:=1) (by decide) (by decide)) rfl<|cl rfl (q_Plus (a:=t) (b:=((1:Int):Rat))) rfl<|cl rfl (q_At (l:=l) (t:=t+((1:Int):Rat)) hlo.ne) rfl<|?_
  refine cl rfl (q_Side (l:=m) (p:=l.at (t+((1:Int):Rat)))) rfl<|?_
  refine br rfl rfl rfl (fun hc44=>?_) (fun hc44=>?_)
  ·
   refine rf rfl rfl<|?_
   exact rz rfl (by unfold halfD halfQ;rw[if_neg hc,←ht,if_pos (show(m.value (l.at (t+1))).num.sign=side from hc44),onB_cross hc,List.map_cons,eV_half1];rfl)
  ·
   refine rf rfl rfl<|?_
   exact rz rfl (by unfold halfD halfQ;rw[if_neg hc,←ht,if_neg (show¬(m.value (l.at (t+1))).num.sign=side from hc44),onB_cross hc,List.map_cons,eV_half2];rfl)
def eFF(f:FrQ):DV:= .ag [.v (.bool (decide (f.l.a<0))),dN f.l.a.natAbs, .v (.bool (decide (f.l.b<0))),dN f.l.b.natAbs, .v (.bool (decide (f.l.c<0))),dN f.l.c.natAbs, .v (.bool (decide (f.v.lo.num<0))),dN f.v.lo.num.natAbs,dD f.v.lo.den, .v (.bool (decide (f.v.hi.num<0))),dN f.v.hi.num.natAbs,dD f.v.hi.den, .v (.bool f.v.nl), .v (.bool f.v.nh)]
theorem slOkFF(fs:List FrQ):slOk 14 (fs.map eFF):=fun d hd=>by
 obtain⟨u,_,rfl⟩:=List.mem_map.1 hd;exact⟨rfl,rfl⟩
theorem bpZ{p:ZP}(h:ZP.le 100 p):BPt p.q 12:=by
 haveI:BI p.1 11:=biC (by have:=h.1;omega) (by decide)
 haveI:BI p.2 11:=biC (by have:=h.2;omega) (by decide)
 exact(inferInstance:BPt (iP p.1 p.2) 12)
set_option maxHeartbeats 1000000 in
theorem q_Segment{GB:Gh}{v w:ZP}(hv:ZP.le 100 v)(hw:ZP.le 100 w)(h:v≠w):PF GB Tryz.prog 172 [eP v.q,eP w.q] (.tp [eFF (edgeZ v w),vB true]):=by
 have hne: ¬(w.1=v.1∧w.2=v.2):=fun e=>h (Prod.ext e.1.symm e.2.symm)
 obtain⟨hlb,hlo⟩:=thr_LB (m:=v.1) (n:=v.2) (p:=w.1) (q:=w.2) (by have:=hv.1;omega) (by have:=hv.2;omega) (by have:=hw.1;omega) (by have:=hw.2;omega) hne
 haveI:=hlb
 haveI:=bpZ hv
 haveI:=bpZ hw
 refine fn Tryz.func172 rfl rfl Tryz.ntmps172 rfl rfl (fun C=>?_)
 refine cl (fu:=⟨3⟩) rfl (q_Through (m:=v.1) (n:=v.2) (m':=w.1) (n':=w.2) (by have:=hv.1;omega) (by have:=hv.2;omega) (by have:=hw.1;omega) (by have:=hw.2;omega) (fun e=>hne ⟨e.1.symm,e.2.symm⟩)) rfl<|?_
 refine kbT 13 rfl ?_
 refine gx rfl<|cl rfl (q_Param (l:=thrL v.1 v.2 w.1 w.2) (p:=v.q) hlo.ne) rfl<|cl rfl (q_Param (l:=thrL v.1 v.2 w.1 w.2) (p:=w.q) hlo.ne) rfl<|?_
 exact rz rfl rfl
end Go.Sx
end

section
set_option maxRecDepth 100000
namespace Go.Sx
open Go Go.Proofs
theorem eV_00(a b:Bool):eV ⟨0,0,a,b⟩= .ag [.v (.bool false), .sl [], .sl [], .v (.bool false), .sl [], .sl [], .v (.bool a), .v (.bool b)]:=by
 unfold eV dD
 simp only[show(0:Rat).num=0 from rfl,show(0:Rat).den=1 from rfl,Int.natAbs_zero,dN_zero];rfl
theorem eV_l0(t:Rat)(a b:Bool):eV ⟨t,0,a,b⟩= .ag [.v (.bool (decide (t.num<0))),dN t.num.natAbs,dD t.den, .v (.bool false), .sl [], .sl [], .v (.bool a), .v (.bool b)]:=by
 unfold eV dD
 simp only[show(0:Rat).num=0 from rfl,show(0:Rat).den=1 from rfl,Int.natAbs_zero,dN_zero];rfl
theorem eV_0l(t:Rat)(a b:Bool):eV ⟨0,t,a,b⟩= .ag [.v (.bool false), .sl [], .sl [], .v (.bool (decide (t.num<0))),dN t.num.natAbs,dD t.den, .v (.bool a), .v (.bool b)]:=by
 unfold eV dD
 simp only[show(0:Rat).num=0 from rfl,show(0:Rat).den=1 from rfl,Int.natAbs_zero,dN_zero];rfl
theorem gapI_00{cuts:List Rat}{i:Nat}(h:i=0)(k: ¬i<cuts.length):gapI cuts i=⟨0,0,decide (i=0),decide (i=cuts.length)⟩:=by unfold gapI;rw[if_pos h,if_neg k]
theorem gapI_0l{cuts:List Rat}{i:Nat}{y:Rat}(h:i=0)(k:cuts[i]? =some y):gapI cuts i=⟨0,y,decide (i=0),decide (i=cuts.length)⟩:=by
 unfold gapI;rw[if_pos h,if_pos (List.getElem?_eq_some_iff.1 k).1,List.getD_eq_getElem?_getD,k];rfl
theorem gapI_l0{cuts:List Rat}{i:Nat}{x:Rat}(h: ¬i=0)(k:cuts[i-1]? =some x)(k2: ¬i<cuts.length):gapI cuts i=⟨x,0,decide (i=0),decide (i=cuts.length)⟩:=by
 unfold gapI;rw[if_neg h,if_neg k2,List.getD_eq_getElem?_getD,k];rfl
theorem gapI_ll{cuts:List Rat}{i:Nat}{x y:Rat}(h: ¬i=0)(k:cuts[i-1]? =some x)(k2:cuts[i]? =some y):gapI cuts i=⟨x,y,decide (i=0),decide (i=cuts.length)⟩:=by
 unfold gapI;rw[if_neg h,if_pos (List.getElem?_eq_some_iff.1 k2).1,List.getD_eq_getElem?_getD,k,List.getD_eq_getElem?_getD,k2];rfl
theorem fromN_no{cuts:List Rat}{marks:List Bool}{k:Nat}(h:marks[k]? =some false):fromN cuts marks (k+1)=fromN cuts marks k:=by
 rw[fromN,List.getD_eq_getElem?_getD,h];rfl
theorem fromN_new{cuts:List Rat}{marks:List Bool}{k:Nat}(h:marks[k]? =some true)(hp: ¬(0<k∧marks[k-1]? =some true)):fromN cuts marks (k+1)=fromN cuts marks k++[gapI cuts k]:=by
 rw[fromN,List.getD_eq_getElem?_getD,h]
 show(if 0<k∧_ then _ else _)=_
 rw[if_neg]
 rintro ⟨h1,h2⟩
 rw[List.getD_eq_getElem?_getD] at h2
 cases e:marks[k-1]? with
 |none=>rw[e] at h2;cases h2
 |some b=>rw[e] at h2;exact hp ⟨h1,by rw[e];simp at h2;rw[h2]⟩
theorem fromN_ne{cuts:List Rat}{marks:List Bool}{k:Nat}(h:marks[k]? =some true):fromN cuts marks (k+1)≠[]:=by
 rw[fromN,List.getD_eq_getElem?_getD,h]
 show(if 0<k∧_ then _ else _)≠[]
 split
 ·split<;>simp
 ·simp
theorem fromN_join{cuts:List Rat}{marks:List Bool}{k:Nat}{xs:List IvQ}{v:IvQ}(hk:0<k)(h:marks[k]? =some true)(hp:marks[k-1]? =some true)(hx:fromN cuts marks k=xs)(hv:xs[xs.length-1]? =some v):fromN cuts marks (k+1)=xs.set (xs.length-1) (setHi v (gapI cuts k)):=by
 rw[fromN,List.getD_eq_getElem?_getD,h]
 show(if 0<k∧_ then _ else _)=_
 rw[if_pos ⟨hk,by rw[List.getD_eq_getElem?_getD,hp];rfl⟩,hx,List.getLast?_eq_getElem?,hv]
 have hn:0<xs.length:=by
  have:=(List.getElem?_eq_some_iff.1 hv).1;omega
 show xs.dropLast++[_]=_
 apply List.ext_getElem?
 intro i
 rw[List.getElem?_set]
 by_cases hi:i<xs.length-1
 ·rw[List.getElem?_append_left (by rw[List.length_dropLast];exact hi),List.getElem?_dropLast,if_pos hi,if_neg (by omega)]
 ·by_cases hi2:i=xs.length-1
  ·subst hi2
   rw[List.getElem?_append_right (by rw[List.length_dropLast];exact Nat.le_refl _),List.length_dropLast,Nat.sub_self,if_pos rfl,if_pos (by omega)];rfl
  ·rw[List.getElem?_eq_none (by rw[List.length_append,List.length_dropLast];simp;omega),if_neg (by omega),List.getElem?_eq_none (by omega)]
theorem map_getP{α:Type}{f:α→DV}{l:List α}{k:Nat}{x:α}(hk:0<k)(h:l[k-1]? =some x):(l.map f)[(((k:Nat):Int)-1).toNat]? =some (f x):=by
 rw[show(((k:Nat):Int)-1).toNat=k-1 by omega,List.getElem?_map,h];rfl
theorem decK{k n:Nat}:decide (k=n)=decide (((k:Nat):Int)=((n:Nat):Int)):=decide_eq_decide.2 (by omega)
def setH1(v w:IvQ):IvQ:=⟨v.lo,w.hi,v.nl,v.nh⟩
set_option maxHeartbeats 4000000 in
theorem q_From{GB:Gh}{cuts:List Rat}{marks:List Bool}(hn:cuts.length≤100000)(hmk:marks.length≤cuts.length+1):PF GB Tryz.prog 261 [.sl (cuts.map eQ), .sl (marks.map vB)] (.sl ((fromQ cuts marks).map eV)):=by
 have hm:=map_len' vB marks
 have hmc:=map_len' eQ cuts
 refine fn (fu:=⟨15⟩) Tryz.func261 rfl rfl Tryz.ntmps261 rfl rfl (fun C=>?_)
 refine eqF 11 (.d (vI (marks.length:Nat))) rfl (by rw[hm]<;>rfl) ?_
 refine gx rfl<|?_
 refine nr 5 5 184 8 rfl rfl rfl ?_
 refine lp (X:=List IvQ×Nat) (fun⟨xs,k⟩=>[(12, .d (vI (k:Nat))),(5, .rw 5)]) (fun⟨xs,k⟩=>[(5,some (.b 184 8 (xs.map eV) true))]) (fun⟨xs,k⟩=>xs=fromN cuts marks k∧k≤marks.length) (fun⟨xs,k⟩=>marks.length-k) ([],0) rfl ⟨rfl,Nat.zero_le _⟩ (fun _=>rfl) (fun⟨xs,k⟩ hk=>?_)
 dsimp only at hk⊢
 obtain⟨h1,h2⟩:=hk
 have hml:=map_len' eV xs
 have hxl:xs.length≤k:=by rw[h1];exact fromN_len
 refine br rfl rfl rfl (fun hc13=>?_) (fun hc13=>?_)
 ·
  obtain⟨b,hz⟩: ∃s,marks[k]? =some s:=⟨_,List.getElem?_eq_getElem (by omega)⟩
  refine ix (fu:=⟨8⟩) _ rfl (map_getS hz) rfl<|?_
  cases b
  ·
   refine knF (fu:=⟨12⟩) rfl rfl rfl<|?_
   exact at_ (xs,k+1) (by dsimp only;exact⟨⟨by rw[fromN_no hz,←h1],by omega⟩,(by omega)⟩)
  ·
   refine knT (fu:=⟨13⟩) rfl rfl rfl<|?_
   rcases(show(k=0∧k<cuts.length)∨(k=0∧ ¬k<cuts.length)∨(0<k∧k<cuts.length)∨(0<k∧ ¬k<cuts.length) by omega) with⟨c1,c2⟩|⟨c1,c2⟩|⟨c1,c2⟩|⟨c1,c2⟩
   ·
    obtain⟨y,hy⟩: ∃s,cuts[k]? =some s:=⟨_,List.getElem?_eq_getElem (by omega)⟩
    have hgap:=gapI_0l (cuts:=cuts) (i:=k) c1 hy
    have hnp: ¬(0<k∧marks[k-1]? =some true):=fun e=>by omega
    refine eqF 23 (.d (vI (cuts.length:Nat))) rfl (by rw[hmc]<;>rfl) ?_
    refine gx (fu:=⟨10⟩) rfl<|knF (fu:=⟨11⟩) rfl (by show some (decide _)=some false;rw[decide_eq_false (by omega)]) rfl<|?_
    refine eqF 36 (.d (vI (cuts.length:Nat))) rfl (by rw[hmc]<;>rfl) ?_
    refine gx (fu:=⟨0⟩) rfl<|knT rfl (by show some (decide _)=some true;rw[decide_eq_true (by omega)]) rfl<|ix (fu:=⟨10⟩) _ rfl (map_getS hy) rfl<|?_
    refine eqF 44 (.d (vI (xs.length:Nat))) rfl (by rw[hml]<;>rfl) ?_
    refine gx (fu:=⟨6⟩) rfl<|knF (fu:=⟨19⟩) rfl (by show some (decide _)=some false;rw[decide_eq_false (by omega)]) rfl<|?_
    refine eqF 73 (.d (eV (gapI cuts k))) rfl (by rw[hgap,eV_0l,decK (k:=k) (n:=0),decK (k:=k) (n:=cuts.length)]<;>rfl) ?_
    refine gx rfl<|rf rfl rfl<|ap (fu:=⟨12⟩) ((xs++[gapI cuts k]).map eV) rfl (by rw[List.map_append];rfl) (slOkV [gapI cuts k]) rfl<|?_
    refine rnE 75 5 rfl ?_
    exact at_ (xs++[gapI cuts k],k+1) (by dsimp only;exact⟨⟨by rw[fromN_new hz hnp,←h1],by omega⟩,(by omega)⟩)
   ·
    have hgap:=gapI_00 (cuts:=cuts) (i:=k) c1 c2
    have hnp: ¬(0<k∧marks[k-1]? =some true):=fun e=>by omega
    refine eqF 23 (.d (vI (cuts.length:Nat))) rfl (by rw[hmc]<;>rfl) ?_
    refine gx (fu:=⟨10⟩) rfl<|knF (fu:=⟨11⟩) rfl (by show some (decide _)=some false;rw[decide_eq_false (by omega)]) rfl<|?_
    refine eqF 36 (.d (vI (cuts.length:Nat))) rfl (by rw[hmc]<;>rfl) ?_
    refine gx (fu:=⟨0⟩) rfl<|knF (fu:=⟨10⟩) rfl (by show some (decide _)=some false;rw[decide_eq_false (by omega)]) rfl<|?_
    refine eqF 44 (.d (vI (xs.length:Nat))) rfl (by rw[hml]<;>rfl) ?_
    refine gx (fu:=⟨6⟩) rfl<|knF (fu:=⟨19⟩) rfl (by show some (decide _)=some false;rw[decide_eq_false (by omega)]) rfl<|?_
    refine eqF 73 (.d (eV (gapI cuts k))) rfl (by rw[hgap,eV_00,decK (k:=k) (n:=0),decK (k:=k) (n:=cuts.length)]<;>rfl) ?_
    refine gx rfl<|rf rfl rfl<|ap (fu:=⟨12⟩) ((xs++[gapI cuts k]).map eV) rfl (by rw[List.map_append];rfl) (slOkV [gapI cuts k]) rfl<|?_
    refine rnE 75 5 rfl ?_
    exact at_ (xs++[gapI cuts k],k+1) (by dsimp only;exact⟨⟨by rw[fromN_new hz hnp,←h1],by omega⟩,(by omega)⟩)
   ·
    obtain⟨x,hx⟩: ∃s,cuts[k-1]? =some s:=⟨_,List.getElem?_eq_getElem (by omega)⟩
    obtain⟨pb,hpb⟩: ∃s,marks[k-1]? =some s:=⟨_,List.getElem?_eq_getElem (by omega)⟩
    obtain⟨y,hy⟩: ∃s,cuts[k]? =some s:=⟨_,List.getElem?_eq_getElem (by omega)⟩
    have hgap:=gapI_ll (cuts:=cuts) (i:=k) (by omega) hx hy
    refine eqF 23 (.d (vI (cuts.length:Nat))) rfl (by rw[hmc]<;>rfl) ?_
    refine gx (fu:=⟨10⟩) rfl<|knT rfl (by show some (decide _)=some true;rw[decide_eq_true (by omega)]) rfl<|ix (fu:=⟨11⟩) _ rfl (map_getP (by omega) hx) rfl<|?_
    refine eqF 36 (.d (vI (cuts.length:Nat))) rfl (by rw[hmc]<;>rfl) ?_
    refine gx (fu:=⟨0⟩) rfl<|knT rfl (by show some (decide _)=some true;rw[decide_eq_true (by omega)]) rfl<|ix (fu:=⟨10⟩) _ rfl (map_getS hy) rfl<|?_
    refine eqF 44 (.d (vI (xs.length:Nat))) rfl (by rw[hml]<;>rfl) ?_
    refine gx (fu:=⟨6⟩) rfl<|knT rfl (by show some (decide _)=some true;rw[decide_eq_true (by omega)]) rfl<|ix _ rfl (map_getP (by omega) hpb) rfl<|?_
    refine csb (fu1:=⟨1⟩) (fu2:=⟨11⟩) 54 rfl rfl rfl (fun hg54=>?_) (fun hg54=>?_)
    ·
     have hpb':marks[k-1]? =some true:=by rw[hpb];congr 1
     have hxn:0<xs.length:=by rw[h1];have:=fromN_ne (cuts:=cuts) hpb';rw[show k-1+1=k by omega] at this;exact List.length_pos_iff.2 this
     obtain⟨w,hw⟩: ∃s,xs[xs.length-1]? =some s:=⟨_,List.getElem?_eq_getElem (by omega)⟩
     refine knT rfl (by show some (decide _)=some true;rw[decide_eq_true (by omega)]) rfl<|sb (eV w) ((xs.set (xs.length-1) (⟨w.lo,y,w.nl,w.nh⟩:IvQ)).map eV) rfl (map_getP hxn hw) rfl (by rw[show(((xs.length:Nat):Int)-1).toNat=xs.length-1 by omega,List.map_set];rfl) rfl<|?_
     refine sb (hv:=by simp only[allP];exact⟨by kernel_rfl,by omega⟩) (eV (⟨w.lo,y,w.nl,w.nh⟩:IvQ)) ((xs.set (xs.length-1) (setHi w (gapI cuts k))).map eV) rfl (by rw[show(((xs.length:Nat):Int)-1).toNat=xs.length-1 by omega,List.map_set,List.getElem?_set_self (by rw[hml];omega)]) rfl (by rw[show(((xs.length:Nat):Int)-1).toNat=xs.length-1 by omega,List.map_set,List.set_set,List.map_set,hgap];unfold setHi;dsimp only;rw[decK (k:=k) (n:=cuts.length)]<;>rfl) rfl<|?_
     exact at_ (xs.set (xs.length-1) (setHi w (gapI cuts k)),k+1) (by dsimp only;exact⟨⟨(fromN_join (by omega) hz hpb' h1.symm hw).symm,by omega⟩,(by omega)⟩)
    ·
     have hnp: ¬(0<k∧marks[k-1]? =some true):=fun e=>by rw[hpb,hg54] at e;simpa using e.2
     refine eqF 73 (.d (eV (gapI cuts k))) rfl (by rw[hgap];unfold eV;dsimp only;rw[decK (k:=k) (n:=0),decK (k:=k) (n:=cuts.length)]<;>rfl) ?_
     refine gx rfl<|rf rfl rfl<|ap (fu:=⟨12⟩) ((xs++[gapI cuts k]).map eV) rfl (by rw[List.map_append];rfl) (slOkV [gapI cuts k]) rfl<|?_
     refine rnE 75 5 rfl ?_
     exact at_ (xs++[gapI cuts k],k+1) (by dsimp only;exact⟨⟨by rw[fromN_new hz hnp,←h1],by omega⟩,(by omega)⟩)
   ·
    obtain⟨x,hx⟩: ∃s,cuts[k-1]? =some s:=⟨_,List.getElem?_eq_getElem (by omega)⟩
    obtain⟨pb,hpb⟩: ∃s,marks[k-1]? =some s:=⟨_,List.getElem?_eq_getElem (by omega)⟩
    have hgap:=gapI_l0 (cuts:=cuts) (i:=k) (by omega) hx c2
    refine eqF 23 (.d (vI (cuts.length:Nat))) rfl (by rw[hmc]<;>rfl) ?_
    refine gx (fu:=⟨10⟩) rfl<|knT rfl (by show some (decide _)=some true;rw[decide_eq_true (by omega)]) rfl<|ix (fu:=⟨11⟩) _ rfl (map_getP (by omega) hx) rfl<|?_
    refine eqF 36 (.d (vI (cuts.length:Nat))) rfl (by rw[hmc]<;>rfl) ?_
    refine gx (fu:=⟨0⟩) rfl<|knF (fu:=⟨10⟩) rfl (by show some (decide _)=some false;rw[decide_eq_false (by omega)]) rfl<|?_
    refine eqF 44 (.d (vI (xs.length:Nat))) rfl (by rw[hml]<;>rfl) ?_
    refine gx (fu:=⟨6⟩) rfl<|knT rfl (by show some (decide _)=some true;rw[decide_eq_true (by omega)]) rfl<|ix _ rfl (map_getP (by omega) hpb) rfl<|?_
    refine csb (fu1:=⟨1⟩) (fu2:=⟨11⟩) 54 rfl rfl rfl (fun hg54=>?_) (fun hg54=>?_)
    ·
     have hpb':marks[k-1]? =some true:=by rw[hpb];congr 1
     have hxn:0<xs.length:=by rw[h1];have:=fromN_ne (cuts:=cuts) hpb';rw[show k-1+1=k by omega] at this;exact List.length_pos_iff.2 this
     obtain⟨w,hw⟩: ∃s,xs[xs.length-1]? =some s:=⟨_,List.getElem?_eq_getElem (by omega)⟩
     refine knT rfl (by show some (decide _)=some true;rw[decide_eq_true (by omega)]) rfl<|sb (eV w) ((xs.set (xs.length-1) (⟨w.lo,0,w.nl,w.nh⟩:IvQ)).map eV) rfl (map_getP hxn hw) rfl (by rw[show(((xs.length:Nat):Int)-1).toNat=xs.length-1 by omega,List.map_set,eV_l0];rfl) rfl<|?_
     refine sb (hv:=by simp only[allP];exact⟨by kernel_rfl,by omega⟩) (eV (⟨w.lo,0,w.nl,w.nh⟩:IvQ)) ((xs.set (xs.length-1) (setHi w (gapI cuts k))).map eV) rfl (by rw[show(((xs.length:Nat):Int)-1).toNat=xs.length-1 by omega,List.map_set,List.getElem?_set_self (by rw[hml];omega)]) rfl (by rw[show(((xs.length:Nat):Int)-1).toNat=xs.length-1 by omega,List.map_set,List.set_set,List.map_set,hgap];unfold setHi;dsimp only;rw[decK (k:=k) (n:=cuts.length)]<;>rfl) rfl<|?_
     exact at_ (xs.set (xs.length-1) (setHi w (gapI cuts k)),k+1) (by dsimp only;exact⟨⟨(fromN_join (by omega) hz hpb' h1.symm hw).symm,by omega⟩,(by omega)⟩)
    ·
     have hnp: ¬(0<k∧marks[k-1]? =some true):=fun e=>by rw[hpb,hg54] at e;simpa using e.2
     refine eqF 73 (.d (eV (gapI cuts k))) rfl (by rw[hgap,eV_l0,decK (k:=k) (n:=0),decK (k:=k) (n:=cuts.length)]<;>rfl) ?_
     refine gx rfl<|rf rfl rfl<|ap ((xs++[gapI cuts k]).map eV) rfl (by rw[List.map_append];rfl) (slOkV [gapI cuts k]) rfl<|?_
     refine rnE 75 5 rfl ?_
     exact at_ (xs++[gapI cuts k],k+1) (by dsimp only;exact⟨⟨by rw[fromN_new hz hnp,←h1],by omega⟩,(by omega)⟩)
 ·
  have hfin:fromQ cuts marks=xs:=by rw[h1,fromQ,show k=marks.length by omega]
  refine fzE 5 rfl ?_
  exact rz rfl (by rw[hfin];rfl)
end Go.Sx
end

section
set_option maxRecDepth 100000
namespace Go.Sx
open Go Go.Proofs
theorem mem_mids{g:Rat}: ∀{l:List Rat},g∈midsR l→ ∃a∈l,∃b∈l,g=(a+b)/2
 |[],h=>by cases h
 |[_],h=>by cases h
 |a::b::t,h=>by
  rw[midsR] at h
  rcases List.mem_cons.1 h with rfl|h
  ·exact⟨a,List.mem_cons_self,b,List.mem_cons_of_mem _ List.mem_cons_self,rfl⟩
  ·obtain⟨c,hc,d,hd,e⟩:=mem_mids h
   exact⟨c,List.mem_cons_of_mem _ hc,d,List.mem_cons_of_mem _ hd,e⟩
theorem gaps_bd{l:List Rat}(h: ∀q∈l,BQ q 1200): ∀g∈gapsR l,BQ g 2500:=fun g hg=>by
 cases l with
 |nil=>
  rw[gapsR,List.mem_singleton] at hg;subst hg
  exact BQ.mono (k:=1) ⟨by decide,by decide⟩ (by decide)
 |cons a t=>
  rw[gapsR] at hg
  rcases List.mem_cons.1 hg with rfl|hg
  ·haveI:=h a List.mem_cons_self
   exact BQ.mono (inferInstance:BQ (a-1) _) (by omega)
  ·rcases List.mem_append.1 hg with hg|hg
   ·obtain⟨c,hc,d,hd,rfl⟩:=mem_mids hg
    haveI:=h c hc
    haveI:=h d hd
    exact BQ.mono (inferInstance:BQ ((c+d)/2) _) (by omega)
   ·rw[List.mem_singleton] at hg
    haveI:=h _ (List.getLast_mem (l:=a::t) (by simp))
    subst hg
    exact BQ.mono (inferInstance:BQ ((a::t).getLast (by simp)+1) _) (by omega)
theorem endsK_ends(l:List IvQ):endsK l l.length=endsQ l:=by unfold endsK;rw[List.take_length]
theorem endsQ_bd{l:List IvQ}(h: ∀v∈l,IvB v): ∀y∈endsQ l,BQ y 1200:=by rw[←endsK_ends];exact endsK_bd h
theorem endsQ_len(l:List IvQ):(endsQ l).length≤2*l.length:=by rw[←endsK_ends];exact endsK_len l _
theorem IvB.app{a b:List IvQ}(ha: ∀v∈a,IvB v)(hb: ∀v∈b,IvB v): ∀v∈a++b,IvB v:=fun v hv=>(List.mem_append.1 hv).elim (ha v) (hb v)
set_option maxHeartbeats 4000000 in
theorem q_Combine{GB:Gh}{a b:List IvQ}(ha: ∀v∈a,IvB v)(hb: ∀v∈b,IvB v)(hna:a.length≤100)(hnb:b.length≤100):PF GB Tryz.prog 223 [vI 2, .sl (a.map eV), .sl (b.map eV)] (.sl ((combQ 2 a b).map eV)):=by
 obtain⟨cuts,hcu⟩: ∃c,c=endsQ (a++b):=⟨_,rfl⟩
 have hab:=IvB.app ha hb
 have hcb: ∀q∈cuts,BQ q 1200:=by rw[hcu];exact endsQ_bd hab
 have hcl:cuts.length≤2*(a.length+b.length):=by rw[hcu];have:=endsQ_len (a++b);rw[List.length_append] at this;exact this
 have hgb:=gaps_bd hcb
 have hgl:=gapsR_len (l:=cuts)
 have hmp:=map_len' eQ (gapsR cuts)
 refine fn Tryz.func223 rfl rfl Tryz.ntmps223 rfl rfl (fun C=>?_)
 refine ro0 rfl rfl<|ap (a.map eV) rfl rfl (slOkV _) rfl<|apf ((a++b).map eV) rfl (by rw[List.map_append]) (slOkV b) rfl<|cl (fu:=⟨0⟩) rfl (q_ends (l:=a++b) hab (by rw[List.length_append];omega)) rfl<|?_
 refine eqF 19 (.d (.sl (cuts.map eQ))) rfl (by rw[hcu]) ?_
 refine gx rfl<|cl (fu:=⟨1⟩) rfl (q_Probes (cuts:=cuts) hcb (by omega)) rfl<|?_
 refine eqF 22 (.d (vI ((cuts.length+1:Nat):Int))) rfl (by rw[hmp,hgl]<;>rfl) ?_
 refine gx rfl<|?_
 refine nr 8 8 4 1 rfl rfl rfl ?_
 refine lp (X:=Nat) (fun k=>[(23, .d (vI (k:Nat))),(8, .rw 8)]) (fun k=>[(8,some (.b 4 1 ((((gapsR cuts).map (fun t=>markQ 2 (insQ2 a t) (insQ2 b t))).take k).map vB) true))]) (fun k=>k≤cuts.length+1) (fun k=>cuts.length+1-k) 0 rfl (Nat.zero_le _) (fun _=>rfl) (fun k hk=>?_)
 have hml:(((((gapsR cuts).map (fun t=>markQ 2 (insQ2 a t) (insQ2 b t))).take k).map vB)).length=k:=by rw[List.length_map,List.length_take,List.length_map,hgl];omega
 refine br (fu2:=⟨0⟩) rfl rfl rfl (fun hc24=>?_) (fun hc24=>?_)
 ·
  obtain⟨t,hz⟩: ∃s,(gapsR cuts)[k]? =some s:=⟨_,List.getElem?_eq_getElem (by omega)⟩
  haveI:=hgb t (List.mem_of_getElem? hz)
  have hz2:((gapsR cuts).map (fun t=>markQ 2 (insQ2 a t) (insQ2 b t)))[k]? =some (markQ 2 (insQ2 a t) (insQ2 b t)):=by rw[List.getElem?_map,hz];rfl
  refine ix _ rfl (map_getS hz) rfl<|cl rfl (q_Fin (l:=a) (t:=t) ha (by omega)) rfl<|cl (fu:=⟨6⟩) rfl (q_Fin (l:=b) (t:=t) hb (by omega)) rfl<|?_
  cases hx:insQ2 a t
  ·
   refine knF (fu:=⟨15⟩) rfl rfl rfl<|knT (fu:=⟨5⟩) rfl rfl rfl<|knF rfl rfl rfl<|rf rfl rfl<|ap (fu:=⟨8⟩) ((((gapsR cuts).map (fun t=>markQ 2 (insQ2 a t) (insQ2 b t))).take (k+1)).map vB) rfl (by rw[←take_map_snoc hz2,hx];rfl) (slOkB [false]) rfl<|?_
   refine rnE 59 8 rfl ?_
   exact at_ (k+1) ⟨(by omega),(by omega)⟩
  ·
   refine knT (fu:=⟨15⟩) rfl rfl rfl<|knT (fu:=⟨5⟩) rfl rfl rfl<|knT rfl rfl rfl<|rf rfl rfl<|ap ((((gapsR cuts).map (fun t=>markQ 2 (insQ2 a t) (insQ2 b t))).take (k+1)).map vB) rfl (by rw[←take_map_snoc hz2,hx];rfl) (slOkB [_]) rfl<|?_
   refine rnE 59 8 rfl ?_
   exact at_ (k+1) ⟨(by omega),(by omega)⟩
 ·
  obtain rfl:k=cuts.length+1:=by omega
  have htk:((gapsR cuts).map (fun t=>markQ 2 (insQ2 a t) (insQ2 b t))).take (cuts.length+1)=(gapsR cuts).map (fun t=>markQ 2 (insQ2 a t) (insQ2 b t)):=List.take_of_length_le (by rw[List.length_map,hgl];exact Nat.le_refl _)
  rw[htk]
  refine fzC 8 rfl ?_
  refine gx rfl<|cl rfl (q_From (cuts:=cuts) (marks:=(gapsR cuts).map (fun t=>markQ 2 (insQ2 a t) (insQ2 b t))) (by omega) (by rw[List.length_map,hgl];exact Nat.le_refl _)) rfl<|?_
  exact rz rfl (by unfold combQ;rw[←hcu];rfl)
end Go.Sx
end

section
set_option maxRecDepth 100000
namespace Go.Sx
open Go Go.Proofs
section
variable {GB:Gh} {C:Ctx} {n:Nat} {Q0:Exit→Act→World→Prop} {fr fr':FrX} {own own':OwX} {cf cf':Cf} {vc:List Prop}
theorem ok_ixa{lk:LK}{bk:BM}{dst:Option Nat}{t ty':TypeId}{pos:String}{af:Array Edge}{gd:Option (Nat×Bool)}{x y:Operand}{e len s nm off:Nat}{k:IntKind}{i:Nat}(hu:Tryz.prog.underlying t=some (.array len e))(hs:(Tryz.prog.info? e).map (·.size)=some s)
  (e1:evX lk x=some (.ov nm off))(e2:evX lk y=some (.d (.v (.int k (i:Nat)))))(hi:i<len):OpR Tryz.prog GB C n lk bk ⟨dst, .indexAddr t x y,ty',pos,af,gd⟩ (.ov nm (off+i*s)) [] []:= .yd fun ρ G ov a w r=>by
 obtain⟨p,h1,h2⟩:=r.ev e1
 obtain⟨q,h3,h4⟩:=r.ev e2
 rw[isX_int] at h4;subst h4
 obtain⟨b,hb,rfl⟩:=h2
 refine⟨_,⟨b,hb,rfl⟩,?_⟩
 obtain⟨j,hj,hjs⟩: ∃j,Tryz.prog.info? e=some j∧j.size=s:=by
  cases h:Tryz.prog.info? e with
  |none=>rw[h] at hs;cases hs
  |some j=>rw[h] at hs;exact⟨j,rfl,by simpa using hs⟩
 intro a' w' hf hh
 simp only[execOp,opv_eval hf h1,opv_eval hf h3]
 have:(Instr.indexAt t (.pointer (some ⟨b,off,none⟩)) (.int k (i:Nat))).run Tryz.prog w'= .ok (.pointer (some ⟨b,off+i*s,none⟩)) w':=by
  unfold Instr.indexAt
  show(underlying t>>=_).run Tryz.prog w'=_
  rw[run_ok_bind (run_und hu w')]
  show(underlying t>>=_).run Tryz.prog w'=_
  rw[run_ok_bind (run_und hu w')]
  have h0:0≤((i:Nat):Int):=Int.natCast_nonneg i
  have h1:((i:Nat):Int)<((len:Nat):Int):=by omega
  simp only[h0,h1,and_self,if_true]
  show(sizeOf e>>=_).run Tryz.prog w'=_
  rw[run_ok_bind (run_size hj w'),addr_add,hjs,Int.toNat_natCast]
  rfl
 exact value_of this
def ixaA(fr:FrX)(cf:Cf):Option (TypeId×Nat×Nat×Int):=match opC fr cf with
 |some ⟨_, .indexAddr t x y,_,_,_,_⟩=>match evX (lkC fr cf) x with
  |some (.ov nm off)=>match evX (lkC fr cf) y with
   |some (.d (.v (.int _ i)))=>some (t,nm,off,i)
   |_=>none
  |_=>none
 |_=>none
theorem ixa[fu:Fu](i:Nat){t nm off e len s:Nat}(h:ixaA fr cf=some (t,nm,off,((i:Nat):Int)))(hu:Tryz.prog.underlying t=some (.array len e))(hs:(Tryz.prog.info? e).map (·.size)=some s)(hi:i<len)
  (hgo:goA tt n fu.n fr own cf (.ov nm (off+i*s)) [] []=⟨vc,fr',own',cf'⟩)(k:CfS Tryz.prog GB C n Q0 fr' own' cf')
  (hv:allP vc:=by first|exact trivial|(simp only[allP];kernel_rfl)|(simp only[allP];omega)):CfS Tryz.prog GB C n Q0 fr own cf:=by
 unfold ixaA at h
 split at h<;>try (cases h;done)
 rename_i hh
 split at h<;>try (cases h;done)
 rename_i hx
 split at h<;>cases h
 rename_i hy
 exact us hh (ok_ixa hu hs hx hy hi) hgo hv k
theorem ok_bzp{lk:LK}{bk:BM}{d s:Nat}{e t ty':TypeId}{pos:String}{af:Array Edge}{gd:Option (Nat×Bool)}{ps:List (Nat×Operand)}{fo:List (Nat×Nat×Nat)}{i:TI}{z zx:List FX}{k:Nat}{pre post:List DV}(hi:tiOf Tryz.prog t=some i)(hk:i.k= .st fo)(hz:i.z=some z)
  (hb:bldX lk fo z ps=some zx)(h0:zx[k]? =some .nl)(h1:toDXs (zx.take k)=some pre)(h2:toDXs (zx.drop (k+1))=some post):OpR Tryz.prog GB C n lk bk ⟨some d, .build t ⟨ps⟩,ty',pos,af,gd⟩ (.bx false pre d post) [(d,some (.b e s [] true))] [d]:=by
 intro hd tl tb K' s1 s2 hf hk'
 refine⟨fun ρ G ov a w r Q=>?_⟩
 obtain⟨v,hv,hv'⟩:=ti_zero hi hz
 have:=ti_sty hi hk
 have hsp:zx=zx.take k++ .nl::zx.drop (k+1):=by
  obtain⟨hk1,hk2⟩:=List.getElem?_eq_some_iff.1 h0
  conv=>lhs;rw[←List.take_append_drop k zx,List.drop_eq_getElem_cons hk1,hk2]
 obtain⟨l,h1',h2'⟩:=bldX_bld (r.mono s1 s2) (fo:=fo) ps _ _ _ hb (hv' ρ G)
 rw[hsp] at h2'
 obtain⟨m1,m2',rfl,k1,y,m2,rfl,k2,k3⟩:=isXs_unapp h2'
 cases (show y= .slice none 0 0 from k2)
 have hy:Yd Tryz.prog C (frA a) ov G ⟨some d, .build t ⟨ps⟩,ty',pos,af,gd⟩ (.agg ⟨m1++Value.slice none 0 0::m2⟩):=yd_build h1'
 have r3:=r.new' (x:=⟨none,0,0⟩) (B':= .b e s [] true) (os:=[]) (ov':=ov) (f:= .bx false pre d post) (y:= .agg ⟨m1++Value.slice none 0 0::m2⟩) hf (GLe.refl G) r.h
  ⟨[],by simp only[if_true];exact .inl ⟨rfl,rfl,rfl⟩, .nil,by simp,fun _ o ho=>by cases ho⟩ (fun o ho=>by cases ho) (fun m B _ _ o ho _=>⟨ho,by simp⟩)
  ⟨m1,m2,by simp,toDXs_is k1 h1,toDXs_is k3 h2⟩ (r.putA _ hd)
 exact ch_value (hy a w (frA_ok a) r.h) (hk'.run _ G ov _ w r3)
def bzpA(fr:FrX)(cf:Cf):Option (Nat×List FX):=match opC fr cf with
 |some ⟨some d, .build t ⟨ps⟩,_,_,_,_⟩=>match lookT tt t with
  |some ⟨.st fo,_,some zx,_⟩=>match bldX (lkC fr cf) fo zx ps with
   |some l=>some (d,l)
   |none=>none
  |_=>none
 |_=>none
theorem bzp[fu:Fu]{d:Nat}{zx:List FX}(e s kk:Nat)(pre post:List DV)(h:bzpA fr cf=some (d,zx))(h0:zx[kk]? =some .nl)(h1:toDXs (zx.take kk)=some pre)(h2:toDXs (zx.drop (kk+1))=some post)(hgo:goA tt n fu.n fr own cf (.bx false pre d post) [(d,some (.b e s [] true))] [d]=⟨vc,fr',own',cf'⟩)(k:CfS Tryz.prog GB C n Q0 fr' own' cf')
  (hv:allP vc:=by first|exact trivial|(simp only[allP];kernel_rfl)|(simp only[allP];omega)):CfS Tryz.prog GB C n Q0 fr own cf:=by
 unfold bzpA at h
 split at h<;>try (cases h;done)
 rename_i hh
 split at h<;>try (cases h;done)
 rename_i hT
 split at h<;>cases h
 rename_i hb
 exact us hh (ok_bzp (tt_ok _ _ hT) rfl rfl hb h0 h1 h2) hgo hv k
end
end Go.Sx
end

section
set_option maxRecDepth 100000
namespace Go.Sx
open Go Go.Proofs
def sp1(f:FrQ)(m:LnQ)(k:Nat):List FrQ:=if k=0 then [] else splitS f m 1
def sp2(f:FrQ)(m:LnQ)(k:Nat):List FrQ:=if k≤1 then [] else splitS f m (-1)
theorem half_ivb{l m:LnQ}(hl:LB l)(hm:LB m)(hlo:l.ok){side:Int}: ∀v∈halfQ l m side,IvB v:=fun v hv=>⟨(half_bd hl hm hlo v hv).2.1,(half_bd hl hm hlo v hv).2.2⟩
theorem half_len{l m:LnQ}{side:Int}:(halfQ l m side).length≤1:=by
 unfold halfQ;split
 ·split<;>simp
 ·split<;>simp
theorem comb_len(op:Int)(a b:List IvQ):(combQ op a b).length≤2*(a.length+b.length)+1:=by
 unfold combQ fromQ
 refine Nat.le_trans fromN_len ?_
 rw[List.length_map,gapsR_len]
 have:=endsQ_len (a++b);rw[List.length_append] at this;omega
set_option maxHeartbeats 2000000 in
theorem q_Split{GB:Gh}{f:FrQ}{m:LnQ}(h:FOk f)[hm:LB m](hmo:m.ok):PF GB Tryz.prog 174 [eFF f,eL m] (.tp [.sl ((splitS f m 1).map eFF), .sl ((splitS f m (-1)).map eFF)]):=by
 haveI:=h.lb
 refine fn Tryz.func174 rfl rfl Tryz.ntmps174 rfl rfl (fun C=>?_)
 refine rf (fu:=⟨1⟩) rfl rfl<|?_
 refine eqF 14 (.d (vI (2:Nat))) rfl rfl ?_
 refine gx rfl<|?_
 refine nro 6 0 60 186 14 rfl rfl rfl rfl rfl ?_
 refine nro 6 1 61 186 14 rfl rfl rfl rfl rfl ?_
 refine lp (X:=Nat) (fun k=>[(15, .d (vI (k:Nat))),(6, .ov 6 0)]) (fun k=>[(6,some (.o 310 [.rw 60, .rw 61] true)),(60,some (.b 186 14 ((sp1 f m k).map eFF) true)),(61,some (.b 186 14 ((sp2 f m k).map eFF) true))]) (fun k=>k≤2) (fun k=>2-k) 0 rfl (by omega) (fun _=>rfl) (fun k hk=>?_)
 refine br rfl rfl rfl (fun hc16=>?_) (fun hc16=>?_)
 ·
  rcases(show k=0∨k=1 by omega) with rfl|rfl
  ·
   refine ix _ rfl rfl rfl<|cl (fu:=⟨0⟩) rfl (q_half6 (l:=f.l) (m:=m) (side:=1) h.ok hmo (.inl rfl)) rfl<|?_
   obtain⟨cs,hcs⟩: ∃c,c=combQ 2 [f.v] (halfQ f.l m 1):=⟨_,rfl⟩
   have hcl:cs.length≤5:=by rw[hcs];have h1:=comb_len 2 [f.v] (halfQ f.l m 1);have h2:=half_len (l:=f.l) (m:=m) (side:=1);simp only[List.length_singleton] at h1;omega
   refine eqF 25 (.d (.tp [.sl ((halfQ f.l m 1).map eV),vB (onB f.l m)])) rfl rfl ?_
   refine gx rfl<|?_
   refine bb rfl rfl rfl (fun hc28=>?_) (fun hc28=>?_)
   ·
    have hon:onB f.l m=true:=hc28
    exact rz rfl (by first|(unfold splitS;rw[if_pos hon,if_pos hon];rfl)|rfl)
   ·
    have hon:onB f.l m=false:=by simpa using hc28
    refine rf rfl rfl<|cl (fu:=⟨0⟩) rfl (q_Combine (a:=[f.v]) (b:=halfQ f.l m 1) (fun v hv=>by rw[List.mem_singleton] at hv;subst hv;exact⟨h.lo,h.hi⟩) (half_ivb h.lb hm h.ok) (by show 1≤100;decide) (by have:=half_len (l:=f.l) (m:=m) (side:=1);omega)) rfl<|?_
    refine eqF 33 (.d (.sl (cs.map eV))) rfl (by rw[hcs]) ?_
    refine gx (fu:=⟨1⟩) rfl<|?_
    refine eqF 34 (.d (vI (cs.length:Nat))) rfl (by rw[map_len' eV cs]<;>rfl) ?_
    refine gx rfl<|?_
    refine lp (X:=Nat) (fun j=>[(35, .d (vI (j:Nat)))]) (fun j=>[(60,some (.b 186 14 (((cs.take j).map fun v=>(⟨f.l,v⟩:FrQ)).map eFF) true))]) (fun j=>j≤cs.length) (fun j=>cs.length-j) 0 rfl (Nat.zero_le _) (fun _=>rfl) (fun j hk=>?_)
    have hml:(((cs.take j).map fun v=>(⟨f.l,v⟩:FrQ)).map eFF).length≤j:=by rw[List.length_map,List.length_map,List.length_take];omega
    refine br rfl rfl rfl (fun hc36=>?_) (fun hc36=>?_)
    ·
     obtain⟨z,hz⟩: ∃s,cs[j]? =some s:=⟨_,List.getElem?_eq_getElem (by omega)⟩
     refine ix _ rfl (map_getS hz) rfl<|ixa 0 (e:=177) (len:=2) (s:=1) rfl (by kernel_rfl) (by kernel_rfl) (by decide) rfl<|rf rfl rfl<|?_
     refine ap (((cs.take (j+1)).map fun v=>(⟨f.l,v⟩:FrQ)).map eFF) rfl (by rw[←take_map_snoc hz,List.map_append];rfl) (slOkFF [⟨f.l,z⟩]) rfl<|ixa (hv:=by simp only[allP];exact⟨by kernel_rfl,by omega⟩) 0 (e:=177) (len:=2) (s:=1) rfl (by kernel_rfl) (by kernel_rfl) (by decide) rfl<|?_
     refine rnE 48 60 rfl ?_
     exact at_ (j+1) ⟨(by omega),(by omega)⟩
    ·
     obtain rfl:j=cs.length:=by omega
     rw[show(cs.take cs.length).map (fun v=>(⟨f.l,v⟩:FrQ))=splitS f m 1 from by rw[List.take_length];unfold splitS;rw[if_neg (by rw[hon];decide),←hcs]]
     exact at_ (0+1) ⟨(by omega),(by omega)⟩
  ·
   refine ix _ rfl rfl rfl<|cl (fu:=⟨0⟩) rfl (q_half6 (l:=f.l) (m:=m) (side:= -1) h.ok hmo (.inr rfl)) rfl<|?_
   obtain⟨cs,hcs⟩: ∃c,c=combQ 2 [f.v] (halfQ f.l m (-1)):=⟨_,rfl⟩
   have hcl:cs.length≤5:=by rw[hcs];have h1:=comb_len 2 [f.v] (halfQ f.l m (-1));have h2:=half_len (l:=f.l) (m:=m) (side:=(-1));simp only[List.length_singleton] at h1;omega
   refine eqF 25 (.d (.tp [.sl ((halfQ f.l m (-1)).map eV),vB (onB f.l m)])) rfl rfl ?_
   refine gx rfl<|?_
   refine bb rfl rfl rfl (fun hc28=>?_) (fun hc28=>?_)
   ·
    have hon:onB f.l m=true:=hc28
    exact rz rfl (by first|(unfold splitS;rw[if_pos hon,if_pos hon];rfl)|rfl)
   ·
    have hon:onB f.l m=false:=by simpa using hc28
    refine rf rfl rfl<|cl (fu:=⟨0⟩) rfl (q_Combine (a:=[f.v]) (b:=halfQ f.l m (-1)) (fun v hv=>by rw[List.mem_singleton] at hv;subst hv;exact⟨h.lo,h.hi⟩) (half_ivb h.lb hm h.ok) (by show 1≤100;decide) (by have:=half_len (l:=f.l) (m:=m) (side:=(-1));omega)) rfl<|?_
    refine eqF 33 (.d (.sl (cs.map eV))) rfl (by rw[hcs]) ?_
    refine gx (fu:=⟨1⟩) rfl<|?_
    refine eqF 34 (.d (vI (cs.length:Nat))) rfl (by rw[map_len' eV cs]<;>rfl) ?_
    refine gx rfl<|?_
    refine lp (X:=Nat) (fun j=>[(35, .d (vI (j:Nat)))]) (fun j=>[(61,some (.b 186 14 (((cs.take j).map fun v=>(⟨f.l,v⟩:FrQ)).map eFF) true))]) (fun j=>j≤cs.length) (fun j=>cs.length-j) 0 rfl (Nat.zero_le _) (fun _=>rfl) (fun j hk=>?_)
    have hml:(((cs.take j).map fun v=>(⟨f.l,v⟩:FrQ)).map eFF).length≤j:=by rw[List.length_map,List.length_map,List.length_take];omega
    refine br rfl rfl rfl (fun hc36=>?_) (fun hc36=>?_)
    ·
     obtain⟨z,hz⟩: ∃s,cs[j]? =some s:=⟨_,List.getElem?_eq_getElem (by omega)⟩
     refine ix _ rfl (map_getS hz) rfl<|ixa 1 (e:=177) (len:=2) (s:=1) rfl (by kernel_rfl) (by kernel_rfl) (by decide) rfl<|rf rfl rfl<|?_
     refine ap (((cs.take (j+1)).map fun v=>(⟨f.l,v⟩:FrQ)).map eFF) rfl (by rw[←take_map_snoc hz,List.map_append];rfl) (slOkFF [⟨f.l,z⟩]) rfl<|ixa (hv:=by simp only[allP];exact⟨by kernel_rfl,by omega⟩) 1 (e:=177) (len:=2) (s:=1) rfl (by kernel_rfl) (by kernel_rfl) (by decide) rfl<|?_
     refine rnE 48 61 rfl ?_
     exact at_ (j+1) ⟨(by omega),(by omega)⟩
    ·
     obtain rfl:j=cs.length:=by omega
     rw[show(cs.take cs.length).map (fun v=>(⟨f.l,v⟩:FrQ))=splitS f m (-1) from by rw[List.take_length];unfold splitS;rw[if_neg (by rw[hon];decide),←hcs]]
     exact at_ (1+1) ⟨(by omega),(by omega)⟩
 ·
  obtain rfl:k=2:=by omega
  refine ixa 0 (e:=177) (len:=2) (s:=1) rfl (by kernel_rfl) (by kernel_rfl) (by decide) rfl<|ixa 1 (e:=177) (len:=2) (s:=1) rfl (by kernel_rfl) (by kernel_rfl) (by decide) rfl<|?_
  refine fzE 60 rfl ?_
  refine fzE 61 rfl ?_
  exact rz rfl (by first|(unfold splitS;rw[if_pos hon,if_pos hon];rfl)|rfl)
end Go.Sx
end

section
set_option maxRecDepth 100000
namespace Go.Sx
open Go Go.Proofs
def eZp(p:ZP):DV:=eP p.q
def eRg(r:List ZP):DV:= .sl (r.map eZp)
theorem slOkZ(l:List ZP):slOk 6 (l.map eZp):=fun d hd=>by
 obtain⟨u,_,rfl⟩:=List.mem_map.1 hd;exact⟨rfl,rfl⟩
theorem slOkRg(l:List (List ZP)):slOk 1 (l.map eRg):=fun d hd=>by
 obtain⟨u,_,rfl⟩:=List.mem_map.1 hd;exact⟨rfl,rfl⟩
theorem getZ{r:List ZP}{i:Nat}(h:i<r.length):(r.map eZp)[((i:Nat):Int).toNat]? =some (eZp (r.getD i (0,0))):=by
 rw[Int.toNat_natCast,List.getElem?_map,List.getD_eq_getElem?_getD,List.getElem?_eq_getElem h];rfl
theorem getNx{r:List ZP}{i:Nat}(h:i<r.length):(r.map eZp)[(((i+1)%r.length:Nat):Int).toNat]? =some (eZp (nextZ r i)):=getZ (Nat.mod_lt _ (by omega))
theorem wnd_le(v w p:PtQ):(wndQ v w p).natAbs≤1:=by
 unfold wndQ;split<;>split<;>decide
theorem numN_le(r:List ZP)(p:PtQ): ∀k,(numN r p k).natAbs≤k
 |0=>Nat.le_refl _
 |k+1=>by rw[numN];have:=numN_le r p k;have:=wnd_le (r.getD k (0,0)).q (nextZ r k).q p;omega
set_option maxHeartbeats 1000000 in
theorem q_Edges{GB:Gh}{r:List ZP}(h:RingOk r):PF GB Tryz.prog 104 [.sl (r.map eZp)] (.sl ((edgesZ r).map eFF)):=by
 have hm:=map_len' eZp r
 have h3:=h.n3
 have h6:=h.n6
 refine fn (fu:=⟨15⟩) Tryz.func104 rfl rfl Tryz.ntmps104 rfl rfl (fun C=>?_)
 refine eqF 8 (.d (vI (r.length:Nat))) rfl (by rw[hm]<;>rfl) ?_
 refine gx rfl<|?_
 refine nr 3 3 186 14 rfl rfl rfl ?_
 refine lp (X:=Nat) (fun k=>[(9, .d (vI (k:Nat))),(3, .rw 3)]) (fun k=>[(3,some (.b 186 14 ((edgesN r k).map eFF) true))]) (fun k=>k≤r.length) (fun k=>r.length-k) 0 rfl (Nat.zero_le _) (fun _=>rfl) (fun k hk=>?_)
 have hel:=fun hh=>(edgesN_ok (k:=k) h hh).1
 refine br rfl rfl rfl (fun hc10=>?_) (fun hc10=>?_)
 ·
  have hkr:k<r.length:=by omega
  have hel:=hel (by omega)
  have hem:=map_len' eFF (edgesN r k)
  refine ix (fu:=⟨7⟩) _ rfl (getZ hkr) rfl<|?_
  refine eqF 22 (.d (vI ((k+1)%r.length:Nat))) rfl (by rw[hm]<;>rfl) ?_
  refine gx rfl<|ix _ rfl (getNx hkr) rfl<|cl rfl (q_Segment (v:=r.getD k (0,0)) (w:=nextZ r k) (h.le _ (getD_mem hkr)) (h.le _ (nextZ_mem hkr)) (h.ne k hkr)) rfl<|?_
  refine rf rfl rfl<|ap ((edgesN r (k+1)).map eFF) rfl (by rw[edgesN,List.map_append];rfl) (slOkFF [edgeZ (r.getD k (0,0)) (nextZ r k)]) rfl<|?_
  refine rnE 31 3 rfl ?_
  exact at_ (k+1) ⟨(by omega),(by omega)⟩
 ·
  obtain rfl:k=r.length:=by omega
  refine fzE 3 rfl ?_
  exact rz rfl rfl
set_option maxHeartbeats 2000000 in
theorem q_Number{GB:Gh}{r:List ZP}{p:PtQ}{i:Nat}[hp:BPt p i](h:RingOk r)(hi:i≤80000:=by decide):PF GB Tryz.prog 220 [.sl (r.map eZp),eP p] (vI (numZ r p)):=by
 have hm:=map_len' eZp r
 have h3:=h.n3
 have h6:=h.n6
 refine fn (fu:=⟨16⟩) Tryz.func220 rfl rfl Tryz.ntmps220 rfl rfl (fun C=>?_)
 refine eqF 12 (.d (vI (r.length:Nat))) rfl (by rw[hm]<;>rfl) ?_
 refine gx rfl<|?_
 refine lp (X:=Nat×Int) (fun⟨k,c⟩=>[(13, .d (vI (k:Nat))),(5, .d (vI c))]) (fun⟨k,c⟩=>[]) (fun⟨k,c⟩=>c=numN r p k∧k≤r.length) (fun⟨k,c⟩=>r.length-k) (0,0) rfl ⟨rfl,Nat.zero_le _⟩ (fun _=>rfl) (fun⟨k,c⟩ hk=>?_)
 dsimp only at hk⊢
 obtain⟨h1,h2⟩:=hk
 have hcl:c.natAbs≤k:=by rw[h1];exact numN_le r p k
 refine br rfl rfl rfl (fun hc14=>?_) (fun hc14=>?_)
 ·
  have hkr:k<r.length:=by omega
  obtain⟨v,hv⟩: ∃v,v=r.getD k (0,0):=⟨_,rfl⟩
  obtain⟨w,hw⟩: ∃v,v=nextZ r k:=⟨_,rfl⟩
  haveI hvb:BPt v.q 12:=by rw[hv];exact bpZ (h.le _ (getD_mem hkr))
  haveI hwb:BPt w.q 12:=by rw[hw];exact bpZ (h.le _ (nextZ_mem hkr))
  refine ix (fu:=⟨1⟩) _ rfl (getZ hkr) rfl<|?_
  refine eqF 19 (.d (eP v.q)) rfl (by rw[hv];rfl) ?_
  refine gx (fu:=⟨6⟩) rfl<|?_
  refine eqF 25 (.d (vI ((k+1)%r.length:Nat))) rfl (by rw[hm]<;>rfl) ?_
  refine gx rfl<|ix (fu:=⟨1⟩) _ rfl (getNx hkr) rfl<|?_
  refine eqF 27 (.d (eP w.q)) rfl (by rw[hw];rfl) ?_
  refine gx rfl<|cl rfl (q_C (a:=v.q.y) (b:=p.y) (i:=12) (j:=i) (by decide) (by omega)) rfl<|cl (fu:=⟨9⟩) rfl (q_C (a:=w.q.y) (b:=p.y) (i:=12) (j:=i) (by decide) (by omega)) rfl<|?_
  rcases(show(rcmp v.q.y p.y≤0∧rcmp w.q.y p.y≤0)∨(rcmp v.q.y p.y≤0∧ ¬rcmp w.q.y p.y≤0)∨(¬rcmp v.q.y p.y≤0∧rcmp w.q.y p.y≤0)∨(¬rcmp v.q.y p.y≤0∧ ¬rcmp w.q.y p.y≤0) by omega) with⟨ca,cb⟩|⟨ca,cb⟩|⟨ca,cb⟩|⟨ca,cb⟩
  ·
   refine knT (fu:=⟨3⟩) rfl (by show some (decide _)=some true;rw[decide_eq_true (by omega)]) rfl<|knF (fu:=⟨15⟩) rfl (by show some (decide _)=some false;rw[decide_eq_false (by omega)]) rfl<|?_
   refine knF (fu:=⟨20⟩) rfl (by show some (decide _)=some false;rw[decide_eq_false (by omega)]) rfl<|?_
   exact at_ (k+1,c) (by dsimp only;exact⟨⟨by rw[numN,←h1,←hv,←hw];unfold wndQ;split<;>split<;>omega,by omega⟩,(by omega)⟩)
  ·
   refine knT (fu:=⟨3⟩) rfl (by show some (decide _)=some true;rw[decide_eq_true (by omega)]) rfl<|knT rfl (by show some (decide _)=some true;rw[decide_eq_true (by omega)]) rfl<|?_
   refine cl rfl (q_Orient (a:=v.q) (b:=w.q) (c:=p) (i:=12) (j:=12) (k:=i) (by decide) (by decide) hi) rfl<|?_
   refine br (fu1:=⟨10⟩) (fu2:=⟨6⟩) rfl rfl rfl (fun hc51=>?_) (fun hc51=>?_)
   ·
    refine knF rfl (by show some (decide _)=some false;rw[decide_eq_false (by omega)]) rfl<|?_
    exact at_ (k+1,c+1) (by dsimp only;exact⟨⟨by rw[numN,←h1,←hv,←hw];unfold wndQ;split<;>split<;>omega,by omega⟩,(by omega)⟩)
   ·
    refine knF (fu:=⟨20⟩) rfl (by show some (decide _)=some false;rw[decide_eq_false (by omega)]) rfl<|?_
    exact at_ (k+1,c) (by dsimp only;exact⟨⟨by rw[numN,←h1,←hv,←hw];unfold wndQ;split<;>split<;>omega,by omega⟩,(by omega)⟩)
  ·
   refine knF (fu:=⟨19⟩) rfl (by show some (decide _)=some false;rw[decide_eq_false (by omega)]) rfl<|knT (fu:=⟨2⟩) rfl (by show some (decide _)=some true;rw[decide_eq_true (by omega)]) rfl<|?_
   refine knT rfl (by show some (decide _)=some true;rw[decide_eq_true (by omega)]) rfl<|cl rfl (q_Orient (a:=v.q) (b:=w.q) (c:=p) (i:=12) (j:=12) (k:=i) (by decide) (by decide) hi) rfl<|?_
   refine br (fu2:=⟨8⟩) rfl rfl rfl (fun hc65=>?_) (fun hc65=>?_)
   ·
    exact at_ (k+1,c-1) (by dsimp only;exact⟨⟨by rw[numN,←h1,←hv,←hw];unfold wndQ;split<;>split<;>omega,by omega⟩,(by omega)⟩)
   ·
    exact at_ (k+1,c) (by dsimp only;exact⟨⟨by rw[numN,←h1,←hv,←hw];unfold wndQ;split<;>split<;>omega,by omega⟩,(by omega)⟩)
  ·
   refine knF (fu:=⟨19⟩) rfl (by show some (decide _)=some false;rw[decide_eq_false (by omega)]) rfl<|knT (fu:=⟨2⟩) rfl (by show some (decide _)=some true;rw[decide_eq_true (by omega)]) rfl<|?_
   refine knF rfl (by show some (decide _)=some false;rw[decide_eq_false (by omega)]) rfl<|?_
   exact at_ (k+1,c) (by dsimp only;exact⟨⟨by rw[numN,←h1,←hv,←hw];unfold wndQ;split<;>split<;>omega,by omega⟩,(by omega)⟩)
 ·
  obtain rfl:k=r.length:=by omega
  have hfin:numZ r p=c:=h1.symm
  exact rz rfl (by rw[hfin];rfl)
theorem q_Accepts{GB:Gh}{fill n:Int}(hn:n.natAbs≤1000):PF GB Tryz.prog 221 [vI fill,vI n] (vB (accQ fill n)):=by
 refine fn Tryz.func221 rfl rfl Tryz.ntmps221 rfl rfl (fun C=>?_)
 refine cs 7 rfl rfl rfl (fun hg7=>?_) (fun hg7=>?_)
 ·
  refine cs 12 rfl rfl rfl (fun hg12=>?_) (fun hg12=>?_)
  ·
   exact rz rfl (by show vB _=vB _;unfold accQ;congr 1;simp_all)
  ·
   refine cs 15 rfl rfl rfl (fun hg15=>?_) (fun hg15=>?_)
   ·
    exact rz rfl (by show vB _=vB _;unfold accQ;congr 1;simp_all)
   ·
    exact rz rfl (by show vB _=vB _;unfold accQ;congr 1;simp_all)
 ·
  refine cs 15 rfl rfl rfl (fun hg15=>?_) (fun hg15=>?_)
  ·
   exact rz rfl (by show vB _=vB _;unfold accQ;congr 1;simp_all)
  ·
   exact rz rfl (by show vB _=vB _;unfold accQ;congr 1;simp_all)
def lnsR(rs:List (List ZP)):List LnQ:=(edgesR rs).map FrQ.l
def eRR(rs:List (List ZP))(fill:Int):DV:= .ag [.sl (rs.map eRg), .v (.int .i64 fill), .sl ((distQ (lnsR rs)).map eL)]
theorem inK_le{rs:List (List ZP)}{p:PtQ}(h: ∀r∈rs,RingOk r)(k:Nat):((rs.take k).foldl (fun n r=>n+numZ r p) 0).natAbs≤6*k:=by
 induction k with
 |zero=>rw[List.take_zero];exact Nat.zero_le _
 |succ k ih=>
  rw[List.take_add_one,List.foldl_append]
  cases e:rs[k]? with
  |none=>exact Nat.le_trans ih (by omega)
  |some r=>
   have h1:(numZ r p).natAbs≤r.length:=numN_le r p r.length
   have h2:=(h r (List.mem_of_getElem? e)).n6
   show(List.foldl _ 0 (rs.take k)+numZ r p).natAbs≤_
   omega
set_option maxHeartbeats 1000000 in
theorem q_RIn{GB:Gh}{rs:List (List ZP)}{fill:Int}{p:PtQ}{i:Nat}[hp:BPt p i](h: ∀r∈rs,RingOk r)(hn:rs.length≤100)(hi:i≤80000:=by decide):PF GB Tryz.prog 173 [eRR rs fill,eP p] (vB (inR rs fill p)):=by
 have hm:=map_len' eRg rs
 refine fn (fu:=⟨18⟩) Tryz.func173 rfl rfl Tryz.ntmps173 rfl rfl (fun C=>?_)
 refine eqF 10 (.d (vI (rs.length:Nat))) rfl (by rw[hm]<;>rfl) ?_
 refine gx rfl<|?_
 refine lp (X:=Nat×Int) (fun⟨k,c⟩=>[(11, .d (vI (k:Nat))),(5, .d (vI c))]) (fun⟨k,c⟩=>[]) (fun⟨k,c⟩=>c=(rs.take k).foldl (fun n r=>n+numZ r p) 0∧k≤rs.length) (fun⟨k,c⟩=>rs.length-k) (0,0) rfl ⟨by rw[List.take_zero];rfl,Nat.zero_le _⟩ (fun _=>rfl) (fun⟨k,c⟩ hk=>?_)
 dsimp only at hk⊢
 obtain⟨h1,h2⟩:=hk
 have hcl:c.natAbs≤6*k:=by rw[h1];exact inK_le h k
 refine br rfl rfl rfl (fun hc12=>?_) (fun hc12=>?_)
 ·
  obtain⟨r,hz⟩: ∃s,rs[k]? =some s:=⟨_,List.getElem?_eq_getElem (by omega)⟩
  have hr:=h r (List.mem_of_getElem? hz)
  have hnz:(numZ r p).natAbs≤6:=Nat.le_trans (numN_le r p r.length) hr.n6
  refine ix _ rfl (map_getS hz) rfl<|cl rfl (q_Number (r:=r) (p:=p) hr hi) rfl<|?_
  exact at_ (k+1,c+numZ r p) (by dsimp only;exact⟨⟨by rw[List.take_add_one,hz,List.foldl_append,←h1];rfl,by omega⟩,(by omega)⟩)
 ·
  obtain rfl:k=rs.length:=by omega
  rw[List.take_length] at h1
  refine cl rfl (q_Accepts (fill:=fill) (n:=c) (by omega)) rfl<|?_
  exact rz rfl (by unfold inR;rw[←h1];rfl)
end Go.Sx
end

section
set_option maxRecDepth 100000
namespace Go.Sx
open Go Go.Proofs
def eAr(r:List ZP):DV:= .sl ((r.map ZP.q).map ePt)
theorem slOkAr(l:List (List ZP)):slOk 1 (l.map eAr):=fun d hd=>by
 obtain⟨u,_,rfl⟩:=List.mem_map.1 hd;exact⟨rfl,rfl⟩
theorem bp1200{r:List ZP}(h: ∀p∈r,ZP.le 100 p): ∀p∈r.map ZP.q,BPt p 1200:=fun p hp=>by
 obtain⟨z,hz,rfl⟩:=List.mem_map.1 hp
 have:=bpZ (h z hz)
 exact⟨BQ.mono this.x (by decide),BQ.mono this.y (by decide)⟩
theorem eRg_eq(r:List ZP):DV.sl ((r.map ZP.q).map eP)=eRg r:=by unfold eRg;rw[List.map_map];rfl
theorem edgesR_snoc{rs:List (List ZP)}{k:Nat}{r:List ZP}(h:rs[k]? =some r):edgesR (rs.take (k+1))=edgesR (rs.take k)++edgesZ r:=by
 unfold edgesR;rw[List.take_add_one,h,List.flatMap_append];simp
theorem edgesR_take{rs:List (List ZP)}(h: ∀r∈rs,RingOk r)(k:Nat):(edgesR (rs.take k)).length≤6*k:=by
 have:=(edgesR_ok (rs:=rs.take k) (fun r hr=>h r (List.mem_of_mem_take hr))).1
 have h2:(rs.take k).length≤k:=by rw[List.length_take];omega
 omega
set_option maxHeartbeats 2000000 in
theorem q_RMake{GB:Gh}{rs:List (List ZP)}{fill:Int}(h: ∀r∈rs,RingOk r)(hn:rs.length≤100):PF GB Tryz.prog 52 [.sl (rs.map eAr), .v (.int .i64 fill)] (eRR rs fill):=by
 have hm:=map_len' eAr rs
 refine fn (fu:=⟨8⟩) Tryz.func52 rfl rfl Tryz.ntmps52 rfl rfl (fun C=>?_)
 refine bzp (fu:=⟨14⟩) 100 1 0 [] [.v (.int .i64 fill), .sl []] rfl rfl rfl rfl rfl<|?_
 refine eqF 15 (.d (vI (rs.length:Nat))) rfl (by rw[hm]<;>rfl) ?_
 refine gx rfl<|?_
 refine nr 6 6 46 6 rfl rfl rfl ?_
 refine lp (X:=Nat) (fun k=>[(16, .d (vI (k:Nat))),(6, .rw 6),(5, .ov 5 0)]) (fun k=>[(5,some (.o 96 [.rw 13, .d (.v (.int .i64 fill)), .d (.sl [])] true)),(13,some (.b 100 1 ((rs.take k).map eRg) true)),(6,some (.b 46 6 (((edgesR (rs.take k)).map FrQ.l).map eL) true))]) (fun k=>k≤rs.length) (fun k=>rs.length-k) 0 rfl (Nat.zero_le _) (fun _=>rfl) (fun k hk=>?_)
 refine br (fu2:=⟨0⟩) rfl rfl rfl (fun hc17=>?_) (fun hc17=>?_)
 ·
  obtain⟨r,hz⟩: ∃s,rs[k]? =some s:=⟨_,List.getElem?_eq_getElem (by omega)⟩
  have hr:=h r (List.mem_of_getElem? hz)
  have hel:(edgesZ r).length≤6:=by have:=(edges_ok hr).1;have:=hr.n6;omega
  have het:=edgesR_take h k
  have hrl:((rs.take k).map eRg).length=k:=by rw[List.length_map,List.length_take];omega
  refine ix _ rfl (map_getS hz) rfl<|cl (fu:=⟨0⟩) rfl (q_Pts (ps:=r.map ZP.q) (bp1200 hr.le) (by rw[List.length_map];have:=hr.n6;omega)) rfl<|?_
  refine eqF 21 (.d (eRg r)) rfl (by rw[eRg_eq]) ?_
  refine gx rfl<|rf rfl rfl<|ap ((rs.take (k+1)).map eRg) rfl (take_map_snoc hz) (slOkRg [r]) rfl<|cl (fu:=⟨1⟩) rfl (q_Edges (r:=r) hr) rfl<|?_
  refine eqF 30 (.d (vI ((edgesZ r).length:Nat))) rfl (by rw[map_len' eFF (edgesZ r)]<;>rfl) ?_
  refine gx rfl<|?_
  rw[←List.append_nil (edgesR (rs.take k)),←List.take_zero (l:=edgesZ r)]
  refine lp (X:=Nat) (fun j=>[(31, .d (vI (j:Nat))),(6, .rw 6)]) (fun j=>[(6,some (.b 46 6 (((edgesR (rs.take k)++(edgesZ r).take j).map FrQ.l).map eL) true))]) (fun j=>j≤(edgesZ r).length) (fun j=>(edgesZ r).length-j) 0 rfl (Nat.zero_le _) (fun _=>rfl) (fun j hk=>?_)
  have hml:(((edgesR (rs.take k)++(edgesZ r).take j).map FrQ.l).map eL).length≤6*k+6:=by rw[List.length_map,List.length_map,List.length_append,List.length_take];omega
  refine br rfl rfl rfl (fun hc32=>?_) (fun hc32=>?_)
  ·
   obtain⟨e,he⟩: ∃s,(edgesZ r)[j]? =some s:=⟨_,List.getElem?_eq_getElem (by omega)⟩
   refine ix _ rfl (map_getS he) rfl<|rf rfl rfl<|ap (((edgesR (rs.take k)++(edgesZ r).take (j+1)).map FrQ.l).map eL) rfl (by rw[List.take_add_one,he];simp only[List.map_append,List.append_assoc];rfl) (slOkL [e.l]) rfl<|?_
   refine rnE 39 6 rfl ?_
   exact at_ (j+1) ⟨(by omega),(by omega)⟩
  ·
   obtain rfl:j=(edgesZ r).length:=by omega
   rw[List.take_length,←edgesR_snoc hz]
   refine rnE 26 13 rfl ?_
   exact at_ (k+1) ⟨(by omega),(by omega)⟩
 ·
  obtain rfl:k=rs.length:=by omega
  rw[List.take_length]
  refine fzC 6 rfl ?_
  refine fzC 13 rfl ?_
  refine gx rfl<|cl rfl (q_Distinct (ls:=lnsR rs) (fun l hl=>by obtain⟨f,hf,rfl⟩:=List.mem_map.1 hl;exact((edgesR_ok h).2 f hf).lb) (by unfold lnsR;rw[List.length_map];have:=(edgesR_ok h).1;omega)) rfl<|?_
  exact rz rfl rfl
set_option maxHeartbeats 1000000 in
theorem q_Api{GB:Gh}{rs:List (List ZP)}(h: ∀r∈rs,RingOk r)(hn:rs.length≤100):PF GB Tryz.prog 53 [.sl (rs.map eRg)] (.sl (rs.map eAr)):=by
 have hm:=map_len' eRg rs
 refine fn (fu:=⟨15⟩) Tryz.func53 rfl rfl Tryz.ntmps53 rfl rfl (fun C=>?_)
 refine eqF 7 (.d (vI (rs.length:Nat))) rfl (by rw[hm]<;>rfl) ?_
 refine gx rfl<|?_
 refine nr 3 3 181 1 rfl rfl rfl ?_
 refine lp (X:=Nat) (fun k=>[(8, .d (vI (k:Nat))),(3, .rw 3)]) (fun k=>[(3,some (.b 181 1 ((rs.take k).map eAr) true))]) (fun k=>k≤rs.length) (fun k=>rs.length-k) 0 rfl (Nat.zero_le _) (fun _=>rfl) (fun k hk=>?_)
 have hml:((rs.take k).map eAr).length≤k:=by rw[List.length_map,List.length_take];omega
 refine br rfl rfl rfl (fun hc9=>?_) (fun hc9=>?_)
 ·
  obtain⟨r,hz⟩: ∃s,rs[k]? =some s:=⟨_,List.getElem?_eq_getElem (by omega)⟩
  have hr:=h r (List.mem_of_getElem? hz)
  refine ix (fu:=⟨1⟩) _ rfl (map_getS hz) rfl<|?_
  refine eqF 11 (.d (.sl ((r.map ZP.q).map eP))) rfl (by rw[eRg_eq]) ?_
  refine gx rfl<|cl rfl (q_ToPs (ps:=r.map ZP.q) (bp1200 hr.le) (by rw[List.length_map];have:=hr.n6;omega)) rfl<|rf rfl rfl<|ap ((rs.take (k+1)).map eAr) rfl (take_map_snoc hz) (slOkAr [r]) rfl<|?_
  refine rnE 16 3 rfl ?_
  exact at_ (k+1) ⟨(by omega),(by omega)⟩
 ·
  obtain rfl:k=rs.length:=by omega
  refine fzE 3 rfl ?_
  exact rz rfl (by rw[List.take_length];rfl)
end Go.Sx
end
