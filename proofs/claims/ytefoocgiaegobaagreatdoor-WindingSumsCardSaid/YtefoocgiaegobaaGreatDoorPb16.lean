import Derived.Test.YtefoocgiaegobaaGreatDoorPb15
import Derived.Shelf.SlicesQ.Reverse
import Derived.Shelf.SlLaysE0
import Derived.Test.YtefoocgiaegobaaGreatDoorProg
import Derived.Test.YtefoocgiaegobaaGreatDoorCards
import Derived.Test.YtefoocgiaegobaaGreatDoorTie
import Derived.WalkKit
import Derived.ProofKit
import Derived.OpenShut
import Derived.Deep.DeepHandedRow
import Derived.Deep.DeepWitnessRowRef
import Derived.LaidMore
import Derived.Lib.LaidTab
import Derived.SizedLaws
import Derived.Stop.LaidErr
import Derived.MakeChecks
set_option linter.all false
set_option maxHeartbeats 4000000
set_option maxRecDepth 100000
section
namespace Go.Sx
open Go Go.Proofs Tryz
variable {GB:Gh}
def xI(S:List aa)(x:aa)(R:List aa)(k:Nat):List aa:=S.take k++x::(S.drop k++R)
def xH(S:List aa)(x:aa)(R:List aa)(m:Nat):List aa:=S.take m++x::x::(S.drop (m+1)++R)
def xC(t:Tr)(p:aa):Int:=if Mp t p then 2 else if L5 t p then 1 else 0
def xL(t:Tr)(p:aa)(V:List aa)(k:Nat):Bool:=(V.take k).any fun v=>(nq t p v).1
def xN(t:Tr)(p:aa)(V:List aa)(k:Nat):Bool:=(V.take k).all fun v=>(nq t p v).1
def zS{l:List aa}{x:aa}(h:x∈l): ∃i:Nat,i<l.length/\i6 l x=(i:Int)/\l.getD i ⟨0,0⟩=x:=by
 cases e:l.findIdx? (fun q=>decide (q.x=x.x/\q.y=x.y)) with
 |none=>
  rw[List.findIdx?_eq_none_iff] at e;have:=e x h;simp at this
 |some i=>
  have e0:=e;rw[List.findIdx?_eq_some_iff_getElem] at e;obtain⟨h1,h2,_⟩:=e;refine⟨i,h1,by unfold i6;rw[e0],?_⟩;have h3:=of_decide_eq_true h2;rw[aJ,aZ h1,gV];generalize l[i]=q at*
  cases q;cases x
  simp only[aa.mk.injEq] at*;exact h3
def zO(l:List aa): ∀n,cB l n=((List.range n).filter fun k=>decide (i6 l (l.getD k ⟨0,0⟩)=((k:Nat):Int))).length
 |0=>rfl
 |n+1=>by
  rw[cB,List.range_succ,List.filter_append,aT,zO l n];congr 1;by_cases h:i6 l (l.getD n ⟨0,0⟩)=((n:Nat):Int)
  ·rw[if_pos h];simp only[nX,decide_eq_true h,if_true];rfl
  ·rw[if_neg h];simp only[nX,decide_eq_false h];rfl
def yF{F:List Nat}{i j k:Nat}(hi:i∈F)(hj:j∈F)(hk:k∈F)(h1:i≠j)(h2:i≠k)(h3:j≠k):3<=F.length:=by
 match F with
 |[]=>cases hi
 |[a]=>simp at hi hj;omega
 |[a,b]=>simp at hi hj hk;omega
 |a::b::c::t=>simp
def zY{l:List aa}{a b c:aa}(ha:a∈l)(hb:b∈l)(hc:c∈l)(h1:a≠b)(h2:a≠c)(h3:b≠c):3<=cB l l.length:=by
 obtain⟨i,i1,i2,i3⟩:=zS ha;obtain⟨j,j1,j2,j3⟩:=zS hb;obtain⟨k,k1,k2,k3⟩:=zS hc;rw[zO];have mk: ∀{x:aa} {m:Nat},m<l.length->i6 l x=(m:Int)->l.getD m ⟨0,0⟩=x->m∈(List.range l.length).filter fun k=>decide (i6 l (l.getD k ⟨0,0⟩)=((k:Nat):Int)):=fun{x m} q1 q2 q3=>List.mem_filter.2 ⟨kL.2 q1,decide_eq_true (by rw[q3];exact q2)⟩;exact yF (mk i1 i2 i3) (mk j1 j2 j3) (mk k1 k2 k3) (fun e=>h1 (by rw[<-i3,<-j3,e])) (fun e=>h2 (by rw[<-i3,<-k3,e])) (fun e=>h3 (by rw[<-j3,<-k3,e]))
def cmpZ_lt{p q:ZP}:ij p q<0↔p.1<q.1\/(p.1=q.1/\p.2<q.2):=by
 unfold ij
 repeat' split
 all_goals (constructor<;>intro h<;>omega)
def yG{p q:ZP}:ij p q=0↔p.1=q.1/\p.2=q.2:=by
 unfold ij
 repeat' split
 all_goals (constructor<;>intro h<;>omega)
def zN{x y:ZP}: ∀{l:List ZP},y∈gt x l->y=x\/y∈l
 |[],h=>by simp[gt] at h;exact .inl h
 |u::t,h=>by
  rw[gt] at h;split at h
  ·rcases bZ.1 h with rfl|h
   ·exact .inr aQ
   ·exact(zN h).imp id fun k=>aV _ k
  ·split at h
   ·exact .inr h
   ·rcases bZ.1 h with rfl|h
    ·exact .inl J
    ·exact .inr h
def zX{x:ZP}: ∀{l:List ZP},l.Pairwise (fun a b=>ij a b<0)->(gt x l).Pairwise (fun a b=>ij a b<0)
 |[],_=>by simp[gt]
 |u::t,h=>by
  obtain⟨h1,h2⟩:=bR.1 h;rw[gt];split
  ·rename_i hu
   refine bR.2 ⟨fun y hy=>?_,zX h2⟩;rcases zN hy with rfl|hy
   ·exact hu
   ·exact h1 y hy
  ·split
   ·exact h
   ·rename_i k1 k2
    rw[cmpZ_lt] at k1;rw[yG] at k2;refine bR.2 ⟨fun y hy=>?_,h⟩;rw[cmpZ_lt];rcases bZ.1 hy with rfl|hy
    ·omega
    ·have:=cmpZ_lt.1 (h1 y hy);omega
def yB(l:List ZP):(kt l).Pairwise (fun a b=>ij a b<0)/\ ∀y∈kt l,y∈l:=by
 have key: ∀(l o:List ZP),o.Pairwise (fun a b=>ij a b<0)->(l.foldl (fun out x=>gt x out) o).Pairwise (fun a b=>ij a b<0)/\ ∀y∈l.foldl (fun out x=>gt x out) o,y∈l\/y∈o:=by
  intro l
  induction l with
  |nil=>intro o ho;exact⟨ho,fun y hy=> .inr hy⟩
  |cons x t ih=>
   intro o ho;obtain⟨i1,i2⟩:=ih (gt x o) (zX ho);refine⟨i1,fun y hy=>?_⟩;rcases i2 y hy with h|h
   ·exact .inl (aV _ h)
   ·rcases zN h with rfl|h
    ·exact .inl aQ
    ·exact .inr h
 obtain⟨k1,k2⟩:=key l [] .nil;exact⟨k1,fun y hy=>(k2 y hy).resolve_right (by simp)⟩
def yL{r:List ZP}(ho:dB r)(h:3<=(kt r).length):eH r:=by
 refine⟨ho,?_⟩;obtain⟨k1,k2⟩:=yB r
 match hs:kt r with
 |[]=>rw[hs] at h;simp at h
 |[a]=>rw[hs] at h;simp at h
 |[a,b]=>rw[hs] at h;simp at h
 |a::b::c::t=>
  rw[hs] at k1 k2;obtain⟨p1,p2⟩:=bR.1 k1;obtain⟨p3,_⟩:=bR.1 p2;have ne: ∀{x y:ZP},ij x y<0->x.q≠y.q:=fun{x y} q e=>by
   have:=tF e;subst this;have:=cmpZ_lt.1 q;omega
  exact zY (qW (k2 a (by simp))) (qW (k2 b (by simp))) (qW (k2 c (by simp))) (ne (p1 b (by simp))) (ne (p1 c (by simp))) (ne (p3 c (by simp)))
def yH{es:List Int}{a:Nat}(ha:a<=es.length):eH (ku es a).1:=by
 have hok:=(zz ha).1;unfold ku at*;dsimp only at*;split
 ·exact Bn Fh (by decide) (by decide) (by decide)
 ·rename_i h
  rw[if_neg h] at hok;exact yL hok (by omega)
def yM{es:List Int}{a:Nat}(ha:a<=es.length):eH (e6 es a).1:=by
 have hok:=(Ab ha).1;have h0:=fw (n:=4) ha;unfold e6 at*;dsimp only at*;split
 ·rename_i h
  rw[if_pos h] at hok;unfold tu at*;dsimp only at*;exact NF hok (by omega) (by omega)
 ·rename_i h
  rw[if_neg h] at hok;split
  ·rename_i k
   rw[if_pos k] at hok;obtain⟨p1,p2,p3⟩:=qm h0;obtain⟨u1,u2,u3,u4⟩:=rM p3;obtain⟨v1,v2,v3,v4⟩:=rM u4;split
   ·rename_i hc
    rw[if_pos hc] at hok;exact Tf hok hc
   ·exact yH v4
  ·exact yH h0
structure EGW (GB:Gh) (ar:Addr):Prop where
 ErrRange:GB 2=some [.iface 499 (.pointer (some ar))]
def yP{ar:Addr}(hE:EGW GB ar){rs:List (List ZP)}(h: ∀r∈rs,eH r)(hn:rs.length<=200){p:aa}{i:Nat}[hp:aA p i](hno:kI rs p=true)(hi:i<=100000:=by decide):PF GB prog 50 [.sl (rs.map fG),gm p] (.tp [vI 0,ow ar]):=by
 have hel:=Bc h hn;have hfe:=A8 fun r hr=>(h r hr).ok;refine fn func50 J J ntmps50 J J (fun C=>?_);refine cl J (AJ h hn) J<|cl (fu:=⟨9⟩) J (ul (p:=p) (i:=i) (by omega)) J<|ky J J J<|cl (fu:=⟨0⟩) J (H' (E:=c6 rs) hfe (by omega) (p:=p) (i:=i) hi) J<|?_;refine ak 23 (.d (vB true)) J (by rw[show(c6 rs).any (fun f=>gv f p)=true from hno]) ?_;refine kE 23 J ?_;refine gx J<|gl J hE.ErrRange J<|?_;exact rz J J
def yV{b:Nat}{es:List Int}(hes:es.length<=400){a:Nat}(ha:a<=es.length){p:aa}(hp:p=(ma es a).1):PM GB prog 36 (f9 [none] b) b 126 [.sl (es.map vI), .v (.int .i64 (a:Nat))] (eP p) [.sl (es.map vI), .v (.int .i64 ((ma es a).2:Nat))]:=by
 subst hp;exact SE hes ha
def zH(es:List Int):Nat->Nat->List (List ZP)->List (List ZP)×Nat
 |0,a,out=>(out,a)
 |n+1,a,out=>zH es n (e6 es a).2 (out++[(e6 es a).1])
def zA(es:List Int)(m a:Nat):List (List ZP)×Nat:=zH es (aq es (m+1) a).1 (aq es (m+1) a).2 []
def zU{es:List Int}: ∀{n a:Nat} {out:List (List ZP)},a<=es.length->(∀r∈out,eH r)->(∀r∈(zH es n a out).1,eH r)/\(zH es n a out).1.length=out.length+n/\(zH es n a out).2<=es.length
 |0,a,out,ha,h=>⟨h,J,ha⟩
 |n+1,a,out,ha,h=>by
  have h1:=(Ab ha).2;obtain⟨i1,i2,i3⟩:=zU (n:=n) (out:=out++[(e6 es a).1]) h1 fun r hr=>by
   rcases cL.1 hr with hr|hr
   ·exact h r hr
   ·rw[aL.1 hr];exact yM ha
  exact⟨i1,by rw[zH,i2,aT];simp;omega,i3⟩
def yC{es:List Int}{m a:Nat}(ha:a<=es.length):(∀r∈(zA es m a).1,eH r)/\(zA es m a).1.length<=m/\(zA es m a).2<=es.length:=by
 have h1:=gG (es:=es) (n:=m+1) (a:=a) (by omega);obtain⟨i1,i2,i3⟩:=zU (es:=es) (n:=(aq es (m+1) a).1) (out:=[]) (fw (n:=m+1) ha) (fun r hr=>by cases hr);exact⟨i1,by unfold zA;rw[i2];simp;omega,i3⟩
def yI{b:Nat}{es:List Int}(hes:es.length<=400){a:Nat}(ha:a<=es.length){md:Nat}(hmd:md<=100):PM GB prog 17 (f9 [none,some (.v (.int .i64 (md:Nat)))] b) b 126 [.sl (es.map vI), .v (.int .i64 (a:Nat))] (.sl ((zA es md a).1.map kP)) [.sl (es.map vI), .v (.int .i64 ((zA es md a).2:Nat))]:=by
 have hj1:=gG (es:=es) (n:=md+1) (a:=a) (by omega);have hj2:=fw (n:=md+1) ha;refine qc func17 J J ntmps17 J J (fun C b m lo hmb=>?_);refine cm J (fun b=>(lc (n:=(md:Int)+1) hes ha (by omega) (by omega))) J<|?_;refine nr 5 5 62 1 J J J ?_;refine lp (X:=List (List ZP)×Nat×Nat) (fun⟨rs,i,b⟩=>[(6, .d (vI (i:Nat))),(5, .rw 5)]) (fun⟨rs,i,b⟩=>[(1000000,some (.o 126 [.d (.sl (es.map vI)), .d (.v (.int .i64 (b:Nat)))] false)),(5,some (.b 62 1 (rs.map kP) true))]) (fun⟨rs,i,b⟩=>zH es i b rs=zA es md a/\b<=es.length/\rs.length+i<=100) (fun⟨rs,i,b⟩=>i) ⟨[],(aq es (md+1) a).1,(aq es (md+1) a).2⟩ J ⟨J,hj2,by simp;omega⟩ (fun _=>J) (fun⟨rs,i,b⟩ hk=>?_)
 try dsimp only at hk⊢
 obtain⟨h1,h2,h3⟩:=hk;have hrl:(rs.map kP).length=rs.length:=by simp
 refine br (fu2:=⟨0⟩) J J J (fun hc12=>?_) (fun hc12=>?_)
 .
  obtain⟨j,rfl⟩: ∃j,i=j+1:=⟨i-1,by omega⟩;have hq:=(Ab h2).2;refine cm J (fun b=>(Pt hes h2)) J<|rf J J<|ap ((rs++[(e6 es b).1]).map kP) J (by rw[cX];rfl) (MT [_]) J<|?_;refine iI 19 5 J ?_;exact at_ ⟨rs++[(e6 es b).1],j,(e6 es b).2⟩ (by dsimp only;exact⟨⟨by rw[<-h1,zH],hq,by simp;omega⟩,(by omega)⟩)
 .
  obtain rfl:i=0:=by omega
  have hfin:zA es md a=(rs,b):=by rw[<-h1,zH]
  refine Cg 5 J ?_;refine gx J<|?_;exact gO hmb J J (by rw[hfin];rfl) (by rw[hfin])
def xD(a b p:aa):Bool:=decide (o4 a b p=0)&&decide ((aa.dot (dx a p (-1)) (dx b p (-1))).num.sign<=0)
def xK(r:List ZP)(p:aa):Bool:=(List.range r.length).any fun k=>xD (r.getD k (0,0)).q (d4 r k).q p
def yE{rs:List (List ZP)}{p:aa}{k:Nat}{r:List ZP}(h:rs[k]? =some r):(rs.take (k+1)).foldl (fun n r=>n+fI r p) 0=(rs.take k).foldl (fun n r=>n+fI r p) 0+fI r p:=by
 rw[cM,h,mS];rfl
section
variable {GB:Gh} {C:az} {n:Nat} {Q0:Exit->Act->World->Prop} {fr fr':ao} {own own':aB} {cf cf':Cf} {vc:List Prop} {lk:LK} {bk:BM}
variable {dst:Option Nat} {t t' ty':TypeId} {pos:String} {af:Array Edge} {gd:Option (Nat×Bool)} {x y:Operand}
def yZ(fr:ao)(cf:Cf):Option (List DV):=match bu fr cf with
 |some ⟨_, .binOp .eql t x (.const (.slice none _ _)) _,_,_,_,_⟩=>match b8 tt t with
  |some ⟨.sl _ _ _,_,_,_⟩=>match aC (aI fr cf) x with
   |some (.d (.sl l))=>some l
   |_=>none
  |_=>none
 |_=>none
def xG[fu:Fu]{l:List DV}(h:yZ fr cf=some l)(hl:l≠[])(hgo:bF tt n fu.n fr own cf .ff [] []=⟨vc,fr',own',cf'⟩)(k:aj prog GB C n Q0 fr' own' cf')
  (hv:ab vc:=by first|exact trivial|(simp only[ab];kernel_rfl)|(simp only[ab];omega)|(simp only[ab,aX,aW,aK];omega)):aj prog GB C n Q0 fr own cf:=by
 unfold yZ at h;split at h<;>try (cases h;done)
 rename_i hh;split at h<;>try (cases h;done)
 rename_i hT;split at h<;>cases h;rename_i hx;have hTy:=gE (dt _ _ hT) J;exact us hh (.x1 hx fun ρ G ov a w y _ r h1 h2=>by
  obtain⟨s,z,es,rfl,h3,h4⟩:=gh.1 (show Is G (.sl l) y from h2);have hne:z.a.isNone=false:=by
   rcases h3.mem with k|⟨b,off,cs,k,_⟩
   ·have hlen:=h4.len
    rw[k] at hlen;exact absurd (bU hlen.symm) hl
   ·rw[k];rfl
  refine⟨.bool false,J,?_⟩;rw[<-hne];exact B4 h1 J) hgo hv k
def xB(GB:Gh)(P:Program)(f:FuncId)(s off m:Nat)(ty:TypeId)(dsi dso:List DV):Prop:=
 ∀G w b c B,bc GB G->cp G ⟨w,s,ty,dsi,false⟩ B->w.a=some ⟨b,0,none⟩->m<=c->jh P f [.slice (some ⟨b,off*s,none⟩) m c] B G (fun v own' G'=>Is G' (.tp []) v/\cp G' ⟨w,s,ty,dso,false⟩ own')
def yD{fo:Operand}{tys:Array TypeId}{f:FuncId}{nm off m:Nat}{s:Nat}{ty0:TypeId}{dsi dso:List DV}{lo:Bool}
  (ho:aC lk fo=some (.d (.v (.func (.func f) ⟨[]⟩ ⟨[]⟩))))(hx:aC lk x=some (.rs nm s off m))(hb:bk nm=some (.b ty0 s dsi lo))(hF:xB GB prog f s off m ty0 dsi dso):bm prog GB C n lk bk ⟨dst, .call ⟨.value fo,⟨[x]⟩,tys⟩,ty',pos,af,gd⟩ (.d (.tp [])) [(nm,some (.b ty0 s dso lo))] []:=by
 intro hd tl tb K' s1 s2 hf hk;refine⟨fun ρ G ov a w r Q=>?_⟩;have r1:=r.mono s1 s2;obtain⟨y,hy,hy'⟩:=r1.ev ho;rw[(ba (G:=G)).1 hy'] at hy;obtain⟨u,hu,b,c,hw,rfl,hc⟩:=r1.ev hx;obtain⟨B,g1,g2⟩:=r1.bx _ _ hb;have hB:cp G ⟨ρ nm,s,ty0,dsi,lo⟩ B:=g1;obtain⟨rest,h5,h6⟩:=Gl hB g2;refine tQ (M:=B) (rest:=rest) (vs:=[.slice (some ⟨b,off*s,none⟩) m c]) hy (by simp only[fp,hu]) h5 (hF G (ρ nm) b c B r.gb hB.weak hw hc) hd (fun v own1 G' hG hK a' w' rl=>?_) a w Q ⟨r.h,r.sz,ci a,r.df⟩;obtain⟨hr,vs',k1,k2,k3,k4⟩:=hK;have k1':=k1.relo (gA B);have e2:lo=true-> ∀o∈own1.map (relo (gA B)),o.lo=true:=fun hl o ho=>by
  obtain⟨o',_,rfl⟩:=bT.1 ho;obtain⟨_,_,_,_,hlo⟩:=hB;exact BF _ (hlo hl)
 generalize own1.map (relo (gA B))=B' at rl e2 k1';have r2:=r.upB (G':=G') (ov':=B'++rest) (w':=w') (B':= .b ty0 s dso lo) (os:=B') hG.le rl.h ⟨vs',by simpa using k1',k2,k3,e2⟩ (fun o ho=>cJ _ ho)
  (fun o ho hne=>fQ _ (h6 o ho fun o' ho' he=>hne (by rw[g1.blk ho',he]))) ⟨_,s2 _ _ hb⟩
 exact hk.run _ G' _ a' w' (r2.put hr (jg rl))
structure CV where
 f:FuncId
 nm:Nat
 s:Nat
 off:Nat
 m:Nat
 ty:TypeId
 ds:List DV
 lo:Bool
def xE(fr:ao)(own:aB)(cf:Cf):Option CV:=match bu fr cf with
 |some ⟨_, .call ⟨.value fo,⟨[x]⟩,_⟩,_,_,_,_⟩=>match aC (aI fr cf) fo with
  |some (.d (.v (.func (.func f) ⟨[]⟩ ⟨[]⟩)))=>match aC (aI fr cf) x with
   |some (.rs nm s off m)=>match ew fr own cf nm with
    |some (.b ty s' ds lo)=>bif Nat.beq s s' then some ⟨f,nm,s,off,m,ty,ds,lo⟩ else none
    |_=>none
   |_=>none
  |_=>none
 |_=>none
def cv[fu:Fu]{f:FuncId}{nm s off m:Nat}{ty:TypeId}{dsi dso:List DV}{lo:Bool}(dso':List DV)(ha:xE fr own cf=some ⟨f,nm,s,off,m,ty,dsi,lo⟩)(hF:xB GB prog f s off m ty dsi dso)(he:dso=dso')
  (hgo:bF tt n fu.n fr own cf (.d (.tp [])) [(nm,some (.b ty s dso' lo))] []=⟨vc,fr',own',cf'⟩)(k:aj prog GB C n Q0 fr' own' cf')
  (hv:ab vc:=by first|exact trivial|(simp only[ab];kernel_rfl)|(simp only[ab];omega)|(simp only[ab,aX,aW,aK];omega)):aj prog GB C n Q0 fr own cf:=by
 subst he;unfold xE at ha;split at ha<;>try (cases ha;done)
 rename_i hh;split at ha<;>try (cases ha;done)
 rename_i h0;split at ha<;>try (cases ha;done)
 rename_i h1;split at ha<;>try (cases ha;done)
 rename_i h2;rw[cond_eq_ite] at ha;split at ha<;>cases ha;rename_i h3
 cases aY h3
 exact us hh (yD h0 h1 h2 hF) hgo hv k
end
def zZ{α:Type}[Inhabited α](enc:α->List Value)(k:Nat)(w:World)(b off m:Nat)(dk:Array α){q:Nat}:
  (Go.Sort.putRowK enc k (Go.Sort.ahead w m) b off dk).heap[q]? =if q=b then(w.heap[q]?).map (Go.Sort.onCells (Go.Sort.putCells id off (Go.Sort.flatK enc k dk))) else w.heap[q]? :=by
 show((w.heap.modify b _))[q]? =_;rw[pK];by_cases e:b=q
 ·subst e;simp
 ·simp[e,Ne.symm e]
def yO{F:Array Value}{pre xs rest:List Value}(h:xs.length=F.size):Go.Sort.putCells id pre.length F ⟨pre++(xs++rest)⟩=⟨pre++(F.toList++rest)⟩:=by
 apply Array.ext';apply kX;intro k;simp only[Go.Sort.putCells,Array.toList_mapIdx,List.getElem?_mapIdx];by_cases h0:k<pre.length
 ·rw[bS h0,bS h0,aZ h0]
  simp[show¬pre.length<=k by omega]
 ·have h0':pre.length<=k:=by omega
  have l1:(pre++(xs++rest))[k]? =(xs++rest)[k-pre.length]? :=cV h0';have l2:(pre++(F.toList++rest))[k]? =(F.toList++rest)[k-pre.length]? :=cV h0';rw[l1,l2];by_cases hk:k-pre.length<F.size
  ·have l3:(xs++rest)[k-pre.length]? =xs[k-pre.length]? :=bS (by omega)
   have l4:(F.toList++rest)[k-pre.length]? =F.toList[k-pre.length]? :=bS (by rw[eJ];exact hk);have l5:xs[k-pre.length]? =some (xs[k-pre.length]'(by omega)):=aZ (by omega);rw[l3,l4,l5];simp[hk,h0',show k<pre.length+F.size by omega]
  ·have l3:(xs++rest)[k-pre.length]? =rest[k-pre.length-xs.length]? :=cV (by omega)
   have l4:(F.toList++rest)[k-pre.length]? =rest[k-pre.length-F.toList.length]? :=cV (by rw[eJ];omega);rw[l3,l4,h,eJ]
   cases rest[k-pre.length-F.size]? with
   |none=>rfl
   |some v=>simp[show¬k<pre.length+F.size by omega]
def xA{P:Program}{ρ:Go.Shelf.Ren}{GB:Gh}(L:SlLaysE0.n35 P ρ)(ha:jC P (ρ.f 35)){s:Nat}(hAg: ∀w,(isAgg (ρ.t 23)).run P w= .ok true w)(hZs: ∀w,(sizeOf (ρ.t 23)).run P w= .ok s w)
  {A:Type}(e:A->DV)(hA: ∀x,∃l,e x= .ag l/\(DV.ag l).okc=true/\l.length=s){ty:TypeId}{pre ds:List A}(hn:ds.length<4611686018427387904)(h0:ds≠[]):
  xB GB P (ρ.f 35) s pre.length ds.length ty ((pre++ds).map e) ((pre++ds.reverse).map e):=by
 intro G z b0 c0 B hgb hB hzb hc0;refine⟨ha,fun w hw=>?_⟩;obtain⟨es,k1,k2,k3,_⟩:=hB;simp only at k1 k2 k3;have hlen:es.length=(pre++ds).length:=by rw[k2.len,aX]
 rcases k1 with⟨e1,_,_⟩|⟨b,rest,lo,e1,e2,e3,e4,e5⟩
 ·rw[e1,aT] at hlen
  exact absurd (bU (by have:(0:Nat)=_:=hlen;omega)) h0
 have hbb:b0=b:=by rw[e1] at hzb;cases hzb;rfl
 subst hbb;subst e2
 -- elements with their cells
 have lift: ∀{ds:List A} {es:List Value},IsLs G (ds.map e) es-> ∃qs:List {q:A×List Value//Is G (e q.1) (.agg ⟨q.2⟩)},qs.map (·.1.1)=ds/\qs.map (fun q=>Value.agg ⟨q.1.2⟩)=es:=by
  intro ds
  induction ds with
  |nil=>intro es h;cases cb.1 h;exact⟨[],rfl,rfl⟩
  |cons x ds ih=>
   intro es h;obtain⟨y,n,rfl,g1,g2⟩:=bE.1 h;obtain⟨qs,g3,g4⟩:=ih g2;obtain⟨l,hl,_⟩:=hA x;have g1':=g1;rw[hl] at g1';obtain⟨m,rfl,_⟩:=dP.1 g1';exact⟨⟨(x,m),g1⟩::qs,by simp[g3],by simp[g4]⟩
 obtain⟨qa,hqa1,hqa2⟩:=lift k2;obtain⟨qp,qs,rfl,hp1,hq1⟩: ∃qp qs,qa=qp++qs/\qp.map (·.1.1)=pre/\qs.map (·.1.1)=ds:=by
  refine⟨qa.take pre.length,qa.drop pre.length,(iV ..).symm,?_,?_⟩
  ·rw[kU,hqa1,List.take_left'];rfl
  ·rw[pS,hqa1,List.drop_left'];rfl
 rw[cX] at hqa2;have:Inhabited {q:A×List Value//Is G (e q.1) (.agg ⟨q.2⟩)}:=⟨qs.head (fun e=>by rw[e] at hq1;exact h0 hq1.symm)⟩
 let enc:{q:A×List Value//Is G (e q.1) (.agg ⟨q.2⟩)}->List Value:=fun q=>q.1.2
 have henc: ∀q,(enc q).length=s/\ ∀v∈enc q,Go.Sx.flat v=true:=fun q=>by
  obtain⟨l,hl,h1,h2⟩:=hA q.1.1;have h3:=q.2;rw[hl] at h3;obtain⟨m,hm,h4⟩:=dP.1 h3
  cases hm
  exact⟨by show q.1.2.length=s;rw[h4.len,h2],fun v hv=>h4.flat h1 v hv⟩
 have hk: ∀q,(enc q).length=s:=fun q=>(henc q).1;have hqs:qs.toArray.size=ds.length:=by rw[kZ,<-hq1,aX]
 have hfl: ∀d:Array {q:A×List Value//Is G (e q.1) (.agg ⟨q.2⟩)},(Go.Sort.flatK enc s d).toList=aF (d.toList.map fun q=>Value.agg ⟨q.1.2⟩):=fun d=>by
  rw[HY enc s hk];unfold aF;rw[List.map_map];rfl
 obtain⟨vp,hvp⟩: ∃vp,vp=qp.map (fun q=>Value.agg ⟨q.1.2⟩):=⟨_,rfl⟩;obtain⟨vq,hvq⟩: ∃vq,vq=qs.map (fun q=>Value.agg ⟨q.1.2⟩):=⟨_,rfl⟩;rw[<-hvp,<-hvq] at hqa2;subst hqa2;have hfe:(Go.Sort.flatK enc s qs.toArray).toList=aF vq:=by rw[hfl,hvq]
 have hpl:(aF vp).length=pre.length*s:=by
  rw[fh vp fun v hv=>k3 v (cJ _ hv),hvp,aX,<-hp1,aX]
 rw[mO] at hw e4⊢;rw[fJ] at hw⊢;have hown:=hw.hown ⟨b0,aF vp++(aF vq++rest),ty,false⟩ (by simp[asB]);obtain⟨hb,hGb,_,_⟩:=hown;simp only at hb hGb;have hblt:=et hb;have hH:Go.Sort.HoldsK enc s w b0 (pre.length*s) qs.toArray:=by
  intro j hj;refine⟨?_,by simp[World.frozen?,hb]⟩;have hj':j<(aF vq).length:=by rw[<-hfe];simpa using hj
  rw[ry hb,cV (by omega),hpl,Nat.add_sub_cancel_left,bS hj',<-hfe];show _=some ((Go.Sort.flatK enc s qs.toArray)[j]!);rw[getElem!_pos _ j hj];simp
 have hrun:=AnyQ.slices_Reverse L s hAg hZs enc hk (fun q v hv=>IQ ((henc q).2 v hv)) b0 (pre.length*s) c0 qs.toArray w hH (by rw[hqs];omega);rw[show(⟨[Value.slice (some ⟨b0,pre.length*s,none⟩) ds.length c0]⟩:Array Value)= #[.slice (some ⟨b0,pre.length*s,none⟩) qs.toArray.size c0] by rw[hqs]];refine hrun.mono fun r w' ⟨h1,n,h2⟩=>?_;subst h2;have hd':(qs.toArray.reverse).toList=qs.reverse:=by simp
 have hvr:aF (qs.reverse.map fun q=>Value.agg ⟨q.1.2⟩)=(Go.Sort.flatK enc s qs.toArray.reverse).toList:=by rw[hfl,hd']
 have hsz:(aF vq).length=(Go.Sort.flatK enc s qs.toArray.reverse).size:=by rw[<-hfe];simp
 have hblk:(Go.Sort.putRowK enc s (Go.Sort.ahead w n) b0 (pre.length*s) qs.toArray.reverse).heap[b0]? =some (.cells ⟨aF vp++((Go.Sort.flatK enc s qs.toArray.reverse).toList++rest)⟩ ty (0,0)):=by
  rw[zZ,if_pos J,hb];show some (Obj.cells (Go.Sort.putCells id (pre.length*s) _ ⟨aF vp++(aF vq++rest)⟩) ty (0,0))=_;rw[<-hpl,yO hsz]
 have hoth: ∀q:Nat,q≠b0->(Go.Sort.putRowK enc s (Go.Sort.ahead w n) b0 (pre.length*s) qs.toArray.reverse).heap[q]? =w.heap[q]? :=fun q hne=>by rw[zZ,if_neg hne]
 have hIs: ∀l:List {q:A×List Value//Is G (e q.1) (.agg ⟨q.2⟩)},IsLs G ((l.map (·.1.1)).map e) (l.map fun q=>Value.agg ⟨q.1.2⟩):=fun l=>by
  induction l with
  |nil=>exact .nil
  |cons q l ih=>exact .cons q.2 ih
 have hcell: ∀(l:List {q:A×List Value//Is G (e q.1) (.agg ⟨q.2⟩)}),∀v∈l.map (fun q=>Value.agg ⟨q.1.2⟩),(aG v).length=s:=fun l v hv=>by
  obtain⟨q,_,rfl⟩:=bT.1 hv;exact hk q
 have hlen':(vp++qs.reverse.map fun q=>Value.agg ⟨q.1.2⟩).length=(vp++vq).length:=by rw[aT,aT,hvq,aX,aX,qY]
 have hfl2:aF (vp++qs.reverse.map fun q=>Value.agg ⟨q.1.2⟩)=aF vp++(Go.Sort.flatK enc s qs.toArray.reverse).toList:=by rw[mO,hvr]
 refine⟨_,[⟨b0,aF (vp++qs.reverse.map fun q=>Value.agg ⟨q.1.2⟩)++rest,ty,false⟩],G,h1,?_,kx.2 ⟨[],J, .nil⟩,vp++qs.reverse.map (fun q=>Value.agg ⟨q.1.2⟩), .inr ⟨b0,rest,false,by rw[hlen'];exact e1,J,fh _ ?_,?_,by rw[hlen'];exact e5⟩,?_,?_,fun h=>by cases h⟩
 ·refine⟨J,J,J,?_,fun q hq hqm=>hoth q fun e=>hqm (by rw[e];exact aQ),fun c cs hcs=>?_,bc.refl _,fun _ _=>J,fun o ho=>?_,oR _ _,?_,fun p hp=>(by cases hp)⟩
  ·show w.heap.size<=(w.heap.modify b0 _).size
   simp
  ·obtain⟨ty',fz,h⟩:=hw.sub c cs hcs
   exact⟨ty',fz,by rw[hoth c (fun e=>by subst e;rw[hGb] at hcs;cases hcs)];exact h⟩
  ·rw[aL.1 ho]
   exact⟨by show _=some (Obj.cells ⟨aF _++rest⟩ ty (0,0));rw[hfl2,fJ];exact hblk,hGb,(fun h=>by cases h),fun _=>aQ⟩
  ·show w.drawn<=w.drawn+n
   omega
 ·intro v hv
  rcases cL.1 hv with hv|hv
  ·rw[hvp] at hv;exact hcell qp v hv
  ·exact hcell _ v hv
 ·have hsz2:(aF vq).length=(Go.Sort.flatK enc s qs.toArray.reverse).toList.length:=by rw[hsz];rfl
  rw[hfl2,aT,<-hsz2];rw[aT] at e4;exact e4
 ·have:=(hIs (qp++qs.reverse))
  rw[cX,hp1,List.map_reverse,hq1,cX,cX,<-hvp] at this;show IsLs G ((pre++ds.reverse).map e) _;rw[cX];exact this
 ·intro v hv
  rcases cL.1 hv with hv|hv
  ·rw[hvp] at hv;exact hcell qp v hv
  ·exact hcell _ v hv
def zB(r:List ZP):List ZP:=r.take 1++(r.drop 1).reverse
def zG(r:List ZP):(zB r).length=r.length:=by
 unfold zB;rw[aT,qY,bW,gW];omega
def zW{r:List ZP}{k:Nat}(h0:0<k)(hk:k<r.length):(zB r).getD k (0,0)=r.getD (r.length-k) (0,0):=by
 unfold zB;rw[aJ,aJ,cV (by rw[bW];omega),List.getElem?_reverse (by rw[bW,gW];omega),iR];congr 2;rw[bW,gW];omega
def zR(r:List ZP):(zB r).getD 0 (0,0)=r.getD 0 (0,0):=by
 cases r<;>rfl
def zL{r:List ZP}{k:Nat}(hk:k<r.length):(zB r).getD k (0,0)=d4 r (r.length-1-k)/\d4 (zB r) k=r.getD (r.length-1-k) (0,0):=by
 unfold d4;rw[zG];constructor
 ·by_cases h0:k=0
  ·rw[h0,zR,show r.length-1-0+1=r.length by omega,Nat.mod_self]
  ·rw[zW (by omega) hk,dQ (by omega)]
   congr 1;omega
 ·by_cases h1:k+1=r.length
  ·rw[h1,Nat.mod_self,zR]
   congr 1;omega
  ·rw[dQ (by omega),zW (by omega) (by omega)]
   congr 1;omega
def yU(v w p:aa):oB w v p= -oB v w p:=by
 have e:ek w v p= -ek v w p:=by unfold ek;grind
 unfold oB;rw[e];have e1:(w.y<=p.y/\ ¬v.y<=p.y/\0< -ek v w p)↔(¬v.y<=p.y/\w.y<=p.y/\ek v w p<0):=by grind
 have e2:(¬w.y<=p.y/\v.y<=p.y/\ -ek v w p<0)↔(v.y<=p.y/\ ¬w.y<=p.y/\0<ek v w p):=by grind
 simp only[e1,e2];omega
def yT(r:List ZP)(p:aa):fI (zB r) p= -fI r p:=by
 have key: ∀k,k<=r.length->lh (zB r) p k= -(lh r p r.length-lh r p (r.length-k)):=by
  intro k
  induction k with
  |zero=>intro _;rw[Nat.sub_zero,lh];omega
  |succ k ih=>
   intro hk;obtain⟨e1,e2⟩:=zL (r:=r) (k:=k) (by omega);have es:r.length-k=(r.length-1-k)+1:=by omega
   rw[lh,ih (by omega),e1,e2,yU,es,lh,show r.length-(k+1)=r.length-1-k by omega];omega
 unfold fI;rw[tB,tB,zG,key r.length (aR _),Nat.sub_self];rw[show lh r p 0=0 from J];omega
def yN{r:List ZP}(h:dB r):dB (zB r):=by
 refine⟨by rw[zG];exact h.n3,by rw[zG];exact h.n6,fun p hp=>h.le p ?_,fun i hi=>?_⟩
 ·unfold zB at hp
  rcases cL.1 hp with k|k
  ·exact eK k
  ·exact mM (List.mem_reverse.1 k)
 ·rw[zG] at hi
  obtain⟨e1,e2⟩:=zL hi;rw[e1,e2];exact(h.ne _ (by omega)).symm
def yS{a b x:aa}(h:nF a b x):nF b a x:=by
 obtain⟨s,s0,s1,rfl⟩:=h;exact⟨1-s,by grind,by grind,by unfold p6;simp only[aa.mk.injEq];constructor<;>grind⟩
def yW{r:List ZP}{p:aa}(h: ∃f∈kH (zB r),nF f.1 f.2 p): ∃f∈kH r,nF f.1 f.2 p:=by
 obtain⟨f,hf,ho⟩:=h;obtain⟨k,hk,rfl⟩:=bT.1 hf;have hk':=kL.1 hk;rw[zG] at hk';obtain⟨e1,e2⟩:=zL hk';refine⟨_,bT.2 ⟨r.length-1-k,kL.2 (by omega),J⟩,?_⟩;dsimp only at ho;rw[e1,e2] at ho;exact yS ho
section
variable {r:List ZP} {p:aa} {L:List ah}
end
end Go.Sx
end
section
namespace Go.Proofs
open Go.Shelf
def Tryz.RevPt_ren:Go.Shelf.Ren:=⟨fun|35=>104|n=>n,fun|22=>132|23=>141|3=>3|4=>4|0=>0|n=>n,fun|n=>n⟩
def Tryz.RevPt:Go.Proofs.SlLaysE0.n35 Tryz.prog Tryz.RevPt_ren:={
 mixed:=by kernel_rfl
 f35:=⟨Tryz.f104.name,by decide,Tryz.func104.trans (congrArg some (by kernel_rfl))⟩
 t0:=Tryz.underlying0
 a0:=Tryz.isAgg0
 z0:=Tryz.sizeOf0
 v0:=Tryz.zeroValue0
 t3:=Tryz.underlying3
 a3:=Tryz.isAgg3
 z3:=Tryz.sizeOf3
 v3:=Tryz.zeroValue3
 t4:=Tryz.underlying4
 a4:=Tryz.isAgg4
 z4:=Tryz.sizeOf4
 v4:=Tryz.zeroValue4
 t22:=Tryz.underlying132
 a22:=Tryz.isAgg132
 z22:=Tryz.sizeOf132
 v22:=Tryz.zeroValue132}
end Go.Proofs
end
section
namespace Go.Sx
open Go Go.Proofs Tryz
variable {GB:Gh}
def yR{pre ds:List aa}(hn:ds.length<4611686018427387904)(h0:ds≠[]):xB GB prog 104 6 pre.length ds.length 141 ((pre++ds).map eZ) ((pre++ds.reverse).map eZ):=
 xA (GB:=GB) Tryz.RevPt ⟨_,func104,J,J⟩ isAgg141 sizeOf141 eZ (fun x=>⟨_,J,J,J⟩) hn h0
def zV(r:List ZP):(zB r).map ZP.q=(r.map ZP.q).take 1++((r.map ZP.q).drop 1).reverse:=by
 unfold zB;rw[cX,kU,List.map_reverse,pS]
def yK{l:List aa}(h:l≠[])(hn:l.length<=1000000):PR GB prog 103 [.sl (l.map eZ)] 6 141 (l.map eZ):=by
 have hml:(l.map eZ).length=l.length:=aX ..;refine S0 (fu:=⟨9⟩) func103 J J ntmps103 J J (fun C hmb=>?_);refine xG J (fun e=>h (List.map_eq_nil_iff.1 e)) J<|wx J J<|ap (l.map eZ) J J (oG l) J<|?_;exact QQ J J J J
def yQ{r:List ZP}(h:eH r):PF GB prog 34 [fG r] (.tp [fG (zB r), .v .nilIface]):=by
 have hn:=h.ok.n6;have h3:=h.ok.n3;obtain⟨v,hv⟩: ∃v,v=r.map ZP.q:=⟨_,rfl⟩;have hvl:v.length=r.length:=by rw[hv,aX]
 have hml:(v.map eZ).length=v.length:=aX ..;have hp1:(v.take 1).length=1:=by rw[bW];omega
 have hd1:(v.drop 1).length=r.length-1:=by rw[gW];omega
 have hne:v≠[]:=fun e=>by rw[e] at hvl;simp at hvl;omega
 have hne2:v.drop 1≠[]:=fun e=>by rw[e] at hd1;simp at hd1;omega
 have hb: ∀p∈v,aA p 22:=fun p hp=>by rw[hv] at hp;obtain⟨z,hz,rfl⟩:=bT.1 hp;exact o6 (h.ok.le z hz)
 refine fn func34 J J ntmps34 J J (fun C=>?_);refine cl (fu:=⟨0⟩) J (In h.ok h.c3) J<|?_;refine ak 8 (.d (.tp [.sl (v.map eZ), .v .nilIface])) J (by rw[hv]) ?_;refine gx J<|cr (fu:=⟨6⟩) J (yK hne (by omega)) J<|yc (fu:=⟨0⟩) 1 (r.length-1) J J (by rw[hml];omega) (by omega) J<|cv ((v.take 1++(v.drop 1).reverse).map eZ) J (by have:=yR (GB:=GB) (pre:=v.take 1) (ds:=v.drop 1) (by omega) hne2;rw[iV,hp1,hd1] at this;exact this) J J<|?_;refine fz 15 J J<|cl rfl (KM (v:=v.take 1++(v.drop 1).reverse) (fun p hp=>(hb p (by rcases cL.1 hp with hp|hp;exact eK hp;exact mM (List.mem_reverse.1 hp))).mono (by decide)) (by rw[aT,qY];omega)) rfl<|?_;exact rz J (by unfold fG Hb;rw[zV,hv];rfl)
def xM(rs:List (List ZP))(fill:Int)(L:List ah)(p:aa)(vs:List aa):Bool:=vs.any fun v=>ve rs fill (z7 L p v)
def xO(rs:List (List ZP))(fill:Int)(L:List ah)(p:aa)(vs:List aa):Bool:=vs.all fun v=>ve rs fill (z7 L p v)
section
variable {GB:Gh} {C:az} {n:Nat} {Q0:Exit->Act->World->Prop} {fr fr' fr1 fr2:ao} {own own' own1 own2:aB} {cf cf' cf1 cf2:Cf} {vc vc1 vc2:List Prop}
def xJ(fr:ao)(cf:Cf):Option Int:=match bu fr cf with
 |some ⟨_, .binOp .and _ x (.const (.int .i64 1)) _,_,_,_,_⟩=>match aC (aI fr cf) x with
  |some (.d (.v (.int .i64 p)))=>some p
  |_=>none
 |_=>none
end
structure EGX (GB:Gh) (ai:Addr):Prop where
 ErrInvalid:GB 0=some [.iface 499 (.pointer (some ai))]
def yJ{b:Nat}{es:List Int}(hes:es.length<=400){rs:List (List ZP)}{a':Nat}(hr:rs=(zA es 3 0).1)(ha:a'=(zA es 3 0).2):PM GB prog 17 (f9 [none,some (vI 3)] b) b 126 [.sl (es.map vI), .v (.int .i64 (0:Nat))] (.sl (rs.map kP)) [.sl (es.map vI), .v (.int .i64 (a':Nat))]:=by
 subst hr ha;exact yI hes (bL _) (md:=3) (by decide)
def zI{l:List aa}: ∀{k m:Nat},cB l k=m+1-> ∃i,i<k/\i6 l (l.getD i ⟨0,0⟩)=(i:Nat)/\cB l i=m
 |0,m,h=>by cases h
 |k+1,m,h=>by
  rw[cB] at h;split at h
  ·rename_i hf;exact⟨k,by omega,hf,by omega⟩
  ·obtain⟨i,h1,h2,h3⟩:=zI (k:=k) (m:=m) (by omega)
   exact⟨i,by omega,h2,h3⟩
def yY{l:List aa}(h:3<=cB l l.length): ∃a∈l,∃b∈l,∃c∈l,a≠b/\a≠c/\b≠c:=by
 obtain⟨i,i1,i2,i3⟩:=zI (l:=l) (k:=l.length) (m:=cB l l.length-1) (by omega);obtain⟨j,j1,j2,j3⟩:=zI (l:=l) (k:=i) (m:=cB l l.length-2) (by omega);obtain⟨k,k1,k2,k3⟩:=zI (l:=l) (k:=j) (m:=cB l l.length-3) (by omega);have g: ∀{x:Nat},x<l.length->l.getD x ⟨0,0⟩∈l:=fun{x} hx=>by rw[aJ,aZ hx];exact jU hx
 refine⟨_,g i1,_,g (show j<l.length by omega),_,g (show k<l.length by omega),fun e=>?_,fun e=>?_,fun e=>?_⟩
 ·rw[e,j2] at i2;omega
 ·rw[e,k2] at i2;omega
 ·rw[e,k2] at j2;omega
def eH.rev{r:List ZP}(h:eH r):eH (zB r):=⟨yN h.ok,by
 obtain⟨a,ha,b,hb,c,hc,h1,h2,h3⟩:=yY h.c3;have m: ∀x∈r.map ZP.q,x∈(zB r).map ZP.q:=fun x hx=>by
  rw[zV];rw[<-iV 1 (r.map ZP.q)] at hx;rcases cL.1 hx with hx|hx
  ·exact cJ _ hx
  ·exact fQ _ (List.mem_reverse.2 hx)
 exact zY (m a ha) (m b hb) (m c hc) h1 h2 h3⟩
def zM{r:List ZP}(h:eH r): ∀x∈[r],eH x:=fun x hx=>by rw[aL.1 hx];exact h
def yX{rs:List (List ZP)}(h: ∀r∈rs,eH r){p:aa}(hno:kI rs p=false){r:List ZP}(hr:r∈rs):kI [r] p=false/\kI [zB r] p=false:=by
 have h1: ∀x∈[r],dB x:=fun x hx=>(zM (h r hr) x hx).ok;have h2: ∀x∈[zB r],dB x:=fun x hx=>(zM (h r hr).rev x hx).ok;have key: ¬ ∃f∈kH r,nF f.1 f.2 p:=fun⟨f,hf,ho⟩=>by
  have:=(CH (fun x hx=>(h x hx).ok) p).2 ⟨f,iJ.2 ⟨r,hr,hf⟩,ho⟩;rw[hno] at this;cases this
 constructor
 ·rw[<-Bool.not_eq_true,CH h1,GV];exact key
 ·rw[<-Bool.not_eq_true,CH h2,GV];exact fun k=>key (yW k)
def zT{r:List ZP}(h:eH r)(p:aa):ef (c6 [r]) p=fI r p:=by
 rw[Bu fun x hx=>(zM h x hx).ok];simp
def zP(rs:List (List ZP))(p:aa):Int:=rs.foldl (fun n r=>n+fI r p) 0
def zJ{rs:List (List ZP)}{p:aa}{k:Nat}{r:List ZP}(h:rs[k]? =some r):zP (rs.take (k+1)) p=zP (rs.take k) p+fI r p:=yE h
def zQ{ar:Addr}(hE:EGW GB ar){es0:List Int}(hb:es0.length<=1125899906842624):PF GB prog 7 [.sl (es0.map vI)] (.v (.bool true)):=by
 obtain⟨es,hee⟩: ∃es,es=es0.take 400:=⟨_,rfl⟩;have hes:es.length<=400:=by rw[hee];simp;omega
 obtain⟨rs,hre⟩: ∃rs,rs=(zA es 3 0).1:=⟨_,rfl⟩;obtain⟨a1,ha1⟩: ∃a,a=(zA es 3 0).2:=⟨_,rfl⟩;obtain⟨hrg,hrn,hal⟩:(∀r∈rs,eH r)/\rs.length<=3/\a1<=es.length:=by rw[hre,ha1];exact yC (bL _)
 have hr1: ∀r∈rs,dB r:=fun r hr=>(hrg r hr).ok;obtain⟨p,hpe⟩: ∃p,p=(ma es a1).1:=⟨_,rfl⟩;haveI:aA p 1200:=by rw[hpe];exact(OQ hal).1
 have hml:(rs.map fG).length=rs.length:=aX ..;have hsn: ∀k,(zP (rs.take k) p).natAbs<=6*k:=fun k=>MX (p:=p) hr1 k;refine fn func7 J J ntmps7 J J (fun C=>?_);refine cn J ((Mt hb hee)) (fun _=>J) (fun _=>?_);refine cm J (fun b=>(yJ hes hre ha1)) J<|cl J (T3 (rs:=rs) hr1 (by omega)) J<|cm J (fun b=>(yV hes hal hpe)) J<|cl J (E' (p:=p) (i:=1200)) J<|?_;rcases(show kI rs p=true\/ ¬kI rs p=true from Classical.em _) with hoc|hoc
 .
  have hon:kI rs p=true:=by assumption
  refine cl (fu:=⟨17⟩) J (yP hE (rs:=rs) hrg (by omega) (p:=p) (i:=1200) hon (by decide)) J<|EB J JA J<|gl J hE.ErrRange J<|cl J Ph J<|?_;exact rz J J
 .
  have hon:kI rs p=false:=by simpa using hoc
  have hall:zP (rs.take rs.length) p=zP rs p:=by rw[dX]
  have hbig:=hsn rs.length;rw[hall] at hbig;refine cl (fu:=⟨0⟩) J (xo (rs:=rs) hrg (by omega) (p:=p) (i:=1200) hon (by decide)) J<|?_;refine ak 29 (.d (.tp [vI (zP rs p), .v .nilIface])) J (by rw[Bu hr1]<;>rfl) ?_;refine gx (fu:=⟨28⟩) J<|?_;refine ak 41 (.d (vI (rs.length:Nat))) J (by rw[hml]<;>rfl) ?_;refine gx J<|?_;refine lp (X:=Nat) (fun k=>[(42, .d (vI (k:Nat))),(8, .d (vI (zP (rs.take k) p))),(9, .d (vI (-zP (rs.take k) p)))]) (fun k=>[]) (fun k=>k<=rs.length) (fun k=>rs.length-k) 0 J (bL _) (fun _=>J) (fun k hk=>?_);have hb1:=hsn k;refine br (fu2:=⟨7⟩) J J J (fun hc43=>?_) (fun hc43=>?_)
  .
   obtain⟨r,hx⟩: ∃u,rs[k]? =some u:=⟨_,aZ (by omega)⟩;have hb2:=hsn (k+1);rw[zJ hx] at hb2;have hrk:=hrg r (aS hx);obtain⟨o1,o2⟩:=yX hrg hon (aS hx);have w1:=zT hrk p;have w2:=zT hrk.rev p;rw[yT] at w2;refine ix _ J (d9 hx) J<|rf (fu:=⟨0⟩) J J<|?_;refine ak 48 (.d (.sl ([r].map fG))) J J ?_;refine gx J<|cl (fu:=⟨0⟩) J (xo (rs:=[r]) (zM hrk) (nb J) (p:=p) (i:=1200) o1 (by decide)) J<|?_;refine ak 50 (.d (.tp [vI (fI r p), .v .nilIface])) J (by rw[w1]) ?_;refine gx J<|cl J (yQ hrk) J<|rf (fu:=⟨0⟩) J J<|?_;refine ak 60 (.d (.sl ([zB r].map fG))) J J ?_;refine gx J<|cl (fu:=⟨0⟩) J (xo (rs:=[zB r]) (zM hrk.rev) (nb J) (p:=p) (i:=1200) o2 (by decide)) J<|?_;refine ak 62 (.d (.tp [vI (-fI r p), .v .nilIface])) J (by rw[w2]) ?_;refine gx J<|?_;refine ak 8 (.d (vI (zP (rs.take (k+1)) p))) J (by rw[zJ hx]<;>rfl) ?_;refine ak 9 (.d (vI (-zP (rs.take (k+1)) p))) J (by rw[zJ hx,Int.neg_add]<;>rfl) ?_;exact at_ (k+1) ⟨(by omega),(by omega)⟩
  .
   obtain rfl:k=rs.length:=by omega
   rw[hall];refine EB (fu:=⟨3⟩) J JA J<|mB (fu:=⟨5⟩) J (by show some (decide (_=_))=some true;rw[decide_eq_true J]) J<|mB J (by show some (decide (_=_))=some true;rw[decide_eq_true J]) J<|?_;exact rz J J
end Go.Sx
end
section
namespace Go.Sx
open Go Go.Proofs Go.ChangeShapes Go.WideShapes Go.ChangeAt Go.RowKit
def GW(w:World):Gh:=fun b=>match w.heap[b]? with|some (.cells cs _ _)=>some cs.toList|_=>none
def GW.sub{w:World}{b:Nat}{cs:List Value}(h:GW w b=some cs): ∃ty fz,w.heap[b]? =some (.cells ⟨cs⟩ ty fz):=by
 unfold GW at h;split at h
 ·rename_i c t f e
  cases h
  exact⟨t,f,by rw[e]⟩
 ·cases h
def GW.of_cell{w:World}{b off:Nat}{v:Value}(h:w.cell? ⟨b,off,none⟩=some v): ∃cs,GW w b=some cs/\cs[off]? =some v:=by
 unfold World.cell? at h;unfold GW;split at h
 ·rename_i c t f e
  simp only at e;refine⟨c.toList,by rw[e],?_⟩;simpa using h
 all_goals first|(rename_i e;cases h)|cases h
def bh.below{w w':World}{G G':Gh}{own:List av}(h:bh ⟨w,G,[],[],[],none,fun _=>none⟩ own G' w'):Below w.heap.size w w':=
 ⟨h.os,h.tape,h.output,h.size,fun k hk=>h.keep k hk (by simp)⟩
def isLs_vI{G:Gh}: ∀es:List Int,IsLs G (es.map vI) (es.map fun n=>Value.int .i64 n)
 |[]=> .nil
 |n::t=> .cons (ba.2 J) (isLs_vI t)
def open_vI{base:Nat}{H:Type}{enc:TypeId×Value->H}{P:Program}{w:World}{t e:TypeId}{v:Value}{d:DataW H}{ps:List MemPlace}(ht:P.underlying t=some (.slice e))(he:P.underlying e=some (.int .i64))(hc:P.cellsOf e=1)
  (hv:Value.okWide P w .any base t v)(h:DataW.Trod enc P w 0 (fun _=>true) true t v d ps):
  ∃es:List Int,Is (GW w) (.sl (es.map vI)) v/\(d= .nil/\es=[]\/ ∃sp,d= .slice (lits .i64 es) sp)/\(∀n∈es,(Lit.int .i64 n).wf=true):=by
 obtain⟨a0,len,cap,rfl⟩:=okWide_slice ht hv;obtain⟨fuel,hf⟩:=h;rcases open_ints ht he hc hf with⟨hcs,hx⟩|⟨a,len',cap',zs,hcs,_,hl,hm,hz,hx,hcell,hwz⟩
 ·simp[Value.cells] at hcs
  obtain⟨rfl,rfl,rfl⟩:=hcs;simp only[Prod.mk.injEq] at hx;exact⟨[],gh.2 ⟨0,⟨none,0,0⟩,[],J,dG.nil _ 0, .nil⟩, .inl ⟨hx.1,J⟩,by simp⟩
 ·simp[Value.cells] at hcs
  obtain⟨rfl,rfl,rfl⟩:=hcs;simp only[Prod.mk.injEq] at hx;simp only[if_true] at hz;refine⟨zs.take len,gh.2 ⟨1,⟨some a,len,cap⟩,(zs.take len).map fun n=>Value.int .i64 n,J,⟨by simp;omega,hl,?_⟩,isLs_vI _⟩, .inr ⟨_,hx.1⟩,fun n hn=>hwz n (eK hn)⟩;by_cases h0:len=0
  ·exact .inl (by simp[h0])
  ·right
   obtain⟨b,off,spot⟩:=a;have hspot:spot=none:=by simpa[Addr.add] using World.cell?_spot (hcell 0 (by omega))
   subst hspot;have c0: ∀i,i<zs.length->w.cell? ⟨b,off+i,none⟩=some (.int .i64 (zs.getD i 0)):=fun i hi=>by
    have:=hcell i hi;rwa [Go.WideShapes.add_plain] at this
   obtain⟨cs,hcs,_⟩:=GW.of_cell (by have h9:=c0 0 (by omega);rw[cN] at h9;exact h9);refine⟨b,off,cs,J,hcs,fun i hi=>?_⟩;simp only[aX,bW] at hi;obtain⟨cs',hcs',hi'⟩:=GW.of_cell (c0 i (by omega));rw[hcs] at hcs'
   cases hcs'
   rw[iM,Sk.2 hi'];simp[aG,List.getD,aZ (show i<zs.length by omega)]
inductive CSh where
 |b
 |i (k:IntKind)
 |sl (ag:Bool) (l:List CSh)
mutual
def Fit:CSh->DV->Prop
 | .b,d=> ∃b,d= .v (.bool b)
 | .i k,d=> ∃n,d= .v (.int k n)/\(Lit.int k n).wf=true
 | .sl ag l,d=> ∃m:List DV,d= .sl m/\m.length<=maxLen/\ ∀x∈m,∃ys,FitL l ys/\((ag=true/\x= .ag ys)\/(ag=false/\ys=[x]))
def FitL:List CSh->List DV->Prop
 |[],ds=>ds=[]
 |s::l,ds=> ∃d t,ds=d::t/\Fit s d/\FitL l t
end
def flatF(r:TypeId->Option (Bool×List CSh))(P:Program):List Field->Nat->Option (List CSh)
 |[],_=>some []
 |f::fs,o=>match r f.type with
  |some (_,l)=>if f.offset=o/\P.cellsOf f.type=l.length then(flatF r P fs (o+l.length)).map (l++ ·) else none
  |none=>none
def flatT(P:Program):Nat->TypeId->Option (Bool×List CSh)
 |0,_=>none
 |n+1,t=>match P.underlying t with
  |some .bool=>some (false,[.b])
  |some (.int k)=>some (false,[.i k])
  |some (.slice e)=>match flatT P n e with
   |some (a,l)=>if P.cellsOf e=l.length/\0<l.length then some (false,[.sl a l]) else none
   |none=>none
  |some (.struct fs)=>match flatF (flatT P n) P fs.toList 0 with
   |some l=>if P.cellsOf t=l.length then some (true,l) else none
   |none=>none
  |_=>none
section
variable {H:Type} {enc:TypeId×Value->H} {P:Program} {w:World}
end
def shI:List CSh:=[.b, .sl false [.i .u32]]
def shL:List CSh:=shI++(shI++shI)
def es_star: "*" ++ "errors.errorString" = "*errors.errorString" :=by decide
def es_row(u:TypeId)(h:Tryz.prog.typeName? 3 u=some "*errors.errorString"):u=499:=
 typeName_ptr_named (nm:= "errors.errorString") (by rw[es_star];kernel_rfl) (by kernel_rfl) (by decide) u (by rw[es_star];exact h)
def sent_of{W:World}{n:String}{g:Nat}{text:List UInt8}{r:List (String×DataW Unit)}(h:laidMet Tryz.prog ((n, .iface "*errors.errorString" (.ptr (.agg [.lit (.string text)])))::r) W)(hg:Tryz.prog.globalNamed n=some g)(ht:(Tryz.prog.globals[g]?).map (·.type)=some 34):
  ∃a,GW W g=some [.iface 499 (.pointer (some a))]:=by
 obtain⟨a,s,hv,_⟩:=laid_sentinel h hg ht Tryz.underlying34 es_row Tryz.underlying499 Tryz.underlying524 rfl rfl Tryz.underlying9 (by kernel_rfl) (by kernel_rfl);refine⟨a,?_⟩;unfold World.var? at hv;rw[hg,Option.bind_some] at hv;unfold GW;split at hv
 ·rename_i c t f e
  rw[e];cases hv;rfl
 ·cases hv
def laid_plain{W:World}{l:List (String×DataW Unit)}(h:laidMetH Tryz.prog l W)(hp:(l.all fun x=>x.2.handleName?.isNone)=true):laidMet Tryz.prog l W:=by rwa [Go.MakeChecks.laidMetH_plain _ _ _ hp] at h
end Go.Sx
end
section
namespace Go.Proofs.YtefoocgiaegobaaGreatDoor
open Go.ChangeShapes Go.WideShapes Go.ChangeAt Go.RowKit Go.Sx
theorem js1:mapsRowed Tryz.pinned.checked.prog=true:=by kernel_rfl
theorem js2:Tryz.pinned.checked.prog.stopsHeard=true:=by kernel_rfl
theorem js3:Tryz.pinned.checked.prog.mayEnter=true:=by kernel_rfl
theorem js4:laidOutB Tryz.prog=true:=by kernel_rfl
end Go.Proofs.YtefoocgiaegobaaGreatDoor
end
section
namespace Go.Proofs.YtefoocgiaegobaaGreatDoor.windingSums
open Go.ChangeShapes Go.WideShapes Go.ChangeAt Go.RowKit Go.Sx
theorem own:ownKnob Tryz.prog.godebug=none:=by kernel_rfl
theorem laidOut:laidOutB Tryz.prog=true:=js4
theorem cellsI:Tryz.prog.cellsOf 3=1:=by kernel_rfl
theorem bytesI:Tryz.prog.bytesOf 3=8:=by kernel_rfl
theorem door_met(os:Os)(args:Array Value):laidMetH Tryz.prog Rows.windingSumsRow.laid ((World.doorLaid Tryz.prog 138 os).forCall (fun _ _=>0) ⟨#[],args,[]⟩).memory:=
 laidMetH_of_parts3 (fuel:=8) (laidMet_of_run' 8 (by kernel_rfl) (by kernel_rfl)) (by kernel_rfl) (by kernel_rfl)
theorem eg_of{W:World}(h:laidMetH Tryz.prog Rows.windingSumsRow.laid W): ∃ar,EGW (GW W) ar:=by
 have h1:=laid_plain h J;obtain⟨ar,hr⟩:=sent_of (g:=2) h1.tail.tail.tail.tail.tail.tail (by kernel_rfl) (by kernel_rfl);exact⟨ar,⟨hr⟩⟩
theorem contract(H:Type)(enc:TypeId×Value->H)(W:World)(base:Nat)(args:Array Value)(ds gs:List (DataW H))(before:List MemPlace)
  (hval: ∀(j:Nat) t v,Tryz.f7.params[j]? =some t->args[j]? =some v->Value.okWide Tryz.prog W .any base t v)
  (hW:DataW.Whole enc Tryz.prog Tryz.f7.params.toList Rows.windingSumsSpec.vars false W args.toList ds gs before)
  (hz:(DataW.weightsEach Tryz.prog (Tryz.f7.params.toList++(OpenSpec.ofChange Rows.windingSumsSpec).bare.plain.varTypes Tryz.prog) (ds++gs)).all (· <=reachBytes)=true)(hlaid:laidMetH Tryz.prog Rows.windingSumsRow.laid W):
  Calls Tryz.prog 7 args W fun e W'=> ∃v,e= .returned v/\Rows.windingSumsSpec.post enc Tryz.prog Tryz.f7 false true false false W args v W':=by
 have hW':=hW;obtain⟨p,q,hA0,hV,rfl,_,_⟩:=hW;have hA:DataW.TrodAll enc Tryz.prog W 0 (fun _=>true) true Tryz.f7.params.toList args.toList ds p:=hA0;rw[Tryz.params7] at hA hval hz;obtain⟨v0,d0,hargs,rfl,h0⟩:=trodAll_one hA;obtain rfl:args= #[v0]:=by cases args;simp_all
 obtain⟨rfl,rfl⟩:=trodVars_none hV;clear hA0;simp only[List.append_nil] at hW';have hlt: ∀x∈p,x.block<W.heap.size:=fun x hx=>by simpa using hW'.lt x hx
 obtain⟨es,hI,hd,_⟩:=open_vI Tryz.underlying22 Tryz.underlying3 cellsI (hval 0 22 v0 rfl rfl) h0;have hb:es.length<=1125899906842624:=by
  rcases hd with⟨rfl,rfl⟩|⟨sp,rfl⟩
  ·exact Nat.zero_le _
  ·have:=sized_slice hz (j:=0) (t:=22) (e:=3) J J Tryz.underlying22
   rw[bytesI] at this;have hr:=reachBytes_lt;have hl:(lits (H:=H) .i64 es).length=es.length:=by simp[lits]
   rw[hl] at this;omega
 obtain⟨ar,hE⟩:=eg_of hlaid;have hf:=(zQ hE (es0:=es) hb) (GW W) [v0] (bc.refl _) (.cons hI .nil);refine(hf.run W (fun b cs hg=>GW.sub hg)).mono fun e W' ⟨v,G',he,hr,hv⟩=>?_;rw[ba] at hv;subst hv;subst he;have hn:=hr.below;have t2:=trodAll_mk1 (Below.trod laidOut (by kernel_rfl) (of_decide_eq_true (by kernel_rfl)) h0 hn hlt);exact⟨_,J,⟨_,_,_,[],_,[],hW',trodAll_mk1 (shut_bool Tryz.underlying4 _),t2,J,hn.frame _,fun h=>by cases h⟩⟩
theorem reads(os:Os){H:Type}(enc:TypeId×Value->H): ∃places,DataW.whole enc Tryz.prog ((World.doorLaid Tryz.prog 138 os).forCall (fun _ _=>0) ⟨#[], #[.slice none 0 0],[]⟩).memory Tryz.f7.params.toList Rows.windingSumsSpec.vars false #[Value.slice none 0 0].toList 8=some ([.nil],[],places):=
 ⟨[],by kernel_rfl⟩
theorem lifted(os:Os)(started:os.Started)(H:Type)(enc:TypeId×Value->H)(F:Stop.Interp):
  ReturnsInHanded {} Tryz.checked os 7 .any ((OpenSpec.ofChange Rows.windingSumsSpec).preRow enc Tryz.prog Tryz.f7 Rows.windingSumsRow.domain false Rows.windingSumsRow.laid) (((OpenSpec.ofChange Rows.windingSumsSpec).at F).post enc Tryz.prog Tryz.f7 false true false false):=by
 obtain⟨places,hx⟩:=reads os enc;refine returnsInHanded_of_row (C:=Tryz.checked) (s:=OpenSpec.ofChange Rows.windingSumsSpec) own started (by kernel_rfl) Tryz.func7
  (witness_row_atRef (enc:=enc) (C:=Tryz.checked) false (World.doorLaid Tryz.prog 138 os) #[.slice none 0 0] rfl (by kernel_rfl) (by kernel_rfl) (by kernel_rfl)
   (OpenSpec.preRow_of_cond 8 hx (by kernel_rfl) (fun k hk=>by cases hk) (by kernel_rfl) (door_met os _))) ?_
 intro W base args ds gs before hval hW _ _ hz hlaid _ _;exact contract H enc W base args ds gs before hval hW hz hlaid
theorem j1:(Rows.windingSumsRow.inPlace==Tryz.pinned.checked.prog.inPlace 7)=true:=by kernel_rfl
theorem j2:(Rows.windingSumsRow.unfollowed==Tryz.pinned.checked.prog.unfollowed 7)=true:=by kernel_rfl
theorem j3:(Rows.windingSumsRow.recurses==Tryz.pinned.checked.prog.recurses 7)=true:=by kernel_rfl
theorem j4:(Rows.windingSumsRow.named==Tryz.pinned.checked.prog.varsNamed 7)=true:=by kernel_rfl
theorem j5:laidOutB Tryz.pinned.checked.prog=true:=laidOut
theorem j6:mapsRowed Tryz.pinned.checked.prog=true:=js1
theorem j7:Tryz.pinned.checked.prog.mainIs=some (Rows.windingSumsCard.stood.harness.1,Rows.windingSumsCard.stood.harness.2.toList):=by kernel_rfl
theorem j8:false=Rows.windingSumsRow.goesBy Tryz.pinned.checked.prog:=by kernel_rfl
theorem j9:(Rows.windingSumsRow.plainKeys==Tryz.pinned.checked.prog.plainKeys)=true:=by kernel_rfl
theorem j10:(Rows.windingSumsRow.lifted==Tryz.pinned.checked.prog.liftsFinal)=true:=by kernel_rfl
theorem j11:(Tryz.pinned.checked.prog.make==some Rows.windingSumsRow.make)=true:=by kernel_rfl
theorem closed:joinedFacts Tryz.pinned.checked.prog 7 Tryz.f7 (OpenSpec.ofChange Rows.windingSumsSpec).bare Rows.windingSumsRow=true:=by
 unfold joinedFacts;rw[j1,j2,j3,j4,j5,j6,j9,j10,j11,js2,js3]
 kernel_rfl
theorem said:Rows.WindingSumsSaid:=
 OpenClaim.holds_of_cond 7 Tryz.f7 J J J J J J J ⟨J,J,J,J,J⟩ J J J J J (by kernel_rfl) Tryz.func7 closed
  (of_decide_eq_true (by kernel_rfl)) (by unfold Func.isWrapper;first|(rw[if_pos (by decide+kernel)];kernel_rfl)|(rw[if_neg (by decide+kernel)];exact⟨J,J⟩))
  (fun os started H enc _ F=>by rw[OpenClaim.pre_eq_preRow];exact lifted os started H enc F)
theorem plain(f:FuncId)(fn:Func)(hf:Tryz.pinned.checked.prog.funcNamed "bspregion/bspregionlaw10.WindingSums" =some f)(hfn:Tryz.pinned.checked.prog.funcs[f]? =some fn):
  true=Tryz.pinned.checked.prog.looks []/\ ∀(j:Nat) t,fn.params[j]? =some t->Tryz.pinned.checked.prog.wantsStandIn t=false:=by
 obtain rfl:f=7:=Option.some.inj ((show Tryz.prog.funcNamed "bspregion/bspregionlaw10.WindingSums" =some 7 by kernel_rfl).symm.trans hf) |>.symm;obtain rfl:fn=Tryz.f7:=(Option.some.inj (Tryz.func7.symm.trans hfn)).symm;refine⟨by kernel_rfl,fun j t ht=>?_⟩;rw[Tryz.params7] at ht;have hm:=Array.mem_of_getElem? ht;simp only[List.mem_toArray,List.mem_cons,List.not_mem_nil,or_false] at hm;subst hm;exact(show Tryz.prog.wantsStandIn 22=false by kernel_rfl)
theorem card:Rows.WindingSumsCardSaid:=
 Claim7.holds_tied_plain_at .later [] _ _ _ _ said (fun _ h=>by cases h) (by kernel_rfl) (fun _ h=>by cases h) windingSums_row_tie J ⟨J,J⟩ j7 J plain j8
#print axioms card
end Go.Proofs.YtefoocgiaegobaaGreatDoor.windingSums
end
