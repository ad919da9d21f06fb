import Derived.Test.YtliglnbeohlnnaaGreatDoorMq22
import Derived.Stop.LaidErr
import Derived.MakeChecks
set_option linter.all false
set_option maxRecDepth 100000
section
namespace Go.Sx
open Go Go.Proofs Go.ChangeShapes Go.WideShapes Go.ChangeAt Go.RowKit
variable {d:DV}{ag:Bool}{ds:List DV}{H α:Type}{w W:World}{o g:Nat}
inductive CSh where
 |b
 |i (k:IntKind)
 |sl (ag:Bool) (l:List CSh)
mutual
def Fit:CSh->DV->Prop
 | .b,d=> ∃b,d= .v (.bool b)
 | .i k,d=> ∃n,d= .v (.int k n)/\(Lit.int k n).wf=true
 | .sl ag l,d=> ∃m:List DV,d= .sl m/\m.length<=maxLen/\ ∀x∈m,∃ys,FitL l ys/\((ag=true/\x= .ag ys)\/(ag=false/\ys=[x]))
def FitL:List CSh->List DV->Prop
 |[],ds=>ds=[]
 |s::l,ds=> ∃d t,ds=d::t/\Fit s d/\FitL l t
end
variable {l:List CSh}
def fit_b:Fit .b d↔ ∃b,d= .v (.bool b):=by simp only[Fit]
def fit_i{k:IntKind}:Fit (.i k) d↔ ∃n,d= .v (.int k n)/\(Lit.int k n).wf=true:=by simp only[Fit]
def fit_sl:Fit (.sl ag l) d↔ ∃m:List DV,d= .sl m/\m.length<=maxLen/\ ∀x∈m,∃ys,FitL l ys/\((ag=true/\x= .ag ys)\/(ag=false/\ys=[x])):=by simp only[Fit]
def fitL_nil:FitL [] ds↔ds=[]:=by simp only[FitL]
def fitL_cons{s:CSh}:FitL (s::l) ds↔ ∃d t,ds=d::t/\Fit s d/\FitL l t:=by simp only[FitL]
def fitL_app: ∀{a b:List CSh} {x y:List DV},FitL a x->FitL b y->FitL (a++b) (x++y)
 |[],b,x,y,h,k=>by rw[fitL_nil] at h;subst h;exact k
 |s::l,b,x,y,h,k=>by
  obtain⟨d,t,rfl,h1,h2⟩:=fitL_cons.1 h;exact fitL_cons.2 ⟨d,t++y,J,h1,fitL_app h2 k⟩
def flatF(r:TypeId->Option (Bool×List CSh))(P:Program):List Field->Nat->Option (List CSh)
 |[],_=>some []
 |f::fs,o=>match r f.type with
  |some (_,l)=>if f.offset=o/\P.cellsOf f.type=l.length then(flatF r P fs (o+l.length)).map (l++ ·) else none
  |none=>none
def flatT(P:Program):Nat->TypeId->Option (Bool×List CSh)
 |0,_=>none
 |n+1,t=>match P.underlying t with
  |some .bool=>some (false,[.b])
  |some (.int k)=>some (false,[.i k])
  |some (.slice e)=>match flatT P n e with
   |some (a,l)=>if P.cellsOf e=l.length/\0<l.length then some (false,[.sl a l]) else none
   |none=>none
  |some (.struct fs)=>match flatF (flatT P n) P fs.toList 0 with
   |some l=>if P.cellsOf t=l.length then some (true,l) else none
   |none=>none
  |_=>none
def isLs_app{G:Gh}: ∀{a b:List DV} {x y:List Value},IsLs G a x->IsLs G b y->IsLs G (a++b) (x++y)
 |[],b,x,y,h,k=>by rw[dm] at h;subst h;exact k
 |s::l,b,x,y,h,k=>by
  obtain⟨d,t,rfl,h1,h2⟩:=bh.1 h;exact bh.2 ⟨d,t++y,J,h1,isLs_app h2 k⟩
def fitL_len{G:Gh}: ∀{l:List CSh} {ds:List DV} {cs:List Value},FitL l ds->IsLs G ds cs->cs.length=l.length
 |[],ds,cs,h,k=>by rw[fitL_nil] at h;subst h;rw[dm] at k;subst k;rfl
 |s::l,ds,cs,h,k=>by
  obtain⟨d,t,rfl,h1,h2⟩:=fitL_cons.1 h;obtain⟨y,n,rfl,k1,k2⟩:=bh.1 k;simp[fitL_len h2 k2]
section
variable {enc:TypeId×Value->H}{P:Program}
def open_fields{n:Nat}{r:TypeId->Option (Bool×List CSh)}{tr:TypeId->List Value->Prop}
  (ih: ∀t a l cs,r t=some (a,l)->tr t cs-> ∃ds,FitL l ds/\IsLs (GW w) ds cs){cs:List Value}:
  ∀(fs:List Field) (o:Nat) (l:List CSh),flatF r P fs o=some l->(∀(i:Nat) (f:Field),fs[i]? =some f->tr f.type ((cs.drop f.offset).take (P.cellsOf f.type)))->cs.length=o+l.length->
   ∃ds,FitL l ds/\IsLs (GW w) ds (cs.drop o)
 |[],o,l,h,_,hl=>by
  cases h
  refine⟨[],fitL_nil.2 J,dm.2 ?_⟩;simp at hl;simp[hl]
 |f::fs,o,l,h,hc,hl=>by
  unfold flatF at h;split at h
  .rename_i a l1 hr
   split at h
   .rename_i hk
    obtain⟨h1,h2⟩:=hk;simp only[nY] at h;obtain⟨l2,h3,rfl⟩:=h;rw[aY] at hl;obtain⟨ds1,f1,i1⟩:=ih _ _ _ _ hr (hc 0 f rfl);obtain⟨ds2,f2,i2⟩:=open_fields (n:=n) ih fs (o+l1.length) l2 h3 (fun i g hg=>hc (i+1) g hg) we;refine⟨ds1++ds2,fitL_app f1 f2,?_⟩;rw[h1,h2] at i1;have e:cs.drop o=(cs.drop o).take l1.length++cs.drop (o+l1.length):=by
     rw[<-uR,jR]
    rw[e];exact isLs_app i1 i2
   .cases h
  .cases h
def exists_list{α β:Type}{p:Nat->α->β->Prop}: ∀(l:List α) (k:Nat),(∀(i:Nat) a,l[i]? =some a-> ∃b,p (k+i) a b)-> ∃m:List β,m.length=l.length/\ ∀(i:Nat) a,l[i]? =some a-> ∃b,m[i]? =some b/\p (k+i) a b
 |[],k,_=>⟨[],J,fun i a h=>by simp at h⟩
 |a::l,k,h=>by
  obtain⟨b,hb⟩:=h 0 a rfl;obtain⟨m,hm,hm2⟩:=exists_list l (k+1) (fun i c hc=>by have:=h (i+1) c hc;rwa [show k+(i+1)=k+1+i by omega] at this);refine⟨b::m,by simp[hm],fun i c hc=>?_⟩
  cases i with
  |zero=>simp at hc;subst hc;exact⟨b,J,hb⟩
  |succ i=>obtain⟨d,h1,h2⟩:=hm2 i c hc;exact⟨d,h1,by rwa [show k+(i+1)=k+1+i by omega]⟩
def isLs_of: ∀{G:Gh} (m:List DV) (es:List Value),m.length=es.length->(∀(i:Nat) d e,m[i]? =some d->es[i]? =some e->Is G d e)->IsLs G m es
 |G,[],[],_,_=>dm.2 J
 |G,d::m,e::es,hl,h=>bh.2 ⟨e,es,J,h 0 d e J J,isLs_of m es (by simpa using hl) (fun i a b ha hb=>h (i+1) a b ha hb)⟩
def takeL_mk{cs m:List Value}{k:Nat}(hl:m.length=k)(h: ∀i,i<k->cs[o+i]? =m[i]?)(ho:o+k<=cs.length):cw cs o k=some m:=by
 rw[ld _ _ _ ho];congr 1;apply lR;intro i;by_cases hi:i<k
 .rw[List.getElem?_take_of_lt hi,mQ];exact h i hi
 .rw[dT omp,dT we]
def open_cells: ∀(n:Nat) (t:TypeId) (a:Bool) (l:List CSh) (cs:List Value) (fuel:Nat) (x:DataW H×List MemPlace),flatT P n t=some (a,l)->DataW.trod enc P w 0 (fun _=>true) true fuel t cs=some x-> ∃ds,FitL l ds/\IsLs (GW w) ds cs
 |0,_,_,_,_,_,_,h,_=>by cases h
 |n+1,t,a,l,cs,fuel,x,h,hx=>by
  unfold flatT at h;split at h
  .rename_i ht
   cases h
   obtain⟨b,rfl,_⟩:=DataW.trod_bool ht hx;exact⟨[.v (.bool b)],fitL_cons.2 ⟨_,_,J,fit_b.2 ⟨b,J⟩,fitL_nil.2 J⟩,bh.2 ⟨_,_,J,aI.2 J,dm.2 J⟩⟩
  .rename_i k ht
   cases h
   obtain⟨b,rfl,_,hw⟩:=DataW.trod_int ht hx;exact⟨[.v (.int k b)],fitL_cons.2 ⟨_,_,J,fit_i.2 ⟨b,J,hw⟩,fitL_nil.2 J⟩,bh.2 ⟨_,_,J,aI.2 J,dm.2 J⟩⟩
  .rename_i e ht
   split at h
   .rename_i a1 l1 h1
    split at h
    .rename_i hk
     cases h
     obtain⟨hk1,hk2⟩:=hk;rcases DataW.trod_slice ht hx with⟨rfl,_⟩|⟨ad,len,cap,elems,rest,f,_,rfl,_,_,hlc,hcm,hlen,hel,_,_⟩
     .exact⟨[.sl []],fitL_cons.2 ⟨_,_,J,fit_sl.2 ⟨[],J,aS _,fun x hx=>by cases hx⟩,fitL_nil.2 J⟩,bh.2 ⟨_,_,J,gr.2 ⟨0,⟨none,0,0⟩,[],J, .nil _ 0,dm.2 J⟩,dm.2 J⟩⟩
     .have each: ∀(i:Nat) (y:DataW H×List MemPlace),elems[i]? =some y-> ∃p:DV×Value,(∃ys,FitL l1 ys/\((a1=true/\p.1= .ag ys)\/(a1=false/\ys=[p.1])))/\Is (GW w) p.1 p.2/\(∃es,w.cells? 0 (ad.add ((0+i)*l1.length)) l1.length=some es/\es.length=l1.length/\aG p.2=es):=by
       intro i y hy;have hi:i<len:=by rw[<-hlen];exact(aT.1 hy).1
       have hE:=hel i hi;rw[hy,Option.bind_eq_some_iff,hk1] at hE;obtain⟨es,he1,he2⟩:=hE;obtain⟨ds,hd1,hd2⟩:=open_cells n e a1 l1 es f y h1 he2;have hlen1:=fitL_len hd1 hd2;rw[show 0+i=i by omega]
       cases a1 with
       |true=>exact⟨(.ag ds, .agg ⟨es⟩),⟨ds,hd1, .inl ⟨J,J⟩⟩,eG.2 ⟨es,J,hd2⟩,es,he1,hlen1,J⟩
       |false=>
        have hone: ∃s,l1=[s]:=by
         cases n with
         |zero=>cases h1
         |succ n=>
          unfold flatT at h1;split at h1
          .cases h1;exact⟨_,J⟩
          .cases h1;exact⟨_,J⟩
          .split at h1
           .split at h1<;>cases h1;exact⟨_,J⟩
           .cases h1
          .split at h1
           .split at h1<;>cases h1
           .cases h1
          .cases h1
        obtain⟨s,rfl⟩:=hone;obtain⟨d,t',rfl,hd3,hd4⟩:=fitL_cons.1 hd1;rw[fitL_nil] at hd4;subst hd4;obtain⟨c,t',rfl,hd5,hd6⟩:=bh.1 hd2;rw[dm] at hd6;subst hd6;refine⟨(d,c),⟨[d],hd1, .inr ⟨J,J⟩⟩,hd5,[c],he1,J,?_⟩
        cases s with
        |b=>obtain⟨b,rfl⟩:=fit_b.1 hd3;rw[aI] at hd5;subst hd5;rfl
        |i k=>obtain⟨b,rfl,_⟩:=fit_i.1 hd3;rw[aI] at hd5;subst hd5;rfl
        |sl a2 l2=>obtain⟨m,rfl,_⟩:=fit_sl.1 hd3;obtain⟨_,_,_,rfl,_⟩:=gr.1 hd5;rfl
      obtain⟨ps,hpl,hps⟩:=exists_list (p:=fun i _ (p:DV×Value)=>(∃ys,FitL l1 ys/\((a1=true/\p.1= .ag ys)\/(a1=false/\ys=[p.1])))/\Is (GW w) p.1 p.2/\(∃es,w.cells? 0 (ad.add (i*l1.length)) l1.length=some es/\es.length=l1.length/\aG p.2=es)) elems 0 each;have get: ∀(i:Nat) p,ps[i]? =some p->(∃ys,FitL l1 ys/\((a1=true/\p.1= .ag ys)\/(a1=false/\ys=[p.1])))/\Is (GW w) p.1 p.2/\(∃es,w.cells? 0 (ad.add (i*l1.length)) l1.length=some es/\es.length=l1.length/\aG p.2=es):=by
       intro i p hp;have hi:i<elems.length:=by rw[<-hpl];exact(aT.1 hp).1
       obtain⟨b,hb1,hb2⟩:=hps i elems[i] (aQ hi);rw[hp] at hb1;cases hb1;rwa [show 0+i=i by omega] at hb2
      refine⟨[.sl (ps.map (·.1))],fitL_cons.2 ⟨_,_,J,fit_sl.2 ⟨_,J,by rw[aX,hpl,hlen];omega,fun x hx=>?_⟩,fitL_nil.2 J⟩,bh.2 ⟨_,_,J,gr.2 ⟨l1.length,⟨some ad,len,cap⟩,ps.map (·.2),J,⟨by rw[aX,hpl,hlen],hlc,?_⟩,?_⟩,dm.2 J⟩⟩
      .obtain⟨p,hp,rfl⟩:=aU.1 hx
       obtain⟨i,hi⟩:=List.getElem?_of_mem hp;exact(get i p hi).1
      .by_cases h0:len=0
       .left;rw[uX];exact cJ we
       .right
        obtain⟨b,off,spot⟩:=ad;have cell: ∀i,i<len-> ∀j,j<l1.length-> ∃p,ps[i]? =some p/\(aG p.2).length=l1.length/\w.cell? (((⟨b,off,spot⟩:Addr).add (i*l1.length)).add j)=(aG p.2)[j]? :=by
         intro i hi j hj;have hp:ps[i]? =some ps[i]:=aQ we;obtain⟨_,_,es,h1,h2,h3⟩:=get i _ hp;exact⟨_,hp,by rw[h3,h2],by rw[(World.cells?_some h1).2.2 j hj,h3]⟩
        have val: ∀i,i<len-> ∀j,j<l1.length-> ∃p v,ps[i]? =some p/\(aG p.2)[j]? =some v/\w.cell? (((⟨b,off,spot⟩:Addr).add (i*l1.length)).add j)=some v:=by
         intro i hi j hj;obtain⟨p,hp,h1,h2⟩:=cell i hi j hj;exact⟨p,(aG p.2)[j],hp,aQ we,by rw[h2];exact aQ we⟩
        have hspot:spot=none:=by
         obtain⟨p,v,_,_,h1⟩:=val 0 we 0 hk2;have:=World.cell?_spot h1;unfold Addr.add at this;simpa using this
        subst hspot;simp only[Go.WideShapes.add_plain] at val;obtain⟨_,v0,_,_,h00⟩:=val 0 we 0 hk2;obtain⟨cs,hcs,_⟩:=GW.of_cell h00;refine⟨b,off,cs,J,hcs,fun i hi=>?_⟩;simp only[aX] at hi;have hp:ps[i]? =some ps[i]:=aQ we;obtain⟨_,_,es,h1,h2,h3⟩:=get i _ hp;have got: ∀j,j<l1.length-> ∃v,(aG ps[i].2)[j]? =some v/\cs[off+i*l1.length+j]? =some v:=by
         intro j hj;obtain⟨p,v,hp',hv1,hv2⟩:=val i we j hj;rw[hp] at hp';cases hp';obtain⟨cs',hcs',hc'⟩:=GW.of_cell hv2;rw[hcs] at hcs';cases hcs';exact⟨v,hv1,hc'⟩
        rw[oL];refine takeL_mk (by rw[h3,h2]) (fun j hj=>?_) ?_
        .obtain⟨v,hv1,hv2⟩:=got j hj
         rw[hv1,hv2]
        .obtain⟨v,hv1,hv2⟩:=got (l1.length-1) we
         have:=(aT.1 hv2).1;omega
      .refine isLs_of _ _ omc (fun i d e hd he=>?_)
       rw[bL] at hd he
       cases hp:ps[i]? with
       |none=>rw[hp] at hd;cases hd
       |some p=>rw[hp] at hd he;cases hd;cases he;exact(get i p hp).2.1
    .cases h
   .cases h
  .rename_i fs ht
   split at h<;>try (cases h;done)
   rename_i l' h1;split at h<;>cases h;rename_i hcz;obtain⟨xs,m,_,_,hcl,hxl,hE⟩:=DataW.trod_struct ht hx;have:=open_fields (n:=n) (w:=w) (cs:=cs) (tr:=fun t cs=> ∃x,DataW.trod enc P w 0 (fun _=>true) true m t cs=some x) (fun t a l cs h ⟨x,hx⟩=>open_cells n t a l cs m x h hx) fs.toList 0 l h1 (fun i f hf=>by
    have hf':fs[i]? =some f:=by simpa using hf
    have hi:i<xs.length:=by rw[hxl];exact(fV.1 hf').1
    exact⟨xs[i],by rw[hE i f hf',aQ hi]⟩) ?_
   .simpa using this
   .omega
  .cases h
end
def fit_ds(h:Fit (.sl false [.i .u32]) d): ∃ds:List Nat,d=bD ds/\bt ds:=by
 obtain⟨m,rfl,_,hm⟩:=fit_sl.1 h;have: ∃ds:List Nat,m=ds.map dU/\bt ds:=by
  clear h
  induction m with
  |nil=>exact⟨[],J,fun d hd=>by cases hd⟩
  |cons x m ih=>
   obtain⟨ds,rfl,hd⟩:=ih (by rename_i q;simp at q;omega) (fun y hy=>hm y (aJ _ hy));obtain⟨ys,hy,⟨h0,_⟩|⟨_,rfl⟩⟩:=hm x aZ
   .cases h0
   .obtain⟨d,t,e,h1,h2⟩:=fitL_cons.1 hy
    cases e
    obtain⟨n,rfl,hw⟩:=fit_i.1 h1;have h3:0<=n/\n<4294967296:=by
     simp only[Lit.wf,bW,decide_eq_true_eq] at hw;have e1:IntKind.u32.min=0:=J;have e2:IntKind.u32.max=4294967295:=J;omega
    refine⟨n.toNat::ds,?_,fun d hd'=>?_⟩
    .rw[bV];congr 1;unfold dU;congr 2;omega
    .rcases aW.1 hd' with rfl|hd'
     .omega
     .exact hd d hd'
 obtain⟨ds,rfl,hd⟩:=this;exact⟨ds,J,hd⟩
def shI:List CSh:=[.b, .sl false [.i .u32]]
def shL:List CSh:=shI++(shI++shI)
def fit_I(h:FitL (shI++l) ds): ∃(b:Bool) (n:List Nat) (t:List DV),ds= .v (.bool b)::bD n::t/\bt n/\FitL l t:=by
 obtain⟨d,t,rfl,h1,h2⟩:=fitL_cons.1 h;obtain⟨d2,t2,rfl,h3,h4⟩:=fitL_cons.1 h2;obtain⟨b,rfl⟩:=fit_b.1 h1;obtain⟨n,rfl,hn⟩:=fit_ds h3;exact⟨b,n,t2,J,hn,h4⟩
def fit_L(h:FitL (shL++l) ds): ∃(r:RL) (t:List DV),ds=[.v (.bool r.na),bD r.da, .v (.bool r.nb),bD r.db, .v (.bool r.nc),bD r.dc]++t/\(bt r.da/\bt r.db/\bt r.dc)/\FitL l t:=by
 unfold shL at h;rw[dV,dV] at h;obtain⟨a,x,t,rfl,h1,h⟩:=fit_I h;obtain⟨b,y,t,rfl,h2,h⟩:=fit_I h;obtain⟨c,z,t,rfl,h3,h⟩:=fit_I h;exact⟨⟨a,x,b,y,c,z⟩,t,J,⟨h1,h2,h3⟩,h⟩
def fit_map{f:α->DV}{p:α->Prop}(h:Fit (.sl ag l) d)(k: ∀x ys,FitL l ys->((ag=true/\x=DV.ag ys)\/(ag=false/\ys=[x]))-> ∃a,x=f a/\p a): ∃xs:List α,d= .sl (xs.map f)/\xs.length<=maxLen/\ ∀a∈xs,p a:=by
 obtain⟨m,rfl,hl,hm⟩:=fit_sl.1 h;have: ∃xs:List α,m=xs.map f/\ ∀a∈xs,p a:=by
  clear h hl
  induction m with
  |nil=>exact⟨[],J,fun a ha=>by cases ha⟩
  |cons x m ih=>
   obtain⟨xs,rfl,ha⟩:=ih (fun y hy=>hm y (aJ _ hy));obtain⟨ys,hy,hx⟩:=hm x aZ;obtain⟨a,rfl,hp⟩:=k x ys hy hx;exact⟨a::xs,rfl,fun b hb=>by rcases aW.1 hb with rfl|hb;exact hp;exact ha b hb⟩
 obtain⟨xs,rfl,ha⟩:=this;exact⟨xs,J,by simpa using hl,ha⟩
def es_star: "*" ++ "errors.errorString" = "*errors.errorString" :=by decide
def es_row(u:TypeId)(h:Tryz.prog.typeName? 3 u=some "*errors.errorString"):u=395:=
 typeName_ptr_named (nm:= "errors.errorString") (by rw[es_star];kernel_rfl) omd oma u (by rw[es_star];exact h)
def sent_of{n:String}{text:List UInt8}{r:List (String×DataW Unit)}(h:laidMet Tryz.prog ((n, .iface "*errors.errorString" (.ptr (.agg [.lit (.string text)])))::r) W)(hg:Tryz.prog.globalNamed n=some g)(ht:(Tryz.prog.globals[g]?).map (·.type)=some 41):
  ∃a,GW W g=some [.iface 395 (.pointer (some a))]:=by
 obtain⟨a,s,hv,_⟩:=laid_sentinel h hg ht Tryz.underlying41 es_row Tryz.underlying395 Tryz.underlying420 rfl rfl Tryz.underlying9 omd omd;refine⟨a,?_⟩;unfold World.var? at hv;rw[hg,Option.bind_some] at hv;unfold GW;split at hv
 .rename_i c t f e
  rw[e];cases hv;rfl
 .cases hv
def laid_plain{l:List (String×DataW Unit)}(h:laidMetH Tryz.prog l W)(hp:(l.all fun x=>x.2.handleName?.isNone)=true):laidMet Tryz.prog l W:=by rwa [Go.MakeChecks.laidMetH_plain _ _ _ hp] at h
end Go.Sx
end
section
namespace Go.Proofs.YtliglnbeohlnnaaGreatDoor
open Go.ChangeShapes Go.WideShapes Go.ChangeAt Go.RowKit Go.Sx
theorem js1:mapsRowed Tryz.pinned.checked.prog=true:=by kernel_rfl
theorem js2:Tryz.pinned.checked.prog.stopsHeard=true:=by kernel_rfl
theorem js3:Tryz.pinned.checked.prog.mayEnter=true:=by kernel_rfl
theorem js4:laidOutB Tryz.prog=true:=by kernel_rfl
end Go.Proofs.YtliglnbeohlnnaaGreatDoor
end
section
namespace Go.Proofs.YtliglnbeohlnnaaGreatDoor.morphRefuses
open Go.ChangeShapes Go.WideShapes Go.ChangeAt Go.RowKit Go.Sx
variable {H:Type}{base:Nat}{W:World}{v:Value}{ps:List MemPlace}
theorem own:ownKnob Tryz.prog.godebug=none:=by kernel_rfl
theorem laidOut:laidOutB Tryz.prog=true:=js4
theorem cellsI:Tryz.prog.cellsOf 3=1:=by kernel_rfl
theorem bytesI:Tryz.prog.bytesOf 3=8:=by kernel_rfl
theorem door_met(os:Os)(args:Array Value):laidMetH Tryz.prog Rows.morphRefusesRow.laid ((World.doorLaid Tryz.prog 100 os).forCall (fun _ _=>0) ⟨#[],args,[]⟩).memory:=
 laidMetH_of_parts3 (fuel:=8) (laidMet_of_run' 8 omd omd) omd omd
theorem fit_Q{l:List CSh}{ds:List DV}(h:FitL (([.b, .sl false [.i .u32], .sl false [.i .u32]]:List CSh)++l) ds): ∃(r:WQ) (t:List DV),ds= .v (.bool r.n)::bD r.d::bD r.e::t/\r.wd/\FitL l t:=by
 obtain⟨d,t,rfl,h1,h2⟩:=fitL_cons.1 h;obtain⟨d2,t2,rfl,h3,h4⟩:=fitL_cons.1 h2;obtain⟨d3,t3,rfl,h5,h6⟩:=fitL_cons.1 h4;obtain⟨b,rfl⟩:=fit_b.1 h1;obtain⟨n,rfl,hn⟩:=fit_ds h3;obtain⟨m,rfl,hm⟩:=fit_ds h5;exact⟨⟨b,n,m⟩,t3,J,⟨hn,hm⟩,h6⟩
theorem flat_Ring:flatT Tryz.prog 8 24=some (false,[.sl true ([.b, .sl false [.i .u32], .sl false [.i .u32]]++([.b, .sl false [.i .u32], .sl false [.i .u32]]++[]))]):=by kernel_rfl
theorem open_Ring{enc:TypeId×Value->H}{d:DataW H}(hv:Value.okWide Tryz.prog W .any base 24 v)(h:DataW.Trod enc Tryz.prog W 0 (fun _=>true) true 24 v d ps):
  ∃r:List WP,Is (GW W) (fk r) v/\ ∀q∈r,q.wd:=by
 obtain⟨a0,len,cap,rfl⟩:=okWide_slice Tryz.underlying24 hv;obtain⟨fuel,hf⟩:=h;obtain⟨ds,h1,h2⟩:=open_cells 8 _ _ _ _ fuel _ flat_Ring hf;obtain⟨x,t,rfl,h3,h4⟩:=fitL_cons.1 h1;rw[fitL_nil] at h4;subst h4;obtain⟨rs,rfl,_,hn⟩:=fit_map (f:=WP.D) (p:=fun r=>r.wd) h3 (fun x ys hy hx=>by
  rcases hx with⟨_,rfl⟩|⟨h0,_⟩
  .obtain⟨r,t,rfl,k1,k4⟩:=fit_Q hy
   obtain⟨s,t,rfl,k2,k5⟩:=fit_Q k4;rw[fitL_nil] at k5;subst k5;exact⟨⟨r,s⟩,J,⟨k1,k2⟩⟩
  .cases h0)
 obtain⟨y,n,e,hy,hm⟩:=bh.1 h2;rw[dm] at hm;subst hm;have e2:y=Value.slice a0 len cap:=(List.cons.inj e).1.symm;rw[e2] at hy;exact⟨rs,hy,hn⟩
theorem flat_Cell:flatT Tryz.prog 8 27=some (true,[.sl true shL]):=by kernel_rfl
theorem open_Cell{enc:TypeId×Value->H}{d:DataW H}(hv:Value.okWide Tryz.prog W .any base 27 v)(h:DataW.Trod enc Tryz.prog W 0 (fun _=>true) true 27 v d ps):
  ∃cs:List RL,Is (GW W) (.ag [.sl (cs.map RL.d)]) v/\(∀r∈cs,r.wd):=by
 simp only[Value.okWide,Tryz.underlying27] at hv;obtain⟨⟨cs⟩,rfl,_,_⟩:=hv;obtain⟨fuel,hf⟩:=h;obtain⟨ds,h1,h2⟩:=open_cells 8 _ _ _ _ fuel _ flat_Cell hf;obtain⟨x,t,rfl,h3,h4⟩:=fitL_cons.1 h1;rw[fitL_nil] at h4;subst h4;obtain⟨rs,rfl,_,hn⟩:=fit_map (f:=RL.d) (p:=fun r=>r.wd) h3 (fun x ys hy hx=>by
  rcases hx with⟨_,rfl⟩|⟨h0,_⟩
  .rw[<-List.append_nil shL] at hy
   obtain⟨r,t,rfl,⟨k1,k2,k3⟩,k4⟩:=fit_L hy;rw[fitL_nil] at k4;subst k4;exact⟨r,J,⟨k1,k2,k3⟩⟩
  .cases h0)
 exact⟨rs,eG.2 ⟨cs,J,h2⟩,hn⟩
theorem eg_of(h:laidMetH Tryz.prog Rows.morphRefusesRow.laid W): ∃ai al ar ae,rx (GW W) ai al ar ae:=by
 have h1:=laid_plain h J;obtain⟨ai,hi⟩:=sent_of (g:=0) h1.tail.tail.tail omd omd;obtain⟨al,hl⟩:=sent_of (g:=3) h1.tail.tail.tail.tail.tail.tail omd omd;obtain⟨ar,hr⟩:=sent_of (g:=1) h1.tail.tail.tail.tail omd omd;obtain⟨ae,he⟩:=sent_of (g:=2) h1.tail.tail.tail.tail.tail omd omd;exact⟨ai,al,ar,ae,⟨hi,hl,hr⟩,he⟩
theorem contract(H:Type)(enc:TypeId×Value->H)(W:World)(base:Nat)(args:Array Value)(ds gs:List (DataW H))(before:List MemPlace)
  (hval: ∀(j:Nat) t v,Tryz.f3.params[j]? =some t->args[j]? =some v->Value.okWide Tryz.prog W .any base t v)
  (hW:DataW.Whole enc Tryz.prog Tryz.f3.params.toList Rows.morphRefusesSpec.vars false W args.toList ds gs before)
  (hz:(DataW.weightsEach Tryz.prog (Tryz.f3.params.toList++(OpenSpec.ofChange Rows.morphRefusesSpec).bare.plain.varTypes Tryz.prog) (ds++gs)).all (· <=reachBytes)=true)(hlaid:laidMetH Tryz.prog Rows.morphRefusesRow.laid W):
  Calls Tryz.prog 3 args W fun e W'=> ∃v,e= .returned v/\Rows.morphRefusesSpec.post enc Tryz.prog Tryz.f3 false true false false W args v W':=by
 have hW':=hW;obtain⟨p,q,hA0,hV,rfl,_,_⟩:=hW;have hA:DataW.TrodAll enc Tryz.prog W 0 (fun _=>true) true Tryz.f3.params.toList args.toList ds p:=hA0;rw[Tryz.params3] at hA hval hz;obtain⟨v0,v1,v2,d0,d1,d2,p0,p1,p2,hargs,rfl,rfl,h0,h1,h2⟩:=trodAll_three hA;subst hargs;obtain⟨rfl,rfl⟩:=trodVars_none hV;clear hA0;simp only[List.append_nil] at hW';have hlt: ∀x∈p0++p1++p2,x.block<W.heap.size:=fun x hx=>by simpa using hW'.lt x hx
 obtain⟨es,hI,hd,_⟩:=aFb Tryz.underlying22 Tryz.underlying3 cellsI (hval 0 22 v0 rfl rfl) h0;have hb:es.length<=1125899906842624:=by
  rcases hd with⟨rfl,rfl⟩|⟨sp,rfl⟩
  .exact Nat.zero_le _
  .have:=sized_slice hz (j:=0) (t:=22) (e:=3) J J Tryz.underlying22
   rw[bytesI] at this;have hr:=reachBytes_lt;have hl:(lits (H:=H) .i64 es).length=es.length:=by simp[lits]
   rw[hl] at this;omega
 obtain⟨r,hI1,hw1⟩:=open_Ring (hval 1 24 v1 rfl rfl) h1;obtain⟨cs,hI2,hw2⟩:=open_Cell (hval 2 27 v2 rfl rfl) h2;obtain⟨ai,al,ar,ae,hE⟩:=eg_of hlaid;have hf:=(VX hE (es0:=es) hb hw1 hw2) (GW W) [v0,v1,v2] (bI.refl _) (.cons hI (.cons hI1 (.cons hI2 .nil)));refine(hf.run W (fun b cs hg=>GW.sub hg)).mono fun e W' ⟨v,G',he,hr,hv⟩=>?_;rw[aI] at hv;subst hv;subst he;have hn:=hr.below;have t2:=trodAll_mk3 (Below.trod laidOut omd (of_decide_eq_true omd) h0 hn (fun x hx=>hlt x (by simp[hx]))) (Below.trod laidOut omd (of_decide_eq_true omd) h1 hn (fun x hx=>hlt x (by simp[hx]))) (Below.trod laidOut omd (of_decide_eq_true omd) h2 hn (fun x hx=>hlt x (by simp[hx])));simp only[List.append_nil,<-List.append_assoc] at t2;exact⟨_,J,⟨_,_,_,[],_,[],hW',trodAll_mk1 (shut_bool Tryz.underlying4 _),t2,J,hn.frame _,fun h=>by cases h⟩⟩
theorem reads(os:Os)(enc:TypeId×Value->H): ∃places,DataW.whole enc Tryz.prog ((World.doorLaid Tryz.prog 100 os).forCall (fun _ _=>0) ⟨#[], #[.slice none 0 0, .slice none 0 0, .agg #[.slice none 0 0]],[]⟩).memory Tryz.f3.params.toList Rows.morphRefusesSpec.vars false #[Value.slice none 0 0, .slice none 0 0, .agg #[.slice none 0 0]].toList 8=some ([.nil, .nil, .agg [.nil]],[],places):=
 ⟨[],omd⟩
theorem lifted(os:Os)(started:os.Started)(H:Type)(enc:TypeId×Value->H)(F:Stop.Interp):
  ReturnsInHanded {} Tryz.checked os 3 .any ((OpenSpec.ofChange Rows.morphRefusesSpec).preRow enc Tryz.prog Tryz.f3 Rows.morphRefusesRow.domain false Rows.morphRefusesRow.laid) (((OpenSpec.ofChange Rows.morphRefusesSpec).at F).post enc Tryz.prog Tryz.f3 false true false false):=by
 obtain⟨places,hx⟩:=reads os enc;refine returnsInHanded_of_row (C:=Tryz.checked) (s:=OpenSpec.ofChange Rows.morphRefusesSpec) own started omd Tryz.func3
  (witness_row_atRef (enc:=enc) (C:=Tryz.checked) false (World.doorLaid Tryz.prog 100 os) #[.slice none 0 0, .slice none 0 0, .agg #[.slice none 0 0]] rfl omd omd omd
   (OpenSpec.preRow_of_cond 8 hx omd (fun k hk=>by cases hk) omd (door_met os _))) ?_
 intro W base args ds gs before hval hW _ _ hz hlaid _ _;exact contract H enc W base args ds gs before hval hW hz hlaid
theorem j1:(Rows.morphRefusesRow.inPlace==Tryz.pinned.checked.prog.inPlace 3)=true:=by kernel_rfl
theorem j2:(Rows.morphRefusesRow.unfollowed==Tryz.pinned.checked.prog.unfollowed 3)=true:=by kernel_rfl
theorem j3:(Rows.morphRefusesRow.recurses==Tryz.pinned.checked.prog.recurses 3)=true:=by kernel_rfl
theorem j4:(Rows.morphRefusesRow.named==Tryz.pinned.checked.prog.varsNamed 3)=true:=by kernel_rfl
theorem j5:laidOutB Tryz.pinned.checked.prog=true:=laidOut
theorem j6:mapsRowed Tryz.pinned.checked.prog=true:=js1
theorem j7:Tryz.pinned.checked.prog.mainIs=some (Rows.morphRefusesCard.stood.harness.1,Rows.morphRefusesCard.stood.harness.2.toList):=by kernel_rfl
theorem j8:false=Rows.morphRefusesRow.goesBy Tryz.pinned.checked.prog:=by kernel_rfl
theorem j9:(Rows.morphRefusesRow.plainKeys==Tryz.pinned.checked.prog.plainKeys)=true:=by kernel_rfl
theorem j10:(Rows.morphRefusesRow.lifted==Tryz.pinned.checked.prog.liftsFinal)=true:=by kernel_rfl
theorem j11:(Tryz.pinned.checked.prog.make==some Rows.morphRefusesRow.make)=true:=by kernel_rfl
theorem closed:joinedFacts Tryz.pinned.checked.prog 3 Tryz.f3 (OpenSpec.ofChange Rows.morphRefusesSpec).bare Rows.morphRefusesRow=true:=by
 unfold joinedFacts;rw[j1,j2,j3,j4,j5,j6,j9,j10,j11,js2,js3]
 kernel_rfl
theorem said:Rows.MorphRefusesSaid:=
 OpenClaim.holds_of_cond 3 Tryz.f3 J J J J J J J ⟨J,J,J,J,J⟩ J J J J J omd Tryz.func3 closed
  (of_decide_eq_true omd) (by unfold Func.isWrapper;first|(rw[if_pos (by decide+kernel)];kernel_rfl)|(rw[if_neg (by decide+kernel)];exact⟨J,J⟩))
  (fun os started H enc _ F=>by rw[OpenClaim.pre_eq_preRow];exact lifted os started H enc F)
theorem plain(f:FuncId)(fn:Func)(hf:Tryz.pinned.checked.prog.funcNamed "bspregion/bspregionlaw29.MorphRefuses" =some f)(hfn:Tryz.pinned.checked.prog.funcs[f]? =some fn):
  true=Tryz.pinned.checked.prog.looks []/\ ∀(j:Nat) t,fn.params[j]? =some t->Tryz.pinned.checked.prog.wantsStandIn t=false:=by
 obtain rfl:f=3:=Option.some.inj ((show Tryz.prog.funcNamed "bspregion/bspregionlaw29.MorphRefuses" =some 3 by kernel_rfl).symm.trans hf) |>.symm;obtain rfl:fn=Tryz.f3:=(Option.some.inj (Tryz.func3.symm.trans hfn)).symm;refine⟨omd,fun j t ht=>?_⟩;rw[Tryz.params3] at ht;have hm:=Array.mem_of_getElem? ht;simp only[List.mem_toArray,List.mem_cons,List.not_mem_nil,or_false] at hm;rcases hm with rfl|rfl|rfl
 .exact(show Tryz.prog.wantsStandIn 22=false by kernel_rfl)
 .exact(show Tryz.prog.wantsStandIn 24=false by kernel_rfl)
 .exact(show Tryz.prog.wantsStandIn 27=false by kernel_rfl)
theorem card:Rows.MorphRefusesCardSaid:=
 Claim7.holds_tied_plain_at .later [] _ _ _ _ said (fun _ h=>by cases h) omd (fun _ h=>by cases h) morphRefuses_row_tie J ⟨J,J⟩ j7 J plain j8
#print axioms card
end Go.Proofs.YtliglnbeohlnnaaGreatDoor.morphRefuses
end
