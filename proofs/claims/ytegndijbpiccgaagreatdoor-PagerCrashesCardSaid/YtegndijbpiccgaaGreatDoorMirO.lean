import Derived.Test.YtegndijbpiccgaaGreatDoorMirN
import Derived.ChangeArms
import Derived.Carry
import Derived.WideShapes
namespace Go.Mir
set_option linter.unusedVariables false
set_option linter.unusedSimpArgs false
open Go.RowKit
inductive Ty where
 | int (k:IntKind)
 | bool
 | str
 | sl (e:Ty)
 | st (fs:List Ty)
mutual
def Ty.T:Ty->Type
 | .int _=>Int
 | .bool=>Bool
 | .str=>bA
 | .sl e=>List e.T
 | .st fs=>Ty.Ts fs
def Ty.Ts:List Ty->Type
 | []=>Unit
 | f::r=>f.T×Ty.Ts r
end
mutual
def Ty.sz:Ty->Nat
 | .st fs=>Ty.szs fs
 | _=>1
def Ty.szs:List Ty->Nat
 | []=>0
 | f::r=>f.sz+Ty.szs r
end
def sK:Ty->List D->D
 | .st _,l => .rcd l
 | _,x::_=>x
 | _,[] => .any
mutual
/-- Its cells' data. -/
def Ty.enc:(s:Ty)->s.T->List D
 | .int k,n=>[.int k n]
 | .bool,b=>[.bool b]
 | .str,x=>[.str x]
 | .sl e,xs=>[.sl e.sz ((show List e.T from xs).map λx=>sK e (e.enc x))]
 | .st fs,x=>Ty.encs fs x
def Ty.encs:(fs:List Ty)->Ty.Ts fs->List D
 | [],_=>[]
 | f::r,(x,y)=>f.enc x++Ty.encs r y
end
def Ty.av:(s:Ty)->s.T->AV
 | .st fs,x => .agg ((Ty.encs fs x).map old)
 | .int k,n => .n (.int k n)
 | .bool,b => .n (.bool b)
 | .str,x => .n (.str x)
 | .sl e,xs => .o (.sl e.sz ((show List e.T from xs).map λx=>sK e (e.enc x)))
mutual
/-- What any argument keeps. -/
def Ty.fit:(s:Ty)->s.T->Prop
 | .int k,n=>(Lit.int k n).wf=true
 | .bool,_=>True
 | .str,x=>ByteArray.size x<=maxLen
 | .sl e,xs=>(show List e.T from xs).length<=maxLen/\∀x∈(show List e.T from xs),e.fit x
 | .st fs,x=>Ty.fits fs x
def Ty.fits:(fs:List Ty)->Ty.Ts fs->Prop
 | [],_=>True
 | f::r,(x,y)=>f.fit x/\Ty.fits r y
end
mutual
def Ty.okB (P:Program):Ty->TypeId->Bool
 | .int k,t=>match P.underlying t with|some (.int k')=>decide (k'=k)|_=>false
 | .bool,t=>match P.underlying t with|some .bool=>true|_=>false
 | .str,t=>match P.underlying t with|some .string=>true|_=>false
 | .sl e,t=>match P.underlying t with|some (.slice te)=>e.okB P te&&decide (P.cellsOf te=e.sz)&&decide (0<e.sz)|_=>false
 | .st fs,t=>match P.underlying t with|some (.struct fl)=>Ty.okBs P fs fl.toList 0&&decide (P.cellsOf t=Ty.szs fs)|_=>false
def Ty.okBs (P:Program):List Ty->List Field->Nat->Bool
 | [],[],_=>true
 | f::r,x::s,off=>f.okB P x.type&&decide (x.offset=off)&&decide (P.cellsOf x.type=f.sz)&&Ty.okBs P r s (off+f.sz)
 | _,_,_=>false
end
mutual
/-- How much it is. -/
def Ty.bk:(s:Ty)->s.T->Nat
 | .int _,_=>1
 | .bool,_=>1
 | .str,x=>ByteArray.size x+1
 | .sl e,xs=>((show List e.T from xs).map λx=>e.bk x).sum+1
 | .st fs,x=>Ty.bks fs x+1
def Ty.bks:(fs:List Ty)->Ty.Ts fs->Nat
 | [],_=>0
 | f::r,(x,y)=>f.bk x+Ty.bks r y
end
structure Bulk {H:Type} (B:DataW H->Nat) (BA:List (DataW H)->Nat):Prop where
 str:∀bs,bs.length+1<=B (.lit (.string bs))
 lit:∀l,1<=B (.lit l)
 nil:1<=B .nil
 slice:∀a b,BA a+1<=B (.slice a b)
 agg:∀a,BA a+1<=B (.agg a)
 cons:∀d r,B d+BA r<=BA (d::r)
theorem Bulk.sum {H:Type}{B:DataW H->Nat}{BA:List (DataW H)->Nat}(hB:Bulk B BA){α:Type}(f:α->Nat):∀(vs:List α) (ds:List (DataW H)),vs.length=ds.length->(∀(i:Nat) v d,vs[i]?=some v->ds[i]?=some d->f v<=B d)->(vs.map f).sum<=BA ds
 | [],_,_,_=>Nat.zero_le _
 | _::_,[],h,_=>by simp at h
 | v::r,d::s,h,hp=>by have h1:=hp 0 v d rfl rfl;have h2:=hB.sum f r s (by simpa using h) λi v d hv hd=>hp (i+1) v d (by simpa using hv) (by simpa using hd);have:=hB.cons d s;simp only[List.map_cons,List.sum_cons];omega
def Pv (w:World)(ok:Nat->Prop)(ds:List D)(cs:List Value):Prop:=ds.length=cs.length/\∀(j:Nat) y u,ds[j]?=some y->cs[j]?=some u->DR w ok y u
mutual
theorem Ty.enc_len:∀(s:Ty) (x:s.T),(s.enc x).length=s.sz
 | .int _,_=>rfl
 | .bool,_=>rfl
 | .str,_=>rfl
 | .sl _,_=>rfl
 | .st fs,x=>Ty.encs_len fs x
theorem Ty.encs_len:∀(fs:List Ty) (x:Ty.Ts fs),(Ty.encs fs x).length=Ty.szs fs
 | [],_=>rfl
 | f::r,(x,y)=>by simp[Ty.encs,Ty.szs,Ty.enc_len f x,Ty.encs_len r y]
end
theorem Ty.el_cells (e:Ty)(x:e.T):(sK e (e.enc x)).cells=e.enc x:=by cases e<;>rfl
theorem JZ {α β:Type}(p:Nat->α->Prop):∀n,(∀i,i<n->∃v,p i v)->∃l:List α,l.length=n/\∀(i:Nat) v,l[i]?=some v->p i v
 | 0,_=>⟨[],rfl,λi v h=>by simp at h⟩
 | n+1,h=>by
  obtain⟨l,h1,h2⟩:=JZ (β:=β) p n λi hi=>h i (by omega);obtain⟨v,hv⟩:=h n (by omega);refine⟨l++[v],by simp[h1],λi x hx=>?_⟩;by_cases hi:i<n;·rw[List.getElem?_append_left (by omega)]at hx;exact h2 i x hx
  ·have hlt:=(List.getElem?_eq_some_iff.1 hx).1;simp only[List.length_append,List.length_singleton]at hlt;have:i=n:=by omega
   subst this;rw[List.getElem?_append_right (by omega),h1]at hx;simp only[Nat.sub_self,List.getElem?_cons_zero,oI]at hx;exact hx▸hv
section
variable {H:Type} {enc:TypeId×Value->H} {P:Program} {w:World} {base:Nat} {spare:Nat->Bool} {held:Bool} {ok:Nat->Prop}
mutual
theorem OT (hok:∀b,ok b):∀(s:Ty) {t:TypeId} {fuel:Nat} {cs:List Value} {x:DataW H×List MemPlace},s.okB P t=true->DataW.trod enc P w base spare held fuel t cs=some x->∃v:s.T,Pv w ok (s.enc v) cs/\s.fit v/\∀B BA,Bulk B BA->s.bk v<=B x.1
 | .int k,t,fuel,cs,x,ht,h=>by
  simp only[Ty.okB]at ht;split at ht<;>try (cases ht;done)
  rename_i k' hu;have:=of_decide_eq_true ht;subst this;obtain⟨n,rfl,rfl,hw⟩:=DataW.trod_int hu h;exact⟨n,⟨rfl,λj y u h1 h2=>by
   cases j with
   | zero=>simp only[Ty.enc,List.getElem?_cons_zero,oI]at h1 h2;subst h1;subst h2;exact .int _ _
   | succ j=>simp[Ty.enc]at h1⟩,hw,λB BA hB=>hB.lit _⟩
 | .bool,t,fuel,cs,x,ht,h=>by
  simp only[Ty.okB]at ht;split at ht<;>try (cases ht;done)
  rename_i hu;obtain⟨n,rfl,rfl⟩:=DataW.trod_bool hu h;exact⟨n,⟨rfl,λj y u h1 h2=>by
   cases j with
   | zero=>simp only[Ty.enc,List.getElem?_cons_zero,oI]at h1 h2;subst h1;subst h2;exact .bool _
   | succ j=>simp[Ty.enc]at h1⟩,trivial,λB BA hB=>hB.lit _⟩
 | .str,t,fuel,cs,x,ht,h=>by
  simp only[Ty.okB]at ht;split at ht<;>try (cases ht;done)
  rename_i hu;obtain⟨n,rfl,rfl,hn⟩:=DataW.trod_string hu h;exact⟨n,⟨rfl,λj y u h1 h2=>by
   cases j with
   | zero=>simp only[Ty.enc,List.getElem?_cons_zero,oI]at h1 h2;subst h1;subst h2;exact .str _
   | succ j=>simp[Ty.enc]at h1⟩,hn,λB BA hB=>by have:=hB.str n.data.toList;rw[Array.length_toList]at this;exact this⟩
 | .sl e,t,fuel,cs,x,ht,h=>by
  simp only[Ty.okB]at ht;split at ht<;>try (cases ht;done)
  rename_i te hu;simp only[Bool.and_eq_true,decide_eq_true_eq]at ht;obtain⟨⟨he,hc⟩,hpos⟩:=ht;have one:∀ {y0 u0},DR w ok y0 u0->Pv w ok [y0] [u0]:=λ{y0 u0} hd=>⟨rfl,λj y u h1 h2=>by
   cases j with
   | zero=>simp only[List.getElem?_cons_zero,oI]at h1 h2;subst h1;subst h2;exact hd
   | succ j=>simp at h1⟩
  rcases DataW.trod_slice hu h with⟨rfl,rfl⟩|⟨a,len,cap,elems,rest,n,_,rfl,rfl,hb,hl,hm,hlen,hel,_,_⟩
  ·exact⟨([]:List e.T),one (.sl0 _),⟨Nat.zero_le _,λx hx=>by cases hx⟩,λB BA hB=>hB.nil⟩
  ·rw[hc]at hel;have each:∀i,i<len->∃v:e.T,(∃cs',w.cells? base (a.add (i*e.sz)) e.sz=some cs'/\Pv w ok (e.enc v) cs')/\e.fit v/\∀B BA,Bulk B BA->∀d,elems[i]?=some d->e.bk v<=B d.1:=λi hi=>by have h1:=hel i hi;rw[gI (by omega)]at h1;obtain⟨cs',h2,h3⟩:=Option.bind_eq_some_iff.1 h1;obtain⟨v,h4,h5⟩:=OT hok e he h3;exact⟨v,⟨cs',h2,h4⟩,h5.1,λB BA hB d hd=>by rw[gI (by omega)]at hd;cases hd;exact h5.2 B BA hB⟩
   obtain⟨vs,hvl,hvs⟩:=JZ (β:=Unit) _ len each;refine⟨vs,one ?_,⟨by show vs.length<=maxLen;omega,λx hx=>?_⟩,λB BA hB=>?_⟩
   ·by_cases h0:len=0;·subst h0;have:vs=[]:=List.eq_nil_of_length_eq_zero hvl;subst this;exact .sle _ _ _
    ·have hspot:a.spot=none:=by
      obtain⟨v,⟨cs',h2,_⟩,_⟩:=each 0 (by omega);obtain⟨_,h3,h4⟩:=World.cells?_some h2;have:=h4 0 (by omega);have hlt:0<cs'.length:=by omega
      rw[gI hlt]at this;unfold World.cell? at this;split at this
      ·split at this;·cases this
       ·rename_i hs;simpa[Addr.add] using hs
      ·cases this
     obtain⟨b,off,sp⟩:=a;simp only at hspot;subst hspot;have hbs:b<w.heap.size:=by obtain⟨v,⟨cs',h2,_⟩,_⟩:=each 0 (by omega);simpa[CB] using World.cells?_block h2 hpos
     have hlen':((show List e.T from vs).map λx=>sK e (e.enc x)).length=len:=by simp[hvl]
     have hget:∀(i:Nat) (x:D),((show List e.T from vs).map λx=>sK e (e.enc x))[i]?=some x->∃v,vs[i]?=some v/\x=sK e (e.enc v):=λi x hx=>by simp only[List.getElem?_map,Option.map_eq_some_iff]at hx;obtain⟨v,h1,rfl⟩:=hx;exact⟨v,h1,rfl⟩
     rw[<-hlen'];refine .sl _ _ b off cap (λi j=>(w.cell? ⟨b,off+(i*e.sz+j),none⟩).getD default) (hok b) hbs (by omega) (λi x hx=>?_) (λi x j y hx hy=>?_) (λi x j y hx hy=>?_);·obtain⟨v,_,rfl⟩:=hget i x hx;rw[Ty.el_cells,Ty.enc_len]
     all_goals
       obtain⟨v,hv,rfl⟩:=hget i x hx
       rw[Ty.el_cells]at hy
       obtain⟨⟨cs',h2,h3⟩,_⟩:=hvs i v hv
       obtain⟨_,h4,h5⟩:=World.cells?_some h2
       have hj:j<e.sz:=by rw[<-Ty.enc_len e v];exact(List.getElem?_eq_some_iff.1 hy).1
       have h6:=h5 j hj
       have hj':j<cs'.length:=by omega
       have e1:(Addr.add (Addr.add ⟨b,off,none⟩ (i*e.sz)) j)=⟨b,off+(i*e.sz+j),none⟩:=by rw[CB,CB,Nat.add_assoc]
       rw[e1]at h6
       have h7:cs'[j]?=some cs'[j]:=gI hj'
       rw[h7]at h6
     ·rw[h6];rfl
     ·rw[h6];exact h3.2 j y _ hy h7
   ·obtain⟨i,hi⟩:=List.getElem?_of_mem hx;exact(hvs i x hi).2.1
   ·have h1:=hB.sum (λx=>e.bk x) vs (elems.map (·.1)) (by rw[List.length_map];omega) λi v d hv hd=>by rw[List.getElem?_map,Option.map_eq_some_iff]at hd;obtain⟨y,hy,rfl⟩:=hd;exact(hvs i v hv).2.2 B BA hB y hy
    have h2:=hB.slice (elems.map (·.1)) (rest.map (·.1));show(vs.map λx=>e.bk x).sum+1<=_;exact Nat.le_trans (Nat.add_le_add_right h1 1) h2
 | .st fs,t,fuel,cs,x,ht,h=>by
  simp only[Ty.okB]at ht;split at ht<;>try (cases ht;done)
  rename_i fl hu;simp only[Bool.and_eq_true,decide_eq_true_eq]at ht;obtain⟨hf,hc⟩:=ht;obtain⟨xs,n,_,rfl,hl,hxl,hx⟩:=DataW.trod_struct hu h;obtain⟨v,h1,h2⟩:=open_tys hok fs fl.toList 0 (n:=n) (cs:=cs) (xs:=xs) hf (by rw[hxl];simp) (by rw[hl,hc];omega) λi f hi=>by exact hx i f (by rw[<-Array.getElem?_toList];exact hi)
  rw[List.drop_zero]at h1;exact⟨v,h1,h2.1,λB BA hB=>Nat.le_trans (Nat.add_le_add_right (h2.2 B BA hB) 1) (hB.agg _)⟩
theorem open_tys (hok:∀b,ok b):∀(fs:List Ty) (fl:List Field) (off:Nat) {n:Nat} {cs:List Value} {xs:List (DataW H×List MemPlace)},Ty.okBs P fs fl off=true->xs.length=fl.length->cs.length=off+Ty.szs fs ->
   (∀(i:Nat) (f:Field),fl[i]?=some f->DataW.trod enc P w base spare held n f.type ((cs.drop f.offset).take (P.cellsOf f.type))=xs[i]?)->∃v:Ty.Ts fs,Pv w ok (Ty.encs fs v) (cs.drop off)/\Ty.fits fs v/\∀B BA,Bulk B BA->Ty.bks fs v<=BA (xs.map (·.1))
 | [],[],off,n,cs,xs,_,_,hl,_=>⟨(),⟨by simp[Ty.encs,Ty.szs]at hl |-;omega,λj y u h=>by simp[Ty.encs]at h⟩,trivial,λB BA hB=>Nat.zero_le _⟩
 | f::r,g::s,off,n,cs,[],_,hx,_,_=>by simp at hx
 | f::r,g::s,off,n,cs,x0::xs,hf,hx,hl,h=>by
  simp only[Ty.okBs,Bool.and_eq_true,decide_eq_true_eq]at hf;obtain⟨⟨⟨h1,h2⟩,h3⟩,h4⟩:=hf;simp only[Ty.szs]at hl;have hy:=h 0 g rfl;rw[h2,h3]at hy;obtain⟨v,⟨hv0,hv1⟩,hv2,hv3⟩:=OT hok f h1 hy;obtain⟨u,⟨hu0,hu1⟩,hu2,hu3⟩:=open_tys hok r s (off+f.sz) (n:=n) (cs:=cs) (xs:=xs) h4 (by simpa using hx) (by omega) λi x hi=>h (i+1) x (by simpa using hi);have hfl:=Ty.enc_len f v;refine⟨(v,u),⟨?_,λj y z hj hz=>?_⟩,⟨hv2,hu2⟩,λB BA hB=>?_⟩;·simp only[Ty.encs,List.length_append,hu0,hfl,List.length_drop];omega
  ·simp only[Ty.encs]at hj;by_cases hlt:j<f.sz;·rw[List.getElem?_append_left (by omega)]at hj;exact hv1 j y z hj (by rw[List.getElem?_take,if_pos hlt];exact hz)
   ·rw[List.getElem?_append_right (by omega),hfl]at hj;refine hu1 (j-f.sz) y z hj ?_;rw[List.getElem?_drop]at hz |-;rw[<-hz];congr 1;omega
  ·have e1:=hv3 B BA hB;have e2:=hu3 B BA hB;have e3:=hB.cons x0.1 (xs.map (·.1));show f.bk v+Ty.bks r u<=BA (x0.1::xs.map (·.1));omega
 | [],_::_,_,_,_,_,h,_,_,_=>by simp[Ty.okBs]at h
 | _::_,[],_,_,_,_,h,_,_,_=>by simp[Ty.okBs]at h
end
theorem DR.old_vr {C:Cx}{ow:Nat->Prop}{m:Places}{x:D}{u:Value}(h:DR w (C.okm ow) x u):VR w C ow m (old x) u:=by
 cases x with
 | sl sz els=>exact .o _ _ h
 | rcd fs=>exact .o _ _ h
 | int k n=>cases h;exact .n _ _ (.int _ _)
 | bool b=>cases h;exact .n _ _ (.bool _)
 | str x=>cases h;exact .n _ _ (.str _)
 | nil=>cases h;exact .n _ _ .nil
 | any=>cases h
theorem Sc {s:Ty}{t:TypeId}{v:Value}{d:DataW H}{ps:List MemPlace}(hs:s.okB P t=true)(hval:Value.okWide P w .any base t v)(h:DataW.Trod enc P w 0 spare held t v d ps):
   ∃x:s.T,VR w ⟨w.heap.size,λ_=>True⟩ (λ_=>False) (λ_ _=>none) (s.av x) v/\s.fit x/\∀B BA,Bulk B BA->s.bk x<=B d:=by
 obtain⟨fuel,hf⟩:=h
 obtain⟨x,⟨h1,h2⟩,h3,h4⟩:=OT (ok:=(⟨w.heap.size,λ_=>True⟩:Cx).okm (λ_=>False)) (λb=>⟨.inl trivial,λh=>h⟩) s hs hf
 refine⟨x,?_,h3,h4⟩
 have one:v.cells.toList=[v]->∀y,s.enc x=[y]->VR w ⟨w.heap.size,λ_=>True⟩ (λ_=>False) (λ_ _=>none) (old y) v:=λhc y hy=>by rw[hy,hc]at h2;exact(h2 0 y v rfl rfl).old_vr
 cases s with
 | int k=>
  simp only[Ty.okB]at hs
  split at hs<;>try (cases hs;done)
  rename_i hu
  obtain⟨n,rfl⟩:=Go.WideShapes.okWide_int hu hval
  exact one rfl _ rfl
 | bool=>
  simp only[Ty.okB]at hs
  split at hs<;>try (cases hs;done)
  rename_i hu
  have:v.cells.toList=[v]:=by simp only[Value.okWide,hu,Cell.okWide]at hval;cases v<;>first|rfl|simp_all[Cell.ok]
  exact one this _ rfl
 | str=>
  simp only[Ty.okB]at hs
  split at hs<;>try (cases hs;done)
  rename_i hu
  obtain⟨n,rfl⟩:=Go.WideShapes.okWide_string hu hval
  exact one rfl _ rfl
 | sl e=>
  simp only[Ty.okB]at hs
  split at hs<;>try (cases hs;done)
  rename_i hu
  obtain⟨a,l,c,rfl⟩:=Go.WideShapes.okWide_slice hu hval
  exact one rfl _ rfl
 | st fs=>
  simp only[Ty.okB]at hs
  split at hs<;>try (cases hs;done)
  rename_i fl hu
  simp only[Value.okWide,hu]at hval
  obtain⟨cs,rfl,_,_⟩:=hval
  have h1':(Ty.encs fs x).length=cs.toList.length:=h1
  refine .agg _ cs.toList (by rw[List.length_map];exact h1') λi c u hc hu=>?_
  simp only[List.getElem?_map,Option.map_eq_some_iff]at hc
  obtain⟨y,hy,rfl⟩:=hc
  exact(h2 i y u hy hu).old_vr
theorem open_arg {s:Ty}{t:TypeId}{v:Value}{d:DataW H}{ps:List MemPlace}(hs:s.okB P t=true)(hval:Value.okWide P w .any base t v)(h:DataW.Trod enc P w 0 spare held t v d ps):
  ∃x:s.T,VR w ⟨w.heap.size,λ_=>True⟩ (λ_=>False) (λ_ _=>none) (s.av x) v/\s.fit x:=by
 obtain⟨x,h1,h2,_⟩:=Sc hs hval h
 exact⟨x,h1,h2⟩
end
end Go.Mir
