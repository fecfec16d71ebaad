import Derived.Test.YtegndijbpiccgaaGreatDoorMirC
import Derived.Laws.OwnMore
namespace Go.Mir
set_option linter.unusedVariables false
set_option linter.unusedSimpArgs false
open Go.RowKit
theorem Heap.get_ins (j:Nat)(x:Ob):∀(H:Heap) (i:Nat),(H.ins j x).get i=if i=j then some x else H.get i
 | [],i=>by
  simp only[Heap.ins,Heap.get];by_cases h:i=j;·simp[h]
  ·rw[if_neg (λe=>h e.symm),if_neg h]
 | (k,o)::r,i=>by
  simp only[Heap.ins];split
  ·simp only[Heap.get];by_cases h:i=j;·simp[h]
   ·rw[if_neg (λe=>h e.symm),if_neg h]
  ·split
   ·rename_i h1 h2;subst h2;simp only[Heap.get];by_cases h:i=j;·simp[h]
    ·rw[if_neg (λe=>h e.symm),if_neg h,if_neg (λe=>h e.symm)]
   ·rename_i h1 h2;simp only[Heap.get,Heap.get_ins j x r i];by_cases h:k=i;·subst h;rw[if_pos rfl,if_neg (λe=>h2 e.symm),if_pos rfl]
    ·rw[if_neg h,if_neg h]
section heap
variable {w w':World} {C:Cx} {own:Nat->Prop} {m m':Places} {H:Heap}
structure Upd (w:World) (m:Places) (H:Heap) (id:Nat) (ob:Ob) (w':World) (m':Places):Prop where
 ext:∀i v l,m i v=some l->m' i v=some l
 new:∀i v l,m' i v=some l->m i v=some l\/(i=id/\∀b,l.block=some b->b<w'.heap.size/\((∃o,H.get id=some o/\lies m id o b)\/w.heap.size<=b))
 size:w.heap.size<=w'.heap.size
 block:∀b,b<w.heap.size->(∀o,H.get id=some o->¬lies m id o b)->w'.heap[b]?=w.heap[b]?
 own:∀o,H.get id=some o->o.frozen=false
 at_:∀b,lies m' id ob b->(∃o,H.get id=some o/\lies m id o b)\/w.heap.size<=b
 top:∀v,ob.ver<v->m' id v=none
 os:w'.os=w.os
 tape:w'.tape=w.tape
 output:w'.output=w.output
theorem RL {i:Nat}{o:Ob}{b:Nat}(hr:HR w C own m H)(hg:H.get i=some o){id:Nat}{ob:Ob}(U:Upd w m H id ob w' m')(hne:i≠id):lies m' i o b ↔ lies m i o b:=by
 cases o with
 | box cs=> simp only[lies];exact⟨λh=>(U.new _ _ _ h).resolve_right (λh=>hne h.1),U.ext _ _ _⟩
 | row fz nw ver e sz els=> simp only[lies];exact⟨λ⟨l,h,hb⟩=>⟨l,(U.new _ _ _ h).resolve_right (λh=>hne h.1),hb⟩,λ⟨l,h,hb⟩=>⟨l,U.ext _ _ _ h,hb⟩⟩
theorem Ej {i:Nat}{o:Ob}{b:Nat}(hr:HR w C own m H)(h:lies m i o b):b<w.heap.size/\(C.al b\/C.N<=b):=by
 cases o with
 | box cs=>exact hr.lt _ _ _ _ h rfl
 | row fz nw ver e sz els=>obtain⟨l,h1,h2⟩:=h;exact hr.lt _ _ _ _ h1 h2
theorem Upd.owned {id:Nat}{ob:Ob}(hr:HR w C own m H)(U:Upd w m H id ob w' m'){b:Nat}(hb:b<w.heap.size)(h:owned (H.ins id ob) m' b):Mir.owned H m b:=by
 obtain⟨i,o,hg,hf,hl⟩:=h;rw[Heap.get_ins]at hg;split at hg
 ·rename_i e;subst e;simp only[oI]at hg;subst hg;rcases U.at_ b hl with⟨o',hg',hl'⟩|h';·exact⟨i,o',hg',U.own o' hg',hl'⟩
  ·omega
 ·rename_i hne;exact⟨i,o,hg,hf,(RL hr hg U hne).1 hl⟩
theorem Upd.step {id:Nat}{ob:Ob}(hr:HR w C own m H)(U:Upd w m H id ob w' m'):Step C w (Mir.owned H m) m w' (Mir.owned (H.ins id ob) m') m':=by
 have key:∀b,¬Mir.owned H m b->b<w.heap.size->¬Mir.owned (H.ins id ob) m' b/\w'.heap[b]?=w.heap[b]?:=λb h hb=>
  ⟨λh'=>h (U.owned hr hb h'),U.block b hb λo hg hl=>h ⟨id,o,hg,U.own o hg,hl⟩⟩
 exact⟨U.size,λb h hb=>⟨⟨h.1,(key b h.2 hb).1⟩,(key b h.2 hb).2⟩,λb h hb=>⟨⟨h.1,(key b h.2 hb).1⟩,(key b h.2 hb).2⟩,U.ext,λi v l b h hb hlt=>by
  rcases U.new i v l h with h|⟨rfl,h⟩
  ·exact⟨v,l,h,hb⟩
  ·rcases(h b hb).2 with⟨o,hg,hl⟩|h;·exact FM hl
   ·omega⟩
theorem ObR.step {ow ow':Nat->Prop}{i:Nat}{o:Ob}(S:Step C w ow m w' ow' m')(hb:∀b,Mir.lies m i o b->w'.heap[b]?=w.heap[b]?)(h:ObR w C ow m i o):ObR w' C ow' m' i o:=by
 cases o with
 | box cs=> obtain⟨b,t,c,hm,hh,hs,hv⟩:=h;exact⟨b,t,c,S.p _ _ _ hm,(hb b hm).trans hh,hs,λi x v h1 h2=>(hv i x v h1 h2).step S⟩
 | row fz nw ver e sz els=>
  obtain⟨l,xs,hm,hrow,hown,hsz,hd,hn⟩:=h;refine⟨l,xs,S.p _ _ _ hm,hrow,?_,hsz,λi x j y v h1 h2 h3=>(hd i x j y v h1 h2 h3).mono S.size (S.ok nw),hn⟩;refine⟨hown.1,?_⟩;rcases hown.2 with h0|⟨g,cap,cur,h1,h2,h3,h4⟩
  ·exact .inl h0
  ·refine .inr ⟨g,cap,cur,h1,h2,?_,h4⟩;have hg:l.block=some g:=by
    cases l with
    | box b=>simp[Loc.isRow]at hrow
    | nilrow=>simp[Loc.val]at h1
    | row b n c=>simp only[Loc.val,Value.slice.injEq,oI,Addr.mk.injEq]at h1;simp[Loc.block,h1.1.1]
   rw[hb g ⟨l,hm,hg⟩,h3]
theorem Upd.hr {id:Nat}{ob:Ob}(hr:HR w C own m H)(hN:C.N<=w.heap.size)(U:Upd w m H id ob w' m')(hob:ObR w' C (Mir.owned (H.ins id ob) m') m' id ob):HR w' C own m' (H.ins id ob):=by
 refine⟨λi o hg=>?_,λi v l j v' l' b hi hj li lj=>?_,λb h=>?_,λi v l h=>?_,λi o v hg hv=>?_,λi v l b h hb=>?_⟩
 ·rw[Heap.get_ins]at hg;split at hg;·rename_i e;simp only[oI]at hg;subst e hg;exact hob
  ·rename_i hne;refine(hr.objs i o hg).step (U.step hr) λb hl=>U.block b (Ej hr hl).1 λo' hg' hl'=>hne (hr.inj _ _ _ _ b hg hg' hl hl')
 ·have key:∀k vk lk,m' k vk=some lk->lk.block=some b->(∃v l,m k v=some l/\l.block=some b)\/w.heap.size<=b:=by
   intro k vk lk hk hbk;rcases U.new k vk lk hk with h|⟨rfl,h⟩
   ·exact .inl ⟨vk,lk,h,hbk⟩
   ·rcases(h b hbk).2 with⟨o,hg,hl⟩|h;·exact .inl (FM hl)
    ·exact .inr h
  have big:∀k vk lk,m' k vk=some lk->lk.block=some b->w.heap.size<=b->k=id:=by
   intro k vk lk hk hbk hge;rcases U.new k vk lk hk with h|⟨rfl,_⟩
   ·have:=(hr.lt k vk lk b h hbk).1;omega
   ·rfl
  rcases key i v l hi li with⟨v1,l1,h1,h1'⟩|hge
  ·rcases key j v' l' hj lj with⟨v2,l2,h2,h2'⟩|hge;·exact hr.inj' i v1 l1 j v2 l2 b h1 h2 h1' h2'
   ·exact(big i v l hi li hge).trans (big j v' l' hj lj hge).symm
  ·exact(big i v l hi li hge).trans (big j v' l' hj lj hge).symm
 ·by_cases hb:b<w.heap.size;·exact hr.base b (U.owned hr hb h)
  ·exact .inr (by omega)
 ·rw[Heap.get_ins];split;·rfl
  ·rename_i hne;exact hr.dom i v l ((U.new _ _ _ h).resolve_right λh=>hne h.1)
 ·rw[Heap.get_ins]at hg;split at hg;·rename_i e;simp only[oI]at hg;subst e hg;exact U.top v hv
  ·rename_i hne;have:=hr.top i o v hg hv
   cases h:m' i v with
   | none=>rfl
   | some l=>rw[(U.new _ _ _ h).resolve_right λh=>hne h.1]at this;cases this
 ·rcases U.new _ _ _ h with h|⟨rfl,h⟩
  ·have:=hr.lt _ _ _ _ h hb;exact⟨Nat.lt_of_lt_of_le this.1 U.size,this.2⟩
  ·obtain⟨h1,h2⟩:=h b hb;refine⟨h1,?_⟩;rcases h2 with⟨o,hg,hl⟩|h2;·exact(Ej hr hl).2
   ·exact .inr (by omega)
theorem Upd.keep {id:Nat}{ob:Ob}(hr:HR w C own m H)(hN:C.N<=w.heap.size)(U:Upd w m H id ob w' m'):Keep C.N own w w':=
 ⟨U.os,U.tape,U.output,U.size,λb hb ho=>U.block b (by omega) λo hg hl=>by
  rcases hr.base b ⟨id,o,hg,U.own o hg,hl⟩ with h|h;·exact ho h
  ·omega⟩
theorem Keep.trans {N:Nat}{own:Nat->Prop}{a b c:World}(h:Keep N own a b)(k:Keep N own b c):Keep N own a c:=
 ⟨k.os.trans h.os,k.tape.trans h.tape,k.output.trans h.output,Nat.le_trans h.size k.size,λi h1 h2=>(k.block i h1 h2).trans (h.block i h1 h2)⟩
theorem Keep.refl (N:Nat)(own:Nat->Prop)(w:World):Keep N own w w:=⟨rfl,rfl,rfl,Nat.le_refl _,λ_ _ _=>rfl⟩
theorem Heap.get_freeze:∀(ids:List Nat) (H:Heap) (i:Nat),(H.freeze ids).get i=match H.get i with
   | some (.row fz nw v e sz els)=>some (.row (fz||ids.contains i) nw v e sz els)
   | x=>x
 | [],H,i=>by
  simp only[Heap.freeze]
  cases h:H.get i with
  | none=>rfl
  | some o=>cases o<;>simp
 | k::r,H,i=>by
  simp only[Heap.freeze];split
  ·rename_i fz nw v e sz els hk;rw[Heap.get_freeze r,Heap.get_ins];by_cases h:i=k;·subst h;rw[if_pos rfl,hk];simp
   ·rw[if_neg h]
    cases hg:H.get i with
    | none=>rfl
    | some o=>cases o<;>simp[h]
  ·rename_i hk;rw[Heap.get_freeze r]
   cases hg:H.get i with
   | none=>rfl
   | some o=>
    cases o with
    | box cs=>rfl
    | row fz nw v e sz els=>
     have:i≠k:=by rintro rfl;exact hk _ _ _ _ _ _ hg
     simp[this]
theorem Eg {ids:List Nat}{b:Nat}(h:owned (H.freeze ids) m b):owned H m b:=by
 obtain⟨i,o,hg,hf,hl⟩:=h;rw[Heap.get_freeze]at hg;split at hg;·rename_i fz nw v e sz els hk;simp only[oI]at hg;subst hg;simp only[Ob.frozen,Bool.or_eq_false_iff]at hf;exact⟨i,_,hk,hf.1,hl⟩
 ·exact⟨i,o,hg,hf,hl⟩
theorem DW (ids:List Nat):Step C w (owned H m) m w (owned (H.freeze ids) m) m:=
 ⟨Nat.le_refl _,λb h _=>⟨⟨h.1,λh'=>h.2 (Eg h')⟩,rfl⟩,λb h _=>⟨⟨h.1,λh'=>h.2 (Eg h')⟩,rfl⟩,λ_ _ _ h=>h,λ_ v l _ h hb _=>⟨v,l,h,hb⟩⟩
theorem H9 {ids:List Nat}{i:Nat}{o:Ob}(hg:(H.freeze ids).get i=some o):∃o',H.get i=some o'/\(∀b,lies m i o b ↔ lies m i o' b)/\∀w C ow,ObR w C ow m i o'->ObR w C ow m i o:=by
 rw[Heap.get_freeze]at hg;split at hg;·rename_i fz nw v e sz els hk;simp only[oI]at hg;subst hg;exact⟨_,hk,λb=>Iff.rfl,λw C ow h=>h⟩
 ·exact⟨o,hg,λb=>Iff.rfl,λw C ow h=>h⟩
theorem BW (ids:List Nat)(hr:HR w C own m H):HR w C own m (H.freeze ids):=by
 refine⟨λi o hg=>?_,hr.inj',λb h=>hr.base b (Eg h),λi v l h=>?_,λi o v hg hv=>?_,hr.lt⟩;·obtain⟨o',hg',_,h3⟩:=H9 (m:=m) hg;exact h3 _ _ _ ((hr.objs i o' hg').step (DW ids) λb _=>rfl)
 ·have:=hr.dom i v l h;rw[Heap.get_freeze];split;·rfl
  ·exact this
 ·rw[Heap.get_freeze]at hg;split at hg;·rename_i fz nw v' e sz els hk;simp only[oI]at hg;subst hg;exact hr.top i _ v hk hv
  ·exact hr.top i o v hg hv
theorem P0 (hr:HR w C own m H){i:Nat}{o:Ob}{b:Nat}(hg:H.get i=some o)(hf:o.frozen=true)(hl:lies m i o b):¬owned H m b:=by
 rintro⟨j,p,hj,hfj,hlj⟩;obtain rfl:=hr.inj _ _ _ _ b hg hj hl hlj;rw[hg]at hj;obtain rfl:o=p:=by simpa using hj
 rw[hf]at hfj;cases hfj
end heap
end Go.Mir
