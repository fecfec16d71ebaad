import Derived.Test.YtegndijbpiccgaaGreatDoorMirF
namespace Go.Mir
set_option linter.unusedVariables false
set_option linter.unusedSimpArgs false
open Go.RowKit
def Places.only (m:Places)(ids:List Nat):Places:=λi v=>if ids.contains i then m i v else none
theorem Places.only_some {m:Places}{ids:List Nat}{i v:Nat}{l:Loc}:m.only ids i v=some l ↔ ids.contains i=true/\m i v=some l:=by
 simp only[Places.only];split;·rename_i h;exact⟨λh2=>⟨h,h2⟩,λh2=>h2.2⟩
 ·rename_i h;exact⟨λh2=>(by cases h2),λh2=>absurd h2.1 h⟩
theorem Heap.get_keep (ids:List Nat):∀(H:Heap) (i:Nat),(H.keep ids).get i=if ids.contains i then H.get i else none
 | [],i=>by simp[Heap.keep,Heap.get]
 | (k,o)::r,i=>by
  simp only[Heap.keep];split
  ·rename_i h;simp only[Heap.get,Heap.get_keep ids r i];by_cases e:k=i;·subst e;rw[if_pos rfl,if_pos rfl,if_pos h]
   ·rw[if_neg e,if_neg e]
  ·rename_i h;rw[Heap.get_keep ids r i];simp only[Heap.get];by_cases e:k=i;·subst e;rw[if_neg h,if_neg h]
   ·rw[if_neg e]
theorem Heap.get_age:∀(H:Heap) (i:Nat),H.age.get i=(H.get i).map Ob.age
 | [],i=>rfl
 | (k,o)::r,i=>by
  simp only[Heap.age,Heap.get];split;·rfl
  ·exact Heap.get_age r i
theorem Heap.get_merge (H:Heap):∀(H1:Heap) (i:Nat),(H.merge H1).get i=match H1.get i with|some o=>some o|none=>H.get i
 | [],i=>rfl
 | (k,o)::r,i=>by
  simp only[Heap.merge,Heap.get];rw[Heap.get_ins,Heap.get_merge H r i];by_cases e:i=k;·rw[if_pos e,if_pos e.symm]
  ·rw[if_neg e,if_neg λh=>e h.symm]
section
variable {P:Program} {w w':World} {C:Cx} {own:Nat->Prop} {m m':Places} {H:Heap}
theorem Hs {ids:List Nat}{i:Nat}(hi:ids.contains i=true){o:Ob}{b:Nat}:lies (m.only ids) i o b ↔ lies m i o b:=by
 cases o with
 | box cs=>simp only[lies,Places.only_some,hi,true_and]
 | row fz nw v e sz els=>simp only[lies,Places.only_some,hi,true_and]
theorem owned_only {ids:List Nat}{b:Nat}:owned (H.keep ids) (m.only ids) b ↔ ∃id o,ids.contains id=true/\H.get id=some o/\HC m id o b:=by
 constructor
 ·rintro⟨i,o,hg,hf,hl⟩;rw[Heap.get_keep]at hg;split at hg;·rename_i hi;exact⟨i,o,hi,hg,hf,(Hs hi).1 hl⟩
  ·cases hg
 ·rintro⟨i,o,hi,hg,hf,hl⟩;exact⟨i,o,by rw[Heap.get_keep,if_pos hi];exact hg,hf,(Hs hi).2 hl⟩
theorem VR.only {ow:Nat->Prop}{ids:List Nat}{x:AV}{v:Value}(h:VR w C ow m x v)(hx:∀i∈Ek x++Ak x,ids.contains i=true):VR w C ow (m.only ids) x v:=by
 have sub:∀ {cs:List AV},(∀i∈refsL cs++rowsInL cs,ids.contains i=true)->∀(k:Nat) c,cs[k]?=some c->∀i∈Ek c++Ak c,ids.contains i=true:=by
  intro cs
  induction cs with
  | nil=>intro _ k c h;simp at h
  | cons x r ih=>
   intro h k c hk i hi
   cases k with
   | zero=>
    simp only[List.getElem?_cons_zero,oI]at hk;subst hk;refine h i ?_;simp only[refsL,rowsInL,List.mem_append]at hi |-;rcases hi with hi|hi;·exact .inl (.inl hi)
    ·exact .inr (.inl hi)
   | succ k=>
    refine ih (λi hi=>h i ?_) k c (by simpa using hk) i hi;simp only[refsL,rowsInL,List.mem_append]at hi |-;rcases hi with hi|hi;·exact .inl (.inr hi)
    ·exact .inr (.inr hi)
 induction h with
 | any v=>exact .any v
 | n x v h=>exact .n x v h
 | o x v h=>exact .o x v h
 | agg cs vs hl h ih=>exact .agg cs vs hl λi c v h1 h2=>ih i c v h1 h2 (sub (by simpa[Ek,Ak] using hx) i c h1)
 | tup cs vs hl h ih=>exact .tup cs vs hl λi c v h1 h2=>ih i c v h1 h2 (sub (by simpa[Ek,Ak] using hx) i c h1)
 | ptr id off b h=>exact .ptr id off b (Places.only_some.2 ⟨hx id (by simp[Ek]),h⟩)
 | elt id ver sz i off b n c h=>exact .elt id ver sz i off b n c (Places.only_some.2 ⟨hx id (by simp[Ek]),h⟩)
 | nilp=>exact .nilp
 | undef=>exact .undef
 | row id ver l h hr=>exact .row id ver l (Places.only_some.2 ⟨hx id (by simp[Ak]),h⟩) hr
 | dat nw cs b off vs hb hs hv hd=>exact .dat nw cs b off vs hb hs hv hd
 | fn f cap vs hl h ih=>exact .fn f cap vs hl λi c v h1 h2=>ih i c v h1 h2 (sub (by simpa[Ek,Ak] using hx) i c h1)
theorem Dm {ids:List Nat}{xs:List AV}(h:H.closed ids xs=true):(∀i∈refsL xs++rowsInL xs,ids.contains i=true)/\∀i cs,ids.contains i=true->H.get i=some (.box cs)->∀k∈refsL cs++rowsInL cs,ids.contains k=true:=by simp only[Heap.closed,Bool.and_eq_true,List.all_eq_true]at h;refine⟨h.1,λi cs hi hg k hk=>?_⟩;have:=h.2 i (by simpa using hi);rw[hg]at this;simp only[List.all_eq_true]at this;exact this k hk
theorem Mm {cs:List AV}{P':Nat->Prop}(h:∀i∈refsL cs++rowsInL cs,P' i):∀(k:Nat) c,cs[k]?=some c->∀i∈Ek c++Ak c,P' i:=by
 induction cs with
 | nil=>intro k c h;simp at h
 | cons x r ih=>
  intro k c hk i hi
  cases k with
  | zero=>
   simp only[List.getElem?_cons_zero,oI]at hk;subst hk;refine h i ?_;simp only[refsL,rowsInL,List.mem_append]at hi |-;rcases hi with hi|hi;·exact .inl (.inl hi)
   ·exact .inr (.inl hi)
  | succ k=>
   refine ih (λi hi=>h i ?_) k c (by simpa using hk) i hi;simp only[refsL,rowsInL,List.mem_append]at hi |-;rcases hi with hi|hi;·exact .inl (.inr hi)
   ·exact .inr (.inr hi)
theorem Ob.age_lies {i:Nat}{o:Ob}{b:Nat}:lies m i o.age b ↔ lies m i o b:=by cases o<;>rfl
theorem Ob.age_frozen (o:Ob):o.age.frozen=o.frozen:=by cases o<;>rfl
theorem Ob.age_ver (o:Ob):o.age.ver=o.ver:=by cases o<;>rfl
theorem HR.restrict {ids:List Nat}{H':Heap}{g:Ob->Ob}{C':Cx}{own':Nat->Prop}(hr:HR w C own m H)(hH:∀i,H'.get i=if ids.contains i then (H.get i).map g else none)
   (hgl:∀(m:Places) i o b,lies m i (g o) b ↔ lies m i o b) (hgf:∀o,(g o).frozen=o.frozen) (hgv:∀o,(g o).ver=o.ver)
   (hcl:∀i cs,ids.contains i=true->H.get i=some (.box cs)->∀k∈refsL cs++rowsInL cs,ids.contains k=true)
   (hob:∀i o,ids.contains i=true->H.get i=some o->ObR w C (owned H m) (m.only ids) i o->ObR w C' (owned H' (m.only ids)) (m.only ids) i (g o))
   (hb:∀b,owned H' (m.only ids) b->own' b\/C'.N<=b) (hlt:∀i v l b,ids.contains i=true->m i v=some l->l.block=some b->C'.al b\/C'.N<=b):HR w C' own' (m.only ids) H':=by
 have get:∀i o,H'.get i=some o->ids.contains i=true/\∃o',H.get i=some o'/\o=g o':=λi o h=>by
  rw[hH]at h;split at h;·rename_i hi;simp only[Option.map_eq_some_iff]at h;obtain⟨o',h1,h2⟩:=h;exact⟨hi,o',h1,h2.symm⟩
  ·cases h
 refine⟨λi o hg=>?_,λi v l j v' l' b h1 h2 l1 l2=>hr.inj' i v l j v' l' b (Places.only_some.1 h1).2 (Places.only_some.1 h2).2 l1 l2,hb,λi v l h=>?_,λi o v hg hv=>?_,λi v l b h h2=>?_⟩
 ·obtain⟨hi,o,hg',rfl⟩:=get i o hg
  refine hob i o hi hg' ?_
  have:=hr.objs i o hg'
  cases o with
  | box cs=>
   obtain⟨b,t,c,e1,e2,e3,e4⟩:=this
   exact⟨b,t,c,Places.only_some.2 ⟨hi,e1⟩,e2,e3,λk x v hx hv=>(e4 k x v hx hv).only (Mm (hcl i cs hi hg') k x hx)⟩
  | row fz nw ver e sz els=>
   obtain⟨l,xs,e1,e2,e3,e4,e5,e6⟩:=this
   exact⟨l,xs,Places.only_some.2 ⟨hi,e1⟩,e2,e3,e4,e5,e6⟩
 ·obtain⟨hi,h⟩:=Places.only_some.1 h
  rw[hH,if_pos hi]
  simpa using hr.dom i v l h
 ·obtain⟨hi,o,hg',rfl⟩:=get i o hg
  rw[hgv]at hv
  simp only[Places.only]
  rw[if_pos hi]
  exact hr.top i o v hg' hv
 ·obtain⟨hi,h⟩:=Places.only_some.1 h
  exact⟨(hr.lt i v l b h h2).1,hlt i v l b hi h h2⟩
theorem Mu {ids:List Nat}{H':Heap}{g:Ob->Ob}(hH:∀i,H'.get i=if ids.contains i then (H.get i).map g else none)
   (hgl:∀(m:Places) i o b,lies m i (g o) b ↔ lies m i o b) (hgf:∀o,(g o).frozen=o.frozen) {b:Nat}:owned H' (m.only ids) b ↔ ∃id o,ids.contains id=true/\H.get id=some o/\HC m id o b:=by
 constructor
 ·rintro⟨i,o,hg,hf,hl⟩
  rw[hH]at hg
  split at hg
  ·rename_i hi
   simp only[Option.map_eq_some_iff]at hg
   obtain⟨o',h1,rfl⟩:=hg
   exact⟨i,o',hi,h1,by rw[<-hgf];exact hf,(Hs hi).1 ((hgl _ _ _ _).1 hl)⟩
  ·cases hg
 ·rintro⟨i,o,hi,hg,hf,hl⟩
  exact⟨i,g o,by rw[hH,if_pos hi,hg];rfl,by rw[hgf];exact hf,(hgl _ _ _ _).2 ((Hs hi).2 hl)⟩
theorem kU {C':Cx}{ow ow':Nat->Prop}{x:D}{v:Value}(h:DR w ow x v)(hb:∀b,ow b->b<w.heap.size->C'.okm ow' b):VR w C' ow' m (Mir.old x) v:=by
 cases x with
 | sl sz els=>exact .o _ _ (h.mono (Nat.le_refl _) λb h1 h2=>⟨hb b h1 h2,rfl⟩)
 | rcd fs=>cases h
 | int k n=>cases h;exact .n _ _ (.int _ _)
 | bool b=>cases h;exact .n _ _ (.bool _)
 | str s=>cases h;exact .n _ _ (.str _)
 | nil=>cases h;exact .n _ _ .nil
 | any=>exact .any _
mutual
theorem age_ok {C':Cx}{ow ow':Nat->Prop}(hb:∀b,C.okm ow b->b<w.heap.size->C'.okm ow' b):∀(x:AV) {v:Value},VR w C ow m x v->VR w C' ow' m (age x) v
 | .n x,v,h=>by
  cases h with
  | any v=>exact .any _
  | n _ _ h=>exact kU h λb h1 h2=>hb b (Cx.okn_okm h1) h2
 | .o x,v,h=>by
  cases h with
  | o _ _ h=>exact .o _ _ (h.mono (Nat.le_refl _) λb h1 h2=>⟨hb b h1 h2,rfl⟩)
 | .agg cs,v,h=>by obtain⟨us,hl,hh,rfl⟩:=h.agg_inv;obtain⟨h1,h2⟩:=ageL_ok hb cs ⟨hl,hh⟩;exact .agg _ _ h1 h2
 | .tup cs,v,h=>by obtain⟨us,hl,hh,rfl⟩:=h.tup_inv;obtain⟨h1,h2⟩:=ageL_ok hb cs ⟨hl,hh⟩;exact .tup _ _ h1 h2
 | .fn f cs,v,h=>by obtain⟨us,hl,hh,rfl⟩:=h.fn_inv;obtain⟨h1,h2⟩:=ageL_ok hb cs ⟨hl,hh⟩;exact .fn _ _ _ h1 h2
 | .ptr id off,v,h=>by obtain⟨b,h1,rfl⟩:=h.ptr_inv;exact .ptr _ _ _ h1
 | .elt ..,v,h=>by obtain⟨b,n,c,h1,rfl⟩:=h.elt_inv;exact .elt _ _ _ _ _ _ _ _ h1
 | .nilp,v,h=>by cases h;exact .nilp
 | .undef,v,h=>by cases h;exact .undef
 | .row id ver,v,h=>by obtain⟨l,h1,h2,rfl⟩:=h.row_inv;exact .row _ _ _ h1 h2
 | .dat nw cs,v,h=>by obtain⟨b,off,vs,h1,h2,h3,h4,rfl⟩:=h.dat_inv;exact .dat false cs b off vs (hb b (Cx.ok_okm h1) h2) h2 h3 λj y hy=>(h4 j y hy).mono (Nat.le_refl _) λb h1 h2=>⟨hb b (Cx.ok_okm h1) h2,rfl⟩
theorem ageL_ok {C':Cx}{ow ow':Nat->Prop}(hb:∀b,C.okm ow b->b<w.heap.size->C'.okm ow' b):∀(xs:List AV) {us:List Value},Cells w C ow m xs us->Cells w C' ow' m (ageL xs) us
 | [],us,h=>⟨h.1,λi c u h=>by simp[ageL]at h⟩
 | x::r,us,h=>by
  cases us with
  | nil=>have:=h.1;simp at this
  | cons u us=>
   have hx:=age_ok hb x (h.2 0 x u rfl rfl);have hr':=ageL_ok hb r (us:=us) ⟨by simpa using h.1,λi c u h1 h2=>h.2 (i+1) c u (by simpa using h1) (by simpa using h2)⟩;refine⟨by simp[ageL,hr'.1],λi c u' hc hu=>?_⟩
   cases i with
   | zero=>simp only[ageL,List.getElem?_cons_zero,oI]at hc hu;subst hc hu;exact hx
   | succ i=>exact hr'.2 i c u' (by simpa[ageL] using hc) (by simpa using hu)
end
theorem Ob.age_ok {C':Cx}{ow ow':Nat->Prop}(hb:∀b,C.okm ow b->b<w.heap.size->C'.okm ow' b){i:Nat}{o:Ob}(h:ObR w C ow m i o):ObR w C' ow' m i o.age:=by
 cases o with
 | box cs=> obtain⟨b,t,c,e1,e2,e3,e4⟩:=h;obtain⟨h1,h2⟩:=ageL_ok (m:=m) hb cs (us:=c.toList) ⟨by simp[e3],λi x v h1 h2=>e4 i x v h1 (by simpa using h2)⟩;exact⟨b,t,c,e1,e2,by rw[h1];simp,λi x v hx hv=>h2 i x v hx (by simpa using hv)⟩
 | row fz nw ver e sz els=> obtain⟨l,xs,e1,e2,e3,e4,e5,e6⟩:=h;exact⟨l,xs,e1,e2,e3,e4,λi x j y v h1 h2 h3=>(e5 i x j y v h1 h2 h3).mono (Nat.le_refl _) λb h1 h2=>⟨hb b (Cx.ok_okm h1) h2,rfl⟩,λh=>by cases h⟩
def Spec (P:Program)(f:Nat)(args:List AV)(H:Heap)(r:AV)(H':Heap):Prop:=
 ∀(w:World) (al:Nat->Prop) (m:Places) (vs:List Value),HR w ⟨w.heap.size,al⟩ (owned H m) m H->(∀b,owned H m b->al b)->Cells w ⟨w.heap.size,al⟩ (owned H m) m args vs ->
  Calls P f vs.toArray w λe w'=>∃u m',e = .returned u/\((∀i v l,m i v=some l->m' i v=some l)/\∀i v l b,m' i v=some l->l.block=some b->b<w.heap.size->∃v' l',m i v'=some l'/\l'.block=some b)/\HR w' ⟨w.heap.size,al⟩ (owned H m) m' H'/\VR w' ⟨w.heap.size,al⟩ (owned H' m') m' r u /\
   Keep w.heap.size (owned H m) w w'/\∀i,(H.get i).isSome=true->(H'.get i).isSome=true
def B6 (w:World)(C:Cx)(m:Places)(H:Heap)(ids lent:List Nat)(b:Nat):Prop:=
 b<w.heap.size/\(C.al b\/C.N<=b)/\¬ ∃i o,ids.contains i=false/\lent.contains i=false/\H.get i=some o/\HC m i o b
theorem RR (hr:HR w C own m H)(hal:∀b,own b->C.al b){as':List AV}{us:List Value}{lent ids:List Nat}(h1:Cells w C (λb=>owned H m b/\¬ ∃i o,i∈lent/\H.get i=some o/\lies m i o b) m as' us)
   (hdis:∀i∈lent,ids.contains i=false) (hcl:H.closed ids as'=true) {f:Nat} {r:AV} {H1:Heap} (hspec:Spec P f (ageL as') (H.keep ids).age r H1):
   Calls P f us.toArray w λe w'=>∃u m1,e = .returned u/\((∀i v l,ids.contains i=true->m i v=some l->m1 i v=some l)/\∀i v l b,m1 i v=some l->l.block=some b->b<w.heap.size->∃v' l',m i v'=some l'/\l'.block=some b) /\
     HR w' ⟨w.heap.size,B6 w C m H ids (lent)⟩ (λb=>∃id o,ids.contains id=true/\H.get id=some o/\HC m id o b) m1 H1 /\
     VR w' ⟨w.heap.size,B6 w C m H ids (lent)⟩ (owned H1 m1) m1 r u/\Keep w.heap.size (λb=>∃id o,ids.contains id=true/\H.get id=some o/\HC m id o b) w w' /\
     ∀i,ids.contains i=true->(H.get i).isSome=true->(H1.get i).isSome=true:=by
 have hH:∀i,(H.keep ids).age.get i=if ids.contains i then (H.get i).map Ob.age else none:=λi=>by
   rw[Heap.get_age,Heap.get_keep];split<;>rfl
 have how:owned (H.keep ids).age (m.only ids)=λb=>∃id o,ids.contains id=true/\H.get id=some o/\HC m id o b:=by
   funext b
   exact propext (Mu hH (λm i o b=>Ob.age_lies) Ob.age_frozen)
 obtain⟨hc1,hc2⟩:=Dm hcl
 -- what the caller holds as data the callee may meet
 let ow1:Nat->Prop:=λb=>owned H m b/\¬ ∃i o,i∈lent/\H.get i=some o/\lies m i o b
 have hb:∀b,C.okm ow1 b->b<w.heap.size->(⟨w.heap.size,B6 w C m H ids (lent)⟩:Cx).okm (owned (H.keep ids).age (m.only ids)) b:=by
   intro b h1 h2
   have hnot:¬owned H m b\/∃i o,i∈lent/\H.get i=some o/\lies m i o b:=by
     by_cases h:owned H m b
     · exact .inr (Classical.byContradiction λh'=>h1.2 ⟨h,h'⟩)
     · exact .inl h
   refine⟨.inl ⟨h2,h1.1,?_⟩,?_⟩
   · rintro⟨i,o,hi,hl,hg,ho⟩
     rcases hnot with h|⟨j,p,hj,hg',hl'⟩
     · exact h ⟨i,o,hg,ho⟩
     · obtain rfl:=hr.inj i j o p b hg hg' ho.2 hl'
       simp[hj]at hl
   · rw[how]
     rintro⟨i,o,hi,hg,ho⟩
     rcases hnot with h|⟨j,p,hj,hg',hl'⟩
     · exact h ⟨i,o,hg,ho⟩
     · obtain rfl:=hr.inj i j o p b hg hg' ho.2 hl'
       rw[hdis i hj]at hi;cases hi
 have L1:Less C w (owned H m) ow1:=⟨λb _ h h'=>h h'.1⟩
 have hargs:Cells w ⟨w.heap.size,B6 w C m H ids (lent)⟩ (owned (H.keep ids).age (m.only ids)) (m.only ids) (ageL as') us:=by
   have h2:Cells w C ow1 (m.only ids) as' us:=⟨h1.1,λk c u hk hu=>(h1.2 k c u hk hu).only (Mm hc1 k c hk)⟩
   exact ageL_ok hb as' h2
 have hr1:HR w ⟨w.heap.size,B6 w C m H ids (lent)⟩ (owned (H.keep ids).age (m.only ids)) (m.only ids) (H.keep ids).age:=by
   have hb':∀b,C.okm (owned H m) b->b<w.heap.size->(⟨w.heap.size,B6 w C m H ids (lent)⟩:Cx).okm (owned (H.keep ids).age (m.only ids)) b:=λb h1 h2=>hb b ⟨h1.1,λh=>h1.2 h.1⟩ h2
   refine HR.restrict hr hH (λm i o b=>Ob.age_lies) Ob.age_frozen Ob.age_ver hc2 (λi o hi hg h=>Ob.age_ok hb' h) (λb h => .inl h) λi v l b hi hm hlb => .inl ?_
   obtain⟨h1,h2⟩:=hr.lt i v l b hm hlb
   refine⟨h1,h2,?_⟩
   rintro⟨j,p,hj,_,hg',ho'⟩
   obtain⟨v',l',h3,h4⟩:=FM ho'.2
   obtain rfl:=hr.inj' i v l j v' l' b hm h3 hlb h4
   rw[hi]at hj;cases hj
 have:=hspec w _ (m.only ids) us hr1 (λb h=>?_) hargs
 · rw[how]at this
   refine this.mono ?_
   rintro e w' ⟨u,m1,rfl,h1,h2,h3,h4,h5⟩
   exact⟨u,m1,rfl,⟨λi v l hi hm=>h1.1 i v l (Places.only_some.2 ⟨hi,hm⟩),λi v l b h hb hlt=>(by
     obtain⟨v',l',h6,h7⟩:=h1.2 i v l b h hb hlt
     exact⟨v',l',(Places.only_some.1 h6).2,h7⟩)⟩,h2,h3,h4,λi hi hs=>h5 i (by rw[hH,if_pos hi];simpa using hs)⟩
 · rw[how]at h
   obtain⟨i,o,hi,hg,ho⟩:=h
   have hlt:=Ej hr ho.2
   refine⟨hlt.1,hlt.2,?_⟩
   rintro⟨j,p,hj,_,hg',ho'⟩
   obtain rfl:=hr.inj i j o p b hg hg' ho.2 ho'.2
   rw[hi]at hj;cases hj
theorem VR.conv {C':Cx}{ow ow':Nat->Prop}(hn:∀b,C'.okn ow' b->b<w.heap.size->C.okn ow b)(ho:∀b,C'.okm ow' b->b<w.heap.size->C.okm ow b)(hm:∀i v l,m' i v=some l->m i v=some l){x:AV}{v:Value}(h:VR w C' ow' m' x v):VR w C ow m x v:=by
 induction h with
 | any v=>exact .any v
 | n x v h=>exact .n x v (h.mono (Nat.le_refl _) λb h1 h2=>⟨hn b h1 h2,rfl⟩)
 | o x v h=>exact .o x v (h.mono (Nat.le_refl _) λb h1 h2=>⟨ho b h1 h2,rfl⟩)
 | agg cs vs hl h ih=>exact .agg cs vs hl ih
 | tup cs vs hl h ih=>exact .tup cs vs hl ih
 | ptr id off b h=>exact .ptr id off b (hm _ _ _ h)
 | elt id ver sz i off b n c h=>exact .elt id ver sz i off b n c (hm _ _ _ h)
 | nilp=>exact .nilp
 | undef=>exact .undef
 | row id ver l h hr=>exact .row id ver l (hm _ _ _ h) hr
 | dat nw cs b off vs hb hs hv hd=>
  have hok:∀b,C'.ok ow' nw b->b<w.heap.size->C.ok ow nw b:=by cases nw with|true=>exact hn|false=>exact ho
  exact .dat nw cs b off vs (hok b hb hs) hs hv λj y hy=>(hd j y hy).mono (Nat.le_refl _) λb h1 h2=>⟨hok b h1 h2,rfl⟩
 | fn f cap vs hl h ih=>exact .fn f cap vs hl ih
theorem JI {cs:List AV}(h:hasOL cs=false):∀(i:Nat) c,cs[i]?=some c->Gc c=false:=by
 induction cs with
 | nil=>intro i c h;simp at h
 | cons x r ih=>
  simp only[hasOL,Bool.or_eq_false_iff]at h;intro i c hc
  cases i with
  | zero=>simp only[List.getElem?_cons_zero,oI]at hc;subst hc;exact h.1
  | succ i=>exact ih h.2 i c (by simpa using hc)
theorem VR.convN {C':Cx}{ow ow':Nat->Prop}(hn:∀b,C'.okn ow' b->b<w.heap.size->C.okn ow b)(hm:∀i v l,m' i v=some l->m i v=some l){x:AV}{v:Value}(h:VR w C' ow' m' x v)(hO:Gc x=false):VR w C ow m x v:=by
 induction h with
 | any v=>exact .any v
 | n x v h=>exact .n x v (h.mono (Nat.le_refl _) λb h1 h2=>⟨hn b h1 h2,rfl⟩)
 | o x v h=>simp[Gc]at hO
 | agg cs vs hl h ih=>exact .agg cs vs hl λi c v h1 h2=>ih i c v h1 h2 (JI (by simpa[Gc] using hO) i c h1)
 | tup cs vs hl h ih=>exact .tup cs vs hl λi c v h1 h2=>ih i c v h1 h2 (JI (by simpa[Gc] using hO) i c h1)
 | ptr id off b h=>exact .ptr id off b (hm _ _ _ h)
 | elt id ver sz i off b n c h=>exact .elt id ver sz i off b n c (hm _ _ _ h)
 | nilp=>exact .nilp
 | undef=>exact .undef
 | row id ver l h hr=>exact .row id ver l (hm _ _ _ h) hr
 | dat nw cs b off vs hb hs hv hd=>
  cases nw with
  | false=>simp[Gc]at hO
  | true=>exact .dat true cs b off vs (hn b hb hs) hs hv λj y hy=>(hd j y hy).mono (Nat.le_refl _) λb h1 h2=>⟨hn b h1 h2,rfl⟩
 | fn f cap vs hl h ih=>exact .fn f cap vs hl λi c v h1 h2=>ih i c v h1 h2 (JI (by simpa[Gc] using hO) i c h1)
theorem ObR.conv {C':Cx}{ow ow':Nat->Prop}(hN:C.N<=C'.N)(hn:∀b,C'.okn ow' b->b<w.heap.size->C.okn ow b)(ho:∀b,C'.okm ow' b->b<w.heap.size->C.okm ow b)(hm:∀i v l,m' i v=some l->m i v=some l){i:Nat}{o:Ob}(h:ObR w C' ow' m' i o):ObR w C ow m i o:=by
 cases o with
 | box cs=> obtain⟨b,t,c,e1,e2,e3,e4⟩:=h;exact⟨b,t,c,hm _ _ _ e1,e2,e3,λk x v hx hv=>(e4 k x v hx hv).conv hn ho hm⟩
 | row fz nw ver e sz els=>
  obtain⟨l,xs,e1,e2,e3,e4,e5,e6⟩:=h;have hok:∀b,C'.ok ow' nw b->b<w.heap.size->C.ok ow nw b:=by cases nw with|true=>exact hn|false=>exact ho
  exact⟨l,xs,hm _ _ _ e1,e2,e3,e4,λk x j y v h1 h2 h3=>(e5 k x j y v h1 h2 h3).mono (Nat.le_refl _) λb h1 h2=>⟨hok b h1 h2,rfl⟩,λh b hb=>Nat.le_trans hN (e6 h b hb)⟩
theorem KX (hr:HR w C own m H)(hN:C.N<=w.heap.size){ids lent L:List Nat}{m1:Places}{H1:Heap}{r:AV}{u:Value}
   (hext:(∀i v l,ids.contains i=true->m i v=some l->m1 i v=some l)/\∀i v l b,m1 i v=some l->l.block=some b->b<w.heap.size->∃v' l',m i v'=some l'/\l'.block=some b)
   (hr1:HR w' ⟨w.heap.size,B6 w C m H ids lent⟩ (λb=>∃id o,ids.contains id=true/\H.get id=some o/\HC m id o b) m1 H1)
   (hv:VR w' ⟨w.heap.size,B6 w C m H ids lent⟩ (owned H1 m1) m1 r u) (hk:Keep w.heap.size (λb=>∃id o,ids.contains id=true/\H.get id=some o/\HC m id o b) w w')
   (hall:∀i,ids.contains i=true->(H.get i).isSome=true->(H1.get i).isSome=true) (hfresh:∀i,(H1.get i).isSome=true->ids.contains i=false->H.get i=none)
   (hrow:∀i,L.contains i=true->∃fz nw v e sz els,H.get i=some (.row fz nw v e sz els)) (hL:L=lent\/(L=[]/\(∀i,H1.get i=none)/\Gc r=false)):
   ∃m2,Step C w (owned H m) m w' (owned ((H.freeze L).merge H1) m2) m2/\HR w' C own m2 ((H.freeze L).merge H1)/\VR w' C (owned ((H.freeze L).merge H1) m2) m2 r u/\Keep C.N own w w':=by
 let m2:Places:=λi v=>match m1 i v with|some l=>some l|none=>m i v
 have hget:∀i,((H.freeze L).merge H1).get i=match H1.get i with|some o=>some o|none=>(H.freeze L).get i:=Heap.get_merge _ _
 have hm0:∀i,H.get i=none->∀v,m i v=none:=λi hi v=>by
   cases h:m i v with
   | none=>rfl
   | some l=>have:=hr.dom _ _ _ h;rw[hi]at this;cases this
 have hm1:∀i,H1.get i=none->∀v,m1 i v=none:=λi hi v=>by
   cases h:m1 i v with
   | none=>rfl
   | some l=>have:=hr1.dom _ _ _ h;rw[hi]at this;cases this
 -- in the callee's part m2 is m1, else it is m
 have in1:∀i,(H1.get i).isSome=true->∀v,m2 i v=m1 i v:=λi hi v=>by
   simp only[m2]
   cases h:m1 i v with
   | some l=>rfl
   | none=>
     cases hm:m i v with
     | none=>rfl
     | some l=>
       cases hc:ids.contains i with
       | true=>rw[hext.1 i v l hc hm]at h;cases h
       | false=>rw[hm0 i (hfresh i hi hc)]at hm;cases hm
 have in2:∀i,H1.get i=none->∀v,m2 i v=m i v:=λi hi v=>by simp only[m2,hm1 i hi v]
 have ext1:∀i v l,m1 i v=some l->m2 i v=some l:=λi v l h=>by simp only[m2,h]
 have ext:∀i v l,m i v=some l->m2 i v=some l:=λi v l h=>by
   cases hg:H1.get i with
   | none=>rw[in2 i hg];exact h
   | some o=>
     rw[in1 i (by rw[hg];rfl)]
     cases hc:ids.contains i with
     | true=>exact hext.1 i v l hc h
     | false=>rw[hm0 i (hfresh i (by rw[hg];rfl) hc)]at h;cases h
 have lies1:∀i o b,(H1.get i).isSome=true->(lies m2 i o b ↔ lies m1 i o b):=λi o b hi=>by
   cases o<;>simp only[lies,in1 i hi]
 have lies2:∀i o b,H1.get i=none->(lies m2 i o b ↔ lies m i o b):=λi o b hi=>by
   cases o<;>simp only[lies,in2 i hi]
 -- who HC what, then
 have own2:∀b,owned ((H.freeze L).merge H1) m2 b->owned H1 m1 b\/∃i o,H1.get i=none/\(H.freeze L).get i=some o/\HC m i o b:=by
   rintro b ⟨i,o,hg,hf,hl⟩
   rw[hget]at hg
   cases h1:H1.get i with
   | some o1=>
     rw[h1]at hg
     simp only[oI]at hg
     subst hg
     exact .inl ⟨i,_,h1,hf,(lies1 i _ b (by rw[h1];rfl)).1 hl⟩
   | none=>
     rw[h1]at hg
     exact .inr ⟨i,o,h1,hg,hf,(lies2 i o b h1).1 hl⟩
 have fz:∀i o b,(H.freeze L).get i=some o->HC m i o b->∃o',H.get i=some o'/\HC m i o' b/\L.contains i=false:=by
   intro i o b hg ho
   rw[Heap.get_freeze]at hg
   split at hg
   · rename_i fz nw v e sz els hh
     simp only[oI]at hg
     subst hg
     have:=ho.1
     simp only[Ob.frozen,Bool.or_eq_false_iff]at this
     exact⟨_,hh,⟨this.1,ho.2⟩,this.2⟩
   · cases o with
     | box cs=>
       refine⟨_,hg,ho,?_⟩
       cases hc:L.contains i with
       | false=>rfl
       | true=>
         obtain⟨_,_,_,_,_,_,h⟩:=hrow i hc
         rw[hg]at h;cases h
     | row fz nw v e sz els=>rename_i hn;exact absurd hg (hn _ _ _ _ _ _)
 have sub_owned:∀b,(∃id o,ids.contains id=true/\H.get id=some o/\HC m id o b)->owned H m b:=λb ⟨i,o,_,h1,h2⟩=>⟨i,o,h1,h2⟩
 have nin:∀i o,H1.get i=none->H.get i=some o->ids.contains i=false:=λi o h1 h2=>by
   cases hc:ids.contains i with
   | false=>rfl
   | true=>have:=hall i hc (by rw[h2];rfl);rw[h1]at this;cases this
 -- what the callee tells as data or new is so for the caller
 have hn:∀b,(⟨w.heap.size,B6 w C m H ids lent⟩:Cx).okn (owned H1 m1) b->b<w'.heap.size->C.okn (owned ((H.freeze L).merge H1) m2) b:=by
   intro b h1 _
   have hge:w.heap.size<=b:=h1.1
   refine⟨by omega,λh=>?_⟩
   rcases own2 b h with h|⟨i,o,_,h3,h4⟩
   · exact h1.2 h
   · obtain⟨o',h5,h6,_⟩:=fz i o b h3 h4
     have:=(Ej hr h6.2).1
     omega
 have ho:L=lent->∀b,(⟨w.heap.size,B6 w C m H ids lent⟩:Cx).okm (owned H1 m1) b->b<w'.heap.size->C.okm (owned ((H.freeze L).merge H1) m2) b:=by
   rintro rfl b h1 _
   refine⟨?_,λh=>?_⟩
   · rcases h1.1 with h|h
     · exact h.2.1
     · have hge:w.heap.size<=b:=h
       exact .inr (by omega)
   · rcases own2 b h with h|⟨i,o,hi,h3,h4⟩
     · exact h1.2 h
     · obtain⟨o',h5,h6,h7⟩:=fz i o b h3 h4
       rcases h1.1 with h|h
       · exact h.2.2 ⟨i,o',nin i o' hi h5,h7,h5,h6⟩
       · have hge:w.heap.size<=b:=h
         have:=(Ej hr h6.2).1
         omega
 have hnot:∀b,b<w.heap.size->¬owned H m b->¬owned ((H.freeze L).merge H1) m2 b:=by
   intro b hb h h'
   rcases own2 b h' with h1|⟨i,o,_,h3,h4⟩
   · rcases hr1.base b h1 with h2|h2
     · exact h (sub_owned b h2)
     · have hge:w.heap.size<=b:=h2
       omega
   · obtain⟨o',h5,h6,_⟩:=fz i o b h3 h4
     exact h ⟨i,o',h5,h6⟩
 have S:Step C w (owned H m) m w' (owned ((H.freeze L).merge H1) m2) m2:=by
   refine⟨hk.size,λb h hb=>⟨⟨h.1,hnot b hb h.2⟩,hk.block b hb λh'=>h.2 (sub_owned b h')⟩,λb h hb=>⟨⟨h.1,hnot b hb h.2⟩,hk.block b hb λh'=>h.2 (sub_owned b h')⟩,ext,λi v l b h hb hlt=>?_⟩
   cases hg:H1.get i with
   | none=>rw[in2 i hg]at h;exact⟨v,l,h,hb⟩
   | some o=>rw[in1 i (by rw[hg];rfl)]at h;exact hext.2 i v l b h hb hlt
 refine⟨m2,S,⟨λi o hg=>?_,λi v l j v' l' b h1 h2 b1 b2=>?_,λb h=>?_,λi v l h=>?_,λi o v hg hlt=>?_,λi v l b h hb=>?_⟩,?_,?_⟩
 · rw[hget]at hg
   cases h1:H1.get i with
   | some o1=>
     rw[h1]at hg
     simp only[oI]at hg
     subst hg
     rcases hL with hL|⟨_,hempty,_⟩
     · exact(hr1.objs i _ h1).conv (by exact hN) hn (ho hL) ext1
     · rw[hempty]at h1;cases h1
   | none=>
     rw[h1]at hg
     obtain⟨o',h2,h3,h4⟩:=H9 (m:=m2) hg
     refine h4 _ _ _ ((hr.objs i o' h2).step S λb hl=>hk.block b (Ej hr hl).1 ?_)
     rintro⟨j,p,hj,hg',hp⟩
     obtain rfl:=hr.inj i j o' p b h2 hg' hl hp.2
     rw[nin i o' h1 h2]at hj;cases hj
 · have key:∀k vk lk,m2 k vk=some lk->lk.block=some b->b<w.heap.size->∃v l,m k v=some l/\l.block=some b:=λk vk lk hk' hb' hlt=>S.q k vk lk b hk' hb' hlt
   by_cases hb:b<w.heap.size
   · obtain⟨v1,l1,e1,e1'⟩:=key i v l h1 b1 hb
     obtain⟨v2,l2,e2,e2'⟩:=key j v' l' h2 b2 hb
     exact hr.inj' i v1 l1 j v2 l2 b e1 e2 e1' e2'
   · have from1:∀k vk lk,m2 k vk=some lk->lk.block=some b->m1 k vk=some lk:=λk vk lk hk' hb'=>by
       cases hg:H1.get k with
       | some o=>rw[in1 k (by rw[hg];rfl)]at hk';exact hk'
       | none=>rw[in2 k hg]at hk';exact absurd (hr.lt k vk lk b hk' hb').1 hb
     exact hr1.inj' i v l j v' l' b (from1 i v l h1 b1) (from1 j v' l' h2 b2) b1 b2
 · rcases own2 b h with h1|⟨i,o,_,h3,h4⟩
   · rcases hr1.base b h1 with h2|h2
     · exact hr.base b (sub_owned b h2)
     · have hge:w.heap.size<=b:=h2
       exact .inr (by omega)
   · obtain⟨o',h5,h6,_⟩:=fz i o b h3 h4
     exact hr.base b ⟨i,o',h5,h6⟩
 · rw[hget]
   cases hg:H1.get i with
   | some o=>rfl
   | none=>
     rw[in2 i hg]at h
     have:=hr.dom i v l h
     simp only
     rw[Heap.get_freeze]
     split
     · rfl
     · exact this
 · rw[hget]at hg
   cases h1:H1.get i with
   | some o1=>
     rw[h1]at hg
     simp only[oI]at hg
     subst hg
     rw[in1 i (by rw[h1];rfl)]
     exact hr1.top i _ v h1 hlt
   | none=>
     rw[h1]at hg
     rw[in2 i h1]
     exact(BW L hr).top i o v hg hlt
 · cases hg:H1.get i with
   | some o=>
     rw[in1 i (by rw[hg];rfl)]at h
     obtain⟨h1,h2⟩:=hr1.lt i v l b h hb
     refine⟨h1,?_⟩
     rcases h2 with h2|h2
     · exact h2.2.1
     · have hge:w.heap.size<=b:=h2
       exact .inr (by omega)
   | none=>
     rw[in2 i hg]at h
     obtain⟨h1,h2⟩:=hr.lt i v l b h hb
     exact⟨Nat.lt_of_lt_of_le h1 hk.size,h2⟩
 · rcases hL with hL|⟨_,_,hO⟩
   · exact hv.conv hn (ho hL) ext1
   · exact hv.convN hn ext1 hO
 · refine⟨hk.os,hk.tape,hk.output,hk.size,λb hb hno=>hk.block b (by omega) λh=>?_⟩
   rcases hr.base b (sub_owned b h) with h|h
   · exact hno h
   · omega
theorem HR.fewer {ids:List Nat}(hr:HR w C own m H)(hcl:∀i cs,ids.contains i=true->H.get i=some (.box cs)->∀k∈refsL cs++rowsInL cs,ids.contains k=true):
  HR w C own (m.only ids) (H.keep ids)/\Less C w (owned H m) (owned (H.keep ids) (m.only ids)):=by
 have hH:∀i,(H.keep ids).get i=if ids.contains i then (H.get i).map id else none:=λi=>by rw[Heap.get_keep];split<;>simp
 have hle:∀b,owned (H.keep ids) (m.only ids) b->owned H m b:=λb h=>by obtain⟨i,o,_,h1,h2⟩:=owned_only.1 h;exact⟨i,o,h1,h2⟩
 refine⟨HR.restrict hr hH (λ_ _ _ _=>Iff.rfl) (λ_=>rfl) (λ_=>rfl) hcl (λi o hi hg h=>?_) (λb h=>hr.base b (hle b h)) λi v l b hi hm hb=>(hr.lt i v l b hm hb).2,⟨λb _ h h'=>h (hle b h')⟩⟩
 exact ObR.conv (Nat.le_refl _) (λb h _=>⟨h.1,λh'=>h.2 (hle b h')⟩) (λb h _=>⟨h.1,λh'=>h.2 (hle b h')⟩) (λ_ _ _ h=>h) h
theorem Vq (hr:HR w C own m H){ids lent:List Nat}{b:Nat}(h:∃id o,ids.contains id=true/\H.get id=some o/\HC m id o b):B6 w C m H ids lent b:=by obtain⟨i,o,hi,hg,ho⟩:=h;have hlt:=Ej hr ho.2;refine⟨hlt.1,hlt.2,?_⟩;rintro⟨j,p,hj,_,hg',ho'⟩;obtain rfl:=hr.inj i j o p b hg hg' ho.2 ho'.2;rw[hi]at hj;cases hj
def pF (P:Program)(call:Al):Prop:=∀f args H r H',call f args H=some (r,H')->Spec P f args H r H'
theorem get_mem {i:Nat}{o:Ob}:∀ {H:Heap},H.get i=some o->(i,o)∈H
 | [],h=>by cases h
 | (k,o')::r,h=>by
  simp only[Heap.get]at h;split at h;·rename_i e;simp only[oI]at h;subst e h;exact List.mem_cons_self ..
  ·exact List.mem_cons_of_mem _ (get_mem h)
theorem F9 (a b i:Nat):I9 a b (I9 a b i)=i:=by
 unfold I9;by_cases h1:i=a
 ·subst h1;rw[if_pos rfl];by_cases h:b=i;·rw[if_pos h,h]
  ·rw[if_neg h,if_pos rfl]
 ·rw[if_neg h1];by_cases h2:i=b;·subst h2;rw[if_pos rfl,if_pos rfl]
  ·rw[if_neg h2,if_neg h1,if_neg h2]
theorem fF {a b i j:Nat}(h:I9 a b i=I9 a b j):i=j:=by rw[<-F9 a b i,h,F9]
theorem WI {a b i:Nat}(h1:i≠a)(h2:i≠b):I9 a b i=i:=by unfold I9;rw[if_neg h1,if_neg h2]
def Places.swp (a b:Nat)(m:Places):Places:=λi v=>m (I9 a b i) v
theorem KS (a b:Nat):∀(cs:List AV) (i:Nat),(swpL a b cs)[i]?=(cs[i]?).map (RU a b)
 | [],i=>by simp[swpL]
 | x::r,0=>by simp[swpL]
 | x::r,i+1=>by simpa[swpL] using KS a b r i
theorem G3 (a b:Nat):∀(cs:List AV),(swpL a b cs).length=cs.length
 | []=>rfl
 | x::r=>by simp[swpL,G3 a b r]
theorem VR.swp (a b:Nat){ow:Nat->Prop}{x:AV}{v:Value}(h:VR w C ow m x v):VR w C ow (m.swp a b) (RU a b x) v:=by
 have key:∀ {i:Nat} {v:Nat} {l:Loc},m i v=some l->m.swp a b (I9 a b i) v=some l:=λ{i v l} h=>by show m (I9 a b (I9 a b i)) v=some l;rw[F9];exact h
 have many:∀ {cs:List AV} {vs:List Value},(∀(i:Nat) c v,cs[i]?=some c->vs[i]?=some v->VR w C ow (m.swp a b) (RU a b c) v)->∀(i:Nat) c v,(swpL a b cs)[i]?=some c->vs[i]?=some v->VR w C ow (m.swp a b) c v:=λ{cs vs} ih i c v h1 h2=>by rw[KS]at h1;obtain⟨c',h3,rfl⟩:=Option.map_eq_some_iff.1 h1;exact ih i c' v h3 h2
 induction h with
 | any v=>exact .any v
 | n x v h=>exact .n x v h
 | o x v h=>exact .o x v h
 | agg cs vs hl h ih=>exact .agg _ vs ((G3 a b cs).trans hl) (many ih)
 | tup cs vs hl h ih=>exact .tup _ vs ((G3 a b cs).trans hl) (many ih)
 | ptr id off b' h=>exact .ptr _ off b' (key h)
 | elt id ver sz i off b' n c h=>exact .elt _ ver sz i off b' n c (key h)
 | nilp=>exact .nilp
 | undef=>exact .undef
 | row id ver l h hr=>exact .row _ ver l (key h) hr
 | dat nw cs b' off vs hb hs hv hd=>exact .dat nw cs b' off vs hb hs hv hd
 | fn f cap vs hl h ih=>exact .fn f _ vs ((G3 a b cap).trans hl) (many ih)
theorem Heap.get_swp (a b:Nat):∀(H:Heap) (i:Nat),(H.swp a b).get i=(H.get (I9 a b i)).map (Ob.swp a b)
 | [],i=>rfl
 | (k,o)::r,i=>by
  show((Heap.swp a b r).ins (I9 a b k) (o.swp a b)).get i=_;rw[Heap.get_ins];simp only[Heap.get];by_cases h:i=I9 a b k;·rw[if_pos h,if_pos (by rw[h,F9])];rfl
  ·rw[if_neg h,if_neg (λe=>h (by rw[e,F9])),Heap.get_swp a b r i]
theorem swp_lies {a b i b':Nat}{o:Ob}:lies (m.swp a b) i (o.swp a b) b' ↔ lies m (I9 a b i) o b':=by cases o<;>exact Iff.rfl
theorem Lm {a b:Nat}{o:Ob}:(o.swp a b).frozen=o.frozen:=by cases o<;>rfl
theorem aE {a b:Nat}{o:Ob}:(o.swp a b).ver=o.ver:=by cases o<;>rfl
theorem Jp (a b:Nat):owned (H.swp a b) (m.swp a b)=owned H m:=by
 funext b';refine propext ⟨?_,?_⟩;·rintro⟨i,o,hg,h1,h2⟩;rw[Heap.get_swp]at hg;obtain⟨o',hg',rfl⟩:=Option.map_eq_some_iff.1 hg;exact⟨_,o',hg',by rw[<-h1,Lm],swp_lies.1 h2⟩
 ·rintro⟨i,o,hg,h1,h2⟩;refine⟨I9 a b i,o.swp a b,?_,by rw[Lm];exact h1,swp_lies.2 (by rw[F9];exact h2)⟩;rw[Heap.get_swp,F9,hg];rfl
theorem HR.swp (a b:Nat)(h:HR w C own m H):HR w C own (m.swp a b) (H.swp a b):=by
 refine⟨λi o hg=>?_,λi v l j v' l' b' h1 h2 h3 h4=>fF (h.inj' _ v l _ v' l' b' h1 h2 h3 h4),λb' hb=>h.base b' (by rw[Jp]at hb;exact hb),λi v l hm=>?_,λi o v hg hv=>?_,λi v l b' hm hb=>h.lt _ v l b' hm hb⟩
 ·rw[Jp];rw[Heap.get_swp]at hg;obtain⟨o',hg',rfl⟩:=Option.map_eq_some_iff.1 hg;have:=h.objs _ _ hg'
  cases o' with
  | box cs=> obtain⟨b',t,c,e1,e2,e3,e4⟩:=this;refine⟨b',t,c,e1,e2,e3.trans (G3 a b cs).symm,λk x v hx hv=>?_⟩;rw[KS]at hx;obtain⟨x',hx',rfl⟩:=Option.map_eq_some_iff.1 hx;exact(e4 k x' v hx' hv).swp a b
  | row fz nw ver e sz els=>exact this
 ·rw[Heap.get_swp];have:=h.dom _ v l hm;simpa using this
 ·rw[Heap.get_swp]at hg;obtain⟨o',hg',rfl⟩:=Option.map_eq_some_iff.1 hg;exact h.top _ o' v hg' (by rw[<-aE (a:=a) (b:=b)];exact hv)
theorem XI {own1:Nat->Prop}{Cc:Cx}{ids:List Nat}(hdom:∀i v l,m i v=some l->(H.get i).isSome=true):∀ {prs:List (Nat×Nat)} {m1:Places} {r:AV} {H1:Heap} {u:Value},Np ids H prs=false ->
   ((∀i v l,ids.contains i=true->m i v=some l->m1 i v=some l)/\∀i v l b,m1 i v=some l->l.block=some b->b<w.heap.size->∃v' l',m i v'=some l'/\l'.block=some b) ->
   HR w' Cc own1 m1 H1->VR w' Cc (owned H1 m1) m1 r u->(∀i,ids.contains i=true->(H.get i).isSome=true->(H1.get i).isSome=true) ->
   ∃m2,((∀i v l,ids.contains i=true->m i v=some l->m2 i v=some l)/\∀i v l b,m2 i v=some l->l.block=some b->b<w.heap.size->∃v' l',m i v'=some l'/\l'.block=some b) /\
     HR w' Cc own1 m2 (Gg prs (r,H1)).2/\VR w' Cc (owned (Gg prs (r,H1)).2 m2) m2 (Gg prs (r,H1)).1 u/\(∀i,ids.contains i=true->(H.get i).isSome=true->((Gg prs (r,H1)).2.get i).isSome=true)
 | [],m1,r,H1,u,_,h1,h2,h3,h4=>⟨m1,h1,h2,h3,h4⟩
 | (a,b)::prs,m1,r,H1,u,hb,h1,h2,h3,h4=>by
  simp only[Np,List.any_cons,Bool.or_eq_false_iff]at hb;obtain⟨⟨⟨⟨b1,b2⟩,b3⟩,b4⟩,b5⟩:=hb;have none_of:∀ {i:Nat},(H.get i).isSome=false->∀v l,m i v=some l->False:=λh v l hm=>by rw[hdom _ v l hm]at h;cases h
  have other:∀ {i:Nat},ids.contains i=true->I9 a b i=i:=λ{i} hi=>WI (λe=>by subst e;rw[b1]at hi;cases hi) (λe=>by subst e;rw[b2]at hi;cases hi);refine XI hdom (prs:=prs) (m1:=m1.swp a b) (r:=RU a b r) (H1:=H1.swp a b) b5 ⟨λi v l hi hm=>?_,λi v l b' hm hb' hlt=>?_⟩ (h2.swp a b) ?_ λi hi hg=>?_;·show m1 (I9 a b i) v=some l;rw[other hi];exact h1.1 i v l hi hm
  ·obtain⟨v',l',g1,g2⟩:=h1.2 (I9 a b i) v l b' hm hb' hlt;have hne:I9 a b i=i:=by
    by_cases e1:i=a
    ·subst e1;exfalso;have:I9 i b i=b:=by unfold I9;rw[if_pos rfl]
     rw[this]at g1;exact none_of b4 v' l' g1
    ·by_cases e2:i=b
     ·subst e2;exfalso;have:I9 a i i=a:=by unfold I9;rw[if_neg e1,if_pos rfl]
      rw[this]at g1;exact none_of b3 v' l' g1
     ·exact WI e1 e2
   rw[hne]at g1;exact⟨v',l',g1,g2⟩
  ·have:=h3.swp a b;rw[Jp];exact this
  ·rw[Heap.get_swp,other hi];simpa using h4 i hi hg
theorem Z5 {call:Al}(hcall:pF P call)(hr:HR w C own m H)(hal:∀b,own b->C.al b)(hN:C.N<=w.heap.size){o:Bool}{f:Nat}{as:List AV}{us:List Value}{v:AV}{H':Heap}(hc:Cells w C (owned H m) m as us)
   (h:AF call o H f as=some (v,H')):Calls P (Cd o f) us.toArray w λe w'=>∃u m2,e = .returned u/\Step C w (owned H m) m w' (owned H' m2) m2/\HR w' C own m2 H'/\VR w' C (owned H' m2) m2 v u/\Keep C.N own w w':=by
 unfold AF at h
 split at h<;>try (simp at h;done)
 rename_i as' hsn0
 obtain⟨lent,hlent⟩:∃lent,BY o f as=lent:=⟨_,rfl⟩
 have hsn:(as'=as/\lent=[])\/(snapL H as=some as'/\lent=rowsInL as):=by
  subst hlent;unfold Be at hsn0;unfold BY
  cases o with
  | true=>
   simp only at hsn0
   cases hR:Gk f with
   | true=>rw[hR]at hsn0;simp only[oI]at hsn0;exact .inl ⟨hsn0.symm,rfl⟩
   | false=>rw[hR]at hsn0;exact .inr ⟨hsn0,rfl⟩
  | false=>exact .inr ⟨hsn0,rfl⟩
 simp only at h
 rw[hlent]at h
 split at h<;>try (simp at h;done)
 rename_i hchk
 simp only[Bool.or_eq_true,Bool.not_eq_true',not_or,Bool.not_eq_true,Bool.not_eq_false]at hchk
 obtain⟨hdis',hcl⟩:=hchk
 split at h<;>try (simp at h;done)
 rename_i r H1 hrun
 generalize hids:H.reach 1000 (BJ o f as') []=ids at h hdis' hcl hrun
 have hdis:∀i∈lent,ids.contains i=false:=λi hi=>by
  cases hcc:ids.contains i with
  | false=>rfl
  | true=> have:lent.any ids.contains=true:=List.any_eq_true.2 ⟨i,hi,hcc⟩;rw[this]at hdis';cases hdis'
 have hrows:∀i,lent.contains i=true->∃fz nw v e sz els,H.get i=some (.row fz nw v e sz els):=λi hi=>by
  rcases hsn with⟨_,rfl⟩|⟨hs,rfl⟩
  ·simp at hi
  ·exact snapL_rows as hs i (by simpa using hi)
 have hargs:Cells w C (λb=>owned H m b/\¬ ∃i o,i∈lent/\H.get i=some o/\lies m i o b) m as' us:=by
  rcases hsn with⟨rfl,rfl⟩|⟨hs,rfl⟩
  ·have e:(λb=>owned H m b/\¬ ∃i o,i∈([]:List Nat)/\H.get i=some o/\lies m i o b)=owned H m:=by funext b;exact propext ⟨λh=>h.1,λh=>⟨h,by rintro⟨i,o,hi,_⟩;cases hi⟩⟩
   rw[e];exact hc
  ·exact snapL_ok hr hal ⟨λb _ h h'=>h h'.1⟩ as hc hs λi hi o b hg hl h=>h.2 ⟨i,o,hi,hg,hl⟩
 refine(RR hr hal hargs hdis hcl (hcall _ _ _ _ _ hrun)).mono ?_
 rintro e w' ⟨u,m1,rfl,hext,hr1,hv,hk,hall⟩
 have fresh:∀ {H1:Heap},H1.any (λp => !ids.contains p.1&&(H.get p.1).isSome)=false->∀i,(H1.get i).isSome=true->ids.contains i=false->H.get i=none:=λ{H1} ha i hi hc=>by
  obtain⟨ob,hob⟩:=Option.isSome_iff_exists.1 hi
  cases hg:H.get i with
  | none=>rfl
  | some o'=> have:H1.any (λp => !ids.contains p.1&&(H.get p.1).isSome)=true:=List.any_eq_true.2 ⟨(i,ob),get_mem hob,by simp only[hc,hg];rfl⟩;rw[this]at ha;cases ha
 cases o with
 | true=>
  simp only[ER]at h
  generalize (if Bz f=0 then [] else CY (Bz f) ids 0 H1)=prs at h
  split at h<;>try (simp at h;done)
  split at h<;>try (simp at h;done)
  rename_i hbad
  simp only[Bool.not_eq_true]at hbad
  split at h<;>simp only[oI,reduceCtorEq,pI]at h
  rename_i ha
  simp only[Bool.not_eq_true]at ha
  obtain⟨rfl,rfl⟩:=h
  obtain⟨m3,hext3,hr3,hv3,hall3⟩:=XI hr.dom hbad hext hr1 hv hall
  generalize Gg prs (r,H1)=q at *
  obtain⟨m2,h1,h2,h3,h4⟩:=KX hr hN (L:=if q.2.isEmpty && !Gc q.1 then [] else lent) hext3 hr3 hv3 hk hall3 (fresh ha) (λi hi=>by
   split at hi;·simp at hi
   ·exact hrows i hi) (by
   by_cases hcc:(q.2.isEmpty && !Gc q.1)=true;·rw[if_pos hcc];simp only[Bool.and_eq_true,List.isEmpty_iff,Bool.not_eq_true']at hcc;refine .inr ⟨rfl,λi=>?_,hcc.2⟩;rw[hcc.1];rfl
   ·rw[if_neg hcc];exact .inl rfl)
  exact⟨u,m2,rfl,h1,h2,h3,h4⟩
 | false=>
  simp only at h
  split at h<;>try (simp at h;done)
  rename_i r' hsr
  split at h<;>simp only[oI,reduceCtorEq,pI]at h
  rename_i hchk2
  simp only[Bool.not_eq_true',Bool.not_eq_false]at hchk2
  have hcl2:=hchk2
  obtain⟨rfl,rfl⟩:=h
  obtain⟨hc1,hc2⟩:=Dm hcl2
  have hal1:∀b,(∃id o,ids.contains id=true/\H.get id=some o/\HC m id o b)->(⟨w.heap.size,B6 w C m H ids lent⟩:Cx).al b:=λb hb=>Vq hr hb
  have hrf:=BW (Ak r) hr1
  have hvf:=C7 hr1 hal1 hv hsr
  obtain⟨hr2,L2⟩:=hrf.fewer (ids:=ids) (λi cs hi hg=>by
   obtain⟨o',h1,_,_⟩:=H9 (m:=m1) hg;have:H1.get i=some (.box cs):=by
    rw[Heap.get_freeze]at hg;split at hg;·cases hg
    ·exact hg
   exact hc2 i cs hi this)
  have hv2:VR w' ⟨w.heap.size,B6 w C m H ids lent⟩ (owned ((H1.freeze (Ak r)).keep ids) (m1.only ids)) (m1.only ids) r' u:=
    (hvf.only (λi hi=>hc1 i (by simpa[refsL,rowsInL] using hi))).conv (λb h1 h2=>L2.n b h1 h2) (λb h1 h2=>L2.o b h1 h2) (λ_ _ _ h=>h)
  have hsome:∀i,ids.contains i=true->(H.get i).isSome=true->(((H1.freeze (Ak r)).keep ids).get i).isSome=true:=λi hi hg=>by
   have:=hall i hi hg;rw[Heap.get_keep,if_pos hi,Heap.get_freeze];split;·rfl
   ·exact this
  obtain⟨m2,h1,h2,h3,h4⟩:=KX hr hN (L:=if ids.isEmpty && !Gc r' then [] else lent) ⟨λi v l hi hm=>Places.only_some.2 ⟨hi,hext.1 i v l hi hm⟩,λi v l b h hb hlt=>hext.2 i v l b (Places.only_some.1 h).2 hb hlt⟩ hr2 hv2 hk hsome
    (λi hi hc=>by rw[Heap.get_keep,if_neg (by rw[hc];simp)]at hi;cases hi) (λi hi=>by
    split at hi
    ·simp at hi
    ·exact hrows i hi) (by
    by_cases hcc:(ids.isEmpty && !Gc r')=true
    ·rw[if_pos hcc]
     simp only[Bool.and_eq_true,List.isEmpty_iff,Bool.not_eq_true']at hcc
     refine .inr ⟨rfl,λi=>?_,hcc.2⟩
     rw[hcc.1,Heap.get_keep];rfl
    ·rw[if_neg hcc];exact .inl rfl)
  exact⟨u,m2,rfl,h1,h2,h3,h4⟩
end
end Go.Mir
