import Derived.Test.YtclgengkohbjjaaGreatDoorMirT
import Derived.Shelf.SlicesE.Delete
import Derived.Shelf.Spec.SlicesInsert
import Derived.Shelf.Spec.SlicesInsertGrow
import Derived.Shelf.Spec.SlicesGrow
namespace Go.Mir
set_option linter.unusedVariables false
set_option linter.unusedSimpArgs false
open Go.RowKit Go.Proofs Go.Shelf Go.Lib
section
variable {w w':World} {C:Cx} {own:Nat→Prop} {m:Places} {H:Heap}
theorem own_upd (hr:HR w C own m H) (hN:C.N≤w.heap.size) {id v0 e:Nat} {nw0:Bool} {els0 els:List D} (hg0:H.get id=some (.row false nw0 v0 e 1 els0)) {l:Loc} (hl0:m id v0=some l) (hlr:l.isRow=true)
  {v':Value} {xs':List Value} (hown':w'.ownsRow 0 e 1 v' els.length xs') (hg:w.grownBy w' l.val.ownBlock) (hat:v'.ownBlock=l.val.ownBlock∨∀k,v'.ownBlock=some k→w.heap.size≤k)
  (hsz:∀(i:Nat) (x:D),els[i]?=some x→x.cells.length=1)
  (hd:∀(i:Nat) (x:D) (j:Nat) (y:D) u,els[i]?=some x→x.cells[j]?=some y→xs'[i*1+j]?=some u→DR w (C.okm (owned H m)) y u):
  ∃m',Step C w (owned H m) m w' (owned (H.ins id (.row false false (v0+1) e 1 els)) m') m'∧HR w' C own m' (H.ins id (.row false false (v0+1) e 1 els))∧VR w' C (owned (H.ins id (.row false false (v0+1) e 1 els)) m') m' (.row id (v0+1)) v'∧Keep C.N own w w':=by
 obtain ⟨l',hl1,rfl,hl3⟩:=ownsRow_loc hown'
 have hm0:m id (v0+1)=none:=hr.top id _ (v0+1) hg0 (by simp[Ob.ver])
 have hvb:∀b,l.val.ownBlock=some b→∃o0,H.get id=some o0∧lies m id o0 b:=fun b hb=>⟨_,hg0,l,hl0,by rw[←Loc.own_block hlr];exact hb⟩
 have hlb:∀b,l'.block=some b→b<w'.heap.size∧((∃o,H.get id=some o∧lies m id o b)∨w.heap.size≤b):=fun b hb=>by
  rw[hl3]at hb
  refine ⟨(hown'.lt b hb).2,?_⟩
  rcases hat with e1|e1
  · rw[e1]at hb;exact .inl (hvb b hb)
  · exact .inr (e1 b hb)
 have U:Upd w m H id (.row false false (v0+1) e 1 els) w' (m.set id (v0+1) l'):=by
  refine ⟨fun i v l h => ?_,fun i v l h => ?_,hg.size,fun k hk hnl=>hg.block k hk fun e1 => ?_,fun o1 h1 => ?_,fun k hk => ?_,fun v hv => ?_,hg.os,hg.tape,hg.output⟩
  · simp only[Places.set]
    rw[if_neg]
    · exact h
    · rintro ⟨rfl,rfl⟩;rw[hm0]at h;cases h
  · simp only[Places.set]at h
    split at h
    · rename_i hc
      simp only[Option.some.injEq]at h
      subst h
      exact .inr ⟨hc.1,hlb⟩
    · exact .inl h
  · obtain ⟨o0,h1,h2⟩:=hvb k e1.symm
    exact hnl o0 h1 h2
  · rw[hg0]at h1;simp only[Option.some.injEq]at h1;subst h1;rfl
  · obtain ⟨l1,h1,h2⟩:=hk
    rw[Places.set_at]at h1
    simp only[Option.some.injEq]at h1
    subst h1
    exact (hlb k h2).2
  · simp only[Ob.ver]at hv
    simp only[Places.set]
    rw[if_neg (by omega)]
    exact hr.top id _ v hg0 (by simp only[Ob.ver];omega)
 have S:=U.step hr
 refine ⟨_,S,U.hr hr hN ?_,.row id _ _ (Places.set_at ..) hl1,U.keep hr hN⟩
 exact ⟨l',xs',Places.set_at ..,hl1,hown',hsz,fun i x j y u hx hy hu=>(hd i x j y u hx hy hu).mono S.size (S.ok false),fun h=>by cases h⟩
theorem row_get {b n cap e:Nat} {cur:Array Value} {xs:List Value} (hb:w.heap[b]?=some (.cells cur e (0,0))) (ht:cur.toList.take n=xs):∀(j:Nat) u,xs[j]?=some u→w.cell? ⟨b,0+j,none⟩=some u:=fun j u hu=>by
 rw[cell_of_row w b _ cur e (0,0) hb,Nat.zero_add]
 rw[←ht,List.getElem?_take]at hu
 split at hu
 · simpa using hu
 · cases hu
theorem row_free {b k e:Nat} {cur:Array Value} (hb:w.heap[b]?=some (.cells cur e (0,0))):w.frozen? ⟨b,k,none⟩=false:=by
 simp[World.frozen?,hb]
theorem row_made {b n cap e:Nat} {xs:List Value} (hl:xs.length=n) (hh:∃cur,w.heap[b]?=some (.cells cur e (0,0))∧cur.size=cap) (hn:n≤cap) (hm:cap≤maxLen) (hc:∀(j:Nat) u,xs[j]?=some u→w.cell? ⟨b,j,none⟩=some u):
   w.ownsRow 0 e 1 (.slice (some ⟨b,0,none⟩) n cap) n xs:=by
 obtain ⟨cur,hb,hs⟩:=hh
 refine ⟨by omega,.inr ⟨b,cap,cur,rfl,Nat.zero_le _,hb,hn,hm,by omega,?_⟩⟩
 apply List.ext_getElem?
 intro j
 by_cases hj:j<n
 · have:=hc j xs[j] (List.getElem?_eq_getElem (by omega))
   rw[cell_of_row w b _ cur e (0,0) hb]at this
   rw[List.getElem?_take_of_lt (by omega),List.getElem?_eq_getElem (l:=xs) (by omega),←this]
   simp
 · rw[List.getElem?_eq_none (by rw[List.length_take];omega),List.getElem?_eq_none (by omega)]
end
def updP (p:Nat→List D→List AV→Heap→Option (List D)) (e:Nat):List AV→Heap→Option (AV×Heap)
 | .row id v :: r,H=>match H.get id with
   | some (.row false _ v' e' sz els)=>if v=v'∧e'=e∧sz=1 then match p id els r H with
      | some els'=>some (.row id (v+1),H.ins id (.row false false (v+1) e 1 els'))
      | none=>none
     else none
   | _=>none
 | _,_=>none
theorem upd_spec {P:Program} {f e:Nat} {p:Nat→List D→List AV→Heap→Option (List D)} (hcall:Callable P f)
   (h:∀ {id:Nat} {els els':List D} {r:List AV} {H:Heap},p id els r H=some els'→∀(w:World) (al:Nat→Prop) (m:Places) (v:Nat) (nw:Bool) (l:Loc) (us xs:List Value),HR w ⟨w.heap.size,al⟩ (owned H m) m H→H.get id=some (.row false nw v e 1 els)→m id v=some l→l.isRow=true →
     w.ownsRow 0 e 1 l.val els.length xs→(∀(i:Nat) (x:D),els[i]?=some x→x.cells.length=1) →
     (∀(i:Nat) (x:D) (j:Nat) (y:D) u,els[i]?=some x→x.cells[j]?=some y→xs[i*1+j]?=some u→DR w ((⟨w.heap.size,al⟩:Cx).okm (owned H m)) y u) →
     Cells w ⟨w.heap.size,al⟩ (owned H m) m r us →
     Calls P f (l.val :: us).toArray w fun e' w'=>∃v' xs',e' = .returned v'∧w'.ownsRow 0 e 1 v' els'.length xs'∧w.grownBy w' l.val.ownBlock∧(v'.ownBlock=l.val.ownBlock∨∀k,v'.ownBlock=some k→w.heap.size≤k) ∧
       (∀(i:Nat) (x:D),els'[i]?=some x→x.cells.length=1) ∧
       (∀(i:Nat) (x:D) (j:Nat) (y:D) u,els'[i]?=some x→x.cells[j]?=some y→xs'[i*1+j]?=some u→DR w ((⟨w.heap.size,al⟩:Cx).okm (owned H m)) y u)) (id0:Nat):
   FunOK P f (.prim (some (id0,e,1,false)) (updP p e)):=by
 refine ⟨hcall,fun args H r H' hp => ?_⟩
 unfold updP at hp
 split at hp <;> try (cases hp;done)
 rename_i id v rest
 split at hp <;> try (cases hp;done)
 rename_i nw v' e' sz els hg
 split at hp <;> try (cases hp;done)
 rename_i hc
 obtain ⟨rfl,rfl,rfl⟩:=hc
 split at hp <;> try (cases hp;done)
 rename_i els' hels
 simp only[Option.some.injEq,Prod.mk.injEq]at hp
 obtain ⟨rfl,rfl⟩:=hp
 intro w al m vs hr hal hcs
 obtain ⟨u,us,rfl,hu,hus⟩:∃u us,vs=u :: us∧VR w ⟨w.heap.size,al⟩ (owned H m) m (.row id v) u∧Cells w ⟨w.heap.size,al⟩ (owned H m) m rest us:=by
   cases vs with
   | nil=>exact absurd hcs.1 (by simp)
   | cons u us=>exact ⟨u,us,rfl,hcs.2 0 _ u rfl rfl,by simpa using hcs.1,fun i c v hc hv=>hcs.2 (i+1) c v (by simpa using hc) (by simpa using hv)⟩
 obtain ⟨l,hl,hlr,rfl⟩:=hu.row_inv
 obtain ⟨l2,xs,hl2,_,hown,hsz,hd,_⟩:=hr.objs id _ hg
 rw[hl]at hl2
 simp only[Option.some.injEq]at hl2
 subst hl2
 have hd':∀(i:Nat) (x:D) (j:Nat) (y:D) u,els[i]?=some x→x.cells[j]?=some y→xs[i*1+j]?=some u→DR w ((⟨w.heap.size,al⟩:Cx).okm (owned H m)) y u:=fun i x j y u hx hy hu=>(hd i x j y u hx hy hu).mono (Nat.le_refl _) (fun b hb _=>⟨Cx.ok_okm hb,rfl⟩)
 refine (h hels w al m v nw l us xs hr hg hl hlr hown hsz hd' hus).mono fun e1 w1 ⟨v',xs',he,ho,hgr,hat,hsz',hdr⟩ => ?_
 obtain ⟨m',h1,h2,h3,h4⟩:=own_upd (C:=⟨w.heap.size,al⟩) hr (Nat.le_refl _) hg hl hlr ho hgr hat hsz' hdr
 refine ⟨v',m',he,⟨h1.p,h1.q⟩,h2,h3,h4,fun i hi => ?_⟩
 rw[Heap.get_ins]
 split
 · rfl
 · exact hi
def delL (_:Nat) (els:List D) (r:List AV) (_:Heap):Option (List D):=match r with
 | [.n (.int .i64 a),.n (.int .i64 b)]=>if 0≤a∧a≤b∧b.toNat≤els.length∧els≠[] then some (els.take a.toNat++els.drop b.toNat) else none
 | _=>none
abbrev V1 := { v:Value // v.oneCell'=true }
instance:Inhabited V1:=⟨⟨.int .i64 0,rfl⟩⟩
theorem del_get {α:Type} {l:List α} {a b i:Nat} (ha:a≤b) (hb:b≤l.length) {x:α} (h:(l.take a++l.drop b)[i]?=some x):∃k,l[k]?=some x∧((i<a∧k=i)∨(a≤i∧k=b+(i - a))):=by
 have hl:(l.take a).length=a:=by rw[List.length_take];omega
 rw[List.getElem?_append,hl]at h
 split at h
 · rename_i hi
   rw[List.getElem?_take_of_lt hi]at h
   exact ⟨i,h,.inl ⟨hi,rfl⟩⟩
 · rename_i hi
   rw[List.getElem?_drop]at h
   exact ⟨_,h,.inr ⟨by omega,rfl⟩⟩
set_option maxHeartbeats 1000000 in
theorem del_ok {P:Program} {ρ:Ren} (L:SlLaysE.n45 P ρ) {e:Nat} (he:ρ.t 23=e) {i0:TypeInfo} {z:Value} (hi:P.info? e=some i0) (hz0:i0.zero=some z) (hz1:i0.size=1) (hz2:z.oneCell'=true) (id0:Nat):FunOK P (ρ.f 45) (.prim (some (id0,e,1,false)) (updP delL e)):=by
 subst he
 refine upd_spec (by obtain ⟨_,hn,FG⟩:=L.f45;exact enters_of FG (by first|exact hn|(simp;done)|rfl) rfl) (fun {id els els' r H} hp w al m v nw l us xs hr hg hl hlr hown hsz hd hus => ?_) id0
 unfold delL at hp
 split at hp <;> try (cases hp;done)
 rename_i a b
 split at hp <;> try (cases hp;done)
 rename_i hok
 obtain ⟨h0,hab,hb,hne⟩:=hok
 simp only[Option.some.injEq]at hp
 subst hp
 generalize hA:a.toNat=A
 generalize hB:b.toNat=B at hb
 obtain rfl:a=(A:Nat):=by omega
 obtain rfl:b=(B:Nat):=by omega
 have hAB:A≤B:=by omega
 clear hA hB h0 hab
 obtain ⟨a1,a2,rfl,h1,h2⟩:=cells_two hus
 obtain rfl:=h1.int_inv
 obtain rfl:=h2.int_inv
 have hn0:els.length≠0:=fun h=>hne (List.length_eq_zero_iff.1 h)
 have hxs:xs.length=els.length:=by have:=hown.1;omega
 rcases hown.2 with ⟨_,h0⟩|⟨g,cap,cur,hval,_,hgg,hncap,hcm,hcs,ht⟩
 · omega
 rw[Nat.mul_one]at ht hcs
 have hone:∀v∈xs,v.oneCell'=true:=fun v hv=>by
   obtain ⟨i,hi,rfl⟩:=List.getElem_of_mem hv
   have h3:=hsz i els[i] (List.getElem?_eq_getElem (by omega))
   exact (hd i _ 0 (els[i].cells[0]) _ (List.getElem?_eq_getElem (by omega)) (List.getElem?_eq_getElem (by omega)) (by rw[Nat.mul_one,Nat.add_zero];exact List.getElem?_eq_getElem hi)).one
 obtain ⟨ds,hds⟩:∃ds:List V1,ds.map Subtype.val=xs:=⟨xs.attach.map fun v=>⟨v.1,hone v.1 v.2⟩,by simp[List.map_map,Function.comp_def]⟩
 have hdl:ds.length=els.length:=by rw[←hxs,←hds,List.length_map]
 have hget:∀(q:Nat) v,xs[q]?=some v→w.cell? ⟨g,0+q,none⟩=some v:=row_get (n:=els.length) (cap:=0) hgg ht
 have hH:Sort.Holds Subtype.val w g 0 ds.toArray:=fun j hj=>by
   have hj':j<ds.length:=by simpa using hj
   refine ⟨?_,row_free hgg⟩
   refine (hget j ds[j].1 ?_).trans ?_
   · rw[←hds,List.getElem?_map,List.getElem?_eq_getElem hj'];rfl
   · rw[getElem!_pos ds.toArray j hj];simp
 have v23:∀w,(zeroValue (ρ.t 23)).run P w = .ok z w:=fun w=>by simp[zeroValue,typeInfo,hi,hz0]
 have key:=AnyE.slices_Delete L Subtype.val (fun x:V1=>x.2) ⟨z,hz2⟩ v23 i0 hi hz1 g 0 cap A B ds.toArray w hH (by simpa[hdl] using hncap) (by unfold maxLen at hcm;omega) hAB (by simpa[hdl] using hb)
 have hsize:ds.toArray.size=els.length:=by simpa using hdl
 rw[hsize]at key
 rw[hval]
 refine Calls.mono key fun e1 w1 ⟨he,q,hw⟩ => ?_
 have hlen:(els.take A++els.drop B).length=els.length - (B - A):=by rw[List.length_append,List.length_take,List.length_drop];omega
 have hlenx:(xs.take A++xs.drop B).length=els.length - (B - A):=by rw[List.length_append,List.length_take,List.length_drop];omega
 have hput:(ds.take A++ds.drop B++List.replicate (B - A) (⟨z,hz2⟩:V1)).toArray.size=ds.toArray.size:=by
   simp only[List.size_toArray,List.length_append,List.length_take,List.length_drop,List.length_replicate];omega
 refine ⟨_,xs.take A++xs.drop B,he,?_,?_,.inl rfl,fun i x hx => ?_,fun i x j y u hx hy hu => ?_⟩
 · rw[hlen]
   refine row_made hlenx ?_ (by omega) hcm fun j u hu => ?_
   · rw[hw]
     refine ⟨_,by simp[Sort.putRow,Sort.mapBlock,Sort.ahead,Array.getElem?_modify,hgg,Sort.onCells];rfl,?_⟩
     simp[Sort.putCells,hcs]
   · have hj:j<els.length - (B - A):=by rw[←hlenx];exact (List.getElem?_eq_some_iff.1 hu).1
     have h3:=Sort.cell?_putRow Subtype.val (Sort.ahead w q) g 0 ds.toArray (ds.take A++ds.drop B++List.replicate (B - A) (⟨z,hz2⟩:V1)).toArray (Sort.holds_ahead _ _ _ _ _ _ hH) hput j (by rw[hput,hsize];omega)
     rw[Nat.zero_add]at h3
     rw[hw]
     refine h3.trans ?_
     rw[getElem!_pos _ j (by rw[hput,hsize];omega)]
     have e3:(ds.take A++ds.drop B).map Subtype.val=xs.take A++xs.drop B:=by rw[List.map_append,List.map_take,List.map_drop,hds]
     rw[←e3,List.getElem?_map]at hu
     rw[←hu]
     have hj2:j<(ds.take A++ds.drop B).length:=by rw[List.length_append,List.length_take,List.length_drop];omega
     rw[List.getElem?_eq_getElem hj2,Option.map_some]
     congr 2
     simp only[List.getElem_toArray]
     rw[List.getElem_append_left hj2]
 · rw[hw]
   refine ⟨rfl,rfl,rfl,by simp,fun k hk hne => ?_⟩
   have:g≠k:=fun e=>hne (by rw[e];rfl)
   simp[Sort.putRow,Sort.mapBlock,Sort.ahead,Array.getElem?_modify,this]
 · obtain ⟨k,hk,_⟩:=del_get hAB hb hx
   exact hsz k x hk
 · obtain ⟨k,hk,hc⟩:=del_get hAB hb hx
   have hj:j=0:=by have:=(List.getElem?_eq_some_iff.1 hy).1;rw[hsz k x hk]at this;omega
   subst hj
   rw[Nat.mul_one,Nat.add_zero]at hu
   obtain ⟨k',hk',hc'⟩:=del_get hAB (by omega) hu
   obtain rfl:k=k':=by omega
   exact hd k x 0 y u hk hy (by simpa using hk')
def delFacts (P:Program) (e:Nat):Bool:=match P.info? e with
 | some i=>match i.zero with
   | some z=>i.size==1&&z.oneCell'
   | none=>false
 | none=>false
theorem del_at {P:Program} {ρ:Ren} (L:SlLaysE.n45 P ρ) {e:Nat} (he:ρ.t 23=e) (h:delFacts P e=true) (id0:Nat):FunOK P (ρ.f 45) (.prim (some (id0,e,1,false)) (updP delL e)):=by
 unfold delFacts at h
 split at h <;> try (cases h;done)
 rename_i i hi
 split at h <;> try (cases h;done)
 rename_i z hz
 simp only[Bool.and_eq_true,beq_iff_eq]at h
 exact del_ok L he hi hz h.1 h.2 id0
def growP (id e sz bytes:Nat):List AV→Heap→Option (AV×Heap)
 | [.n .nil,.n (.int .i64 n)],H=>if (H.get id).isNone=true∧0≤n∧n.toNat*bytes≤140737488355328 then some (.row id 0,H.ins id (.row false false 0 e sz [])) else none
 | _,_=>none
set_option maxHeartbeats 1000000 in
theorem grow_ok {P:Program} {ρ:Ren} (L:Lays8.n4 P ρ) {id e sz bytes:Nat} {i0:TypeInfo} {z:Value} (he:ρ.t 25=e) (hi:P.info? e=some i0) (hz0:i0.zero=some z) (hz1:i0.size=sz) (hz2:i0.bytes=bytes) (hzs:z.cells.size=sz) (hsz:0<sz) (hby:0<bytes):
   FunOK P (ρ.f 4) (.prim (some (id,e,sz,false)) (growP id e sz bytes)):=by
 subst he
 refine ⟨by obtain ⟨_,hn,FG⟩:=L.f4;exact enters_of FG (by first|exact hn|(simp;done)|rfl) rfl,fun args H r H' h => ?_⟩
 unfold growP at h
 split at h <;> try (cases h;done)
 rename_i n
 split at h <;> simp only[Option.some.injEq,Prod.mk.injEq,reduceCtorEq]at h
 rename_i hc
 obtain ⟨rfl,rfl⟩:=h
 obtain ⟨hid,h0,hlim⟩:=hc
 have hid':H.get id=none:=by simpa using hid
 generalize hN:n.toNat=N at hlim
 obtain rfl:n=(N:Nat):=by omega
 clear hN h0
 intro w al m vs hr hal hcs
 obtain ⟨a1,a2,rfl,h1,h2⟩:=cells_two hcs
 obtain rfl:=h2.int_inv
 cases h1 with
 | n _ _ hd=>
 cases hd
 have fin:∀ {v':Value} {w':World},w'.ownsRow w.heap.size (ρ.t 25) sz v' 0 []→Below w.heap.size w w' →
     ∃u m',Ending.returned v' = .returned u∧((∀i v l,m i v=some l→m' i v=some l)∧∀i v l b,m' i v=some l→l.block=some b→b<w.heap.size→∃v' l',m i v'=some l'∧l'.block=some b) ∧
       HR w' ⟨w.heap.size,al⟩ (owned H m) m' (H.ins id (.row false false 0 (ρ.t 25) sz []))∧VR w' ⟨w.heap.size,al⟩ (owned (H.ins id (.row false false 0 (ρ.t 25) sz [])) m') m' (.row id 0) u ∧
       Keep w.heap.size (owned H m) w w'∧∀i,(H.get i).isSome=true→((H.ins id (.row false false 0 (ρ.t 25) sz [])).get i).isSome=true:=by
   intro v' w' hown hb
   obtain ⟨o1,o2⟩:=own_zero hown
   obtain ⟨m',h1,h2,h3,h4⟩:=own_new (C:=⟨w.heap.size,al⟩) (id:=id) (ver:=0) (nw:=true) (b:=false) (e:=ρ.t 25) (els:=[]) (ys:=[]) (news:=[]) hr (Nat.le_refl _) (World.ownsRow_nil w 0 (ρ.t 25) sz) (fun i x h=>by simp at h) (fun i x j y u h=>by simp at h)
     (fun _ b hb=>by simp[Value.ownBlock]at hb) (.inl ⟨hid',rfl,rfl⟩) (by simpa using o1) (grown_of hb) (.inr o2) (fun i x h=>by simp at h) (fun i x j y u h=>by simp at h)
   simp only[Bool.true_and,List.nil_append]at h1 h2 h3
   refine ⟨v',m',rfl,⟨h1.p,h1.q⟩,h2,h3,h4,fun i hi => ?_⟩
   rw[Heap.get_ins]
   split
   · rfl
   · exact hi
 have hNm:N≤N*bytes:=Nat.le_mul_of_pos_right _ hby
 by_cases hN:N=0
 · subst hN
   refine (Any8.slices_Grow_room L none 0 0 0 w (by omega) (by omega) (by omega) (by omega)).mono fun e' w' ⟨he,hw⟩ => ?_
   subst he;subst hw
   exact fin (World.ownsRow_nil w' _ _ _) (Below.refl _ _)
 · refine (Any8.slices_Grow_grow L i0 z hi hz0 (by omega) none 0 0 N [] w (by omega) (by omega) (by rw[hz2];simpa using hlim) (by omega) (by simp) (fun _=>rfl) (fun a h=>by cases h)).mono fun e' w' ⟨he,hw⟩ => ?_
   subst he;subst hw
   have hge:=grownCap_ge w (0+N) 0 (ρ.t 25)
   refine fin (World.ownsRow_made w.drew _ _ (Nat.le_refl _) (grownCap_le_maxLen w _ _ _ (by simp only[maxLen];omega)) ?_) (((Below.refl _ w).drew).alloc (Nat.le_refl _) _)
   rw[Array.size_append,Array.size_append,size_zeroCells,size_zeroCells,hzs]
   show 0+(0+N - 0)*sz+(grownCap w (0+N) 0 (ρ.t 25) - (0+N))*sz=_
   rw[Nat.zero_add,←Nat.add_mul]
   congr 1
   omega
theorem grow_at {P:Program} {ρ:Ren} (L:Lays8.n4 P ρ) {id e sz bytes:Nat} (he:ρ.t 25=e) (h:cloneFacts P e sz bytes=true):FunOK P (ρ.f 4) (.prim (some (id,e,sz,false)) (growP id e sz bytes)):=by
 unfold cloneFacts at h
 split at h <;> try (cases h;done)
 rename_i i hi
 split at h <;> try (cases h;done)
 rename_i z hz
 simp only[Bool.and_eq_true,beq_iff_eq,Nat.blt_eq]at h
 obtain ⟨⟨⟨⟨h1,h2⟩,h3⟩,h4⟩,h5⟩:=h
 exact grow_ok L he hi hz h1 h2 h3 h4 h5
theorem grow_runs {Fs:Nat→Option Fun} {f id e sz bytes:Nat} (hf:Fs f=some (.prim (some (id,e,sz,false)) (growP id e sz bytes))) (n:Nat) (h:n*bytes≤140737488355328):
  Runs Fs f [.n .nil,.n (.int .i64 n)] [] (.row id 0) [(id,.row false false 0 e sz [])]:=by
 refine ⟨1,fun k hk => ?_⟩
 obtain ⟨k,rfl⟩:∃j,k=j+1:=⟨k - 1,by omega⟩
 simp only[run,hf,growP]
 rw[if_pos ⟨by simp[Heap.get],by omega,by simpa using h⟩]
 rfl
theorem upd_runs {Fs:Nat→Option Fun} {f id0 e:Nat} {p:Nat→List D→List AV→Heap→Option (List D)} (hf:Fs f=some (.prim (some (id0,e,1,false)) (updP p e))) {id v:Nat} {nw:Bool} {els els':List D} {r:List AV} {H:Heap} (hg:H.get id=some (.row false nw v e 1 els)) (h:p id els r H=some els'):
  Runs Fs f (.row id v :: r) H (.row id (v+1)) (H.ins id (.row false false (v+1) e 1 els')):=by
 refine ⟨1,fun k hk => ?_⟩
 obtain ⟨k,rfl⟩:∃j,k=j+1:=⟨k - 1,by omega⟩
 simp only[run,hf,updP,hg]
 rw[if_pos ⟨trivial,trivial,trivial⟩,h]
end Go.Mir
