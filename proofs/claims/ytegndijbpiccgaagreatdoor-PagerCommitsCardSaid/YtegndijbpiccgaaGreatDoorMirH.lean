import Derived.Test.YtegndijbpiccgaaGreatDoorMirG
import Derived.Test.YtegndijbpiccgaaGreatDoorMirQ
import Derived.Deep.LoopGhost
namespace Go.Mir
set_option linter.unusedVariables false
set_option linter.unusedSimpArgs false
open Go.RowKit
def aliasOf:List Nat→Nat→Nat
 | [],id=>id
 | k :: r,id=>match Nat.beq (k / 1000000000) id with
   | true=>k % 1000000000
   | false=>aliasOf r id
def idOf (keep:List Nat) (fn rid i:Nat):Nat:=aliasOf keep (fn*100000+rid*100+i)
def lfOf:AV→Lf
 | .n (.int k _) => .int k
 | .n (.bool _) => .bool
 | .n (.str _) => .str
 | _ => .raw
def leafTs (P:Program):Nat→TypeId→List TypeId
 | 0,t=>[t]
 | k+1,t=>match P.underlying t with
   | some (.struct fs)=>fs.toList.flatMap fun f=>leafTs P k f.type
   | some (.array n e)=>(List.replicate n (leafTs P k e)).flatten
   | _=>[t]
def lfT (P:Program) (t:TypeId) (c:AV):Lf:=
 match P.underlying t with
 | some (.slice e)=>match P.info? e with
   | some i => .slo i.size
   | none => .raw
 | _=>lfOf c
def s1Of (P:Program) (t:TypeId):S1:=
 match zeroAV P t,aggSize P t with
 | some cs,some (some _) => .agg (List.zipWith (lfT P) (leafTs P 20 t) cs)
 | some [c],some none => .one (lfT P t c)
 | _,_ => .one .raw
def shOf (P:Program) (t:TypeId):Sh:=
 match P.underlying t with
 | some (.tuple ts) => .tup (ts.toList.map (s1Of P))
 | _ => .val (s1Of P t)
def shO (P:Program) (o:Oper):Sh:=
 match o.op with
 | .load t _ => .val (s1Of P t)
 | .call _=>shOf P o.type
 | _ => .val (.one .raw)
def trOps (P:Program) (keep:List Nat) (fn rid:Nat) (ops:Array Oper):Nat→List Oper→Option (List RO)
 | _,[]=>some []
 | i,o :: r=>match trO P keep (idOf keep fn rid i) o,trOps P keep fn rid ops (i+1) r with
   | some x,some s=>match o.guard with
     | none=>some (⟨o.dst,x,none,shO P o⟩ :: s)
     | some (j,b)=>match (ops[j]?).bind (·.dst) with
       | some t=>some (⟨o.dst,x,some (t,b),shO P o⟩ :: s)
       | none=>none
   | _,_=>none
abbrev Hints:=List (Nat×(List Nat×List Nat×List (Nat×Nat×Nat×Nat)×List Nat))
def Hints.at (fn:Nat) (id:Nat) (c:Cmd):Hints→Cmd
 | []=>c
 | (k,(a,b,r,d)) :: t=>if k=id then .seq (.hint fn a b r d) c else Hints.at fn id c t
abbrev Loops:=List (Nat×List It)
def Loops.at (id:Nat):Loops→List It
 | []=>[]
 | (k,x) :: r=>if k=id then x else Loops.at id r
def firstId:Code→Nat
 | .region id _ _=>id
 | .seq a _=>firstId a
 | .cond _ a _=>firstId a
 | .block _ c=>firstId c
 | .loop c=>firstId c
 | .scope c=>firstId c
 | _=>0
def afOf (ops:Array Oper):List (List Nat):=ops.toList.map fun o=>(o.after.toList.filter (Region.binds .any)).map (·.on)
def isPanic (o:Oper):Bool:=match o.op with
 | .panic _=>true
 | _=>false
def stuck:Cmd := .region [{ dst:=none,op := .sid (.const (.int .i64 0)) }]
def trC (P:Program) (keep:List Nat) (fn:Nat) (hs:Hints) (ls:Loops):Code→Option Cmd
 | .skip=>some .skip
 | .label _=>some .skip
 | .region id ops false=>match trOps P keep fn id ops 0 ops.toList with
   | some l=>some (Hints.at fn id (.region l) hs)
   | none=>if ops.any isPanic then some stuck else none
 | .region id ops true=>match trOps P keep fn id ops 0 ops.toList with
   | some l=>if P.follows .mixedOrders&&statOK (afOf ops) (ancGo [] (afOf ops)) l (unOf (ancGo [] (afOf ops)) l) then some (Hints.at fn id (.drawn l (unOf (ancGo [] (afOf ops)) l)) hs) else none
   | none=>none
 | .seq a b=>match trC P keep fn hs ls a,trC P keep fn hs ls b with
   | some x,some y=>some (.seq x y)
   | _,_=>none
 | .cond c a b=>match trC P keep fn hs ls a,trC P keep fn hs ls b with
   | some x,some y=>some (.cond c x y)
   | _,_=>none
 | .block id c=>match trC P keep fn hs ls c with
   | some x=>some (.block id x)
   | none=>none
 | .loop c=>match trC P keep fn hs ls c with
   | some x=>some (.loop (Loops.at (firstId c) ls) x)
   | none=>none
 | .exit id=>some (.exit id)
 | .ret=>some .ret
 | .scope c=>trC P keep fn hs ls c
 | _=>none
def Callable (P:Program) (f:Nat):Prop:=∀args w,(callFunc f args).run P w = .ok (.enter f args) w
def CallsOK (P:Program) (call:CallFn):Prop:=∀f args H r H',call f args H=some (r,H')→Callable P f∧Spec P f args H r H'
section
variable {P:Program} {w:World} {C:Cx} {own:Nat→Prop} {m:Places} {H:Heap} {σ:Slots} {a:Act} {call:CallFn}
def Behind (w:World) (C:Cx) (own:Nat→Prop) (m:Places) (H:Heap) (v:AV) (H':Heap) (u:Value) (w':World):Prop:=
 ∃m',Step C w (owned H m) m w' (owned H' m') m'∧HR w' C own m' H'∧VR w' C (owned H' m') m' v u∧Keep C.N own w w'
theorem Does.wp {o:Oper} {v:AV} {H':Heap} {next:Act→World→Prop} {Q:Exit→Act→World→Prop} (h:Does P a o w C own m H v H') (hn:∀u w',Behind w C own m H v H' u w'→next (a.put o.dst u) w'):o.wp P a w next Q:=by
 obtain ⟨u,w',m',hrun,h1,h2,h3,h4⟩:=h
 unfold Oper.wp
 rcases hrun with hrun|⟨hrun,rfl⟩
 · rw[hrun];exact hn u w' ⟨m',h1,h2,h3,h4⟩
 · rw[hrun];exact hn undef w' ⟨m',h1,h2,h3,h4⟩
theorem evL_cells (hv:∀t,VR w C (owned H m) m (σ.get t) (a.tmps.getD t undef)) {xs:List Operand} {vs:List AV} (h:evL σ xs=some vs):Cells w C (owned H m) m vs (xs.map a.eval):=by
 obtain ⟨h1,h2⟩:=evL_ok hv h
 refine ⟨by simpa using h1,fun i c u hc hu => ?_⟩
 rw[List.getElem?_map]at hu
 cases hx:xs[i]? with
 | none=>simp[hx]at hu
 | some x=>simp only[hx,Option.map_some,Option.some.injEq]at hu;subst hu;exact h2 i c x hc hx
theorem call_wp {o:Oper} {f:Nat} {own':Bool} {as:List AV} {us:List Value} {v:AV} {H':Heap} {next:Act→World→Prop} {Q:Exit→Act→World→Prop} (hcall:CallsOK P call) (hr:HR w C own m H) (hal:∀b,own b→C.al b) (hN:C.N≤w.heap.size)
  (hc:Cells w C (owned H m) m as us) (hd:doCall call own' H f as=some (v,H')) (hrun:∀(_:Callable P (callFn own' f)),(execOp a.eval o).run P w = .ok (.enter (callFn own' f) us.toArray) w)
  (hn:∀u w',Behind w C own m H v H' u w'→next (a.put o.dst u) w'):o.wp P a w next Q:=by
 have hcb:Callable P (callFn own' f):=by
  unfold doCall at hd
  split at hd <;> try (simp at hd;done)
  simp only at hd
  split at hd <;> try (simp at hd;done)
  split at hd <;> try (simp at hd;done)
  rename_i hcc
  exact (hcall _ _ _ _ _ hcc).1
 have:=do_call (P:=P) (fun f args H r H' h=>(hcall f args H r H' h).2) hr hal hN hc hd
 unfold Oper.wp
 rw[hrun hcb,Oper.upon_enter]
 refine this.mono ?_
 rintro e w' ⟨u,m2,rfl,h1,h2,h3,h4⟩
 exact hn u w' ⟨m2,h1,h2,h3,h4⟩
theorem op_wp {keep:List Nat} {id:Nat} {o:Oper} {x:Opn} {v:AV} {H':Heap} {next:Act→World→Prop} {Q:Exit→Act→World→Prop} (hcall:CallsOK P call) (hr:HR w C own m H) (hal:∀b,own b→C.al b) (hN:C.N≤w.heap.size)
  (hv:∀t,VR w C (owned H m) m (σ.get t) (a.tmps.getD t undef)) (ht:trO P keep id o=some x) (h:exec1 call σ H x=some (v,H'))
  (hn:∀u w',Behind w C own m H v H' u w'→next (a.put o.dst u) w'):o.wp P a w next Q:=by
 unfold trO at ht
 split at ht
 case h_1 y ho=>simp only[Option.some.injEq]at ht;subst ht;exact (Does.quiet hr (q_mov hv (by simp[execOp,ho]) h)).wp hn
 case h_2 y ho=>simp only[Option.some.injEq]at ht;subst ht;exact (Does.quiet hr (q_mov hv (by simp[execOp,ho]) h)).wp hn
 case h_3 c y z ho=>simp only[Option.some.injEq]at ht;subst ht;exact (Does.quiet hr (q_pick hv ho h)).wp hn
 case h_4 op t y z t2 ho=>
  split at ht
  · simp only[Option.some.injEq]at ht;subst ht;exact (Does.quiet hr (q_bin hv ho h)).wp hn
  · simp only[Option.some.injEq]at ht;subst ht;exact (Does.quiet hr (q_bin hv ho h)).wp hn
  · rename_i hb
    split at ht <;> simp only[Option.some.injEq,reduceCtorEq]at ht
    · subst ht;exact (Does.quiet hr (q_bb (neq:=false) hv hb ho h)).wp hn
    · subst ht;exact (Does.quiet hr (q_bb (neq:=true) hv hb ho h)).wp hn
  · rename_i hb
    split at ht <;> try (cases ht;done)
    · exact (Does.quiet hr (q_eqs (neq:=false) hv hb ho ht h)).wp hn
    · exact (Does.quiet hr (q_eqs (neq:=true) hv hb ho ht h)).wp hn
  · cases ht
 case h_5 op t y ho=>simp only[Option.some.injEq]at ht;subst ht;exact (Does.quiet hr (q_un hv ho h)).wp hn
 case h_6 s d y ho=>
  split at ht
  · rename_i hs hd
    simp only[Option.some.injEq]at ht;subst ht;exact (Does.quiet hr (q_conv hv ⟨_,hs⟩ hd ho h)).wp hn
  · rename_i hs hd
    simp only[Option.some.injEq]at ht;subst ht
    simp only[exec1]at h
    split at h <;> simp only[Option.some.injEq,reduceCtorEq,Prod.mk.injEq]at h
    obtain ⟨rfl,rfl⟩:=h
    rename_i s' hx
    have e1:=(ev_ok hv hx).str
    exact (Does.quiet hr ⟨rfl,.string s',by simp[Tells,execOp,ho,e1,convert,run_underlying hs,run_underlying hd],.n _ _ (.str _)⟩).wp hn
  · rename_i e hs hd
    split at ht <;> simp only[Option.some.injEq,reduceCtorEq]at ht
    rename_i he
    subst ht
    exact (o_s2b hr hN hv hs hd he ho h).wp hn
  · rename_i e hs hd
    split at ht <;> simp only[Option.some.injEq,reduceCtorEq]at ht
    rename_i he
    subst ht
    exact (Does.quiet hr (q_b2s hr hv hs he hd ho h)).wp hn
  · cases ht
 case h_7 y i ho=>simp only[Option.some.injEq]at ht;subst ht;exact (Does.quiet hr (q_ext hv ho h)).wp hn
 case h_8 y ho=>simp only[Option.some.injEq]at ht;subst ht;exact (Does.quiet hr (q_nilck hv ho h)).wp hn
 case h_9 s y f ho=>
  split at ht <;> try (cases ht;done)
  rename_i fs hs
  split at ht <;> try (cases ht;done)
  rename_i fd hf
  split at ht <;> try (cases ht;done)
  rename_i i hi
  split at ht <;> simp only[Option.some.injEq,reduceCtorEq]at ht
  rename_i h0
  subst ht
  exact (Does.quiet hr (q_fadr hv hs hf hi h0 ho h)).wp hn
 case h_10 s y f ho=>
  split at ht <;> try (cases ht;done)
  rename_i fs hs
  split at ht <;> try (cases ht;done)
  rename_i fd hf
  split at ht <;> simp only[Option.some.injEq,reduceCtorEq]at ht
  rename_i z hz
  subst ht
  exact (Does.quiet hr (q_fld hv hs hf hz ho h)).wp hn
 case h_11 t y ho=>
  split at ht <;> simp only[Option.some.injEq,reduceCtorEq]at ht
  rename_i z hz
  subst ht
  exact (Does.quiet hr (q_ld hr hv hz ho h)).wp hn
 case h_12 t y z ho=>
  split at ht <;> simp only[Option.some.injEq,reduceCtorEq]at ht
  rename_i i hi
  subst ht
  cases hx:ev σ y with
  | none=>simp[exec1,hx]at h
  | some xv=>
    cases xv with
    | ptr id off=>
      have h':=h
      simp only[exec1,hx]at h
      split at h <;> try (simp at h;done)
      · rename_i id' o' v' e1 hy
        simp only[Option.some.injEq,AV.ptr.injEq]at e1
        obtain ⟨rfl,rfl⟩:=e1
        split at h <;> try (simp at h;done)
        rename_i cs hg
        split at h <;> simp only[Option.some.injEq,reduceCtorEq,Prod.mk.injEq]at h
        rename_i hc
        simp only[Bool.and_eq_true,beq_iff_eq,decide_eq_true_eq]at hc
        obtain ⟨rfl,rfl⟩:=h
        exact (o_st_ptr hr hN hv ho hi hx hy hg hc.1.1 hc.1.2 hc.2).wp hn
      · simp_all
    | elt id ver s i' off=>exact (o_st_elt hr hN hal hv ho hi hx h).wp hn
    | _=>simp[exec1,hx]at h
 case h_13 t y i ho=>
  split at ht <;> try (cases ht;done)
  rename_i e hs
  split at ht <;> simp only[Option.some.injEq,reduceCtorEq]at ht
  rename_i j hj
  subst ht
  exact (Does.quiet hr (q_idxA hr hv hs hj ho h)).wp hn
 case h_14 t y i ho=>
  split at ht <;> try (cases ht;done)
  · rename_i hs
    simp only[Option.some.injEq]at ht
    subst ht
    exact (Does.quiet hr (q_idx hv hs ho h)).wp hn
  · rename_i n e hs
    split at ht <;> try (cases ht;done)
    rename_i j hz hj
    split at ht <;> simp only[Option.some.injEq,reduceCtorEq]at ht
    rename_i h1
    subst ht
    exact (Does.quiet hr (q_idxG hv hs hz hj h1 ho h)).wp hn
 case h_15 t y lo hi mx ho=>
  split at ht
  · rename_i hs
    split at ht <;> simp only[Option.some.injEq,reduceCtorEq]at ht
    subst ht
    exact (Does.quiet hr (q_scut hv hs ho h)).wp hn
  · rename_i e hs
    split at ht <;> try (cases ht;done)
    rename_i j hj
    split at ht <;> simp only[Option.some.injEq,reduceCtorEq]at ht
    rename_i hmh
    subst ht
    exact (o_cut hr hal hv hs hj (by simpa only[Bool.not_eq_true] using hmh) ho h).wp hn
  · cases ht
 case h_16 t parts ho=>
  split at ht <;> try (cases ht;done)
  · rename_i fs z hs hz
    split at ht <;> try (cases ht;done)
    rename_i ps hps
    split at ht <;> simp only[Option.some.injEq,reduceCtorEq]at ht
    rename_i l hl
    subst ht
    exact (Does.quiet hr (q_build hv hs hz hps hl ho h)).wp hn
  · rename_i n e z hs hz
    split at ht <;> simp only[Option.some.injEq,reduceCtorEq]at ht
    rename_i j hj
    subst ht
    exact (Does.quiet hr (q_buildA hv hs hz hj ho h)).wp hn
 case h_17 t len parts ho=>
  split at ht <;> try (cases ht;done)
  rename_i e hs
  split at ht <;> try (cases ht;done)
  rename_i j z l hj hz hl
  split at ht <;> simp only[Option.some.injEq,reduceCtorEq]at ht
  rename_i hc
  subst ht
  exact (o_lit hr hN hal hv hs hj hz hl hc.1 hc.2.1 hc.2.2.1 hc.2.2.2 ho h).wp hn
 case h_18 t l c ho=>
  split at ht <;> try (cases ht;done)
  rename_i e hs
  split at ht <;> try (cases ht;done)
  rename_i j z hj hz
  split at ht <;> simp only[Option.some.injEq,reduceCtorEq]at ht
  rename_i hc
  subst ht
  exact (o_mk hr hN hv hs hj hz hc.1 hc.2.1 hc.2.2.1 hc.2.2.2 ho h).wp hn
 case h_19 t ho=>
  split at ht <;> try (cases ht;done)
  rename_i z i hz hi
  split at ht <;> simp only[Option.some.injEq,reduceCtorEq]at ht
  subst ht
  exact (o_alloc hr hN hz ho h).wp hn
 case h_20 t y ho=>
  simp only[Option.some.injEq]at ht
  subst ht
  exact (o_box hr hN hv ho h).wp hn
 case h_21 f first cap ho=>
  split at ht <;> simp only[Option.some.injEq,reduceCtorEq]at ht
  rename_i h0
  subst ht
  exact (Does.quiet hr (q_mkf hv h0 ho h)).wp hn
 case h_22 c ho=>
  obtain ⟨callee,args,tys⟩:=c
  split at ht
  · rename_i hcal
    simp only at hcal
    subst hcal
    split at ht <;> try (cases ht;done)
    rename_i y t ha hty
    simp only at ha hty
    have ea:args = #[y]:=by rw[←Array.toArray_toList (xs:=args),ha]
    have et:tys = #[t]:=by rw[←Array.toArray_toList (xs:=tys),hty]
    subst ea et
    split at ht <;> simp only[Option.some.injEq,reduceCtorEq]at ht
    · rename_i hs;subst ht;exact (Does.quiet hr (q_slen (ty:=t) hv hs ho h)).wp hn
    · rename_i e hs;subst ht;exact (Does.quiet hr (q_len hr hv hs ho h)).wp hn
  · rename_i hcal
    simp only at hcal
    subst hcal
    simp only[Option.some.injEq]at ht
    subst ht
    exact (Does.quiet hr (q_mm (max:=true) hv ho h)).wp hn
  · rename_i hcal
    simp only at hcal
    subst hcal
    simp only[Option.some.injEq]at ht
    subst ht
    exact (Does.quiet hr (q_mm (max:=false) hv ho h)).wp hn
  · rename_i hcal
    simp only at hcal
    subst hcal
    split at ht <;> try (cases ht;done)
    rename_i y z t u ha hty
    simp only at ha hty
    have ea:args = #[y,z]:=by rw[←Array.toArray_toList (xs:=args),ha]
    have et:tys = #[t,u]:=by rw[←Array.toArray_toList (xs:=tys),hty]
    subst ea et
    split at ht <;> try (cases ht;done)
    · rename_i e e' hs hs'
      split at ht <;> try (cases ht;done)
      rename_i j zv hj hz
      split at ht <;> simp only[Option.some.injEq,reduceCtorEq]at ht
      rename_i hc
      subst ht
      obtain ⟨_,rfl,h1,h2,h3⟩:=hc
      exact (o_app hr hN hal hv hs hj hz h2 h1 h3 ho h).wp hn
    · rename_i e hs hs'
      split at ht <;> try (cases ht;done)
      rename_i j he hj
      split at ht <;> try (cases ht;done)
      rename_i hc
      split at ht <;> simp only[Option.some.injEq,reduceCtorEq]at ht
      rename_i hz
      subst ht
      exact (o_apps hr hN hv hs hs' hj hc.1 hc.2 hz ho h).wp hn
  · rename_i f hcal
    simp only at hcal
    subst hcal
    simp only[Option.some.injEq]at ht
    subst ht
    simp only[exec1]at h
    split at h <;> try (simp at h;done)
    rename_i as has
    refine call_wp hcall hr hal hN (evL_cells hv has) h (fun hcb => ?_) hn
    rw[callCode_ok]at hcb ⊢
    simp only[execOp,ho,resolve,Act.eval,Deferred.ofValue]
    simp only[Sem.run_bind,Sem.run_pure,Result.andThen_ok,invoke,Array.empty_append,Array.append_empty]
    rw[←Array.toList_map,Array.toArray_toList]
    exact hcb _ _
  · rename_i t hcal
    simp only at hcal
    subst hcal
    simp only[Option.some.injEq]at ht
    subst ht
    simp only[exec1]at h
    split at h <;> try (simp at h;done)
    rename_i f cap as hf has
    obtain ⟨vs,hl,hh,hfe⟩:=(ev_ok hv hf).fn_inv
    have hca:=evL_cells hv has
    have hcc:Cells w C (owned H m) m (as++cap) (args.toList.map a.eval++vs):=by
      refine ⟨by rw[List.length_append,List.length_append,hca.1,hl],fun i c u hc hu => ?_⟩
      rw[List.getElem?_append]at hc hu
      rw[hca.1]at hc
      split at hc
      · rename_i hi
        rw[if_pos hi]at hu
        exact hca.2 i c u hc hu
      · rename_i hi
        rw[if_neg hi]at hu
        exact hh _ c u hc hu
    refine call_wp hcall hr hal hN hcc h (fun hcb => ?_) hn
    simp only[execOp,ho,resolve,hfe,Deferred.ofValue]
    simp only[Sem.run_bind,Sem.run_pure,Result.andThen_ok,invoke,Array.empty_append]
    have e1:Array.map a.eval args++vs.toArray=(args.toList.map a.eval++vs).toArray:=by
      apply Array.ext'
      simp
    rw[e1]
    exact hcb _ _
  · cases ht
 case h_23=>cases ht
theorem Slots.get_put:∀(σ:Slots) (d:Nat) (v:AV) (t:Nat),Slots.get (Slots.put σ d v) t=if t=d∧d<σ.length then v else Slots.get σ t
 | [],d,v,t=>by simp[Slots.put]
 | x :: r,0,v,t=>by
   cases t with
   | zero=>simp[Slots.put,Slots.get]
   | succ t=>simp[Slots.put,Slots.get]
 | x :: r,d+1,v,t=>by
   cases t with
   | zero=>simp[Slots.put,Slots.get]
   | succ t=>
     simp only[Slots.put,Slots.get,List.length_cons]
     rw[Slots.get_put r d v t]
     simp
theorem Slots.len_put:∀(σ:Slots) (d:Nat) (v:AV),(Slots.put σ d v).length=σ.length
 | [],_,_=>rfl
 | _ :: _,0,_=>rfl
 | _ :: r,d+1,v=>by simp only[Slots.put,List.length_cons,Slots.len_put r d v]
def putO (σ:Slots) (d:Option Nat) (v:AV):Slots:=match d with|some d=>σ.put d v|none=>σ
variable {w0:World} {m0:Places}
theorem vals_put {ow:Nat→Prop} {v:AV} {u:Value} (hv:∀t,VR w C ow m (σ.get t) (a.tmps.getD t undef)) (hl:σ.length≤a.tmps.size) (h:VR w C ow m v u) (d:Option Nat):∀t,VR w C ow m ((putO σ d v).get t) ((a.put d u).tmps.getD t undef):=by
 intro t
 cases d with
 | none=>exact hv t
 | some d=>
   simp only[putO,Act.put]
   rw[Slots.get_put]
   by_cases hc:t=d∧d<σ.length
   · rw[if_pos hc]
     obtain ⟨rfl,hd⟩:=hc
     have:(a.tmps.setIfInBounds t u).getD t undef=u:=by simp[Array.getD,show t<a.tmps.size by omega]
     rw[this];exact h
   · rw[if_neg hc]
     by_cases ht:t=d
     · subst ht
       have hge:¬t<σ.length:=fun h=>hc ⟨rfl,h⟩
       have:Slots.get σ t = .n .any:=by
        clear hv h hc hl
        induction σ generalizing t with
        | nil=>rfl
        | cons x r ih=>
          cases t with
          | zero=>simp at hge
          | succ t=>exact ih t (by simpa using hge)
       rw[this];exact .any _
     · have:(a.tmps.setIfInBounds d u).getD t undef=a.tmps.getD t undef:=by
        simp only[Array.getD_eq_getD_getElem?]
        rw[Array.getElem?_setIfInBounds_ne (fun e=>ht e.symm)]
       rw[this];exact hv t
theorem St.next {H':Heap} {v:AV} {u:Value} {w':World} (S:St w0 C own m0 m σ H a w) (h:Behind w C own m H v H' u w') (d:Option Nat):∃m',St w0 C own m0 m' (putO σ d v) H' (a.put d u) w':=by
 obtain ⟨m',h1,h2,h3,h4⟩:=h
 refine ⟨m',⟨vals_put (fun t=>(S.vals t).step h1) S.len h3 d,?_,?_,h2,S.keep.trans h4,S.n,S.sub,Nat.le_trans S.sz h1.size,fun i v l h=>h1.p i v l (S.p i v l h),fun i v l b h hb hlt => ?_⟩⟩
 · cases d with
   | none=>exact S.len
   | some d=>simp only[putO,Act.put,Slots.len_put,Array.size_setIfInBounds];exact S.len
 · cases d <;> exact S.dfr
 · obtain ⟨v1,l1,e1,e2⟩:=h1.q i v l b h hb (Nat.lt_of_lt_of_le hlt S.sz)
   exact S.fr i v1 l1 b e1 e2 hlt
theorem St.skip (S:St w0 C own m0 m σ H a w) (d:Option Nat):St w0 C own m0 m (putO σ d .undef) H (a.put d undef) w:=by
 refine ⟨vals_put S.vals S.len .undef d,?_,?_,S.hr,S.keep,S.n,S.sub,S.sz,S.p,S.fr⟩
 · cases d with
   | none=>exact S.len
   | some d=>simp only[putO,Act.put,Slots.len_put,Array.size_setIfInBounds];exact S.len
 · cases d <;> exact S.dfr
theorem yielded_undef {ops:Array Oper} {j t:Nat} {al:Nat→Prop} (htt:(ops[j]?).bind (·.dst)=some t) (hv:VR w C al m .undef (a.tmps.getD t undef)):yielded ops a.tmps j=none:=by
 have e:a.tmps.getD t undef=undef:=by
   generalize a.tmps.getD t undef=u at hv
   cases hv;rfl
 unfold yielded
 rw[htt]
 simp only[Option.bind_some]
 rw[Array.getD_eq_getD_getElem?]at e
 cases h:a.tmps[t]? with
 | none=>rfl
 | some z=>rw[h]at e;simp only[Option.getD_some]at e;rw[e];rfl
theorem ops_sound {keep:List Nat} {fn rid:Nat} {ops:Array Oper} {Q:Exit→Act→World→Prop} (hcall:CallsOK P call):∀ {l:List Oper} {k:Nat} {ros:List RO} {σ:Slots} {H:Heap} {a:Act} {w:World} {m:Places} {σ':Slots} {H':Heap},
   trOps P keep fn rid ops k l=some ros→execOps call ros σ H=some (σ',H')→St w0 C own m0 m σ H a w→(∀m' a' w',St w0 C own m0 m' σ' H' a' w'→Q .normal a' w')→wpList P ops Q l a w
 | [],k,ros,σ,H,a,w,m,σ',H',ht,he,S,hq=>by
   simp only[trOps,Option.some.injEq]at ht;subst ht
   simp only[execOps,Option.some.injEq,Prod.mk.injEq]at he
   obtain ⟨rfl,rfl⟩:=he
   exact hq m a w S
 | o :: r,k,ros,σ,H,a,w,m,σ',H',ht,he,S,hq=>by
   simp only[trOps]at ht
   split at ht <;> try (cases ht;done)
   rename_i x s hx hs
   have go:∀ {σ1:Slots} {H1:Heap} {v:AV},exec1 call σ H x=some (v,H1)→execOps call s (putO σ o.dst v) H1=some (σ',H')→o.wp P a w (wpList P ops Q r) Q:=by
     intro σ1 H1 v h1 h2
     refine op_wp hcall S.hr (fun b hb=>S.sub b hb) S.sz S.vals hx h1 fun u w' hb => ?_
     obtain ⟨m',S'⟩:=S.next hb o.dst
     exact ops_sound hcall hs h2 S' hq
   unfold wpList
   split at ht
   · rename_i hg
     simp only[Option.some.injEq]at ht;subst ht
     simp only[execOps]at he
     split at he <;> try (cases he;done)
     rename_i v H1 h1
     have hw:Region.wanted o (yielded ops a.tmps)=true:=by simp[Region.wanted,hg]
     rw[if_pos hw]
     exact .inl (go (σ1:=σ) h1 he)
   · rename_i j b hg
     split at ht <;> simp only[Option.some.injEq,reduceCtorEq]at ht
     rename_i t htt
     subst ht
     simp only[execOps]at he
     split at he <;> try (cases he;done)
     case h_2 hb0=>
       have hv:=S.vals t
       rw[hb0]at hv
       have hy:yielded ops a.tmps j=none:=yielded_undef htt hv
       rw[if_neg (by simp[Region.wanted,hg,hy])]
       exact ops_sound hcall hs he (S.skip o.dst) hq
     rename_i b0 hb0
     have hv:=S.vals t
     rw[hb0]at hv
     have hval:=hv.bool
     have hy:yielded ops a.tmps j=some b0:=by
       unfold yielded
       rw[htt]
       simp only[Option.bind_some]
       have:a.tmps[t]?=some (.bool b0):=by
        rw[Array.getD_eq_getD_getElem?]at hval
        cases h:a.tmps[t]? with
        | none=>rw[h]at hval;simp[undef]at hval
        | some z=>rw[h]at hval;simpa using hval
       rw[this]
     have hw:Region.wanted o (yielded ops a.tmps)=decide (b0=b):=by
       simp only[Region.wanted,hg,hy]
       cases b0 <;> cases b <;> rfl
     by_cases hbb:b0=b
     · rw[if_pos hbb]at he
       split at he <;> try (cases he;done)
       rename_i v H1 h1
       rw[if_pos (by rw[hw];simpa using hbb)]
       exact .inl (go (σ1:=σ) h1 he)
     · rw[if_neg hbb]at he
       rw[if_neg (by rw[hw];simpa using hbb)]
       exact ops_sound hcall hs he (S.skip o.dst) hq
theorem hintData_sound (hal:∀b,own b→C.al b):∀ {l:List Nat} {σ:Slots} {H:Heap} {σ':Slots} {H':Heap},hintData l σ H=some (σ',H')→St w0 C own m0 m σ H a w→St w0 C own m0 m σ' H' a w
 | [],σ,H,σ',H',h,S=>by simp only[hintData,Option.some.injEq,Prod.mk.injEq]at h;obtain ⟨rfl,rfl⟩:=h;exact S
 | s :: r,σ,H,σ',H',h,S=>by
   simp only[hintData]at h
   split at h
   · split at h <;> try (cases h;done)
     rename_i v hv
     refine hintData_sound hal h ⟨fun t => ?_,by rw[Slots.len_put];exact S.len,S.dfr,freeze_hr _ S.hr,S.keep,S.n,S.sub,S.sz,S.p,S.fr⟩
     rw[Slots.get_put]
     split
     · rename_i hc
       obtain ⟨rfl,_⟩:=hc
       exact age_ok (fun b h _=>h) _ (snap_frozen S.hr hal (S.vals t) hv)
     · exact (S.vals t).step (freeze_step _)
   · split at h
     · split at h
       · rename_i o hg
         split at h
         · rename_i hth
           have hfz:o.frozen=false:=by cases o <;> simp_all[Ob.thaw,Ob.frozen]
           have U:Upd w m H s o.age w m:=by
            refine ⟨fun _ _ _ h=>h,fun _ _ _ h => .inl h,Nat.le_refl _,fun _ _ _=>rfl,fun o' h => ?_,fun b h => .inl ⟨_,hg,Ob.age_lies.1 h⟩,fun v hv=>S.hr.top _ _ v hg (by rwa [Ob.age_ver]at hv),rfl,rfl,rfl⟩
            rw[hg]at h;cases h;exact hfz
           have T:=U.step S.hr
           have ho:=(S.hr.objs _ _ hg).step T fun b _=>rfl
           exact hintData_sound hal h ⟨fun t=>(S.vals t).step T,S.len,S.dfr,U.hr S.hr S.sz (Ob.age_ok (fun b h _=>h) ho),S.keep,S.n,S.sub,S.sz,S.p,S.fr⟩
         · exact hintData_sound hal h S
       · exact hintData_sound hal h S
     · split at h <;> try (cases h;done)
       rename_i cs hbx
       split at h <;> try (cases h;done)
       rename_i x hx
       split at h <;> try (cases h;done)
       rename_i v hv
       have hr':=freeze_hr (rowsIn x) S.hr
       have hg1:(H.freeze (rowsIn x)).get (cellB s)=some (.box cs):=by rw[Heap.get_freeze,hbx]
       have U2:Upd w m (H.freeze (rowsIn x)) (cellB s) (.box (cs.set (cellC s) (age v))) w m:=by
         refine ⟨fun _ _ _ h=>h,fun _ _ _ h => .inl h,Nat.le_refl _,fun _ _ _=>rfl,fun o' h => ?_,fun b h => .inl ⟨_,hg1,h⟩,fun v hv=>hr'.top _ _ v hg1 hv,rfl,rfl,rfl⟩
         rw[hg1]at h;cases h;rfl
       have T2:=U2.step hr'
       obtain ⟨b,t,c,hm,hh,hs,hvs⟩:=S.hr.objs _ _ hbx
       have hr2:HR w C own m ((H.freeze (rowsIn x)).ins (cellB s) (.box (cs.set (cellC s) (age v)))):=by
         refine U2.hr hr' S.sz ⟨b,t,c,hm,hh,by simpa using hs,fun i y u h1 h2 => ?_⟩
         rw[List.getElem?_set]at h1
         split at h1
         · rename_i hi
           split at h1 <;> simp only[Option.some.injEq,reduceCtorEq]at h1
           subst h1;subst hi
           exact (age_ok (fun b h _=>h) _ (snap_frozen S.hr hal (hvs _ _ _ hx h2) hv)).step T2
         · exact ((hvs i y u h1 h2).step (freeze_step _)).step T2
       exact hintData_sound hal h ⟨fun t=>((S.vals t).step (freeze_step _)).step T2,S.len,S.dfr,hr2,S.keep,S.n,S.sub,S.sz,S.p,S.fr⟩
theorem hintOnly_get (keep:List Nat):∀(σ:Slots) (i t:Nat),Slots.get (hintOnly keep i σ) t=if keep.contains (i+t) then Slots.get σ t else .n .any
 | [],i,t=>by simp[hintOnly,Slots.get]
 | x :: r,i,t=>by
   cases t with
   | zero=>simp[hintOnly,Slots.get]
   | succ t=>
     simp only[hintOnly,Slots.get]
     rw[hintOnly_get keep r (i+1) t]
     have:i+1+t=i+(t+1):=by omega
     rw[this]
theorem hintOnly_len (keep:List Nat):∀(σ:Slots) (i:Nat),(hintOnly keep i σ).length=σ.length
 | [],i=>rfl
 | x :: r,i=>by simp[hintOnly,hintOnly_len keep r (i+1)]
theorem Slots.get_mem:∀(σ:Slots) (t:Nat),Slots.get σ t = .n .any∨σ[t]?=some (Slots.get σ t)
 | [],t => .inl rfl
 | x :: r,0 => .inr rfl
 | x :: r,t+1=>by simpa[Slots.get] using Slots.get_mem r t
theorem upd_nil (hr:HR w C own m H) {id:Nat} (hid:H.get id=none) (e sz:Nat):Upd w m H id (.row false true 0 e sz []) w (m.set id 0 .nilrow):=by
 have hm:∀v,m id v=none:=fun v=>by
   cases h:m id v with
   | none=>rfl
   | some l=>have:=hr.dom _ _ _ h;rw[hid]at this;cases this
 refine ⟨fun i v l' h => ?_,fun i v l' h => ?_,Nat.le_refl _,fun b hb _=>rfl,fun o' h=>(by rw[hid]at h;cases h),fun b h => ?_,fun v hv => ?_,rfl,rfl,rfl⟩
 · simp only[Places.set]
   rw[if_neg]
   · exact h
   · rintro ⟨rfl,rfl⟩;rw[hm]at h;cases h
 · simp only[Places.set]at h
   split at h
   · rename_i hc
     simp only[Option.some.injEq]at h
     subst h
     exact .inr ⟨hc.1,fun b hb=>by simp[Loc.block]at hb⟩
   · exact .inl h
 · obtain ⟨l,h1,h2⟩:=h
   rw[Places.set_at]at h1
   simp only[Option.some.injEq]at h1
   subst h1
   simp[Loc.block]at h2
 · simp only[Places.set]
   simp only[Ob.ver]at hv
   rw[if_neg (by omega)]
   exact hm v
theorem hintRows_sound:∀ {l:List (Nat×Nat×Nat×Nat)} {σ:Slots} {H:Heap} {m:Places} {σ':Slots} {H':Heap},hintRows l σ H=some (σ',H')→St w0 C own m0 m σ H a w→∃m',St w0 C own m0 m' σ' H' a w
 | [],σ,H,m,σ',H',h,S=>by simp only[hintRows,Option.some.injEq,Prod.mk.injEq]at h;obtain ⟨rfl,rfl⟩:=h;exact ⟨m,S⟩
 | (s,id,e,sz) :: r,σ,H,m,σ',H',h,S=>by
   simp only[hintRows]at h
   split at h
   · rename_i _
     split at h
     · rename_i hs
       split at h <;> try (cases h;done)
       rename_i hid
       have hid':H.get id=none:=by simpa using hid
       have U:=upd_nil S.hr hid' e sz
       have T:=U.step S.hr
       have hr':HR w C own (m.set id 0 .nilrow) (H.ins id (.row false true 0 e sz [])):=by
         refine U.hr S.hr S.sz ⟨.nilrow,[],Places.set_at ..,rfl,World.ownsRow_nil w 0 e sz,fun i x h=>by simp at h,fun i x j y v h=>by simp at h,fun _ b hb=>by simp[Loc.block]at hb⟩
       refine hintRows_sound h ⟨fun t => ?_,by rw[Slots.len_put];exact S.len,S.dfr,hr',S.keep,S.n,S.sub,S.sz,fun i v l h=>T.p i v l (S.p i v l h),fun i v l b h hb hlt => ?_⟩
       · rw[Slots.get_put]
         split
         · rename_i hc
           obtain ⟨rfl,_⟩:=hc
           have:=S.vals t
           rw[hs]at this
           have e1:a.tmps.getD t undef = .slice none 0 0:=by
             generalize a.tmps.getD t undef=u at this
             cases this with
             | n _ _ h=>cases h;rfl
           rw[e1]
           exact .row id 0 .nilrow (Places.set_at ..) rfl
         · exact (S.vals t).step T
       · obtain ⟨v1,l1,e1,e2⟩:=T.q i v l b h hb (Nat.lt_of_lt_of_le hlt S.sz)
         exact S.fr i v1 l1 b e1 e2 hlt
     · split at h <;> try (cases h;done)
       exact hintRows_sound h S
     · cases h
   · split at h <;> try (cases h;done)
     rename_i cs hbx
     split at h <;> try (cases h;done)
     · rename_i hcell
       split at h <;> try (cases h;done)
       rename_i hid
       have hid':H.get id=none:=by simpa using hid
       have hne:s / 64≠id:=by rintro e;rw[e,hid']at hbx;cases hbx
       have U:=upd_nil S.hr hid' e sz
       have T:=U.step S.hr
       have hr':HR w C own (m.set id 0 .nilrow) (H.ins id (.row false true 0 e sz [])):=by
         refine U.hr S.hr S.sz ⟨.nilrow,[],Places.set_at ..,rfl,World.ownsRow_nil w 0 e sz,fun i x h=>by simp at h,fun i x j y v h=>by simp at h,fun _ b hb=>by simp[Loc.block]at hb⟩
       have hg1:(H.ins id (.row false true 0 e sz [])).get (s / 64)=some (.box cs):=by rw[Heap.get_ins,if_neg hne];exact hbx
       have U2:Upd w (m.set id 0 .nilrow) (H.ins id (.row false true 0 e sz [])) (s / 64) (.box (cs.set (s % 64) (.row id 0))) w (m.set id 0 .nilrow):=by
         refine ⟨fun _ _ _ h=>h,fun _ _ _ h => .inl h,Nat.le_refl _,fun _ _ _=>rfl,fun o' h => ?_,fun b h => .inl ⟨_,hg1,h⟩,fun v hv=>hr'.top _ _ v hg1 hv,rfl,rfl,rfl⟩
         rw[hg1]at h;cases h;rfl
       have T2:=U2.step hr'
       obtain ⟨b,t,c,hm,hh,hs,hv⟩:=hr'.objs _ _ hg1
       have hr2:HR w C own (m.set id 0 .nilrow) ((H.ins id (.row false true 0 e sz [])).ins (s / 64) (.box (cs.set (s % 64) (.row id 0)))):=by
         refine U2.hr hr' S.sz ⟨b,t,c,hm,hh,by simpa using hs,fun i x v h1 h2 => ?_⟩
         rw[List.getElem?_set]at h1
         split at h1
         · rename_i hi
           split at h1 <;> simp only[Option.some.injEq,reduceCtorEq]at h1
           subst h1;subst hi
           have:=hv _ _ _ hcell h2
           cases this with
           | n _ _ h=>cases h;exact .row id 0 .nilrow (Places.set_at ..) rfl
         · exact (hv i x v h1 h2).step T2
       refine hintRows_sound h ⟨fun t=>((S.vals t).step T).step T2,S.len,S.dfr,hr2,S.keep,S.n,S.sub,S.sz,fun i v l h=>T.p i v l (S.p i v l h),fun i v l b h hb hlt => ?_⟩
       obtain ⟨v1,l1,e1,e2⟩:=T.q i v l b h hb (Nat.lt_of_lt_of_le hlt S.sz)
       exact S.fr i v1 l1 b e1 e2 hlt
     · split at h <;> try (cases h;done)
       exact hintRows_sound h S
theorem dom_get:∀ {H:Heap} {i:Nat},(H.get i).isSome=true→i∈H.dom
 | [],i,h=>by cases h
 | (k,o) :: r,i,h=>by
   simp only[Heap.get]at h
   simp only[Heap.dom,List.map_cons,List.mem_cons]
   split at h
   · rename_i e;exact .inl e.symm
   · exact .inr (dom_get h)
theorem hint_sound {fn:Nat} (hm0:∀i v l,m0 i v=some l→i / 100000≠fn) {keep drop:List Nat} {rows:List (Nat×Nat×Nat×Nat)} {data:List Nat} {σ:Slots} {H:Heap} {σ':Slots} {H':Heap} (h:hinted fn keep drop rows data σ H=some (σ',H')) (S:St w0 C own m0 m σ H a w):∃m',St w0 C own m0 m' σ' H' a w:=by
 unfold hinted at h
 split at h <;> try (cases h;done)
 rename_i σ1 H1 hd
 have S1:=hintData_sound (fun b hb=>S.sub b hb) hd S
 simp only at h
 split at h <;> try (cases h;done)
 rename_i hc
 simp only[Bool.or_eq_true,Bool.not_eq_true',not_or,Bool.not_eq_true,Bool.not_eq_false]at hc
 obtain ⟨hcl,hdr⟩:=hc
 generalize hids:(H1.dom.filter fun i => !drop.contains i)=ids at h hcl
 obtain ⟨hc1,hc2⟩:=closed_boxes hcl
 obtain ⟨hr2,L⟩:=S1.hr.fewer hc2
 refine hintRows_sound h (m:=m.only ids) ⟨fun t => ?_,by rw[hintOnly_len];exact S1.len,S1.dfr,hr2,S1.keep,S1.n,S1.sub,S1.sz,fun i v l hm => ?_,fun i v l b hm hb hlt=>S1.fr i v l b (Places.only_some.1 hm).2 hb hlt⟩
 · rcases Slots.get_mem (hintOnly keep 0 σ1) t with e|e
   · rw[e];exact .any _
   · have hv:VR w C (owned H1 m) m ((hintOnly keep 0 σ1).get t) (a.tmps.getD t undef):=by
      rw[hintOnly_get,Nat.zero_add]
      split
      · exact S1.vals t
      · exact .any _
     exact (hv.only (sub_refs hc1 t _ e)).conv (fun b h1 h2=>L.n b h1 h2) (fun b h1 h2=>L.o b h1 h2) (fun _ _ _ h=>h)
 · have h1:=S1.p i v l hm
   refine Places.only_some.2 ⟨?_,h1⟩
   rw[←hids]
   simp only[List.contains_eq_mem,decide_eq_true_eq,List.mem_filter,Bool.not_eq_true',decide_eq_false_iff_not]
   refine ⟨dom_get (S1.hr.dom i v l h1),fun hi => ?_⟩
   have:drop.any (fun i=>i / 100000 != fn)=true:=List.any_eq_true.2 ⟨i,hi,by simpa using hm0 i v l hm⟩
   rw[this]at hdr;cases hdr
def exOf:Ex→Exit
 | .norm => .normal
 | .exit i => .exit i
 | .ret => .ret
theorem St.drawn (S:St w0 C own m0 m σ H a w):St w0 C own m0 m σ H a { w with drawn:=w.drawn+1 }:=by
 obtain ⟨T,hr⟩:=hr_ext S.hr (w' := { w with drawn:=w.drawn+1 }) (Nat.le_refl _) (fun _ _=>rfl)
 exact ⟨fun t=>(S.vals t).step T,S.len,S.dfr,hr,⟨S.keep.os,S.keep.tape,S.keep.output,S.keep.size,S.keep.block⟩,S.n,S.sub,S.sz,S.p,S.fr⟩
theorem op_any {keep:List Nat} {ops:Array Oper} {Q:Exit→Act→World→Prop} {K:Act→World→Prop} (hcall:CallsOK P call) {k:Nat} {o:Oper} {ro:RO} {σ1:Slots} {H1:Heap} {id:Nat}
   (ho:ops[k]?=some o) (htr:∃x,trO P keep id o=some x∧((o.guard=none∧ro=⟨o.dst,x,none,shO P o⟩)∨∃j b t,o.guard=some (j,b)∧(ops[j]?).bind (·.dst)=some t∧ro=⟨o.dst,x,some (t,b),shO P o⟩))
   (h:ro.run call σ H=some (σ1,H1)) (S:St w0 C own m0 m σ H a w) (hq:∀m' a' w',St w0 C own m0 m' σ1 H1 a' w'→K a' w'):wpOp P ops Q k K a w:=by
 obtain ⟨x,hx,hg⟩:=htr
 have go:∀ {v:AV} {H2:Heap},exec1 call σ H x=some (v,H2)→putO σ o.dst v=σ1→H2=H1→o.wp P a w K Q:=by
   intro v H2 h1 h2 h3
   subst h2;subst h3
   refine op_wp hcall S.hr (fun b hb=>S.sub b hb) S.sz S.vals hx h1 fun u w' hb => ?_
   obtain ⟨m',S'⟩:=S.next hb o.dst
   exact hq m' _ _ S'
 unfold wpOp
 rw[ho]
 dsimp only
 rcases hg with ⟨hg,rfl⟩|⟨j,b,t,hg,htt,rfl⟩
 · simp only[RO.run]at h
   split at h <;> simp only[Option.some.injEq,Prod.mk.injEq,reduceCtorEq]at h
   rename_i v H2 h1
   have hw:Region.wanted o (yielded ops a.tmps)=true:=by simp[Region.wanted,hg]
   rw[if_pos hw]
   exact .inl (go h1 (by rw[←h.1];cases o.dst <;> rfl) h.2)
 · simp only[RO.run]at h
   split at h <;> try (cases h;done)
   case h_2 hb0=>
     have hv:=S.vals t
     rw[hb0]at hv
     have hy:yielded ops a.tmps j=none:=yielded_undef htt hv
     rw[if_neg (by simp[Region.wanted,hg,hy])]
     simp only[Option.some.injEq,Prod.mk.injEq]at h
     obtain ⟨h1,rfl⟩:=h
     refine hq m _ _ ?_
     have:=S.skip o.dst
     rw[show σ1=putO σ o.dst .undef by rw[←h1];cases o.dst <;> rfl]
     exact this
   rename_i b0 hb0
   have hv:=S.vals t
   rw[hb0]at hv
   have hval:=hv.bool
   have hy:yielded ops a.tmps j=some b0:=by
     unfold yielded
     rw[htt]
     simp only[Option.bind_some]
     have:a.tmps[t]?=some (.bool b0):=by
      rw[Array.getD_eq_getD_getElem?]at hval
      cases h:a.tmps[t]? with
      | none=>rw[h]at hval;simp[undef]at hval
      | some z=>rw[h]at hval;simpa using hval
     rw[this]
   have hw:Region.wanted o (yielded ops a.tmps)=decide (b0=b):=by
     simp only[Region.wanted,hg,hy]
     cases b0 <;> cases b <;> rfl
   by_cases hbb:b0=b
   · simp only[hbb,if_true]at h
     split at h <;> simp only[Option.some.injEq,Prod.mk.injEq,reduceCtorEq]at h
     rename_i v H2 h1
     rw[if_pos (by rw[hw];simpa using hbb)]
     exact .inl (go h1 (by rw[←h.1];cases o.dst <;> rfl) h.2)
   · simp only[hbb,if_false,Option.some.injEq,Prod.mk.injEq]at h
     rw[if_neg (by rw[hw];simpa using hbb)]
     obtain ⟨h1,rfl⟩:=h
     refine hq m _ _ ?_
     have:=S.skip o.dst
     rw[show σ1=putO σ o.dst .undef by rw[←h1];cases o.dst <;> rfl]
     exact this
theorem trOps_at {keep:List Nat} {fn rid:Nat} {ops:Array Oper}:∀ {l:List Oper} {k:Nat} {ros:List RO},trOps P keep fn rid ops k l=some ros→ros.length=l.length∧∀(i:Nat) o,l[i]?=some o→∃ro,ros[i]?=some ro∧∃x,trO P keep (idOf keep fn rid (k+i)) o=some x∧((o.guard=none∧ro=⟨o.dst,x,none,shO P o⟩)∨∃j b t,o.guard=some (j,b)∧(ops[j]?).bind (·.dst)=some t∧ro=⟨o.dst,x,some (t,b),shO P o⟩)
 | [],k,ros,h=>by
   simp only[trOps,Option.some.injEq]at h;subst h
   exact ⟨rfl,fun i o hi=>by simp at hi⟩
 | o :: r,k,ros,h=>by
   simp only[trOps]at h
   split at h <;> try (cases h;done)
   rename_i x s hx hs
   obtain ⟨h1,h2⟩:=trOps_at hs
   have rest:∀ro,∀(i:Nat) o',(o :: r)[i+1]?=some o'→∃ro',(ro :: s)[i+1]?=some ro'∧∃x,trO P keep (idOf keep fn rid (k+(i+1))) o'=some x∧((o'.guard=none∧ro'=⟨o'.dst,x,none,shO P o'⟩)∨∃j b t,o'.guard=some (j,b)∧(ops[j]?).bind (·.dst)=some t∧ro'=⟨o'.dst,x,some (t,b),shO P o'⟩):=fun ro i o' hi=>by
     have:=h2 i o' (by simpa using hi)
     rw[show k+(i+1)=k+1+i by omega]
     simpa using this
   split at h
   · rename_i hg
     simp only[Option.some.injEq]at h;subst h
     refine ⟨by simp[h1],fun i o' hi => ?_⟩
     cases i with
     | zero=>simp only[List.getElem?_cons_zero,Option.some.injEq]at hi;subst hi;exact ⟨_,rfl,x,hx,.inl ⟨hg,rfl⟩⟩
     | succ i=>exact rest _ i o' hi
   · rename_i j b hg
     split at h <;> simp only[Option.some.injEq,reduceCtorEq]at h
     rename_i t ht
     subst h
     refine ⟨by simp[h1],fun i o' hi => ?_⟩
     cases i with
     | zero=>simp only[List.getElem?_cons_zero,Option.some.injEq]at hi;subst hi;exact ⟨_,rfl,x,hx,.inr ⟨j,b,t,hg,ht,rfl⟩⟩
     | succ i=>exact rest _ i o' hi
theorem lget_af {ops:Array Oper} {k:Nat} {o:Oper} (h:ops[k]?=some o):lget (afOf ops) k=(o.after.toList.filter (Region.binds .any)).map (·.on):=by
 unfold lget afOf
 rw[List.getElem?_map,Array.getElem?_toList,h]
 rfl
theorem drawn_any {keep:List Nat} {fn rid:Nat} {ops:Array Oper} {Q:Exit→Act→World→Prop} (hcall:CallsOK P call) {ros:List RO} (htr:trOps P keep fn rid ops 0 ops.toList=some ros)
   {anc:List (List Nat)} {un:List (Nat×Nat)} (hst:statOK (afOf ops) anc ros un=true) {fl:Nat→Fg} (hfl:∀i k,(i,k)∈un→(fl i).ok (fl k)=true) {s:Slots×Heap}
   (hq:∀m' a' w',St w0 C own m0 m' s.1 s.2 a' w'→Q .normal a' w'):
   ∀(fuel:Nat) (listed:Array Bool) (μ:List Nat) {σ:Slots} {H:Heap} {a:Act} {w:World} {m:Places},fuel=μ.length→listed.size=ops.size→μ.Pairwise (· < ·)→(∀i,i∈μ ↔ i<ops.size∧listed.getD i true=false) →
     (∀k i,k<ops.size→listed.getD k true=true→i∈lget anc k→listed.getD i true=true)→RunI call ros fl μ σ H s→St w0 C own m0 m σ H a w→wpAny P .any ops Q fuel listed a w:=by
 obtain ⟨hlen0,hat⟩:=trOps_at htr
 have hlen:ros.length=ops.size:=by simpa using hlen0
 have hst':∀k,k<ops.size→(∀i∈lget (afOf ops) k,i<k)∧(∀i∈lget anc k,i∈lget (afOf ops) k∨∃j∈lget (afOf ops) k,i∈lget anc j)∧∀i,i<k→pairOK anc ros un i k=true:=by
   intro k hk
   have:=List.all_eq_true.1 hst k (List.mem_range.2 (by rw[hlen];exact hk))
   simp only[Bool.and_eq_true,List.all_eq_true,decide_eq_true_eq,Bool.or_eq_true,List.any_eq_true,List.contains_eq_mem,List.mem_range]at this
   exact ⟨this.1.1,this.1.2,this.2⟩
 have ready_iff:∀(listed:Array Bool) (k:Nat),k∈Region.ready .any ops listed ↔ k<ops.size∧listed.getD k true=false∧∀i∈lget (afOf ops) k,listed.getD i false=true:=by
   intro listed k
   simp only[Region.ready,List.mem_filter,List.mem_range,Bool.and_eq_true,Bool.not_eq_true']
   constructor
   · rintro ⟨h1,h2,h3⟩
     refine ⟨h1,h2,fun i hi => ?_⟩
     have ho:ops[k]?=some ops[k]:=Array.getElem?_eq_getElem h1
     rw[lget_af ho]at hi
     rw[ho]at h3
     simp only[Option.map_some,Option.getD_some,Array.all_eq_true_iff_forall_mem,Bool.or_eq_true,Bool.not_eq_true']at h3
     obtain ⟨e,he,rfl⟩:=List.mem_map.1 hi
     obtain ⟨he1,he2⟩:=List.mem_filter.1 he
     rcases h3 e (by simpa using he1) with h|h
     · rw[he2]at h;cases h
     · exact h
   · rintro ⟨h1,h2,h3⟩
     refine ⟨h1,h2,?_⟩
     have ho:ops[k]?=some ops[k]:=Array.getElem?_eq_getElem h1
     rw[lget_af ho]at h3
     rw[ho]
     simp only[Option.map_some,Option.getD_some,Array.all_eq_true_iff_forall_mem,Bool.or_eq_true,Bool.not_eq_true']
     intro e he
     cases hb:Region.binds .any e with
     | false=>exact .inl rfl
     | true=>exact .inr (h3 e.on (List.mem_map.2 ⟨e,List.mem_filter.2 ⟨by simpa using he,hb⟩,rfl⟩))
 intro fuel
 induction fuel with
 | zero=>
   intro listed μ σ H a w m hf hsz hsrt hμ hD hrun S
   have:μ=[]:=List.eq_nil_of_length_eq_zero hf.symm
   subst this
   have hs:(σ,H)=s:=hrun
   subst hs
   refine ⟨?_,hq m a w S⟩
   refine List.eq_nil_iff_forall_not_mem.2 fun k hk => ?_
   obtain ⟨h1,h2,_⟩:=(ready_iff listed k).1 hk
   have:=(hμ k).2 ⟨h1,h2⟩
   cases this
 | succ fuel ih=>
   intro listed μ σ H a w m hf hsz hsrt hμ hD hrun S
   constructor
   · intro hnil
     -- the least one is ready
     cases μ with
     | nil=>cases hf
     | cons k r=>
       exfalso
       obtain ⟨hk1,hk2⟩:=(hμ k).1 (List.mem_cons_self ..)
       have:k∈Region.ready .any ops listed:=(ready_iff listed k).2 ⟨hk1,hk2,fun i hi=>by
         have hik:=(hst' k hk1).1 i hi
         cases hli:listed.getD i true with
         | false=>
           exfalso
           have hm:=(hμ i).2 ⟨by omega,hli⟩
           rcases List.mem_cons.1 hm with rfl|hm
           · omega
           · have:=(List.pairwise_cons.1 hsrt).1 i hm;omega
         | true=>
           have hi2:i<listed.size:=by omega
           simp only[Array.getD_eq_getD_getElem?,Array.getElem?_eq_getElem hi2,Option.getD_some]at hli ⊢
           exact hli⟩
       rw[hnil]at this;cases this
   · intro k hk
     obtain ⟨hk1,hk2,hk3⟩:=(ready_iff listed k).1 hk
     have hk3':∀i∈lget (afOf ops) k,listed.getD i true=true:=fun i hi=>by
       have:=hk3 i hi
       have hi2:i<listed.size:=by have:=(hst' k hk1).1 i hi;omega
       simp only[Array.getD_eq_getD_getElem?,Array.getElem?_eq_getElem hi2,Option.getD_some]at this ⊢
       exact this
     have hkanc:∀i∈lget anc k,listed.getD i true=true:=fun i hi=>by
       rcases (hst' k hk1).2.1 i hi with h|⟨j,hj,h⟩
       · exact hk3' i h
       · exact hD j i (by have:=(hst' k hk1).1 j hj;omega) (hk3' j hj) h
     obtain ⟨m1,m2,rfl⟩:=List.append_of_mem ((hμ k).2 ⟨hk1,hk2⟩)
     have hrun':=runI_first m1 (fun i hi x y hx hy=>by
       have hik:i<k:=(List.pairwise_append.1 hsrt).2.2 i hi k (List.mem_cons_self ..)
       have hp:=(hst' k hk1).2.2 i hik
       have hi2:=(hμ i).1 (List.mem_append_left _ hi)
       have hna:(lget anc k).contains i=false:=by
         cases hc:(lget anc k).contains i with
         | false=>rfl
         | true=>have:=hkanc i (by simpa using hc);rw[hi2.2]at this;cases this
       simp only[pairOK,hna,Bool.false_or,hx,hy,Bool.and_eq_true,Bool.or_eq_true]at hp
       refine ⟨hp.1,?_⟩
       have flx:∀j o,ros[j]?=some o→o.op.squiet=true→j∈m1++k :: m2→fl j = .q:=fun j o hj hsq hmem=>by
         -- the flag of what never looks
         have:∀ {μ:List Nat} {σ:Slots} {H:Heap},RunI call ros fl μ σ H s→j∈μ→fl j = .q:=by
           intro μ
           induction μ with
           | nil=>intro σ H _ h;cases h
           | cons q r ihr=>
             intro σ H hr h
             obtain ⟨o',σ',H',g1,g2,g3,g4⟩:=hr
             rcases List.mem_cons.1 h with rfl|h
             · rw[hj]at g1
               simp only[Option.some.injEq]at g1
               subst g1
               rw[g3]
               exact squiet_flag hsq
             · exact ihr g4 h
         exact this hrun hmem
       rcases hp.2 with ((h|h)|h)|h
       · exact .inl (by rw[flx i x hx h (by simp[hi])];exact (ok_q _).1)
       · exact .inl (by rw[flx k y hy h (by simp)];exact (ok_q _).2)
       · exact .inr h
       · exact .inl (hfl i k (by simpa using h))) hrun
     obtain ⟨ro,σ1,H1,hro,h1,_,hrest⟩:=hrun'
     have ho:ops[k]?=some ops[k]:=Array.getElem?_eq_getElem hk1
     obtain ⟨ro',hro',x,hx⟩:=hat k ops[k] (by rw[Array.getElem?_toList];exact ho)
     rw[hro]at hro'
     simp only[Option.some.injEq]at hro'
     subst hro'
     refine op_any hcall ho ⟨x,hx⟩ h1 S fun m' a' w' S' => ?_
     have hset:∀(i:Nat) (d:Bool),i≠k→(listed.setIfInBounds k true).getD i d=listed.getD i d:=fun i d hne=>getD_set_ne d (fun h=>hne h.symm)
     have hsetk:(listed.setIfInBounds k true).getD k true=true:=by
       rw[Array.getD_eq_getD_getElem?,Array.getElem?_setIfInBounds]
       simp only[if_true]
       split <;> rfl
     refine ih _ (m1++m2) (by simp at hf ⊢;omega) (by simp[hsz]) ?_ (fun i => ?_) (fun j i hj h2 h3 => ?_) hrest S'
     · rw[List.pairwise_append]at hsrt ⊢
       exact ⟨hsrt.1,(List.pairwise_cons.1 hsrt.2.1).2,fun i hi j hj=>hsrt.2.2 i hi j (List.mem_cons_of_mem _ hj)⟩
     · by_cases hik:i=k
       · subst hik
         rw[hsetk]
         constructor
         · intro hm
           exfalso
           rw[List.pairwise_append]at hsrt
           rcases List.mem_append.1 hm with hm|hm
           · have:=hsrt.2.2 i hm i (List.mem_cons_self ..);omega
           · have:=(List.pairwise_cons.1 hsrt.2.1).1 i hm;omega
         · rintro ⟨_,h⟩;cases h
       · rw[hset i true hik]
         have:=hμ i
         simp only[List.mem_append,List.mem_cons,hik,false_or]at this
         simpa only[List.mem_append] using this
     · by_cases hik:i=k
       · subst hik;exact hsetk
       · rw[hset i true hik]
         by_cases hjk:j=k
         · subst hjk;exact hkanc i h3
         · rw[hset j true hjk]at h2
           exact hD j i hj h2 h3
theorem exec_sound {keep:List Nat} {fn:Nat} {hs:Hints} {ls:Loops} {fuel:Nat} (hcall:CallsOK P call) (hm0:∀i v l,m0 i v=some l→i / 100000≠fn):∀ {c:Code} {cmd:Cmd} {σ:Slots} {H:Heap} {a:Act} {w:World} {m:Places} {ex:Ex} {σ':Slots} {H':Heap} {Q:Exit→Act→World→Prop},
   trC P keep fn hs ls c=some cmd→exec call fuel cmd σ H=some (ex,σ',H')→St w0 C own m0 m σ H a w→(∀m' a' w',St w0 C own m0 m' σ' H' a' w'→Q (exOf ex) a' w')→c.wp P Q a w:=by
 intro c
 induction c with
 | skip=>
   intro cmd σ H a w m ex σ' H' Q ht he S hq
   simp only[trC,Option.some.injEq]at ht;subst ht
   simp only[exec,Option.some.injEq,Prod.mk.injEq]at he
   obtain ⟨rfl,rfl,rfl⟩:=he
   exact wp_skip (hq m a w S)
 | label l=>
   intro cmd σ H a w m ex σ' H' Q ht he S hq
   simp only[trC,Option.some.injEq]at ht;subst ht
   simp only[exec,Option.some.injEq,Prod.mk.injEq]at he
   obtain ⟨rfl,rfl,rfl⟩:=he
   exact wp_label (hq m a w S)
 | exit id=>
   intro cmd σ H a w m ex σ' H' Q ht he S hq
   simp only[trC,Option.some.injEq]at ht;subst ht
   simp only[exec,Option.some.injEq,Prod.mk.injEq]at he
   obtain ⟨rfl,rfl,rfl⟩:=he
   exact wp_exit (hq m a w S)
 | ret=>
   intro cmd σ H a w m ex σ' H' Q ht he S hq
   simp only[trC,Option.some.injEq]at ht;subst ht
   simp only[exec,Option.some.injEq,Prod.mk.injEq]at he
   obtain ⟨rfl,rfl,rfl⟩:=he
   exact wp_ret (hq m a w S)
 | region id ops draw=>
   intro cmd σ H a w m ex σ' H' Q ht he S hq
   cases draw with
   | true=>
     simp only[trC]at ht
     split at ht <;> try (cases ht;done)
     rename_i l hl
     split at ht <;> simp only[Option.some.injEq,reduceCtorEq]at ht
     rename_i hok
     simp only[Bool.and_eq_true]at hok
     obtain ⟨hmix,hstat⟩:=hok
     have reg:∀ {σ:Slots} {H:Heap} {m:Places},St w0 C own m0 m σ H a w→exec call fuel (.drawn l (unOf (ancGo [] (afOf ops)) l)) σ H=some (ex,σ',H')→(Code.region id ops true).wp P Q a w:=by
       intro σ H m S he
       simp only[exec]at he
       split at he <;> try (cases he;done)
       rename_i σ1 H1 fl h1
       split at he <;> simp only[Option.some.injEq,reduceCtorEq,Prod.mk.injEq]at he
       rename_i hfl
       obtain ⟨rfl,rfl,rfl⟩:=he
       obtain ⟨_,hrun⟩:=runI_of l [] rfl h1
       have hlen:l.length=ops.size:=by have:=(trOps_at hl).1;simpa using this
       refine wp_region_any hmix ?_
       have hg:∀(i:Nat) (d:Bool),(Array.replicate ops.size false).getD i d=if i<ops.size then false else d:=fun i d=>by
         rw[Array.getD_eq_getD_getElem?,Array.getElem?_replicate]
         split <;> rfl
       refine drawn_any hcall hl hstat (s:=(σ1,H1)) (fun i k hik=>flagsOK_mem hfl hik) (fun m' a' w' S'=>hq m' a' w' S') ops.size _ (List.range' 0 l.length) (by simp[hlen]) (by simp) ?_ (fun i => ?_) (fun k i hk h => ?_) hrun S.drawn
       · exact List.pairwise_lt_range'
       · rw[hg];simp[hlen]
       · rw[hg,if_pos hk]at h;cases h
     clear hl hstat
     generalize unOf (ancGo [] (afOf ops)) l=un at ht reg
     induction hs with
     | nil=>simp only[Hints.at]at ht;subst ht;exact reg S he
     | cons x t ih=>
       obtain ⟨k,ka,kb,kr,kd⟩:=x
       simp only[Hints.at]at ht
       split at ht
       · subst ht
         cases hh:hinted fn ka kb kr kd σ H with
         | none=>simp[exec,hh]at he
         | some p=>
           obtain ⟨σ2,H2⟩:=p
           obtain ⟨m2,S2⟩:=hint_sound hm0 hh S
           exact reg S2 (by simpa only[exec,hh] using he)
       · exact ih ht
   | false=>
     simp only[trC]at ht
     split at ht
     case h_2=>
       split at ht <;> simp only[Option.some.injEq,reduceCtorEq]at ht
       subst ht
       have hn:exec call fuel stuck σ H=none:=rfl
       rw[hn]at he
       cases he
     rename_i l hl
     simp only[Option.some.injEq]at ht
     have reg:∀ {σ:Slots} {H:Heap} {m:Places},St w0 C own m0 m σ H a w→exec call fuel (.region l) σ H=some (ex,σ',H')→(Code.region id ops false).wp P Q a w:=by
       intro σ H m S he
       simp only[exec]at he
       split at he <;> simp only[Option.some.injEq,reduceCtorEq,Prod.mk.injEq]at he
       rename_i σ1 H1 h1
       obtain ⟨rfl,rfl,rfl⟩:=he
       exact wp_region_list (ops_sound hcall hl h1 S hq)
     clear hl
     induction hs with
     | nil=>simp only[Hints.at]at ht;subst ht;exact reg S he
     | cons x t ih=>
       obtain ⟨k,ka,kb,kr,kd⟩:=x
       simp only[Hints.at]at ht
       split at ht
       · subst ht
         cases hh:hinted fn ka kb kr kd σ H with
         | none=>simp[exec,hh]at he
         | some p=>
           obtain ⟨σ2,H2⟩:=p
           obtain ⟨m2,S2⟩:=hint_sound hm0 hh S
           exact reg S2 (by simpa only[exec,hh] using he)
       · exact ih ht
 | seq x y ihx ihy=>
   intro cmd σ H a w m ex σ' H' Q ht he S hq
   simp only[trC]at ht
   split at ht <;> simp only[Option.some.injEq,reduceCtorEq]at ht
   rename_i cx cy hx hy
   subst ht
   simp only[exec]at he
   refine wp_seq ?_
   split at he
   · rename_i σ1 H1 h1
     exact ihx hx h1 S fun m' a' w' S'=>ihy hy he S' hq
   · rename_i hn
     refine ihx hx he S fun m' a' w' S' => ?_
     cases ex with
     | norm=>exact absurd he (hn _ _)
     | exit i=>exact hq m' a' w' S'
     | ret=>exact hq m' a' w' S'
 | cond c x y ihx ihy=>
   intro cmd σ H a w m ex σ' H' Q ht he S hq
   simp only[trC]at ht
   split at ht <;> simp only[Option.some.injEq,reduceCtorEq]at ht
   rename_i cx cy hx hy
   subst ht
   simp only[exec]at he
   split at he <;> try (cases he;done)
   rename_i t hc
   have hv:=(ev_ok S.vals hc).bool
   cases t with
   | true=>exact wp_cond_true hv (ihx hx he S hq)
   | false=>exact wp_cond_false hv (ihy hy he S hq)
 | block id c ih=>
   intro cmd σ H a w m ex σ' H' Q ht he S hq
   simp only[trC]at ht
   split at ht <;> simp only[Option.some.injEq,reduceCtorEq]at ht
   rename_i cx hx
   subst ht
   simp only[exec]at he
   refine wp_block ?_
   split at he
   · rename_i i σ1 H1 h1
     refine ih hx h1 S fun m' a' w' S' => ?_
     split at he <;> simp only[Option.some.injEq,Prod.mk.injEq]at he <;> obtain ⟨rfl,rfl,rfl⟩:=he
     · rename_i hi
       subst hi
       have:=hq m' a' w' S'
       simpa[Exit.inBlock,exOf] using this
     · rename_i hi
       have:=hq m' a' w' S'
       simp only[Exit.inBlock,exOf]
       rw[if_neg hi]
       exact this
   · rename_i hn
     refine ih hx he S fun m' a' w' S' => ?_
     cases ex with
     | norm=>exact hq m' a' w' S'
     | exit i=>exact absurd he (hn _ _ _)
     | ret=>exact hq m' a' w' S'
 | loop c ih=>
   intro cmd σ H a w m ex σ' H' Q ht he S hq
   simp only[trC]at ht
   split at ht <;> simp only[Option.some.injEq,reduceCtorEq]at ht
   rename_i cx hx
   subst ht
   simp only[exec]at he
   refine wp_loop_ghost (fun n a w=>∃σ H m,loopN (exec call fuel cx) n σ H=some (ex,σ',H')∧St w0 C own m0 m σ H a w) fuel ⟨σ,H,m,he,S⟩ ?_
   rintro n a w ⟨σ,H,m,he,S⟩
   cases n with
   | zero=>cases he
   | succ n=>
     simp only[loopN]at he
     split at he
     · rename_i σ1 H1 h1
       exact ih hx h1 S fun m' a' w' S'=>⟨n,Nat.lt_succ_self _,σ1,H1,m',he,S'⟩
     · rename_i hn
       refine ih hx he S fun m' a' w' S' => ?_
       cases ex with
       | norm=>exact absurd he (hn _ _)
       | exit i=>exact hq m' a' w' S'
       | ret=>exact hq m' a' w' S'
 | scope c ih=>
   intro cmd σ H a w m ex σ' H' Q ht he S hq
   simp only[trC]at ht
   refine wp_scope_straight (ih ht he S fun m' a' w' S' => ?_)
   have:=hq m' a' w' S'
   cases ex <;> exact this
 | _=>intro cmd σ H a w m ex σ' H' Q ht;simp[trC]at ht
end
end Go.Mir
