/- The mirror machine: operations that may change places. -/
import Derived.Test.YtjmfgemjabaohaaDoorMirA
namespace Go.Mir
set_option linter.unusedVariables false
set_option linter.unusedSimpArgs false

theorem Slots.put_get' : ∀ (σ : Slots) (d : Nat) (v : AV) (t : Nat), t ≠ d → Slots.get (Slots.put σ d v) t = Slots.get σ t
  | [], _, _, _, _ => rfl
  | x :: r, 0, v, 0, h => absurd rfl h
  | x :: r, 0, v, t + 1, _ => rfl
  | x :: r, d + 1, v, 0, _ => rfl
  | x :: r, d + 1, v, t + 1, h => by simpa [Slots.put, Slots.get] using Slots.put_get' r d v t (by omega)
theorem Slots.put_comm : ∀ (σ : Slots) (d e : Nat) (v u : AV), d ≠ e → Slots.put (Slots.put σ d v) e u = Slots.put (Slots.put σ e u) d v
  | [], _, _, _, _, _ => rfl
  | x :: r, 0, 0, v, u, h => absurd rfl h
  | x :: r, 0, e + 1, v, u, _ => rfl
  | x :: r, d + 1, 0, v, u, _ => rfl
  | x :: r, d + 1, e + 1, v, u, h => by simpa [Slots.put] using Slots.put_comm r d e v u (by omega)

section
variable {σ σ' : Slots}
theorem ev_congr {x : Operand} (h : ∀ t ∈ opdT x, σ.get t = σ'.get t) : ev σ x = ev σ' x := by
  cases x <;> simp_all [ev, opdT]
theorem evL_congr : ∀ {l : List Operand}, (∀ t ∈ opdTs l, σ.get t = σ'.get t) → evL σ l = evL σ' l
  | [], _ => rfl
  | x :: r, h => by
    have h1 : ev σ x = ev σ' x := ev_congr fun t ht => h t (by simp [opdTs, ht])
    have h2 : evL σ r = evL σ' r := evL_congr fun t ht => h t (by
      simp only [opdTs, List.flatMap_cons, List.mem_append]; exact .inr ht)
    simp only [evL, h1, h2]
theorem bound_congr {x : Option Operand} {d hi : Nat} (h : ∀ t ∈ opdO x, σ.get t = σ'.get t) : bound σ x d hi = bound σ' x d hi := by
  cases x with
  | none => rfl
  | some x => simp only [bound, ev_congr (σ := σ) (σ' := σ') (x := x) h]
theorem fill_congr : ∀ {l : List (Nat × Nat × Operand)} {cs : List AV}, (∀ t ∈ l.flatMap (fun p => opdT p.2.2), σ.get t = σ'.get t) → fillAV σ cs l = fillAV σ' cs l
  | [], _, _ => rfl
  | (off, size, x) :: r, cs, h => by
    have h1 : ev σ x = ev σ' x := ev_congr fun t ht => h t (by simp [ht])
    have h2 : ∀ cs, fillAV σ cs r = fillAV σ' cs r := fun cs => fill_congr fun t ht => h t (by
      simp only [List.flatMap_cons, List.mem_append]; exact .inr ht)
    simp only [fillAV, h1, h2]
theorem exec1_congr {call : CallFn} {H : Heap} {o : Opn} (h : ∀ t ∈ o.reads, σ.get t = σ'.get t) : exec1 call σ H o = exec1 call σ' H o := by
  cases o
  case mov x => simp only [exec1, ev_congr (x := x) h]
  case pick c a b =>
    simp only [Opn.reads, List.mem_append] at h
    simp only [exec1, ev_congr (x := c) fun t ht => h t (.inl (.inl ht)), ev_congr (x := a) fun t ht => h t (.inl (.inr ht)), ev_congr (x := b) fun t ht => h t (.inr ht)]
  case scut x lo hi =>
    simp only [Opn.reads, List.mem_append] at h
    simp only [exec1, ev_congr (x := x) fun t ht => h t (.inl (.inl ht)), bound_congr (x := lo) fun t ht => h t (.inl (.inr ht)), bound_congr (x := hi) fun t ht => h t (.inr ht)]
  case cut x lo hi mx sz =>
    simp only [Opn.reads, List.mem_append] at h
    simp only [exec1, ev_congr (x := x) fun t ht => h t (.inl (.inl (.inl ht))), bound_congr (x := lo) fun t ht => h t (.inl (.inl (.inr ht))), bound_congr (x := hi) fun t ht => h t (.inl (.inr ht)), bound_congr (x := mx) fun t ht => h t (.inr ht)]
  case build z ps => simp only [exec1, fill_congr (l := ps) h]
  case lit id e sz ps => simp only [exec1, evL_congr (l := ps) h]
  case mm m xs => simp only [exec1, evL_congr (l := xs) h]
  case mkf f xs => simp only [exec1, evL_congr (l := xs) h]
  case call o f xs => simp only [exec1, evL_congr (l := xs) h]
  case dyn o f xs =>
    simp only [Opn.reads, List.mem_append] at h
    simp only [exec1, ev_congr (x := f) fun t ht => h t (.inl ht), evL_congr (l := xs) fun t ht => h t (.inr ht)]
  case alloc => rfl
  case mk id e z b n => simp only [exec1, ev_congr (x := n) h]
  case box id x => simp only [exec1, ev_congr (x := x) h]
  case app id e sz b x y =>
    simp only [Opn.reads, List.mem_append] at h
    simp only [exec1, ev_congr (x := x) fun t ht => h t (.inl ht), ev_congr (x := y) fun t ht => h t (.inr ht)]
  case apps id e x y =>
    simp only [Opn.reads, List.mem_append] at h
    simp only [exec1, ev_congr (x := x) fun t ht => h t (.inl ht), ev_congr (x := y) fun t ht => h t (.inr ht)]
  case bin op x y =>
    simp only [Opn.reads, List.mem_append] at h
    simp only [exec1, ev_congr (x := x) fun t ht => h t (.inl ht), ev_congr (x := y) fun t ht => h t (.inr ht)]
  case bb op x y =>
    simp only [Opn.reads, List.mem_append] at h
    simp only [exec1, ev_congr (x := x) fun t ht => h t (.inl ht), ev_congr (x := y) fun t ht => h t (.inr ht)]
  case eqs op ks x y =>
    simp only [Opn.reads, List.mem_append] at h
    simp only [exec1, ev_congr (x := x) fun t ht => h t (.inl ht), ev_congr (x := y) fun t ht => h t (.inr ht)]
  case st x y sz =>
    simp only [Opn.reads, List.mem_append] at h
    simp only [exec1, ev_congr (x := x) fun t ht => h t (.inl ht), ev_congr (x := y) fun t ht => h t (.inr ht)]
  case idxA x y sz =>
    simp only [Opn.reads, List.mem_append] at h
    simp only [exec1, ev_congr (x := x) fun t ht => h t (.inl ht), ev_congr (x := y) fun t ht => h t (.inr ht)]
  case idx x y =>
    simp only [Opn.reads, List.mem_append] at h
    simp only [exec1, ev_congr (x := x) fun t ht => h t (.inl ht), ev_congr (x := y) fun t ht => h t (.inr ht)]
  case un op x => simp only [exec1, ev_congr (x := x) h]
  case conv op x => simp only [exec1, ev_congr (x := x) h]
  case sid x => simp only [exec1, ev_congr (x := x) h]
  case ext x i => simp only [exec1, ev_congr (x := x) h]
  case nilck x => simp only [exec1, ev_congr (x := x) h]
  case fadr x i => simp only [exec1, ev_congr (x := x) h]
  case fld x i n => simp only [exec1, ev_congr (x := x) h]
  case ld x n => simp only [exec1, ev_congr (x := x) h]
  case slen x => simp only [exec1, ev_congr (x := x) h]
  case len x => simp only [exec1, ev_congr (x := x) h]
  case s2b x => simp only [exec1, ev_congr (x := x) h]
  case b2s x => simp only [exec1, ev_congr (x := x) h]
theorem quiet_congr {o : Opn} (h : ∀ t ∈ o.reads, σ.get t = σ'.get t) : o.quiet σ = o.quiet σ' := by
  cases o <;> try rfl
  case len x => simp only [Opn.quiet, ev_congr (x := x) h]
  case b2s x => simp only [Opn.quiet, ev_congr (x := x) h]
  case ld x n => simp only [Opn.quiet, ev_congr (x := x) h]
  case cut x lo hi mx sz =>
    simp only [Opn.reads, List.mem_append] at h
    simp only [Opn.quiet, ev_congr (x := x) fun t ht => h t (.inl (.inl (.inl ht)))]
  case idxA x i sz =>
    simp only [Opn.reads, List.mem_append] at h
    simp only [Opn.quiet, ev_congr (x := x) fun t ht => h t (.inl ht)]

/-- What looks at no object leaves all, and tells the same everywhere. -/
def Still (call : CallFn) (σ : Slots) (o : Opn) : Prop := ∀ H v H', exec1 call σ H o = some (v, H') → H' = H ∧ ∀ K, exec1 call σ K o = some (v, K)
theorem still_of {call : CallFn} {o : Opn} (r : Option AV) (h : ∀ H, exec1 call σ H o = r.map fun v => (v, H)) : Still call σ o := by
  intro H v H' he
  rw [h] at he
  cases r with
  | none => cases he
  | some x =>
    simp only [Option.map_some, Option.some.injEq, Prod.mk.injEq] at he
    obtain ⟨rfl, rfl⟩ := he
    exact ⟨rfl, fun K => by rw [h]; rfl⟩
theorem still_of' {call : CallFn} {o : Opn} (h : ∀ H K, (exec1 call σ H o).map (·.1) = (exec1 call σ K o).map (·.1)) (h2 : ∀ H v H', exec1 call σ H o = some (v, H') → H' = H) : Still call σ o := by
  intro H v H' he
  refine ⟨h2 H v H' he, fun K => ?_⟩
  have := h H K
  rw [he] at this
  cases hk : exec1 call σ K o with
  | none => rw [hk] at this; cases this
  | some p =>
    obtain ⟨u, K'⟩ := p
    rw [hk] at this
    simp only [Option.map_some, Option.some.injEq] at this
    subst this
    rw [h2 K _ _ hk]
theorem quietV_cases {x : Option AV} (h : quietV x = true) : ∃ a, x = some a ∧ ((∃ d, a = .n d) ∨ (∃ d, a = .o d) ∨ ∃ nw cs, a = .dat nw cs) := by
  unfold quietV at h
  split at h <;> first | exact ⟨_, rfl, .inl ⟨_, rfl⟩⟩ | exact ⟨_, rfl, .inr (.inl ⟨_, rfl⟩)⟩ | exact ⟨_, rfl, .inr (.inr ⟨_, _, rfl⟩)⟩ | cases h
theorem els_free {a : AV} (h : (∃ d, a = .n d) ∨ (∃ d, a = .o d) ∨ ∃ nw cs, a = .dat nw cs) (H K : Heap) : elsOf H a = elsOf K a := by
  rcases h with ⟨d, rfl⟩ | ⟨d, rfl⟩ | ⟨nw, cs, rfl⟩
  · cases d <;> rfl
  · cases d <;> rfl
  · rfl
theorem rowsIn_free {a : AV} (h : (∃ d, a = .n d) ∨ (∃ d, a = .o d) ∨ ∃ nw cs, a = .dat nw cs) : rowsIn a = [] := by
  rcases h with ⟨d, rfl⟩ | ⟨d, rfl⟩ | ⟨nw, cs, rfl⟩ <;> rfl
theorem still_quiet {call : CallFn} {o : Opn} (hq : o.quiet σ = true) : Still call σ o := by
  cases o
  case len x =>
    obtain ⟨a, ha, hc⟩ := quietV_cases hq
    refine still_of' (fun H K => ?_) fun H v H' he => ?_
    · simp only [exec1, ha]; rw [els_free hc H K]; split <;> rfl
    · simp only [exec1, ha] at he; split at he <;> simp only [Option.some.injEq, Prod.mk.injEq, reduceCtorEq] at he; exact he.2.symm
  case b2s x =>
    obtain ⟨a, ha, hc⟩ := quietV_cases hq
    refine still_of' (fun H K => ?_) fun H v H' he => ?_
    · simp only [exec1, ha]; rw [els_free hc H K]; split <;> try rfl
      split <;> rfl
    · simp only [exec1, ha] at he
      split at he <;> try (cases he; done)
      split at he <;> simp only [Option.some.injEq, Prod.mk.injEq, reduceCtorEq] at he
      exact he.2.symm
  case cut x lo hi mx sz =>
    obtain ⟨a, ha, hc⟩ := quietV_cases hq
    have hr := rowsIn_free hc
    clear hq
    by_cases hn : a = .n .nil
    · subst hn
      refine still_of' (fun H K => ?_) fun H v H' he => ?_
      · simp only [exec1, ha]; repeat' (first | rfl | split)
      · simp only [exec1, ha] at he
        repeat' (split at he)
        all_goals (simp only [Option.some.injEq, Prod.mk.injEq, reduceCtorEq] at he)
        all_goals exact he.2.symm
    · have key : ∀ H, exec1 call σ H (.cut x lo hi mx sz) = match elsOf H a with
          | some (nw, s, els) => if s = sz then match bound σ mx els.length els.length with
              | some m => match (match hi with | none => some els.length | some _ => bound σ hi 0 m) with
                | some h => match bound σ lo 0 h with
                  | some l => some (sub nw (.sl sz ((els.take h).drop l)), H)
                  | none => none
                | none => none
              | none => none
            else none
          | none => none := fun H => by
        rcases hc with ⟨d, rfl⟩ | ⟨d, rfl⟩ | ⟨nw, cs, rfl⟩
        · cases d <;> first | exact absurd rfl hn | (simp only [exec1, ha, hr, Heap.freeze]; cases hi <;> rfl)
        · simp only [exec1, ha, hr, Heap.freeze]; cases hi <;> rfl
        · simp only [exec1, ha, hr, Heap.freeze]; cases hi <;> rfl
      refine still_of' (fun H K => ?_) fun H v H' he => ?_
      · rw [key, key, els_free hc H K]
        generalize elsOf K a = E
        rcases E with _ | ⟨nw, s, els⟩
        · rfl
        · dsimp only
          by_cases hs : s = sz
          · simp only [hs, if_true]
            cases bound σ mx els.length els.length with
            | none => rfl
            | some m =>
              dsimp only
              generalize (match hi with | none => some els.length | some _ => bound σ hi 0 m) = U
              cases U with
              | none => rfl
              | some u =>
                dsimp only
                cases bound σ lo 0 u <;> rfl
          · simp only [hs, if_false]
      · rw [key] at he
        repeat' (split at he)
        all_goals (simp only [Option.some.injEq, Prod.mk.injEq, reduceCtorEq] at he)
        all_goals exact he.2.symm
  case idxA x i sz =>
    obtain ⟨a, ha, hc⟩ := quietV_cases hq
    have key : ∀ H, exec1 call σ H (.idxA x i sz) = match ev σ i with
        | some (.n (.int _ j)) => (match elsOf H a with
          | some (nw, s, els) => if s = sz && 0 ≤ j then match els[j.toNat]? with
              | some d => some (.dat nw d.cells, H)
              | none => none
            else none
          | none => none)
        | _ => none := fun H => by
      rcases hc with ⟨d, rfl⟩ | ⟨d, rfl⟩ | ⟨nw, cs, rfl⟩ <;> simp only [exec1, ha] <;> generalize ev σ i = I <;> rcases I with _ | b <;> first
        | rfl
        | (cases b <;> first | rfl | (rename_i d2; cases d2 <;> rfl))
    refine still_of' (fun H K => ?_) fun H v H' he => ?_
    · rw [key, key, els_free hc H K]
      generalize elsOf K a = E
      generalize ev σ i = I
      repeat' (first | rfl | split)
    · rw [key] at he
      repeat' (split at he)
      all_goals (simp only [Option.some.injEq, Prod.mk.injEq, reduceCtorEq] at he)
      all_goals exact he.2.symm
  case ld x n =>
    obtain ⟨a, ha, hc⟩ := quietV_cases hq
    have key : ∀ H, exec1 call σ H (.ld x n) = (match (exec1 call σ [] (.ld x n)) with | some (v, _) => some (v, H) | none => none) := by
      intro H
      rcases hc with ⟨d, rfl⟩ | ⟨d, rfl⟩ | ⟨nw, cs, rfl⟩
      · simp only [exec1, ha]
      · simp only [exec1, ha]
      · simp only [exec1, ha] <;> repeat' (first | rfl | split)
        all_goals simp_all
    refine still_of ((exec1 call σ [] (.ld x n)).map (·.1)) fun H => ?_
    rw [key H]
    cases exec1 call σ [] (.ld x n) <;> rfl
  all_goals first
    | (cases hq; done)
    | (refine still_of' (fun H K => ?_) fun H v H' he => ?_
       · simp only [exec1] <;> repeat' (first | rfl | split)
       · simp only [exec1] at he
         repeat' (split at he)
         all_goals (simp only [Option.some.injEq, Prod.mk.injEq, reduceCtorEq] at he)
         all_goals exact he.2.symm)
end

def pd (d : Option Nat) (σ : Slots) (v : AV) : Slots := match d with | some d => σ.put d v | none => σ
def RO.val (call : CallFn) (o : RO) (σ : Slots) (H : Heap) : Option (AV × Heap) :=
  match o.guard with
  | none => exec1 call σ H o.op
  | some (g, want) => match σ.get g with
    | .n (.bool b) => if b = want then exec1 call σ H o.op else some (.n .any, H)
    | _ => none
theorem RO.run_val (call : CallFn) (o : RO) (σ : Slots) (H : Heap) : o.run call σ H = (o.val call σ H).map fun p => (pd o.dst σ p.1, p.2) := by
  unfold RO.run RO.val pd
  cases o.guard with
  | none =>
    dsimp only
    cases exec1 call σ H o.op <;> rfl
  | some p =>
    obtain ⟨g, want⟩ := p
    dsimp only
    generalize σ.get g = x
    generalize exec1 call σ H o.op = E
    cases x
    case n d =>
      cases d
      case bool b =>
        dsimp only
        by_cases hb : b = want
        · simp only [hb, if_true]; cases E <;> rfl
        · simp only [hb, if_false]; rfl
      all_goals rfl
    all_goals rfl
section
variable {σ σ' : Slots} {call : CallFn}
theorem RO.reads_op {o : RO} {t : Nat} (h : t ∈ o.op.reads) : t ∈ o.reads := List.mem_append_left _ h
theorem RO.reads_guard {o : RO} {g : Nat} {b : Bool} (h : o.guard = some (g, b)) : g ∈ o.reads := by
  simp [RO.reads, h]
theorem RO.val_congr {o : RO} {H : Heap} (h : ∀ t ∈ o.reads, σ.get t = σ'.get t) : o.val call σ H = o.val call σ' H := by
  have h1 : exec1 call σ H o.op = exec1 call σ' H o.op := exec1_congr fun t ht => h t (RO.reads_op ht)
  unfold RO.val
  cases hg : o.guard with
  | none => simp only [h1]
  | some p =>
    obtain ⟨g, want⟩ := p
    simp only [h1, h g (RO.reads_guard hg)]
theorem RO.flag_congr {o : RO} (h : ∀ t ∈ o.reads, σ.get t = σ'.get t) : o.flag σ = o.flag σ' := by
  have h1 : o.op.quiet σ = o.op.quiet σ' := quiet_congr fun t ht => h t (RO.reads_op ht)
  unfold RO.flag
  cases hg : o.guard with
  | none => simp only [h1]
  | some p =>
    obtain ⟨g, want⟩ := p
    simp only [h1, h g (RO.reads_guard hg)]
theorem RO.val_still {o : RO} {H : Heap} {v : AV} {H' : Heap} (hf : o.flag σ = true) (h : o.val call σ H = some (v, H')) : H' = H ∧ ∀ K, o.val call σ K = some (v, K) := by
  unfold RO.flag at hf
  unfold RO.val at h ⊢
  cases hg : o.guard with
  | none =>
    simp only [hg] at hf h ⊢
    exact still_quiet hf H v H' h
  | some p =>
    obtain ⟨g, want⟩ := p
    simp only [hg] at hf h ⊢
    split at h
    · rename_i b hb
      simp only [hb] at hf ⊢
      split at h
      · rename_i hw
        simp only [hw, if_true] at hf ⊢
        exact still_quiet hf H v H' h
      · rename_i hw
        simp only [Option.some.injEq, Prod.mk.injEq] at h
        obtain ⟨rfl, rfl⟩ := h
        exact ⟨rfl, fun K => by simp only [hw, if_false]⟩
    · cases h
theorem pd_get {d : Option Nat} {v : AV} {t : Nat} (h : ∀ e, d = some e → t ≠ e) : Slots.get (pd d σ v) t = Slots.get σ t := by
  cases d with
  | none => rfl
  | some e => exact Slots.put_get' _ _ _ _ (h e rfl)
theorem pd_comm {d e : Option Nat} {v u : AV} (h : ∀ x, d = some x → e ≠ some x) : pd e (pd d σ v) u = pd d (pd e σ u) v := by
  cases d with
  | none => rfl
  | some x =>
    cases e with
    | none => rfl
    | some y => exact Slots.put_comm _ _ _ _ _ fun hxy => h x rfl (by rw [hxy])
theorem apart_spec {x y : RO} (h : x.apart y = true) : (∀ d, x.dst = some d → d ∉ y.reads) ∧ (∀ d, x.dst = some d → y.dst ≠ some d) ∧ (∀ d, y.dst = some d → d ∉ x.reads) := by
  simp only [RO.apart, Bool.and_eq_true] at h
  obtain ⟨h1, h2⟩ := h
  refine ⟨fun d hd => ?_, fun d hd => ?_, fun d hd => ?_⟩
  · simp only [hd, Bool.and_eq_true, Bool.not_eq_true', List.contains_eq_mem, decide_eq_false_iff_not] at h1
    exact h1.1
  · simp only [hd, Bool.and_eq_true, bne_iff_ne] at h1
    exact h1.2
  · simp only [hd, Bool.not_eq_true', List.contains_eq_mem, decide_eq_false_iff_not] at h2
    exact h2
theorem run_swap {x y : RO} {H H1 H2 : Heap} {σ1 σ2 : Slots} (hap : x.apart y = true) (h1 : x.run call σ H = some (σ1, H1)) (h2 : y.run call σ1 H1 = some (σ2, H2)) (hq : x.flag σ = true ∨ y.flag σ1 = true) :
    ∃ σ3 H3, y.run call σ H = some (σ3, H3) ∧ x.run call σ3 H3 = some (σ2, H2) ∧ y.flag σ = y.flag σ1 ∧ x.flag σ3 = x.flag σ := by
  obtain ⟨a1, a2, a3⟩ := apart_spec hap
  rw [RO.run_val] at h1 h2
  obtain ⟨⟨v, K1⟩, hv, e1⟩ := Option.map_eq_some_iff.1 h1
  obtain ⟨⟨u, K2⟩, hu, e2⟩ := Option.map_eq_some_iff.1 h2
  simp only [Prod.mk.injEq] at e1 e2
  obtain ⟨rfl, rfl⟩ := e1
  obtain ⟨rfl, rfl⟩ := e2
  have cy : ∀ t ∈ y.reads, Slots.get (pd x.dst σ v) t = Slots.get σ t := fun t ht => pd_get fun e he hte => a1 e he (hte ▸ ht)
  have cx : ∀ t ∈ x.reads, Slots.get (pd y.dst σ u) t = Slots.get σ t := fun t ht => pd_get fun e he hte => a3 e he (hte ▸ ht)
  rw [RO.val_congr cy] at hu
  have fy := RO.flag_congr cy
  have fx := RO.flag_congr cx
  rcases hq with hq | hq
  · obtain ⟨rfl, hx⟩ := RO.val_still hq hv
    refine ⟨pd y.dst σ u, K2, by rw [RO.run_val, hu]; rfl, ?_, fy.symm, fx⟩
    rw [RO.run_val, RO.val_congr cx, hx K2]
    simp only [Option.map_some, pd_comm a2]
  · rw [fy] at hq
    obtain ⟨rfl, hy⟩ := RO.val_still hq hu
    refine ⟨pd y.dst σ u, H, by rw [RO.run_val, hy H]; rfl, ?_, fy.symm, fx⟩
    rw [RO.run_val, RO.val_congr cx, hv]
    simp only [Option.map_some, pd_comm a2]

/-- Operations by their numbers, one behind the other. -/
def RunI (call : CallFn) (ros : List RO) (fl : Nat → Bool) : List Nat → Slots → Heap → Slots × Heap → Prop
  | [], σ, H, s => (σ, H) = s
  | k :: r, σ, H, s => ∃ o σ' H', ros[k]? = some o ∧ o.run call σ H = some (σ', H') ∧ fl k = o.flag σ ∧ RunI call ros fl r σ' H' s
theorem runI_of {call : CallFn} : ∀ (l pre : List RO) {σ : Slots} {H : Heap} {acc : List Bool} {σ' : Slots} {H' : Heap} {fl : List Bool}, acc.length = pre.length → runOps call l σ H acc = some (σ', H', fl) →
    (∃ t, fl = acc ++ t) ∧ RunI call (pre ++ l) (fun k => (fl[k]?).getD false) (List.range' pre.length l.length) σ H (σ', H')
  | [], pre, σ, H, acc, σ', H', fl, hl, h => by
    simp only [runOps, Option.some.injEq, Prod.mk.injEq] at h
    obtain ⟨rfl, rfl, rfl⟩ := h
    exact ⟨⟨[], by simp⟩, rfl⟩
  | o :: r, pre, σ, H, acc, σ', H', fl, hl, h => by
    simp only [runOps] at h
    split at h <;> try (cases h; done)
    rename_i σ1 H1 h1
    obtain ⟨⟨t, ht⟩, h2⟩ := runI_of r (pre ++ [o]) (by simp [hl]) h
    have e : pre ++ [o] ++ r = pre ++ o :: r := by simp
    rw [e, List.length_append, List.length_singleton] at h2
    refine ⟨⟨o.flag σ :: t, by rw [ht]; simp⟩, ?_⟩
    rw [List.length_cons, List.range'_succ]
    refine ⟨o, σ1, H1, by simp, h1, ?_, h2⟩
    rw [ht]
    simp [← hl]
theorem runI_first {ros : List RO} {fl : Nat → Bool} {k : Nat} {m2 : List Nat} {s : Slots × Heap} : ∀ (m1 : List Nat) {σ : Slots} {H : Heap},
    (∀ i ∈ m1, ∀ x y, ros[i]? = some x → ros[k]? = some y → x.apart y = true ∧ (fl i = true ∨ fl k = true)) → RunI call ros fl (m1 ++ k :: m2) σ H s → RunI call ros fl (k :: (m1 ++ m2)) σ H s
  | [], σ, H, _, h => h
  | i :: m1, σ, H, hp, h => by
    obtain ⟨x, σ1, H1, hx, h1, f1, h⟩ := h
    obtain ⟨y, σ2, H2, hy, h2, f2, h⟩ := runI_first m1 (fun j hj => hp j (List.mem_cons_of_mem _ hj)) h
    obtain ⟨ha, hq⟩ := hp i (List.mem_cons_self ..) x y hx hy
    rw [f1, f2] at hq
    obtain ⟨σ3, H3, g1, g2, g3, g4⟩ := run_swap ha h1 h2 hq
    exact ⟨y, σ3, H3, hy, g1, by rw [f2, g3], x, σ2, H2, hx, g2, by rw [f1, g4], h⟩
end

/-! Which must stand ahead of which. -/
def ancGo (acc : List (List Nat)) : List (List Nat) → List (List Nat)
  | [] => acc
  | a :: r => ancGo (acc ++ [(a ++ a.flatMap fun j => (acc[j]?).getD []).eraseDups]) r
def lget (l : List (List Nat)) (k : Nat) : List Nat := (l[k]?).getD []
def unOf (anc : List (List Nat)) (ros : List RO) : List (Nat × Nat) :=
  (List.range ros.length).flatMap fun k => ((List.range k).filter fun i => !(lget anc k).contains i && !(((ros[i]?).map fun o => o.op.squiet).getD true) && !(((ros[k]?).map fun o => o.op.squiet).getD true)).map fun i => (i, k)
def pairOK (anc : List (List Nat)) (ros : List RO) (un : List (Nat × Nat)) (i k : Nat) : Bool :=
  (lget anc k).contains i || (match ros[i]?, ros[k]? with
    | some x, some y => x.apart y && (x.op.squiet || y.op.squiet || un.contains (i, k))
    | _, _ => false)
def statOK (af anc : List (List Nat)) (ros : List RO) (un : List (Nat × Nat)) : Bool :=
  (List.range ros.length).all fun k => (lget af k).all (fun i => decide (i < k)) && (lget anc k).all (fun i => (lget af k).contains i || (lget af k).any fun j => (lget anc j).contains i) && (List.range k).all fun i => pairOK anc ros un i k
theorem squiet_quiet {o : Opn} {σ : Slots} (h : o.squiet = true) : o.quiet σ = true := by
  cases o <;> first | rfl | (cases h; done) | exact h
theorem squiet_flag {o : RO} {σ : Slots} (h : o.op.squiet = true) : o.flag σ = true := by
  unfold RO.flag
  split
  · exact squiet_quiet h
  · split
    · split
      · exact squiet_quiet h
      · rfl
    · rfl
theorem flagsOK_mem {fl : List Bool} : ∀ {un : List (Nat × Nat)} {i k : Nat}, flagsOK fl un = true → (i, k) ∈ un → (fl[i]?).getD false = true ∨ (fl[k]?).getD false = true
  | (a, b) :: r, i, k, h, hm => by
    simp only [flagsOK, Bool.and_eq_true, Bool.or_eq_true] at h
    rcases List.mem_cons.1 hm with he | hm
    · simp only [Prod.mk.injEq] at he
      obtain ⟨rfl, rfl⟩ := he
      exact h.1
    · exact flagsOK_mem h.2 hm
end Go.Mir
