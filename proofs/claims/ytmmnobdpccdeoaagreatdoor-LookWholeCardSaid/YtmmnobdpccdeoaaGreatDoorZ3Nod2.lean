import Derived.Test.YtmmnobdpccdeoaaGreatDoorZ3Nod
namespace Go.Proofs.YtmmnobdpccdeoaaGreatDoor.M
set_option linter.unusedVariables false
set_option linter.unusedSimpArgs false
open Go Go.Mir
set_option linter.unusedVariables false

theorem p69 (n : Nd) (hf : NdFits n) : Runs Fs2 69 [ndV n] [] (.n (.bool (decide (Stands n)))) [] := by
  obtain ⟨f1, f2, f3⟩ := hf
  refine vc_eq fs69 rfl ?_
  rw [ndV, vc69, V69, sl_len, sl_len, il_len]
  refine sel_dec (fun h => no_st (by unfold Stands; omega)) (fun h9 => ?_)
  refine ⟨fun i => 0 ≤ i ∧ i ≤ n.keys.length ∧ kOK n.keys i.toNat, fun i => (n.keys.length - i).toNat, ⟨rfl, by omega, by omega, kOK_zero _⟩, ?_⟩
  rintro i ⟨h0, h1, hk⟩ _
  refine sel_dec (fun hlt => ?_) (fun hge => ?_)
  · have hi : i.toNat < n.keys.length := by omega
    have bad : ¬ (1 ≤ n.keys[i.toNat].size ∧ n.keys[i.toNat].size ≤ 32 ∧ (∀ (h0 : 0 < i.toNat), lt (n.keys[i.toNat - 1]'(by omega)) n.keys[i.toNat] = true)) → ¬ Stands n := fun h hs => kOK_bad hi h hs.2.1
    have e1 : (i + 1).toNat = i.toNat + 1 := by omega
    refine ⟨rfl, h0, _, sl_at hi, _, rfl, sel_dec (fun h => no_st (bad (by omega))) (fun ha => sel_dec (fun h => no_st (bad (by omega))) (fun hb => sel_dec (fun hp => ?_) (fun hp => ?_)))⟩
    · have hj : (IntKind.wrap .i64 (i - 1)).toNat = i.toNat - 1 := by rw [i64_in _ (by omega)]; omega
      have hj' : i.toNat - 1 < n.keys.length := by omega
      refine ⟨rfl, by rw [i64_in _ (by omega)]; omega, _, by rw [hj]; exact sl_at hj', _, rfl, ?_⟩
      rw [le_eq]
      refine sel_intro (fun hc => no_st (bad fun h => ?_)) (fun hc => ?_)
      · rw [h.2.2 (by omega)] at hc; cases hc
      · repeat (refine And.intro rfl ?_)
        rw [i64_in _ (by omega)]
        refine ⟨⟨by omega, by omega, ?_⟩, by first | omega | (dsimp only; omega)⟩
        rw [e1]
        exact kOK_step hk hi (by omega) (by omega) fun _ => by simpa using hc
    · repeat (refine And.intro rfl ?_)
      rw [i64_in _ (by omega)]
      refine ⟨⟨by omega, by omega, ?_⟩, by first | omega | (dsimp only; omega)⟩
      rw [e1]
      exact kOK_step hk hi (by omega) (by omega) fun h => by omega
  · rw [show i.toNat = n.keys.length by omega] at hk
    refine ⟨fun i => 0 ≤ i ∧ i ≤ n.vals.length ∧ ∀ (j : Nat) (h : j < n.vals.length), (j : Int) < i → n.vals[j].size ≤ 200, fun i => (n.vals.length - i).toNat, ⟨rfl, by omega, by omega, fun j _ h => by omega⟩, ?_⟩
    rintro i ⟨h0, h1, hv⟩ _
    refine sel_dec (fun hlt => ?_) (fun hge => ?_)
    · have hi : i.toNat < n.vals.length := by omega
      refine ⟨rfl, h0, _, sl_at hi, _, rfl, sel_dec (fun h => no_st fun hs => ?_) (fun h => ?_)⟩
      · rcases hs.2.2 with ⟨_, _, _, h3⟩ | ⟨_, h3, _⟩
        · have := h3 _ (List.getElem_mem hi); omega
        · rw [h3] at hi; simp at hi
      · repeat (refine And.intro rfl ?_)
        rw [i64_in _ (by omega)]
        refine ⟨⟨by omega, by omega, fun j hj hji => ?_⟩, by first | omega | (dsimp only; omega)⟩
        by_cases e : (j : Int) < i
        · exact hv j hj e
        · obtain rfl : j = i.toNat := by omega
          omega
    · have hv' : ∀ v ∈ n.vals, v.size ≤ 200 := fun v hm => by
        obtain ⟨j, hj, rfl⟩ := List.getElem_of_mem hm
        exact hv j hj (by omega)
      refine ⟨fun i => 0 ≤ i ∧ i ≤ n.kids.length ∧ ∀ (j : Nat) (h : j < n.kids.length), (j : Int) < i → 10 ≤ n.kids[j] ∧ n.kids[j] < 2048, fun i => (n.kids.length - i).toNat, ⟨rfl, by omega, by omega, fun j _ h => by omega⟩, ?_⟩
      rintro i ⟨h0, h1, hb⟩ _
      have kb : ∀ (hi : i.toNat < n.kids.length), ¬ (10 ≤ n.kids[i.toNat] ∧ n.kids[i.toNat] < 2048) → ¬ Stands n := fun hi h hs => by
        rcases hs.2.2 with ⟨_, h3, _⟩ | ⟨_, _, _, _, h3⟩
        · rw [h3] at hi; simp at hi
        · exact h (h3 _ (List.getElem_mem hi))
      refine sel_dec (fun hlt => ?_) (fun hge => ?_)
      · have hi : i.toNat < n.kids.length := by omega
        refine ⟨rfl, h0, _, il_at hi, _, rfl, sel_dec (fun h => no_st (kb hi (by omega))) (fun h => sel_dec (fun h2 => no_st (kb hi (by omega))) (fun h2 => ?_))⟩
        repeat (refine And.intro rfl ?_)
        rw [i64_in _ (by omega)]
        refine ⟨⟨by omega, by omega, fun j hj hji => ?_⟩, by first | omega | (dsimp only; omega)⟩
        by_cases e : (j : Int) < i
        · exact hb j hj e
        · obtain rfl : j = i.toNat := by omega
          omega
      · have hb' : ∀ b ∈ n.kids, 10 ≤ b ∧ b < 2048 := fun b hm => by
          obtain ⟨j, hj, rfl⟩ := List.getElem_of_mem hm
          exact hb j hj (by omega)
        have other : ∀ {a : Bool}, n.leaf = a → ∀ {x : Bool}, n.leaf = x → x = a := fun h _ h2 => h2 ▸ h
        refine sel_intro (fun hl => ?_) (fun hl => ?_)
        · refine sel_intro (fun h => ?_) (fun h => no_st fun hs => ?_)
          · have e := nat_eq h
            congr 2
            refine Bool.eq_iff_iff.2 ⟨fun h => decide_eq_true ⟨by omega, hk, .inl ⟨hl, nil_of h, by omega, hv'⟩⟩, fun h => ?_⟩
            rcases (of_decide_eq_true h).2.2 with ⟨_, h3, _⟩ | ⟨h3, _⟩
            · rw [h3]; rfl
            · rw [hl] at h3; cases h3
          · have e := nat_ne h
            rcases hs.2.2 with ⟨_, _, h3, _⟩ | ⟨h3, _⟩
            · omega
            · rw [hl] at h3; cases h3
        · refine sel_intro (fun h => sel_dec (fun h1 => ?_) (fun h1 => no_st fun hs => ?_)) (fun h => no_st fun hs => ?_)
          · rw [i64_in _ (by omega)]
            congr 2
            refine Bool.eq_iff_iff.2 ⟨fun h2 => ?_, fun h2 => ?_⟩
            · have e := nat_eq h2
              exact decide_eq_true ⟨by omega, hk, .inr ⟨hl, nil_of h, by omega, by omega, hb'⟩⟩
            · rcases (of_decide_eq_true h2).2.2 with ⟨h3, _⟩ | ⟨_, _, _, h3, _⟩
              · rw [hl] at h3; cases h3
              · rw [h3]; simp
          · rcases hs.2.2 with ⟨h3, _⟩ | ⟨_, _, h3, _⟩
            · rw [hl] at h3; cases h3
            · omega
          · have e := nat_ne h
            rcases hs.2.2 with ⟨h3, _⟩ | ⟨_, h3, _⟩
            · rw [hl] at h3; cases h3
            · rw [h3] at e; exact e rfl
theorem p40 (n : Nd) (root : Bool) (hf : NdFits n) : Runs Fs2 40 [ndV n, .n (.bool root)] [] (.n (.bool (decide (NdOK n root)))) [] := by
  have no : ¬ NdOK n root → AV.n (D.bool false) = .n (.bool (decide (NdOK n root))) := fun h => by rw [decide_eq_false h]
  refine vc_eq fs40 rfl ?_
  rw [ndV, vc40, V40, sl_len]
  refine ⟨_, p41 n hf, ?_⟩
  by_cases hs : Stands n
  · rw [decide_eq_true hs]
    refine sel_intro (fun _ => sel_dec (fun h8 => sel_intro (fun hr => ?_) (fun hr => ?_)) (fun h8 => no (by unfold NdOK; omega))) (fun h => by cases h)
    · rw [decide_eq_true (p := NdOK n root) ⟨hs, by omega, .inl hr⟩]
    · congr 2
      simp only [decide_eq_decide]
      exact ⟨fun h => ⟨hs, by omega, .inr (by omega)⟩, fun h => by
        rcases h.2.2 with h2 | h2
        · rw [hr] at h2; cases h2
        · omega⟩
  · rw [decide_eq_false hs]
    exact sel_intro (fun h => by cases h) (fun _ => no fun h => hs h.1)
theorem p49 (n : Nd) (root : Bool) (hf : NdFits n) : Runs Fs2 49 [ndV n, .n (.bool root)] [] (.n (.bool (decide (NdOK n root)))) [] := by
  have no : ¬ NdOK n root → AV.n (D.bool false) = .n (.bool (decide (NdOK n root))) := fun h => by rw [decide_eq_false h]
  refine vc_eq fs49 rfl ?_
  rw [ndV, vc49, V49, sl_len]
  refine ⟨_, p69 n hf, ?_⟩
  by_cases hs : Stands n
  · rw [decide_eq_true hs]
    refine sel_intro (fun _ => sel_dec (fun h8 => sel_intro (fun hr => ?_) (fun hr => ?_)) (fun h8 => no (by unfold NdOK; omega))) (fun h => by cases h)
    · rw [decide_eq_true (p := NdOK n root) ⟨hs, by omega, .inl hr⟩]
    · congr 2
      simp only [decide_eq_decide]
      exact ⟨fun h => ⟨hs, by omega, .inr (by omega)⟩, fun h => by
        rcases h.2.2 with h2 | h2
        · rw [hr] at h2; cases h2
        · omega⟩
  · rw [decide_eq_false hs]
    exact sel_intro (fun h => by cases h) (fun _ => no fun h => hs h.1)

/-! Search. -/
def hS (l : List ByteArray) (x : ByteArray) : Heap := [(4200000, .box [.o (.sl 1 (sl_ l))]), (4200001, .box [.n (.str x)])]
theorem p58 (l : List ByteArray) (x : ByteArray) (i : Int) (h0 : 0 ≤ i) (hi : i.toNat < l.length) : Runs Fs2 58 [.n (.int .i64 i), .ptr 4200000 0, .ptr 4200001 0] (hS l x) (.n (.bool (!(lt l[i.toNat] x)))) (hS l x) := by
  refine vc_look fs58 rfl (by kernel_rfl) ?_
  rw [hS, vc58h]
  exact ⟨rfl, h0, _, sl_at hi, _, rfl, rfl, rfl⟩
/-- Where a key stands, or would. -/
def SrchAt (l : List ByteArray) (x : ByteArray) (k : Nat) : Prop := k ≤ l.length ∧ (∀ (j : Nat) (h : j < l.length), j < k → lt l[j] x = true) ∧ ∀ (h : k < l.length), lt l[k] x = false
theorem half_mid (a b : Int) (h0 : 0 ≤ a) (h1 : a < b) (h2 : b ≤ 4611686018427387904) : IntKind.wrap .i64 (Int.fdiv (IntKind.wrap .u64 (IntKind.wrap .i64 (a + b))) (2 ^ (Min.min (Int.toNat 1) (IntKind.bits .u64)))) = (a + b) / 2 := by
  rw [i64_in (a + b) (by omega), u64_in (a + b) (by omega)]
  rw [show (2 : Int) ^ (Min.min (Int.toNat 1) (IntKind.bits .u64)) = 2 by decide, Int.fdiv_eq_ediv_of_nonneg _ (by omega), i64_in _ (by omega)]
theorem kok_mono {l : List ByteArray} (h : KOK l) : ∀ (i j : Nat) (hi : i < l.length) (hj : j < l.length), i < j → lt l[i] l[j] = true := by
  intro i j hi hj hij
  induction j with
  | zero => omega
  | succ j ih =>
    have h1 := (h (j + 1) hj hj).2.2 (by omega)
    have e : j + 1 - 1 = j := by omega
    simp only [e] at h1
    by_cases hc : i = j
    · subst hc; exact h1
    · exact lt_trans (ih (by omega) (by omega)) h1
theorem p57 (l : List ByteArray) (x : ByteArray) (hk : KOK l) (hl : l.length ≤ 2048) : ∃ k : Nat, SrchAt l x k ∧ Runs Fs2 57 [.n (.int .i64 l.length), .fn 58 [.ptr 4200000 0, .ptr 4200001 0]] (hS l x) (.n (.int .i64 k)) (hS l x) := by
  have key : ∃ r H', Runs Fs2 57 [.n (.int .i64 l.length), .fn 58 [.ptr 4200000 0, .ptr 4200001 0]] (hS l x) r H' ∧ ∃ k : Nat, r = .n (.int .i64 k) ∧ H' = hS l x ∧ SrchAt l x k := by
    refine vc_objs (R := fun r H' => ∃ k : Nat, r = .n (.int .i64 k) ∧ H' = hS l x ∧ SrchAt l x k) fs57 rfl (by kernel_rfl) ?_
    rw [hS, vc57h]
    refine ⟨fun a b => 0 ≤ a ∧ a ≤ b ∧ b ≤ l.length ∧ (∀ (j : Nat) (h : j < l.length), (j : Int) < a → lt l[j] x = true) ∧ ∀ (j : Nat) (h : j < l.length), b ≤ (j : Int) → lt l[j] x = false, fun a b => (b - a).toNat, ⟨rfl, by omega, by omega, by omega, fun j h hj => by omega, fun j h hj => by omega⟩, ?_⟩
    rintro a b ⟨h0, h1, h2, h3, h4⟩ _
    refine sel_dec (fun hlt => ?_) (fun hge => ?_)
    · rw [half_mid a b h0 hlt (by omega)]
      have hm : ((a + b) / 2).toNat < l.length := by omega
      refine ⟨by decide, _, p58 l x _ (by omega) hm, sel_intro (fun hc => ?_) (fun hc => ?_)⟩
      · have hc : lt l[((a + b) / 2).toNat] x = true := by simpa using hc
        repeat (refine And.intro rfl ?_)
        rw [i64_in _ (by omega)]
        refine ⟨⟨by omega, by omega, by omega, fun j hj hja => ?_, h4⟩, by first | omega | (dsimp only; omega)⟩
        by_cases e : j = ((a + b) / 2).toNat
        · subst e; exact hc
        · exact lt_trans (kok_mono hk j _ hj hm (by omega)) hc
      · have hc : lt l[((a + b) / 2).toNat] x = false := by simpa using hc
        repeat (refine And.intro rfl ?_)
        refine ⟨⟨by omega, by omega, by omega, h3, fun j hj hja => ?_⟩, by first | omega | (dsimp only; omega)⟩
        by_cases e : j = ((a + b) / 2).toNat
        · subst e; exact hc
        · cases hq : lt l[j] x with
          | false => rfl
          | true =>
            have := lt_trans (kok_mono hk _ j hm hj (by omega)) hq
            rw [hc] at this; cases this
    · refine ⟨a.toNat, by rw [show ((a.toNat : Nat) : Int) = a by omega], rfl, by omega, fun j hj hja => h3 j hj (by omega), fun h => h4 a.toNat h (by omega)⟩
  obtain ⟨r, H', hr, k, rfl, rfl, hk'⟩ := key
  exact ⟨k, hk', hr⟩
theorem p42 (l : List ByteArray) (x : ByteArray) (hk : KOK l) (hl : l.length ≤ 2048) : ∃ k : Nat, SrchAt l x k ∧ Runs Fs2 42 [.o (.sl 1 (sl_ l)), .n (.str x)] [] (.n (.int .i64 k)) [] := by
  obtain ⟨k, hs, h⟩ := p57 l x hk hl
  refine ⟨k, hs, ?_⟩
  refine vc_eq fs42 rfl ?_
  rw [vc42, V42, sl_len]
  exact ⟨_, h, rfl⟩
theorem srch_one {l : List ByteArray} {x : ByteArray} {k j : Nat} (hk : SrchAt l x k) (hj : SrchAt l x j) : k = j := by
  rcases Nat.lt_trichotomy k j with h | h | h
  · have h1 := hk.2.2 (by have := hj.1; omega)
    rw [hj.2.1 k (by have := hj.1; omega) h] at h1; cases h1
  · exact h
  · have h1 := hj.2.2 (by have := hk.1; omega)
    rw [hk.2.1 j (by have := hk.1; omega) h] at h1; cases h1
/-- The place, as a function. -/
def srch : List ByteArray → ByteArray → Nat
  | [], _ => 0
  | k :: r, x => if lt k x then srch r x + 1 else 0
theorem srch_le : ∀ (l : List ByteArray) (x : ByteArray), srch l x ≤ l.length
  | [], _ => Nat.le_refl _
  | k :: r, x => by
    unfold srch
    split
    · have := srch_le r x; simp; omega
    · omega
theorem srch_at : ∀ (l : List ByteArray) (x : ByteArray), SrchAt l x (srch l x)
  | [], x => ⟨Nat.le_refl _, fun j h => by simp at h, fun h => by simp at h⟩
  | k :: r, x => by
    obtain ⟨h1, h2, h3⟩ := srch_at r x
    refine ⟨srch_le _ _, fun j hj hjk => ?_, fun h => ?_⟩
    · unfold srch at hjk
      split at hjk
      · rename_i hk
        cases j with
        | zero => exact hk
        | succ j => exact h2 j (by simpa using hj) (by omega)
      · omega
    · by_cases hk : lt k x = true
      · have e : srch (k :: r) x = srch r x + 1 := by rw [srch, if_pos hk]
        simp only [e] at h ⊢
        exact h3 (by simpa using h)
      · have e : srch (k :: r) x = 0 := by rw [srch, if_neg hk]
        simp only [e]
        simpa using hk
def isAt (l : List ByteArray) (x : ByteArray) : Bool := decide (l[srch l x]? = some x)
theorem p30 (n : Nd) (x : ByteArray) (hf : NdFits n) (hs : Stands n) : Runs Fs2 30 [ndV n, .n (.str x)] [] (.tup [.n (.int .i64 (srch n.keys x)), .n (.bool (isAt n.keys x))]) [] := by
  obtain ⟨k, hk, g⟩ := p42 n.keys x hs.2.1 (by have := hs.1; omega)
  obtain rfl := srch_one hk (srch_at n.keys x)
  have g1 := p41 n hf
  rw [decide_eq_true hs] at g1
  refine vc_eq fs30 rfl ?_
  rw [ndV, vc30, V30, sl_len]
  refine ⟨_, g1, sel_intro (fun h => by cases h) (fun _ => ⟨_, g, sel_dec (fun h => ?_) (fun h => ?_)⟩)⟩
  · have hi : srch n.keys x < n.keys.length := by omega
    refine ⟨rfl, by omega, _, sl_at hi, _, rfl, ?_⟩
    rw [beq_dec, isAt, List.getElem?_eq_getElem hi]
    simp only [Option.some.injEq]
  · rw [isAt, List.getElem?_eq_none (by omega), decide_eq_false (by simp)]
theorem p29 (n : Nd) (x : ByteArray) (hf : NdFits n) (hs : Stands n) (hl : n.leaf = false) : Runs Fs2 29 [ndV n, .n (.str x)] [] (.n (.int .i64 ((srch n.keys x : Int) + if isAt n.keys x then 1 else 0))) [] := by
  refine vc_eq fs29 rfl ?_
  rw [ndV, vc29, V29]
  refine sel_intro (fun h => by rw [hl] at h; cases h) (fun _ => ?_)
  have := srch_le n.keys x
  have h9 := hs.1
  refine ⟨_, _, p30 n x hf hs, sel_intro (fun h => ?_) (fun h => ?_)⟩
  · rw [i64_in _ (by omega), if_pos h]
  · rw [if_neg (by rw [h]; simp), Int.add_zero]
end Go.Proofs.YtmmnobdpccdeoaaGreatDoor.M
