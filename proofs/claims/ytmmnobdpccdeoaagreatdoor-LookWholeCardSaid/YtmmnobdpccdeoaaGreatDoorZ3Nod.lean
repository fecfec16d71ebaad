import Derived.Test.YtmmnobdpccdeoaaGreatDoorZ3LV
import Derived.Test.YtmmnobdpccdeoaaGreatDoorZ3Ord
namespace Go.Proofs.YtmmnobdpccdeoaaGreatDoor.M
set_option linter.unusedVariables false
set_option linter.unusedSimpArgs false
open Go Go.Mir
set_option linter.unusedVariables false

/-- A node. -/
structure Nd where
  leaf : Bool
  keys : List ByteArray
  vals : List ByteArray
  kids : List Int
def nd0 : Nd := ⟨false, [], [], []⟩
def il (l : List Int) : List Mir.D := l.map (.int .i64)
theorem il_len (l : List Int) : (il l).length = l.length := by simp [il]
theorem il_at {l : List Int} {i : Nat} (h : i < l.length) : (il l)[i]? = some (.int .i64 l[i]) := by simp [il, h]
def ndV (n : Nd) : AV := .agg [.n (.bool n.leaf), .o (.sl 1 (sl_ n.keys)), .o (.sl 1 (sl_ n.vals)), .o (.sl 1 (il n.kids))]

theorem nat_eq {a : Nat} {b : Int} (h : (((a : Nat) : Int) == b) = true) : (a : Int) = b := by simpa using h
theorem nat_ne {a : Nat} {b : Int} (h : (((a : Nat) : Int) == b) = false) : (a : Int) ≠ b := by simpa using h
theorem nil_of {α : Type} {l : List α} (h : (((l.length : Nat) : Int) == 0) = true) : l = [] := List.length_eq_zero_iff.1 (by have := nat_eq h; omega)
/-! ContainsFunc. -/
abbrev Small (n : Nat) : Prop := (n : Int) ≤ 9223372036854775807
theorem p34 (s : ByteArray) : Runs Fs2 34 [.n (.str s)] [] (.n (.bool (decide ((s.size : Int) > 4096)))) [] := by
  refine vc_eq fs34 rfl ?_
  rw [vc34]; rfl
theorem p54 (s : ByteArray) : Runs Fs2 54 [.n (.str s)] [] (.n (.bool (decide ((s.size : Int) > 200)))) [] := by
  refine vc_eq fs54 rfl ?_
  rw [vc54]; rfl
theorem p56 (b : Int) : Runs Fs2 56 [.n (.int .i64 b)] [] (.n (.bool (decide (b < 10 ∨ b ≥ 2048)))) [] := by
  refine vc_eq fs56 rfl ?_
  rw [vc56, V56]
  refine sel_dec (fun h => by rw [decide_eq_true (.inl h)]) (fun h => ?_)
  congr 2; simp only [decide_eq_decide]; omega
/-- Does one of a list do? -/
theorem any_up {α : Type} {l : List α} {p : α → Bool} {i : Int} (h0 : 0 ≤ i) (h : ¬ i < l.length) (hi : ∀ (j : Nat) (h : j < l.length), (j : Int) < i → p l[j] = false) : l.any p = false := by
  refine List.any_eq_false.2 fun x hx => ?_
  obtain ⟨j, hj, rfl⟩ := List.getElem_of_mem hx
  rw [hi j hj (by omega)]; simp
theorem any_at {α : Type} {l : List α} {p : α → Bool} {i : Nat} (h : i < l.length) (hp : p l[i] = true) : l.any p = true := List.any_eq_true.2 ⟨_, List.getElem_mem h, hp⟩
theorem step_up {α : Type} {l : List α} {p : α → Bool} {i : Int} (h0 : 0 ≤ i) (hlt : i.toNat < l.length) (hp : p l[i.toNat] = false) (hi : ∀ (j : Nat) (h : j < l.length), (j : Int) < i → p l[j] = false) : ∀ (j : Nat) (h : j < l.length), (j : Int) < i + 1 → p l[j] = false := fun j h hj => by
  by_cases e : (j : Int) < i
  · exact hi j h e
  · obtain rfl : j = i.toNat := by omega
    exact hp
theorem p46p (l : List ByteArray) (hl : Small l.length) : ∃ r : Int, decide (r ≥ 0) = l.any (fun s => decide ((s.size : Int) > 4096)) ∧ Runs Fs2 46 [.o (.sl 1 (sl_ l)), .fn 34 []] [] (.n (.int .i64 r)) [] := by
  have key : ∃ r, Runs Fs2 46 [.o (.sl 1 (sl_ l)), .fn 34 []] [] r [] ∧ ∃ k : Int, r = .n (.int .i64 k) ∧ decide (k ≥ 0) = l.any (fun s => decide ((s.size : Int) > 4096)) := by
    refine vc_runs (R := fun r => ∃ k : Int, r = .n (.int .i64 k) ∧ decide (k ≥ 0) = l.any (fun s => decide ((s.size : Int) > 4096))) fs46 rfl ?_
    rw [vc46p, V46p, sl_len]
    refine ⟨fun i => 0 ≤ i ∧ i ≤ l.length ∧ ∀ (j : Nat) (h : j < l.length), (j : Int) < i → decide ((l[j].size : Int) > 4096) = false, fun i => (l.length - i).toNat, ⟨rfl, by omega, by omega, fun j _ hj => by omega⟩, ?_⟩
    rintro i ⟨h0, h1, hok⟩ _
    refine sel_dec (fun h => ?_) (fun h => ⟨-1, rfl, ?_⟩)
    · have hi : i.toNat < l.length := by omega
      refine ⟨rfl, h0, _, sl_at hi, _, rfl, _, p34 _, sel_intro (fun hb => ⟨i, rfl, ?_⟩) (fun hb => ?_)⟩
      · rw [decide_eq_true h0]; exact (any_at (p := fun s : ByteArray => decide ((s.size : Int) > 4096)) hi hb).symm
      · repeat (refine And.intro rfl ?_)
        rw [i64_in _ (by omega)]
        exact ⟨⟨by omega, by omega, step_up (p := fun s : ByteArray => decide ((s.size : Int) > 4096)) h0 hi hb hok⟩, by first | omega | (dsimp only; omega)⟩
    · exact (any_up (p := fun s : ByteArray => decide ((s.size : Int) > 4096)) h0 h hok).symm
  obtain ⟨r, hr, k, rfl, hk⟩ := key
  exact ⟨k, hk, hr⟩
theorem p33p (l : List ByteArray) (hl : Small l.length) : Runs Fs2 33 [.o (.sl 1 (sl_ l)), .fn 34 []] [] (.n (.bool (l.any fun s => decide ((s.size : Int) > 4096)))) [] := by
  refine vc_eq fs33 rfl ?_
  rw [vc33p]
  obtain ⟨r, hr, h⟩ := p46p l hl
  exact ⟨r, h, by rw [hr]⟩
theorem p46q (l : List ByteArray) (hl : Small l.length) : ∃ r : Int, decide (r ≥ 0) = l.any (fun s => decide ((s.size : Int) > 200)) ∧ Runs Fs2 46 [.o (.sl 1 (sl_ l)), .fn 54 []] [] (.n (.int .i64 r)) [] := by
  have key : ∃ r, Runs Fs2 46 [.o (.sl 1 (sl_ l)), .fn 54 []] [] r [] ∧ ∃ k : Int, r = .n (.int .i64 k) ∧ decide (k ≥ 0) = l.any (fun s => decide ((s.size : Int) > 200)) := by
    refine vc_runs (R := fun r => ∃ k : Int, r = .n (.int .i64 k) ∧ decide (k ≥ 0) = l.any (fun s => decide ((s.size : Int) > 200))) fs46 rfl ?_
    rw [vc46q, V46q, sl_len]
    refine ⟨fun i => 0 ≤ i ∧ i ≤ l.length ∧ ∀ (j : Nat) (h : j < l.length), (j : Int) < i → decide ((l[j].size : Int) > 200) = false, fun i => (l.length - i).toNat, ⟨rfl, by omega, by omega, fun j _ hj => by omega⟩, ?_⟩
    rintro i ⟨h0, h1, hok⟩ _
    refine sel_dec (fun h => ?_) (fun h => ⟨-1, rfl, ?_⟩)
    · have hi : i.toNat < l.length := by omega
      refine ⟨rfl, h0, _, sl_at hi, _, rfl, _, p54 _, sel_intro (fun hb => ⟨i, rfl, ?_⟩) (fun hb => ?_)⟩
      · rw [decide_eq_true h0]; exact (any_at (p := fun s : ByteArray => decide ((s.size : Int) > 200)) hi hb).symm
      · repeat (refine And.intro rfl ?_)
        rw [i64_in _ (by omega)]
        exact ⟨⟨by omega, by omega, step_up (p := fun s : ByteArray => decide ((s.size : Int) > 200)) h0 hi hb hok⟩, by first | omega | (dsimp only; omega)⟩
    · exact (any_up (p := fun s : ByteArray => decide ((s.size : Int) > 200)) h0 h hok).symm
  obtain ⟨r, hr, k, rfl, hk⟩ := key
  exact ⟨k, hk, hr⟩
theorem p33q (l : List ByteArray) (hl : Small l.length) : Runs Fs2 33 [.o (.sl 1 (sl_ l)), .fn 54 []] [] (.n (.bool (l.any fun s => decide ((s.size : Int) > 200)))) [] := by
  refine vc_eq fs33 rfl ?_
  rw [vc33q]
  obtain ⟨r, hr, h⟩ := p46q l hl
  exact ⟨r, h, by rw [hr]⟩
theorem p77p (l : List Int) (hl : Small l.length) : ∃ r : Int, decide (r ≥ 0) = l.any (fun b => decide (b < 10 ∨ b ≥ 2048)) ∧ Runs Fs2 77 [.o (.sl 1 (il l)), .fn 56 []] [] (.n (.int .i64 r)) [] := by
  have key : ∃ r, Runs Fs2 77 [.o (.sl 1 (il l)), .fn 56 []] [] r [] ∧ ∃ k : Int, r = .n (.int .i64 k) ∧ decide (k ≥ 0) = l.any (fun b => decide (b < 10 ∨ b ≥ 2048)) := by
    refine vc_runs (R := fun r => ∃ k : Int, r = .n (.int .i64 k) ∧ decide (k ≥ 0) = l.any (fun b => decide (b < 10 ∨ b ≥ 2048))) fs77 rfl ?_
    rw [vc77p, V77p, il_len]
    refine ⟨fun i => 0 ≤ i ∧ i ≤ l.length ∧ ∀ (j : Nat) (h : j < l.length), (j : Int) < i → decide (l[j] < 10 ∨ l[j] ≥ 2048) = false, fun i => (l.length - i).toNat, ⟨rfl, by omega, by omega, fun j _ hj => by omega⟩, ?_⟩
    rintro i ⟨h0, h1, hok⟩ _
    refine sel_dec (fun h => ?_) (fun h => ⟨-1, rfl, ?_⟩)
    · have hi : i.toNat < l.length := by omega
      refine ⟨rfl, h0, _, il_at hi, _, rfl, _, p56 _, sel_intro (fun hb => ⟨i, rfl, ?_⟩) (fun hb => ?_)⟩
      · rw [decide_eq_true h0]; exact (any_at (p := fun b : Int => decide (b < 10 ∨ b ≥ 2048)) hi hb).symm
      · repeat (refine And.intro rfl ?_)
        rw [i64_in _ (by omega)]
        exact ⟨⟨by omega, by omega, step_up (p := fun b : Int => decide (b < 10 ∨ b ≥ 2048)) h0 hi hb hok⟩, by first | omega | (dsimp only; omega)⟩
    · exact (any_up (p := fun b : Int => decide (b < 10 ∨ b ≥ 2048)) h0 h hok).symm
  obtain ⟨r, hr, k, rfl, hk⟩ := key
  exact ⟨k, hk, hr⟩
theorem p55p (l : List Int) (hl : Small l.length) : Runs Fs2 55 [.o (.sl 1 (il l)), .fn 56 []] [] (.n (.bool (l.any fun b => decide (b < 10 ∨ b ≥ 2048)))) [] := by
  refine vc_eq fs55 rfl ?_
  rw [vc55p]
  obtain ⟨r, hr, h⟩ := p77p l hl
  exact ⟨r, h, by rw [hr]⟩

/-! Which nodes may stand. -/
def kOK (l : List ByteArray) (i : Nat) : Prop := ∀ (j : Nat) (h : j < l.length), j < i → 1 ≤ l[j].size ∧ l[j].size ≤ 32 ∧ (∀ (h2 : 0 < j), lt (l[j - 1]'(by omega)) l[j] = true)
def KOK (l : List ByteArray) : Prop := kOK l l.length
def Stands (n : Nd) : Prop := n.keys.length ≤ 9 ∧ KOK n.keys ∧
  ((n.leaf = true ∧ n.kids = [] ∧ n.vals.length = n.keys.length ∧ ∀ v ∈ n.vals, v.size ≤ 200) ∨
   (n.leaf = false ∧ n.vals = [] ∧ 1 ≤ n.keys.length ∧ n.kids.length = n.keys.length + 1 ∧ ∀ b ∈ n.kids, 10 ≤ b ∧ b < 2048))
noncomputable instance (n : Nd) : Decidable (Stands n) := Classical.propDecidable _
def NdOK (n : Nd) (root : Bool) : Prop := Stands n ∧ n.keys.length ≤ 8 ∧ (root = true ∨ 4 ≤ n.keys.length)
noncomputable instance (n : Nd) (root : Bool) : Decidable (NdOK n root) := Classical.propDecidable _
theorem no_st {n : Nd} (h : ¬ Stands n) : AV.n (D.bool false) = .n (.bool (decide (Stands n))) := by rw [decide_eq_false h]
theorem kOK_zero (l : List ByteArray) : kOK l 0 := fun j _ h => by omega
theorem kOK_step {l : List ByteArray} {i : Nat} (h : kOK l i) (hi : i < l.length) (h1 : 1 ≤ l[i].size) (h2 : l[i].size ≤ 32) (h3 : ∀ (h0 : 0 < i), lt (l[i - 1]'(by omega)) l[i] = true) : kOK l (i + 1) := fun j hj hji => by
  by_cases e : j = i
  · subst e; exact ⟨h1, h2, h3⟩
  · exact h j hj (by omega)
theorem kOK_bad {l : List ByteArray} {i : Nat} (hi : i < l.length) (h : ¬ (1 ≤ l[i].size ∧ l[i].size ≤ 32 ∧ (∀ (h0 : 0 < i), lt (l[i - 1]'(by omega)) l[i] = true))) : ¬ KOK l := fun hk => h (hk i hi hi)
/-- What fits an int. -/
def NdFits (n : Nd) : Prop := Small n.keys.length ∧ Small n.vals.length ∧ Small n.kids.length
theorem p41 (n : Nd) (hf : NdFits n) : Runs Fs2 41 [ndV n] [] (.n (.bool (decide (Stands n)))) [] := by
  obtain ⟨f1, f2, f3⟩ := hf
  refine vc_eq fs41 rfl ?_
  rw [ndV, vc41, V41, sl_len, sl_len, il_len]
  refine sel_dec (fun h => no_st (by unfold Stands; omega)) (fun h9 => ?_)
  refine ⟨fun i => 0 ≤ i ∧ i ≤ n.keys.length ∧ kOK n.keys i.toNat, fun i => (n.keys.length - i).toNat, ⟨rfl, by omega, by omega, kOK_zero _⟩, ?_⟩
  rintro i ⟨h0, h1, hk⟩ _
  refine sel_dec (fun hlt => ?_) (fun hge => ?_)
  · have hi : i.toNat < n.keys.length := by omega
    have bad : ¬ (1 ≤ n.keys[i.toNat].size ∧ n.keys[i.toNat].size ≤ 32 ∧ (∀ (h0 : 0 < i.toNat), lt (n.keys[i.toNat - 1]'(by omega)) n.keys[i.toNat] = true)) → ¬ Stands n := fun h hs => kOK_bad hi h hs.2.1
    have e1 : (i + 1).toNat = i.toNat + 1 := by omega
    refine ⟨rfl, h0, _, sl_at hi, _, rfl, sel_dec (fun h => no_st (bad (by omega))) (fun ha => sel_dec (fun h => no_st (bad (by omega))) (fun hb => sel_dec (fun hp => ?_) (fun hp => ?_)))⟩
    · have hj : (IntKind.wrap .i64 (i - 1)).toNat = i.toNat - 1 := by rw [i64_in _ (by omega)]; omega
      have hj' : i.toNat - 1 < n.keys.length := by omega
      refine ⟨rfl, by rw [i64_in _ (by omega)]; omega, _, by rw [hj]; exact sl_at hj', _, rfl, ?_⟩
      rw [le_eq]
      refine sel_intro (fun hc => no_st (bad fun h => ?_)) (fun hc => ?_)
      · rw [h.2.2 (by omega)] at hc; cases hc
      · repeat (refine And.intro rfl ?_)
        rw [i64_in _ (by omega)]
        refine ⟨⟨by omega, by omega, ?_⟩, by first | omega | (dsimp only; omega)⟩
        rw [e1]
        exact kOK_step hk hi (by omega) (by omega) fun _ => by simpa using hc
    · repeat (refine And.intro rfl ?_)
      rw [i64_in _ (by omega)]
      refine ⟨⟨by omega, by omega, ?_⟩, by first | omega | (dsimp only; omega)⟩
      rw [e1]
      exact kOK_step hk hi (by omega) (by omega) fun h => by omega
  · rw [show i.toNat = n.keys.length by omega] at hk
    refine sel_intro (fun hl => ?_) (fun hl => ?_)
    · refine sel_intro (fun h => ?_) (fun h => no_st fun hs => ?_)
      · have hz : n.kids = [] := nil_of h
        refine sel_intro (fun h => ?_) (fun h => no_st fun hs => ?_)
        · have hv : n.vals.length = n.keys.length := by have := nat_eq h; omega
          refine ⟨_, p33q n.vals f2, ?_⟩
          congr 2
          refine (Bool.eq_iff_iff.2 ⟨fun h => ?_, fun h => ?_⟩)
          · refine decide_eq_true ⟨by omega, hk, .inl ⟨hl, hz, hv, fun v hm => ?_⟩⟩
            have h2 : (n.vals.any fun s => decide ((s.size : Int) > 200)) = false := by simpa using h
            have := List.any_eq_false.1 h2 v hm
            have : ¬ (v.size : Int) > 200 := by simpa using this
            omega
          · have hs := of_decide_eq_true h
            rcases hs.2.2 with ⟨_, _, _, hv2⟩ | ⟨h2, _⟩
            · have : (n.vals.any fun s => decide ((s.size : Int) > 200)) = false := List.any_eq_false.2 fun v hm => by
                have := hv2 v hm
                simp; omega
              rw [this]; rfl
            · rw [hl] at h2; cases h2
        · have hv : (n.vals.length : Int) ≠ n.keys.length := by simpa using h
          rcases hs.2.2 with ⟨_, _, h3, _⟩ | ⟨h2, _⟩
          · omega
          · rw [hl] at h2; cases h2
      · have hv : (n.kids.length : Int) ≠ 0 := by simpa using h
        rcases hs.2.2 with ⟨_, h3, _⟩ | ⟨h2, _⟩
        · rw [h3] at hv; exact hv rfl
        · rw [hl] at h2; cases h2
    · refine sel_intro (fun h => ?_) (fun h => no_st fun hs => ?_)
      · have hz : n.vals = [] := nil_of h
        refine sel_dec (fun h1 => ?_) (fun h1 => no_st fun hs => ?_)
        · rw [i64_in _ (by omega)]
          refine sel_intro (fun h => ?_) (fun h => no_st fun hs => ?_)
          · have hv : n.kids.length = n.keys.length + 1 := by have := nat_eq h; omega
            refine ⟨_, p55p n.kids f3, ?_⟩
            congr 2
            refine (Bool.eq_iff_iff.2 ⟨fun h => ?_, fun h => ?_⟩)
            · refine decide_eq_true ⟨by omega, hk, .inr ⟨hl, hz, by omega, hv, fun b hm => ?_⟩⟩
              have h2 : (n.kids.any fun b => decide (b < 10 ∨ b ≥ 2048)) = false := by simpa using h
              have := List.any_eq_false.1 h2 b hm
              have : ¬ (b < 10 ∨ b ≥ 2048) := by simpa using this
              omega
            · have hs := of_decide_eq_true h
              rcases hs.2.2 with ⟨h2, _⟩ | ⟨_, _, _, _, hv2⟩
              · rw [hl] at h2; cases h2
              · have : (n.kids.any fun b => decide (b < 10 ∨ b ≥ 2048)) = false := List.any_eq_false.2 fun b hm => by
                  have := hv2 b hm
                  simp; omega
                rw [this]; rfl
          · have hv : (n.kids.length : Int) ≠ n.keys.length + 1 := by simpa using h
            rcases hs.2.2 with ⟨h2, _⟩ | ⟨_, _, _, h3, _⟩
            · rw [hl] at h2; cases h2
            · omega
        · rcases hs.2.2 with ⟨h2, _⟩ | ⟨_, _, h3, _, _⟩
          · rw [hl] at h2; cases h2
          · omega
      · have hv : (n.vals.length : Int) ≠ 0 := by simpa using h
        rcases hs.2.2 with ⟨h2, _⟩ | ⟨_, h3, _⟩
        · rw [hl] at h2; cases h2
        · rw [h3] at hv; exact hv rfl
end Go.Proofs.YtmmnobdpccdeoaaGreatDoor.M
