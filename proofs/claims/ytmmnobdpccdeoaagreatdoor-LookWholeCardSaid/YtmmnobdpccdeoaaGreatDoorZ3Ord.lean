import Derived.Test.YtmmnobdpccdeoaaGreatDoorZ3Txt
namespace Go.Proofs.YtmmnobdpccdeoaaGreatDoor.M
set_option linter.unusedVariables false
set_option linter.unusedSimpArgs false
open Go Go.Mir
set_option linter.unusedVariables false

/-! Texts by their bytes. -/
def bl : List UInt8 → List UInt8 → Bool := Op.bytesLess
def lt (a b : ByteArray) : Bool := Op.bytesLess a.toList b.toList
theorem bl_irr : ∀ a, bl a a = false
  | [] => rfl
  | x :: r => by
    show Op.bytesLess (x :: r) (x :: r) = false
    simp only [Op.bytesLess]
    simpa [bl] using bl_irr r
theorem bl_cons (x y : UInt8) (r s : List UInt8) : bl (x :: r) (y :: s) = (decide (x.toNat < y.toNat) || (decide (x.toNat = y.toNat) && bl r s)) := by
  show Op.bytesLess (x :: r) (y :: s) = _
  simp only [Op.bytesLess, bl]
  by_cases h1 : x < y
  · have := UInt8.lt_iff_toNat_lt.1 h1
    simp [h1, this]
  · have h1' : ¬ x.toNat < y.toNat := fun h => h1 (UInt8.lt_iff_toNat_lt.2 h)
    by_cases h2 : x = y
    · subst h2; simp
    · have h2' : x.toNat ≠ y.toNat := fun h => h2 (UInt8.toNat_inj.1 h)
      by_cases h3 : y < x
      · simp [h1, h1', h2', h3, h2]
      · simp [h1, h1', h2', h3, h2]
theorem bl_trans : ∀ {a b c : List UInt8}, bl a b = true → bl b c = true → bl a c = true
  | [], [], _, h, _ => by cases h
  | [], _ :: _, [], _, h => by cases h
  | [], _ :: _, _ :: _, _, _ => rfl
  | _ :: _, [], _, h, _ => by cases h
  | _ :: _, _ :: _, [], _, h => by cases h
  | x :: r, y :: s, z :: t, h1, h2 => by
    rw [bl_cons] at h1 h2 ⊢
    simp only [Bool.or_eq_true, Bool.and_eq_true, decide_eq_true_eq] at h1 h2 ⊢
    rcases h1 with h1 | ⟨h1, h1'⟩ <;> rcases h2 with h2 | ⟨h2, h2'⟩
    · exact .inl (by omega)
    · exact .inl (by omega)
    · exact .inl (by omega)
    · exact .inr ⟨by omega, bl_trans h1' h2'⟩
theorem bl_tri : ∀ (a b : List UInt8), bl a b = true ∨ a = b ∨ bl b a = true
  | [], [] => .inr (.inl rfl)
  | [], _ :: _ => .inl rfl
  | _ :: _, [] => .inr (.inr rfl)
  | x :: r, y :: s => by
    rw [bl_cons, bl_cons]
    simp only [Bool.or_eq_true, Bool.and_eq_true, decide_eq_true_eq]
    rcases Nat.lt_trichotomy x.toNat y.toNat with h | h | h
    · exact .inl (.inl h)
    · rcases bl_tri r s with h2 | h2 | h2
      · exact .inl (.inr ⟨h, h2⟩)
      · subst h2
        rw [UInt8.toNat_inj.1 h]
        exact .inr (.inl rfl)
      · exact .inr (.inr (.inr ⟨h.symm, h2⟩))
    · exact .inr (.inr (.inl h))
theorem lt_irr (a : ByteArray) : lt a a = false := bl_irr _
theorem lt_trans {a b c : ByteArray} (h1 : lt a b = true) (h2 : lt b c = true) : lt a c = true := bl_trans h1 h2
theorem lt_tri (a b : ByteArray) : lt a b = true ∨ a = b ∨ lt b a = true := by
  rcases bl_tri a.toList b.toList with h | h | h
  · exact .inl h
  · refine .inr (.inl (bytes_ext ?_))
    rw [← toList_data, ← toList_data, h]
  · exact .inr (.inr h)
theorem lt_asym {a b : ByteArray} (h : lt a b = true) : lt b a = false := by
  cases h2 : lt b a with
  | false => rfl
  | true => have := lt_trans h h2; rw [lt_irr] at this; cases this
theorem lt_ne {a b : ByteArray} (h : lt a b = true) : a ≠ b := fun e => by subst e; rw [lt_irr] at h; cases h
theorem nlt_iff {a b : ByteArray} : lt a b = false ↔ a = b ∨ lt b a = true := by
  refine ⟨fun h => ?_, ?_⟩
  · rcases lt_tri a b with h2 | h2 | h2
    · rw [h] at h2; cases h2
    · exact .inl h2
    · exact .inr h2
  · rintro (rfl | h)
    · exact lt_irr _
    · exact lt_asym h
theorem lt_nlt {a b c : ByteArray} (h1 : lt a b = true) (h2 : lt c b = false) : lt a c = true := by
  rcases nlt_iff.1 h2 with rfl | h
  · exact h1
  · exact lt_trans h1 h
theorem nlt_lt {a b c : ByteArray} (h1 : lt b a = false) (h2 : lt b c = true) : lt a c = true := by
  rcases nlt_iff.1 h1 with rfl | h
  · exact h2
  · exact lt_trans h h2
/-- The shape in which a '<=' stands. -/
theorem le_eq (a b : ByteArray) : ((Go.Op.bytesLess (ByteArray.toList a) (ByteArray.toList b)) || ((ByteArray.toList a) == (ByteArray.toList b))) = !(lt b a) := by
  show (lt a b || (a.toList == b.toList)) = !(lt b a)
  rw [beq_dec]
  rcases lt_tri a b with h | h | h
  · rw [h, lt_asym h]; rfl
  · subst h; rw [lt_irr]; simp
  · rw [h, lt_asym h, decide_eq_false (fun e => lt_ne h e.symm)]; rfl
end Go.Proofs.YtmmnobdpccdeoaaGreatDoor.M
