import Derived.Test.YtjmfgemjabaohaaMPilotQ
namespace Go.Proofs.Ytjmfgemjabaohaa.M
set_option linter.unusedVariables false
set_option linter.unusedSimpArgs false
open Go Go.Mir
set_option linter.unusedVariables false

/-- The bytes as bytes. -/
def beB (n : Int) : Nat → List UInt8
  | 0 => []
  | s + 1 => UInt8.ofNat (n / 256 ^ s % 256).toNat :: beB n s
theorem be_succ (n : Int) (s : Nat) : be n (s + 1) = .int .u8 (n / 256 ^ s % 256) :: be n s := by
  unfold be
  rw [List.range_succ_eq_map, List.map_cons, List.map_map]
  refine congr (congrArg _ ?_) ?_
  · simp
  · refine List.map_congr_left fun j hj => ?_
    simp only [List.mem_range] at hj
    simp only [Function.comp]
    rw [show s + 1 - 1 - (j + 1) = s - 1 - j by omega]
theorem be_bytes (n : Int) : ∀ s, List.map Mir.byteOf (be n s) = beB n s
  | 0 => rfl
  | s + 1 => by rw [be_succ, List.map_cons, be_bytes n s]; rfl
theorem mod_pow (n P : Int) (hP : 0 < P) : n % (P * 256) = n / P % 256 * P + n % P := by
  have h1 := Int.mul_ediv_add_emod n P
  have h2 := Int.mul_ediv_add_emod (n / P) 256
  have h3 := Int.emod_nonneg n (b := P) (by omega)
  have h4 := Int.emod_lt_of_pos n hP
  have h5 := Int.emod_nonneg (n / P) (b := 256) (by omega)
  have h6 := Int.emod_lt_of_pos (n / P) (b := 256) (by omega)
  have e : n = (n / P % 256 * P + n % P) + (P * 256) * (n / P / 256) := by
    have : P * (n / P) = P * (256 * (n / P / 256) + n / P % 256) := by rw [h2]
    rw [Int.mul_add, ← Int.mul_assoc] at this
    have c : n / P % 256 * P = P * (n / P % 256) := Int.mul_comm _ _
    omega
  have lo : 0 ≤ n / P % 256 * P := Int.mul_nonneg h5 (by omega)
  have hi : n / P % 256 * P ≤ 255 * P := Int.mul_le_mul_of_nonneg_right (by omega) (by omega)
  rw [show n % (P * 256) = ((n / P % 256 * P + n % P) + (P * 256) * (n / P / 256)) % (P * 256) by rw [← e], Int.add_mul_emod_self_left]
  exact Int.emod_eq_of_lt (by omega) (by omega)
theorem beB_less (m n : Int) : ∀ s, Op.bytesLess (beB m s) (beB n s) = decide (m % 256 ^ s < n % 256 ^ s) := by
  intro s
  induction s with
  | zero => simp [beB, Op.bytesLess, Int.emod_one]
  | succ s ih =>
    have hP : (0 : Int) < 256 ^ s := Int.pow_pos (by omega)
    rw [Int.pow_succ, mod_pow m _ hP, mod_pow n _ hP]
    simp only [beB, Op.bytesLess, ih]
    generalize (256 : Int) ^ s = P at hP ⊢
    have h5 := Int.emod_nonneg (m / P) (b := 256) (by omega)
    have h6 := Int.emod_lt_of_pos (m / P) (b := 256) (by omega)
    have k5 := Int.emod_nonneg (n / P) (b := 256) (by omega)
    have k6 := Int.emod_lt_of_pos (n / P) (b := 256) (by omega)
    have h3 := Int.emod_nonneg m (b := P) (by omega)
    have h4 := Int.emod_lt_of_pos m hP
    have k3 := Int.emod_nonneg n (b := P) (by omega)
    have k4 := Int.emod_lt_of_pos n hP
    generalize m / P % 256 = a at *
    generalize n / P % 256 = b at *
    generalize m % P = c at *
    generalize n % P = d at *
    have u1 : (UInt8.ofNat a.toNat < UInt8.ofNat b.toNat) = (a < b) := by
      rw [UInt8.lt_iff_toNat_lt]
      simp only [UInt8.toNat_ofNat']
      rw [Nat.mod_eq_of_lt (by omega), Nat.mod_eq_of_lt (by omega)]
      exact propext ⟨fun h => by omega, fun h => by omega⟩
    have u2 : (UInt8.ofNat a.toNat == UInt8.ofNat b.toNat) = decide (a = b) := by
      have : (UInt8.ofNat a.toNat = UInt8.ofNat b.toNat) ↔ a = b := by
        rw [← UInt8.toNat_inj]
        simp only [UInt8.toNat_ofNat']
        rw [Nat.mod_eq_of_lt (by omega), Nat.mod_eq_of_lt (by omega)]
        omega
      rw [Bool.eq_iff_iff]
      simp [this]
    rw [u2]
    simp only [u1]
    rw [Bool.eq_iff_iff]
    simp only [Bool.or_eq_true, Bool.and_eq_true, decide_eq_true_eq]
    rcases Int.lt_trichotomy a b with h | rfl | h
    · have : (a + 1) * P ≤ b * P := Int.mul_le_mul_of_nonneg_right (by omega) (by omega)
      rw [Int.add_mul] at this
      exact ⟨fun _ => by omega, fun _ => .inl h⟩
    · exact ⟨fun h => by rcases h with h | h <;> omega, fun h => .inr ⟨rfl, by omega⟩⟩
    · have : (b + 1) * P ≤ a * P := Int.mul_le_mul_of_nonneg_right (by omega) (by omega)
      rw [Int.add_mul] at this
      exact ⟨fun h => by rcases h with h | h <;> omega, fun h => by omega⟩
end Go.Proofs.Ytjmfgemjabaohaa.M
