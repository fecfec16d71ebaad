import Derived.Test.YtjmfgemjabaohaaMPilotV
namespace Go.Proofs.Ytjmfgemjabaohaa.M
set_option linter.unusedVariables false
set_option linter.unusedSimpArgs false
open Go Go.Mir
set_option linter.unusedVariables false

theorem i64_in (n : Int) (h : -9223372036854775808 ≤ n ∧ n ≤ 9223372036854775807) : IntKind.i64.wrap n = n := by
  rw [IntKind.wrap_i64]; omega
theorem u8_wrap (n : Int) : IntKind.u8.wrap n = n % 256 := by rw [IntKind.wrap_u8]
theorem pow_le {i : Nat} (h : i ≤ 6) : (256 : Int) ^ i ≤ 281474976710656 ∧ (0:Int) < 256 ^ i := by
  have : i = 0 ∨ i = 1 ∨ i = 2 ∨ i = 3 ∨ i = 4 ∨ i = 5 ∨ i = 6 := by omega
  rcases this with rfl | rfl | rfl | rfl | rfl | rfl | rfl <;> decide

theorem p18 (n : Int) (h0 : 0 ≤ n) (h6 : n ≤ 6) : Runs Fs 18 [.n (.int .i64 n)] [] (.n (.int .i64 (256 ^ n.toNat))) [] := by
  refine vc_eq fs18 rfl ?_
  rw [vc18]
  refine ⟨fun a p i => a = n ∧ p = 256 ^ i.toNat ∧ 0 ≤ i ∧ i ≤ n, fun a p i => (n - i).toNat, ⟨rfl, rfl, by simp, by omega, h0⟩, ?_⟩
  rintro a p i ⟨rfl, rfl, h1, h2⟩ j
  refine sel_dec (fun h => ?_) (fun h => ?_)
  · have e1 : (i + 1).toNat = i.toNat + 1 := by omega
    have e2 : IntKind.i64.wrap (256 ^ i.toNat * 256) = 256 ^ (i + 1).toNat := by
      have := pow_le (i := i.toNat) (by omega)
      rw [e1, Int.pow_succ, i64_in]
      omega
    rw [e2, i64_in (i + 1) (by omega)]
    exact ⟨rfl, ⟨rfl, rfl, by omega, by omega⟩, by dsimp only; omega⟩
  · have : i = a := by omega
    rw [this]

/-- The bytes of a number, the highest first. -/
def be (n : Int) (s : Nat) : List Mir.D := (List.range s).map fun j => .int .u8 (n / 256 ^ (s - 1 - j) % 256)
/-- .. of which the lowest so many are laid. -/
def beLow (n : Int) (s i : Nat) : List Mir.D := (List.range s).map fun j => .int .u8 (if s - 1 - j < i then n / 256 ^ (s - 1 - j) % 256 else 0)
def strOf (l : List Mir.D) : ByteArray := ByteArray.mk (List.toArray (List.map Mir.byteOf l))
def Bad : AV := .tup [.n (.str (ByteArray.mk (List.toArray []))), .n (.int .i64 1)]
def Good (n : Int) (s : Nat) : AV := .tup [.n (.str (strOf (be n s))), .n (.int .i64 0)]

theorem fdiv_pow (n : Int) (i : Int) (h0 : 0 ≤ i) (h6 : i ≤ 6) : Int.fdiv n (2 ^ (Min.min (Int.toNat (IntKind.i64.wrap (8 * i))) (IntKind.bits .i64))) = n / 256 ^ i.toNat := by
  have : i = 0 ∨ i = 1 ∨ i = 2 ∨ i = 3 ∨ i = 4 ∨ i = 5 ∨ i = 6 := by omega
  rcases this with rfl | rfl | rfl | rfl | rfl | rfl | rfl <;> rw [Int.fdiv_eq_ediv_of_nonneg _ (by decide)] <;> rfl

theorem all_be (f : Nat → Int) (s : Nat) : List.all ((List.range s).map fun j => Mir.D.int .u8 (f j)) Mir.D.isU8 = true := by
  simp [Mir.D.isU8]

theorem p9_bad (n s : Int) (h : s < 1 ∨ 6 < s ∨ n < 0 ∨ (1 ≤ s ∧ s ≤ 6 ∧ 256 ^ s.toNat ≤ n)) : Runs Fs 9 [.n (.int .i64 n), .n (.int .i64 s)] [] Bad [] := by
  refine vc_eq fs9 rfl ?_
  rw [vc9]
  refine sel_dec (fun h1 => rfl) (fun h1 => sel_dec (fun h2 => rfl) (fun h2 => sel_dec (fun h3 => rfl) (fun h3 => ?_)))
  have hs : 256 ^ s.toNat ≤ n := by omega
  refine ⟨by rw [i64_in _ (by omega)]; omega, ?_⟩
  rw [fdiv_pow n s (by omega) (by omega)]
  refine sel_intro (fun h4 => rfl) (fun h4 => ?_)
  exfalso
  have hp := pow_le (i := s.toNat) (by omega)
  have : 1 ≤ n / 256 ^ s.toNat := (Int.le_ediv_iff_mul_le hp.2).2 (by omega)
  simp only [bne_eq_false_iff_eq] at h4
  omega

theorem p9_good (n s : Int) (h1 : 1 ≤ s) (h6 : s ≤ 6) (hn : 0 ≤ n) (hlt : n < 256 ^ s.toNat) : Runs Fs 9 [.n (.int .i64 n), .n (.int .i64 s)] [] (Good n s.toNat) [] := by
  refine vc_eq fs9 rfl ?_
  rw [vc9]
  refine sel_dec (fun h1 => by omega) (fun _ => sel_dec (fun h2 => by omega) (fun _ => sel_dec (fun h3 => by omega) (fun _ => ?_)))
  refine ⟨by rw [i64_in _ (by omega)]; omega, ?_⟩
  rw [fdiv_pow n s (by omega) (by omega)]
  have hz : n / 256 ^ s.toNat = 0 := Int.ediv_eq_zero_of_lt hn hlt
  rw [hz]
  refine ⟨by omega, by omega, rfl, ?_⟩
  refine ⟨fun a b v len i row => a = n ∧ b = s ∧ v = row.1 ∧ len = s ∧ 0 ≤ i ∧ i ≤ s ∧ row.2 = beLow n s.toNat i.toNat, fun a b v len i row => (s - i).toNat, ⟨rfl, rfl, rfl, rfl, ?_, by omega, by omega, ?_⟩, ?_⟩
  · simp; omega
  · refine List.ext_getElem (by simp [beLow]) fun i h1 h2 => ?_
    simp [beLow]
  rintro a b v len i ⟨rv, re⟩ ⟨rfl, rfl, rfl, rfl, hi0, hi1, hre⟩ j
  simp only at hre
  subst hre
  refine sel_dec (fun h => ?_) (fun h => ?_)
  · have e1 : IntKind.i64.wrap (IntKind.i64.wrap (len - 1) - i) = len - 1 - i := by rw [i64_in (len - 1) (by omega), i64_in _ (by omega)]
    rw [fdiv_pow _ i hi0 (by omega), e1, i64_in (i + 1) (by omega), i64_in (8 * i) (by omega), u8_wrap]
    have hlen : (beLow a len.toNat i.toNat).length = len.toNat := by simp [beLow]
    refine ⟨by omega, ⟨rfl, rfl⟩, by omega, by rw [hlen]; omega, ⟨⟨⟨rfl, rfl⟩, rfl⟩, rfl⟩, by rw [hlen]; omega, rfl, ⟨rfl, rfl, rfl, rfl, by omega, by omega, ?_⟩, by dsimp only; omega⟩
    dsimp only
    refine List.ext_getElem (by simp [beLow]) fun k h1 h2 => ?_
    have hk : k < len.toNat := by simpa [beLow] using h2
    rw [List.getElem_set]
    simp only [beLow, List.getElem_map, List.getElem_range]
    by_cases hk2 : (len - 1 - i).toNat = k
    · rw [if_pos hk2, if_pos (by omega), show len.toNat - 1 - k = i.toNat by omega]
    · rw [if_neg hk2]
      by_cases hk3 : len.toNat - 1 - k < i.toNat
      · rw [if_pos hk3, if_pos (by omega)]
      · rw [if_neg hk3, if_neg (by omega)]
  · have : i = len := by omega
    subst this
    refine ⟨rfl, .inl rfl, all_be _ _, ?_⟩
    have : beLow a i.toNat i.toNat = be a i.toNat := by
      refine List.ext_getElem (by simp [beLow, be]) fun k h1 h2 => ?_
      have hk : k < i.toNat := by simpa [be] using h2
      simp only [beLow, be, List.getElem_map, List.getElem_range]
      rw [if_pos (by omega)]
    dsimp only
    rw [this]
    rfl
end Go.Proofs.Ytjmfgemjabaohaa.M
