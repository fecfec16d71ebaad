import Derived.Test.YtjmfgemjabaohaaMPilotO
import Derived.Lib.Bytes
namespace Go.Proofs.Ytjmfgemjabaohaa.M
set_option linter.unusedVariables false
set_option linter.unusedSimpArgs false
open Go Go.Mir
set_option linter.unusedVariables false

theorem less_irrefl : ∀ l : List UInt8, Op.bytesLess l l = false
  | [] => rfl
  | a :: r => by simp [Op.bytesLess, less_irrefl r, UInt8.lt_irrefl]
theorem beB_eq (m n : Int) (s : Nat) (hm : 0 ≤ m) (hn : 0 ≤ n) (hm2 : m < 256 ^ s) (hn2 : n < 256 ^ s) : (beB m s == beB n s) = (m == n) := by
  rw [Bool.eq_iff_iff, beq_iff_eq, beq_iff_eq]
  refine ⟨fun h => ?_, fun h => by rw [h]⟩
  have h1 := beB_less m n s
  have h2 := beB_less n m s
  rw [h, less_irrefl] at h1 h2
  rw [Int.emod_eq_of_lt hm hm2, Int.emod_eq_of_lt hn hn2] at h1 h2
  have h1 := of_decide_eq_false h1.symm
  have h2 := of_decide_eq_false h2.symm
  omega
theorem beB_len (n : Int) : ∀ s, (beB n s).length = s
  | 0 => rfl
  | s + 1 => by simp [beB, beB_len n s]
theorem strOf_list (n : Int) (s : Nat) : (strOf (be n s)).toList = beB n s := by
  unfold strOf
  rw [be_bytes]
  simp
theorem strOf_size (n : Int) (s : Nat) : (strOf (be n s)).size = s := by
  unfold strOf
  rw [be_bytes]
  simp [ByteArray.size, beB_len]

theorem p4 (m n s : Int) : Runs Fs 4 [.n (.int .i64 m), .n (.int .i64 n), .n (.int .i64 s)] [] (.n (.bool true)) [] := by
  refine vc_eq fs4 rfl ?_
  rw [vc4]
  by_cases h : s < 1 ∨ 6 < s ∨ m < 0 ∨ (1 ≤ s ∧ s ≤ 6 ∧ 256 ^ s.toNat ≤ m)
  · by_cases h' : s < 1 ∨ 6 < s ∨ n < 0 ∨ (1 ≤ s ∧ s ≤ 6 ∧ 256 ^ s.toNat ≤ n)
    · exact ⟨_, _, callD rfl (p9_bad m s h), _, _, callD rfl (p9_bad n s h'), sel_intro (fun _ => ⟨true, callD rfl p11, rfl⟩) (fun h => by cases h)⟩
    · exact ⟨_, _, callD rfl (p9_bad m s h), _, _, callD rfl (p9_good n s (by omega) (by omega) (by omega) (by omega)), sel_intro (fun _ => ⟨true, callD rfl p11, rfl⟩) (fun h => by cases h)⟩
  · by_cases h' : s < 1 ∨ 6 < s ∨ n < 0 ∨ (1 ≤ s ∧ s ≤ 6 ∧ 256 ^ s.toNat ≤ n)
    · exact ⟨_, _, callD rfl (p9_good m s (by omega) (by omega) (by omega) (by omega)), _, _, callD rfl (p9_bad n s h'), sel_intro (fun h => by cases h) (fun _ => sel_intro (fun _ => ⟨true, callD rfl p11, rfl⟩) (fun h => by cases h))⟩
    · refine ⟨_, _, callD rfl (p9_good m s (by omega) (by omega) (by omega) (by omega)), _, _, callD rfl (p9_good n s (by omega) (by omega) (by omega) (by omega)), sel_intro (fun h => by cases h) (fun _ => sel_intro (fun h => by cases h) (fun _ => ?_))⟩
      refine ⟨true, callD rfl p11, ?_⟩
      rw [strOf_list, strOf_list, beB_less, beB_eq m n _ (by omega) (by omega) (by omega) (by omega), Int.emod_eq_of_lt (by omega) (by omega), Int.emod_eq_of_lt (by omega) (by omega), beq_self_eq_true, beq_self_eq_true, strOf_size]
      have : (((s.toNat : Nat) : Int) == s) = true := by rw [beq_iff_eq]; omega
      rw [this]
      rfl
end Go.Proofs.Ytjmfgemjabaohaa.M
