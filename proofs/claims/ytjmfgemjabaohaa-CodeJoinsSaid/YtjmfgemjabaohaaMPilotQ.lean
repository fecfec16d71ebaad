import Derived.Test.YtjmfgemjabaohaaMPilotP
namespace Go.Proofs.Ytjmfgemjabaohaa.M
set_option linter.unusedVariables false
set_option linter.unusedSimpArgs false
open Go Go.Mir
set_option linter.unusedVariables false

theorem p10_bad (n s : Int) (h : s < 1 ∨ 6 < s ∨ n < 0 ∨ (1 ≤ s ∧ s ≤ 6 ∧ 256 ^ s.toNat ≤ n)) : Runs Fs 10 [.n (.int .i64 n), .n (.int .i64 s)] [] Bad [] := by
  refine vc_eq fs10 rfl ?_
  rw [vc10]
  refine sel_dec (fun h1 => rfl) (fun h1 => sel_dec (fun h2 => rfl) (fun h2 => sel_dec (fun h3 => rfl) (fun h3 => ?_)))
  refine ⟨256 ^ s.toNat, (p18 s (by omega) (by omega)), sel_dec (fun h4 => rfl) (fun h4 => ?_)⟩
  exfalso
  omega

def beTop (n : Int) (s k : Nat) : List Mir.D := (List.range k).map fun j => .int .u8 (n / 256 ^ (s - 1 - j) % 256)

theorem p10_good (n s : Int) (h1 : 1 ≤ s) (h6 : s ≤ 6) (hn : 0 ≤ n) (hlt : n < 256 ^ s.toNat) : Runs Fs 10 [.n (.int .i64 n), .n (.int .i64 s)] [] (Good n s.toNat) [] := by
  refine vc_eq fs10 rfl ?_
  rw [vc10]
  have hp6 := pow_le (i := s.toNat) (by omega)
  refine sel_dec (fun h1 => by omega) (fun _ => sel_dec (fun h2 => by omega) (fun _ => sel_dec (fun h3 => by omega) (fun _ => ?_)))
  refine ⟨256 ^ s.toNat, (p18 s (by omega) (by omega)), sel_dec (fun h4 => by omega) (fun _ => ?_)⟩
  refine ⟨fun a v i row => a = n ∧ v = row.1 ∧ -1 ≤ i ∧ i ≤ s - 1 ∧ row.2 = beTop n s.toNat (s - 1 - i).toNat, fun a v i row => (i + 1).toNat, ⟨rfl, rfl, rfl, by rw [i64_in _ (by omega)]; omega, by rw [i64_in _ (by omega)]; omega, ?_⟩, ?_⟩
  · rw [i64_in _ (by omega), show (s - 1 - (s - 1)).toNat = 0 by omega]; rfl
  rintro a v i ⟨rv, re⟩ ⟨rfl, rfl, hi0, hi1, hre⟩ j
  simp only at hre
  subst hre
  refine sel_dec (fun h => ?_) (fun h => ?_)
  · have hp := pow_le (i := i.toNat) (by omega)
    have e : IntKind.u8.wrap (Int.tmod (IntKind.i64.wrap (Int.tdiv a (256 ^ i.toNat))) 256) = a / 256 ^ i.toNat % 256 := by
      have hq : 0 ≤ a / 256 ^ i.toNat := Int.ediv_nonneg hn (by omega)
      have hq2 : a / 256 ^ i.toNat ≤ a := Int.ediv_le_self _ hn
      rw [Int.tdiv_eq_ediv_of_nonneg hn, i64_in _ (by omega), Int.tmod_eq_emod_of_nonneg hq, u8_wrap]
      omega
    have hlen : (beTop a s.toNat (s - 1 - i).toNat).length = (s - 1 - i).toNat := by simp [beTop]
    refine ⟨256 ^ i.toNat, (p18 i (by omega) (by omega)), by omega, by decide, rfl, .inl rfl, ⟨⟨rfl, rfl⟩, rfl⟩, by rw [hlen]; simp; omega, rfl, ?_, by rw [i64_in _ (by omega)]; dsimp only; omega⟩
    rw [e, i64_in _ (by omega)]
    refine ⟨rfl, rfl, by omega, by omega, ?_⟩
    dsimp only
    rw [show (s - 1 - (i - 1)).toNat = (s - 1 - i).toNat + 1 by omega]
    unfold beTop
    rw [List.range_succ, List.map_append, List.map_cons, List.map_nil, show s.toNat - 1 - (s - 1 - i).toNat = i.toNat by omega]
  · have e : beTop a s.toNat (s - 1 - i).toNat = be a s.toNat := by rw [show (s - 1 - i).toNat = s.toNat by omega]; rfl
    refine ⟨rfl, .inl rfl, all_be _ _, ?_⟩
    dsimp only
    rw [e]
    rfl

theorem p11 : Runs Fs 11 [] [] (.n (.bool true)) [] := by
  refine vc_eq fs11 rfl ?_
  rw [vc11]
  refine ⟨strOf (be 7 1), 0, (p9_good 7 1 (by omega) (by omega) (by omega) (by decide)), sel_intro (fun _ => ?_) (fun h => absurd h (by decide))⟩
  have e : strOf (be 7 1) = ByteArray.mk (List.toArray [7]) := by rfl
  rw [e, beq_self_eq_true]

theorem p3 (n s : Int) : Runs Fs 3 [.n (.int .i64 n), .n (.int .i64 s)] [] (.n (.bool true)) [] := by
  refine vc_eq fs3 rfl ?_
  rw [vc3]
  have fin : ∀ (x : ByteArray) (y : Int), sel true (sel (ByteArray.toList x == ByteArray.toList x) (AV.n (Mir.D.bool (y == y)) = .n (.bool true)) (AV.n (Mir.D.bool false) = .n (.bool true))) (AV.n (Mir.D.bool false) = .n (.bool true)) := fun x y =>
    sel_intro (fun _ => sel_intro (fun _ => by rw [beq_self_eq_true]) (fun h => by rw [beq_self_eq_true] at h; cases h)) (fun h => by cases h)
  by_cases h : s < 1 ∨ 6 < s ∨ n < 0 ∨ (1 ≤ s ∧ s ≤ 6 ∧ 256 ^ s.toNat ≤ n)
  · exact ⟨_, _, (p9_bad n s h), _, _, (p10_bad n s h), true, p11, fin _ _⟩
  · exact ⟨_, _, (p9_good n s (by omega) (by omega) (by omega) (by omega)), _, _, (p10_good n s (by omega) (by omega) (by omega) (by omega)), true, p11, fin _ _⟩
end Go.Proofs.Ytjmfgemjabaohaa.M
