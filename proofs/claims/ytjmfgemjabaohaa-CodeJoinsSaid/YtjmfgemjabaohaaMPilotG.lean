import Derived.Test.YtjmfgemjabaohaaMPilotP
namespace Go.Proofs.Ytjmfgemjabaohaa.M
set_option linter.unusedVariables false
set_option linter.unusedSimpArgs false
open Go Go.Mir
set_option linter.unusedVariables false

/-- The number that bytes spell, the highest first. -/
def num (l : List UInt8) : Int := l.foldl (fun n b => n * 256 + (b.toNat : Int)) 0
theorem num_snoc (l : List UInt8) (b : UInt8) : num (l ++ [b]) = num l * 256 + (b.toNat : Int) := by simp [num]
theorem num_from : ∀ (l : List UInt8) (a : Int), 0 ≤ a → a * 256 ^ l.length ≤ l.foldl (fun n b => n * 256 + (b.toNat : Int)) a ∧ l.foldl (fun n b => n * 256 + (b.toNat : Int)) a < (a + 1) * 256 ^ l.length
  | [], a, h => by simp; omega
  | b :: r, a, h => by
    have hb := b.toNat_lt
    obtain ⟨h1, h2⟩ := num_from r (a * 256 + (b.toNat : Int)) (by omega)
    have hP : (0 : Int) < 256 ^ r.length := Int.pow_pos (by omega)
    simp only [List.foldl_cons, List.length_cons, Int.pow_succ]
    generalize (256 : Int) ^ r.length = P at *
    have e1 : a * (P * 256) ≤ (a * 256 + (b.toNat : Int)) * P := by
      rw [Int.mul_comm P 256, ← Int.mul_assoc]
      exact Int.mul_le_mul_of_nonneg_right (by omega) (by omega)
    have e2 : (a * 256 + (b.toNat : Int) + 1) * P ≤ (a + 1) * (P * 256) := by
      rw [Int.mul_comm P 256, ← Int.mul_assoc]
      exact Int.mul_le_mul_of_nonneg_right (by omega) (by omega)
    omega
theorem num_bound (l : List UInt8) : 0 ≤ num l ∧ num l < 256 ^ l.length := by
  have := num_from l 0 (by omega)
  unfold num
  omega
theorem num_le {l : List UInt8} (h : l.length ≤ 6) : 0 ≤ num l ∧ num l < 281474976710656 := by
  have := num_bound l
  have := pow_le h
  omega
def piece (s : ByteArray) (at_ k : Int) : List UInt8 := (s.data.toList.drop at_.toNat).take k.toNat
def GetR (s : ByteArray) (at_ k : Int) : AV :=
  if k < 1 ∨ 6 < k ∨ at_ < 0 ∨ (s.size : Int) < at_ then .tup [.n (.int .i64 0), .n (.int .i64 0), .n (.int .i64 1)]
  else if (s.size : Int) - at_ < k then .tup [.n (.int .i64 0), .n (.int .i64 0), .n (.int .i64 3)]
  else .tup [.n (.int .i64 (num (piece s at_ k))), .n (.int .i64 (at_ + k)), .n (.int .i64 0)]
theorem getR_bad {s : ByteArray} {at_ k : Int} (h : k < 1 ∨ 6 < k ∨ at_ < 0 ∨ (s.size : Int) < at_) : GetR s at_ k = .tup [.n (.int .i64 0), .n (.int .i64 0), .n (.int .i64 1)] := if_pos h
theorem getR_short {s : ByteArray} {at_ k : Int} (h : ¬ (k < 1 ∨ 6 < k ∨ at_ < 0 ∨ (s.size : Int) < at_)) (h2 : (s.size : Int) - at_ < k) : GetR s at_ k = .tup [.n (.int .i64 0), .n (.int .i64 0), .n (.int .i64 3)] := by
  unfold GetR; rw [if_neg h, if_pos h2]
theorem getR_good {s : ByteArray} {at_ k : Int} (h : ¬ (k < 1 ∨ 6 < k ∨ at_ < 0 ∨ (s.size : Int) < at_)) (h2 : ¬ (s.size : Int) - at_ < k) : GetR s at_ k = .tup [.n (.int .i64 (num (piece s at_ k))), .n (.int .i64 (at_ + k)), .n (.int .i64 0)] := by
  unfold GetR; rw [if_neg h, if_neg h2]
theorem size_list (s : ByteArray) : s.data.toList.length = s.size := rfl
theorem piece_succ (s : ByteArray) (at_ i : Int) (h0 : 0 ≤ at_) (hi : 0 ≤ i) (h : at_ + i < s.size) : ∃ b, s.data.toList[(at_ + i).toNat]? = some b ∧ piece s at_ (i + 1) = piece s at_ i ++ [b] := by
  have hl := size_list s
  have hlt : (at_ + i).toNat < s.data.toList.length := by omega
  refine ⟨s.data.toList[(at_ + i).toNat], List.getElem?_eq_getElem hlt, ?_⟩
  unfold piece
  rw [show (i + 1).toNat = i.toNat + 1 by omega, List.take_add_one]
  congr 1
  rw [List.getElem?_drop, show at_.toNat + i.toNat = (at_ + i).toNat by omega, List.getElem?_eq_getElem hlt]
  rfl
theorem piece_len (s : ByteArray) (at_ k : Int) : (piece s at_ k).length ≤ k.toNat := by
  unfold piece; rw [List.length_take]; omega

theorem p13 (s : ByteArray) (hs : (s.size : Int) ≤ 9223372036854775807) (at_ k : Int) : Runs Fs 13 [.n (.str s), .n (.int .i64 at_), .n (.int .i64 k)] [] (GetR s at_ k) [] := by
  refine vc_eq fs13 rfl ?_
  rw [vc13]
  have b1 : ∀ {p : Prop}, p → (p → k < 1 ∨ 6 < k ∨ at_ < 0 ∨ (s.size : Int) < at_) → Mir.AV.tup [.n (.int .i64 0), .n (.int .i64 0), .n (.int .i64 1)] = GetR s at_ k := fun h g => (getR_bad (g h)).symm
  refine sel_dec (fun h => b1 h (by omega)) (fun h1 => sel_dec (fun h => b1 h (by omega)) (fun h2 => sel_dec (fun h => b1 h (by omega)) (fun h3 => sel_dec (fun h => b1 h (by omega)) (fun h4 => ?_))))
  rw [i64_in _ (by omega)]
  refine sel_dec (fun h => (getR_short (by omega) h).symm) (fun h5 => ?_)
  rw [getR_good (by omega) h5]
  refine ⟨fun t a n v i => t = s ∧ a = at_ ∧ n = k ∧ v = num (piece s at_ i) ∧ 0 ≤ i ∧ i ≤ k, fun t a n v i => (k - i).toNat, ⟨rfl, rfl, rfl, rfl, by simp [piece, num], by omega, by omega⟩, ?_⟩
  rintro t a n v i ⟨rfl, rfl, rfl, rfl, hi0, hi1⟩ j
  refine sel_dec (fun h => ?_) (fun h => ?_)
  · obtain ⟨b, hb, hp⟩ := piece_succ t a i (by omega) hi0 (by omega)
    have hn := num_le (l := piece t a i) (by have := piece_len t a i; omega)
    have hb2 := b.toNat_lt
    rw [i64_in (a + i) (by omega), i64_in (i + 1) (by omega)]
    refine ⟨by omega, b, hb, rfl, ⟨rfl, rfl, rfl, ?_, by omega, by omega⟩, by dsimp only; omega⟩
    rw [hp, num_snoc, i64_in (_ * 256) (by omega), i64_in ((b.toNat : Int)) (by omega), i64_in _ (by omega)]
  · rw [i64_in (a + n) (by omega), show i = n by omega]

theorem or_low (a c : Int) (ha : 0 ≤ a) (ha2 : a < 281474976710656) (hc : 0 ≤ c) (hc2 : c < 256) :
    IntKind.i64.wrap ((BitVec.toNat (HOr.hOr (BitVec.ofInt (IntKind.bits .i64) (IntKind.i64.wrap (a * (2 ^ (Min.min (Int.toNat 8) (IntKind.bits .i64)))))) (BitVec.ofInt (IntKind.bits .i64) (IntKind.i64.wrap c))) : Nat) : Int) = a * 256 + c := by
  have e : (2 : Int) ^ (Min.min (Int.toNat 8) (IntKind.bits .i64)) = 256 := rfl
  rw [e, i64_in (a * 256) (by omega), i64_in c (by omega)]
  have hb : IntKind.bits .i64 = 64 := rfl
  rw [hb]
  obtain ⟨a, rfl⟩ := Int.eq_ofNat_of_zero_le ha
  obtain ⟨c, rfl⟩ := Int.eq_ofNat_of_zero_le hc
  have h1 : (BitVec.ofInt 64 ((a : Int) * 256)) = BitVec.ofNat 64 (2 ^ 8 * a) := by
    rw [show ((a : Int) * 256) = ((2 ^ 8 * a : Nat) : Int) by omega, BitVec.ofInt_natCast]
  have h2 : (BitVec.ofInt 64 (c : Int)) = BitVec.ofNat 64 c := BitVec.ofInt_natCast _ _
  rw [h1, h2, BitVec.toNat_or, BitVec.toNat_ofNat, BitVec.toNat_ofNat, Nat.mod_eq_of_lt (by omega), Nat.mod_eq_of_lt (by omega), ← Nat.two_pow_add_eq_or_of_lt (by omega)]
  rw [i64_in _ (by omega)]
  omega

theorem extract_piece (s : ByteArray) (at_ k : Int) (h0 : 0 ≤ at_) (hk : 0 ≤ k) (h : at_ + k ≤ s.size) : bytesD (s.extract at_.toNat (at_ + k).toNat) = (piece s at_ k).map fun b => Mir.D.int .u8 (b.toNat : Int) := by
  unfold bytesD piece
  congr 1
  simp [ByteArray.data_extract, Array.toList_extract, List.extract]
  rw [show (at_ + k).toNat - at_.toNat = k.toNat by omega]

theorem p12 (s : ByteArray) (hs : (s.size : Int) ≤ 9223372036854775807) (at_ k : Int) : Runs Fs 12 [.n (.str s), .n (.int .i64 at_), .n (.int .i64 k)] [] (GetR s at_ k) [] := by
  refine vc_eq fs12 rfl ?_
  rw [vc12]
  have b1 : ∀ {p : Prop}, p → (p → k < 1 ∨ 6 < k ∨ at_ < 0 ∨ (s.size : Int) < at_) → Mir.AV.tup [.n (.int .i64 0), .n (.int .i64 0), .n (.int .i64 1)] = GetR s at_ k := fun h g => (getR_bad (g h)).symm
  refine sel_dec (fun h => b1 h (by omega)) (fun h1 => sel_dec (fun h => b1 h (by omega)) (fun h2 => sel_dec (fun h => b1 h (by omega)) (fun h3 => sel_dec (fun h => b1 h (by omega)) (fun h4 => ?_))))
  rw [i64_in _ (by omega)]
  refine sel_dec (fun h => (getR_short (by omega) h).symm) (fun h5 => ?_)
  rw [getR_good (by omega) h5, i64_in (at_ + k) (by omega), extract_piece s at_ k (by omega) (by omega) (by omega)]
  have hlen : (piece s at_ k).length = k.toNat := by
    unfold piece; rw [List.length_take, List.length_drop, size_list]; omega
  refine ⟨by omega, by omega, by omega, by omega, ?_⟩
  refine ⟨fun a n v els len i => a = at_ ∧ n = k ∧ v = num (piece s at_ i) ∧ els = ((piece s at_ k).map fun b => Mir.D.int .u8 (b.toNat : Int)) ∧ len = k ∧ 0 ≤ i ∧ i ≤ k, fun a n v els len i => (k - i).toNat, ⟨rfl, rfl, rfl, by simp [piece, num], rfl, by rw [List.length_map, hlen]; omega, by omega, by omega⟩, ?_⟩
  rintro a n v els len i ⟨rfl, rfl, rfl, rfl, rfl, hi0, hi1⟩ j
  refine sel_dec (fun h => ?_) (fun h => ?_)
  · obtain ⟨b, hb, hp⟩ := piece_succ s a i (by omega) hi0 (by omega)
    have hn := num_le (l := piece s a i) (by have := piece_len s a i; omega)
    have hb2 := b.toNat_lt
    have he : ((piece s a len).map fun b => Mir.D.int .u8 (b.toNat : Int))[i.toNat]? = some (.int .u8 (b.toNat : Int)) := by
      rw [List.getElem?_map]
      unfold piece
      rw [List.getElem?_take_of_lt (by omega), List.getElem?_drop, show a.toNat + i.toNat = (a + i).toNat by omega, hb]
      rfl
    rw [i64_in (i + 1) (by omega)]
    refine ⟨rfl, hi0, _, he, (b.toNat : Int), rfl, by decide, rfl, ⟨rfl, rfl, ?_, rfl, rfl, by omega, by omega⟩, by dsimp only; omega⟩
    rw [or_low _ _ hn.1 hn.2 (by omega) (by omega), hp, num_snoc]
  · rw [show i = len by omega, i64_in (a + len) (by omega)]
end Go.Proofs.Ytjmfgemjabaohaa.M
