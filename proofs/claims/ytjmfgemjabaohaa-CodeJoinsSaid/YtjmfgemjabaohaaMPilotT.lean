import Derived.Test.YtjmfgemjabaohaaMPilotH
import Derived.Test.YtjmfgemjabaohaaMPilotO
namespace Go.Proofs.Ytjmfgemjabaohaa.M
set_option linter.unusedVariables false
set_option linter.unusedSimpArgs false
open Go Go.Mir
set_option linter.unusedVariables false

theorem p16 (xs : List ByteArray) (h1 : xs.length ≤ 140737488355328) (h2 : sizes xs ≤ 140737488355328) : Runs Fs 16 [.o (.sl 1 (xs.map Mir.D.str))] [] (.n (.str (cat xs))) [] := by
  refine vc_eq fs16 rfl ?_
  rw [vc16]
  exact ⟨_, join_runs fs19 xs h1 h2, rfl⟩

theorem strOf_size (l : List Mir.D) : (strOf l).size = l.length := by
  simp [strOf, ByteArray.size]
theorem be_length (n : Int) (s : Nat) : (be n s).length = s := by simp [be]
/-- A text with its length ahead of it. -/
def TextOf (s : ByteArray) : ByteArray := cat [strOf (be s.size 2), s]
def TextR (s : ByteArray) : AV := if (s.size : Int) > 65535 then .tup [.n (.str (ByteArray.mk (List.toArray []))), .n (.int .i64 2)] else .tup [.n (.str (TextOf s)), .n (.int .i64 0)]
theorem textOf_size (s : ByteArray) : (TextOf s).size = 2 + s.size := by
  simp only [TextOf, cat_size, sizes, strOf_size, be_length]; omega
theorem p17 (s : ByteArray) : Runs Fs 17 [.n (.str s)] [] (TextR s) [] := by
  refine vc_eq fs17 rfl ?_
  rw [vc17]
  refine sel_dec (fun h => ?_) (fun h => ?_)
  · unfold TextR; rw [if_pos h]
  · refine ⟨_, _, p9_good s.size 2 (by omega) (by omega) (by omega) (by simp; omega), rfl, _, p16 [strOf (be s.size 2), s] (by simp) (by simp only [sizes, strOf_size, be_length]; omega), ?_⟩
    unfold TextR; rw [if_neg h]; rfl

theorem cat_data (xs : List ByteArray) : (cat xs).data.toList = (xs.map (·.data.toList)).flatten := by simp [cat]
theorem num_foldl : ∀ (l : List UInt8) (a : Int), l.foldl (fun n b => n * 256 + (b.toNat : Int)) a = a * 256 ^ l.length + num l
  | [], a => by simp [num]
  | b :: r, a => by
    have h1 := num_foldl r (a * 256 + (b.toNat : Int))
    have h2 := num_foldl r (0 * 256 + (b.toNat : Int))
    simp only [List.foldl_cons, List.length_cons, num, Int.pow_succ] at h1 h2 ⊢
    rw [h1, h2, Int.add_mul, Int.mul_assoc, Int.mul_comm 256 (256 ^ r.length)]
    simp only [Int.zero_mul, Int.zero_add, Int.add_assoc]
theorem num_cons (b : UInt8) (l : List UInt8) : num (b :: l) = (b.toNat : Int) * 256 ^ l.length + num l := by
  have := num_foldl l (0 * 256 + (b.toNat : Int))
  simp only [num, List.foldl_cons] at this ⊢
  rw [this]; simp
theorem beB_length (n : Int) : ∀ s, (beB n s).length = s
  | 0 => rfl
  | s + 1 => by simp [beB, beB_length n s]
theorem num_beB (n : Int) : ∀ s, num (beB n s) = n % 256 ^ s
  | 0 => by simp [beB, num]
  | s + 1 => by
    have hp : (0 : Int) < 256 ^ s := Int.pow_pos (by decide)
    have h0 : 0 ≤ n / 256 ^ s % 256 := Int.emod_nonneg _ (by decide)
    have h1 : n / 256 ^ s % 256 < 256 := Int.emod_lt_of_pos _ (by decide)
    rw [beB, num_cons, num_beB n s, beB_length, Int.pow_succ, mod_pow n _ hp]
    congr 2
    simp only [UInt8.toNat_ofNat']
    omega
theorem strOf_data (l : List Mir.D) : (strOf l).data.toList = l.map Mir.byteOf := by simp [strOf]
theorem ext_data (s : ByteArray) (a b : Nat) : (s.extract a b).data.toList = (s.data.toList.take b).drop a := by
  simp [ByteArray.data_extract, List.drop_take]
theorem textOf_data (s : ByteArray) : (TextOf s).data.toList = beB s.size 2 ++ s.data.toList := by
  simp only [TextOf, cat_data, List.map_cons, List.map_nil, List.flatten_cons, List.flatten_nil, List.append_nil, strOf_data, be_bytes]

theorem torn (s : ByteArray) (h : (s.size : Int) ≤ 65535) (k : Int) (h0 : 0 ≤ k) (hk : k < 2 + s.size) : CutR ((TextOf s).extract 0 k.toNat) 0 = .tup [.n (.str (ByteArray.mk (List.toArray []))), .n (.int .i64 0), .n (.int .i64 3)] := by
  have hz : ((TextOf s).extract 0 k.toNat).size = k.toNat := by
    rw [ByteArray.size_extract, textOf_size]; omega
  unfold CutR
  rw [if_neg (by omega)]
  by_cases h2 : (((TextOf s).extract 0 k.toNat).size : Int) - 0 < 2
  · rw [if_pos h2]
  · rw [if_neg h2]
    have : num (piece ((TextOf s).extract 0 k.toNat) 0 2) = s.size := by
      unfold piece
      rw [ext_data, textOf_data]
      have e : List.take (Int.toNat 2) (List.drop (Int.toNat 0) (List.drop 0 (List.take k.toNat (beB s.size 2 ++ s.data.toList)))) = beB s.size 2 := by
        have hl := beB_length s.size 2
        simp only [List.drop_zero, show Int.toNat 0 = 0 from rfl, show Int.toNat 2 = 2 from rfl, List.take_take]
        rw [show min 2 k.toNat = 2 by omega, List.take_append_of_le_length (by omega), List.take_of_length_le (by omega)]
      rw [e, num_beB]
      omega
    rw [this, if_pos (by omega)]

theorem p8 (s : ByteArray) (hs : (s.size : Int) ≤ 9223372036854775807) (a : Int) : Runs Fs 8 [.n (.str s), .n (.int .i64 a)] [] (.n (.bool true)) [] := by
  refine vc_eq fs8 rfl ?_
  rw [vc8]
  by_cases h : (s.size : Int) > 65535
  · refine ⟨_, 2, by simpa only [TextR, if_pos h] using p17 s, sel_intro (fun _ => ⟨true, p11, ?_⟩) (fun h => by cases h)⟩
    exact sel_intro (fun _ => by rw [decide_eq_true h]) (fun h => by cases h)
  · refine ⟨TextOf s, 0, by simpa only [TextR, if_neg h] using p17 s, sel_intro (fun h => by cases h) (fun _ => sel_dec (fun h => by rw [textOf_size] at h; omega) (fun _ => ?_))⟩
    rw [textOf_size]
    have hn : ((2 + s.size : Nat) : Int) ≠ 0 := by omega
    have h1 := Int.tmod_lt_of_pos a (show (0:Int) < ((2 + s.size : Nat) : Int) by omega)
    have h2 : -((2 + s.size : Nat) : Int) < Int.tmod a ((2 + s.size : Nat) : Int) := by
      have := Int.lt_tmod_of_pos a (show (0:Int) < ((2 + s.size : Nat) : Int) by omega)
      omega
    rw [i64_in (Int.tmod a ((2 + s.size : Nat) : Int) + ((2 + s.size : Nat) : Int)) (by omega)]
    generalize Int.tmod a ((2 + s.size : Nat) : Int) = m at h1 h2
    have h3 := Int.tmod_lt_of_pos (m + ((2 + s.size : Nat) : Int)) (show (0:Int) < ((2 + s.size : Nat) : Int) by omega)
    have h4 := Int.tmod_nonneg ((2 + s.size : Nat) : Int) (show (0:Int) ≤ m + ((2 + s.size : Nat) : Int) by omega)
    generalize Int.tmod (m + ((2 + s.size : Nat) : Int)) ((2 + s.size : Nat) : Int) = k at h3 h4
    have hz : (((TextOf s).extract 0 k.toNat).size : Int) ≤ 9223372036854775807 := by
      rw [ByteArray.size_extract, textOf_size]; omega
    have hc := p14 _ hz 0
    rw [torn s (by omega) k h4 (by omega)] at hc
    exact ⟨hn, hn, h4, by omega, _, _, _, hc, true, p11, sel_intro (fun _ => sel_intro (fun _ => sel_beq rfl) (fun h => by cases h)) (fun h => by cases h)⟩
end Go.Proofs.Ytjmfgemjabaohaa.M
