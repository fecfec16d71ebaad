import Derived.Test.YtmmnobdpccdeoaaGreatDoorZ3Base
import Derived.Test.YtmmnobdpccdeoaaGreatDoorZ3FunB
namespace Go.Proofs.YtmmnobdpccdeoaaGreatDoor.M
set_option linter.unusedVariables false
set_option linter.unusedSimpArgs false
open Go Go.Mir
set_option linter.unusedVariables false

theorem getR_three (s : ByteArray) (at_ k : Int) : ∃ a b c, GetR s at_ k = .tup [.n (.int .i64 a), .n (.int .i64 b), .n (.int .i64 c)] := by
  unfold GetR
  split
  · exact ⟨_, _, _, rfl⟩
  · split <;> exact ⟨_, _, _, rfl⟩

def CutR (s : ByteArray) (at_ : Int) : AV :=
  if at_ < 0 ∨ (s.size : Int) < at_ then .tup [.n (.str (ByteArray.mk (List.toArray []))), .n (.int .i64 0), .n (.int .i64 1)]
  else if (s.size : Int) - at_ < 2 then .tup [.n (.str (ByteArray.mk (List.toArray []))), .n (.int .i64 0), .n (.int .i64 3)]
  else if (s.size : Int) - (at_ + 2) < num (piece s at_ 2) then .tup [.n (.str (ByteArray.mk (List.toArray []))), .n (.int .i64 0), .n (.int .i64 3)]
  else .tup [.n (.str (s.extract (at_ + 2).toNat (at_ + 2 + num (piece s at_ 2)).toNat)), .n (.int .i64 (at_ + 2 + num (piece s at_ 2))), .n (.int .i64 0)]
theorem cutR_three (s : ByteArray) (at_ : Int) : ∃ a b c, CutR s at_ = .tup [.n (.str a), .n (.int .i64 b), .n (.int .i64 c)] := by
  unfold CutR
  split
  · exact ⟨_, _, _, rfl⟩
  · split
    · exact ⟨_, _, _, rfl⟩
    · split <;> exact ⟨_, _, _, rfl⟩

/-- What both Cuts do behind Get. -/
theorem cut_law (s : ByteArray) (hs : (s.size : Int) ≤ 9223372036854775807) (at_ : Int) (G : Int → Int → Int → Prop) (hG : ∀ a b c, GetR s at_ 2 = .tup [.n (.int .i64 a), .n (.int .i64 b), .n (.int .i64 c)] → G a b c) :
    ∃ x0 x1 x2 : Int, G x0 x1 x2 ∧
     (sel (x2 != 0)
      (Mir.AV.tup [(Mir.AV.n (Mir.D.str (ByteArray.mk (List.toArray [])))), (Mir.AV.n (Mir.D.int .i64 0)), (Mir.AV.n (Mir.D.int .i64 x2))] = CutR s at_)
      (sel (decide ((Go.IntKind.wrap .i64 ((((ByteArray.size s) : Nat) : Int) - x1)) < x0))
       (Mir.AV.tup [(Mir.AV.n (Mir.D.str (ByteArray.mk (List.toArray [])))), (Mir.AV.n (Mir.D.int .i64 0)), (Mir.AV.n (Mir.D.int .i64 3))] = CutR s at_)
       (((0 : Int) ≤ (Go.IntKind.wrap .i64 (x1 + x0))) ∧
        ((((Go.IntKind.wrap .i64 (x1 + x0)) : Int) ≤ (((ByteArray.size s) : Nat) : Int)) ∧
         (((0 : Int) ≤ x1) ∧
          (((x1 : Int) ≤ (((Int.toNat (Go.IntKind.wrap .i64 (x1 + x0))) : Nat) : Int)) ∧
           (Mir.AV.tup [(Mir.AV.n (Mir.D.str (ByteArray.extract s (Int.toNat x1) (Int.toNat (Go.IntKind.wrap .i64 (x1 + x0)))))), (Mir.AV.n (Mir.D.int .i64 (Go.IntKind.wrap .i64 (x1 + x0)))), (Mir.AV.n (Mir.D.int .i64 0))] = CutR s at_))))))) := by
  by_cases h : at_ < 0 ∨ (s.size : Int) < at_
  · refine ⟨_, _, _, hG _ _ _ (getR_bad (by omega)), sel_intro (fun _ => ?_) (fun h => by cases h)⟩
    unfold CutR; rw [if_pos h]
  · by_cases h2 : (s.size : Int) - at_ < 2
    · refine ⟨_, _, _, hG _ _ _ (getR_short (by omega) h2), sel_intro (fun _ => ?_) (fun h => by cases h)⟩
      unfold CutR; rw [if_neg h, if_pos h2]
    · have hn := num_le (l := piece s at_ 2) (by have := piece_len s at_ 2; omega)
      refine ⟨_, _, _, hG _ _ _ (getR_good (by omega) h2), sel_intro (fun h => by cases h) (fun _ => ?_)⟩
      rw [i64_in _ (by omega)]
      refine sel_dec (fun h3 => ?_) (fun h3 => ?_)
      · unfold CutR; rw [if_neg h, if_neg h2, if_pos h3]
      · rw [i64_in _ (by omega)]
        refine ⟨by omega, by omega, by omega, by omega, ?_⟩
        unfold CutR; rw [if_neg h, if_neg h2, if_neg h3]

theorem p76 (s : ByteArray) (hs : (s.size : Int) ≤ 9223372036854775807) (at_ : Int) : Runs Fs 76 [.n (.str s), .n (.int .i64 at_)] [] (CutR s at_) [] := by
  refine vc_eq fs76 rfl ?_
  rw [vc76]
  exact cut_law s hs at_ _ fun a b c h => h ▸ (p71 s hs at_ 2)
theorem p68 (s : ByteArray) (hs : (s.size : Int) ≤ 9223372036854775807) (at_ : Int) : Runs Fs 68 [.n (.str s), .n (.int .i64 at_)] [] (CutR s at_) [] := by
  refine vc_eq fs68 rfl ?_
  rw [vc68]
  exact cut_law s hs at_ _ fun a b c h => h ▸ (p65 s hs at_ 2)

theorem torn (s : ByteArray) (h : (s.size : Int) ≤ 65535) (k : Int) (h0 : 0 ≤ k) (hk : k < 2 + s.size) : CutR ((TextOf s).extract 0 k.toNat) 0 = .tup [.n (.str (ByteArray.mk (List.toArray []))), .n (.int .i64 0), .n (.int .i64 3)] := by
  have hz : ((TextOf s).extract 0 k.toNat).size = k.toNat := by
    rw [ByteArray.size_extract, textOf_size]; omega
  unfold CutR
  rw [if_neg (by omega)]
  by_cases h2 : (((TextOf s).extract 0 k.toNat).size : Int) - 0 < 2
  · rw [if_pos h2]
  · rw [if_neg h2]
    have : num (piece ((TextOf s).extract 0 k.toNat) 0 2) = s.size := by
      unfold piece
      rw [ext_data, textOf_data]
      have e : List.take (Int.toNat 2) (List.drop (Int.toNat 0) (List.drop 0 (List.take k.toNat (beB s.size 2 ++ s.data.toList)))) = beB s.size 2 := by
        have hl := beB_length s.size 2
        simp only [List.drop_zero, show Int.toNat 0 = 0 from rfl, show Int.toNat 2 = 2 from rfl, List.take_take]
        rw [show min 2 k.toNat = 2 by omega, List.take_append_of_le_length (by omega), List.take_of_length_le (by omega)]
      rw [e, num_beB]
      omega
    rw [this, if_pos (by omega)]

theorem cut_back (s a c : ByteArray) (hs : (s.size : Int) ≤ 65535) : CutR (cat [a, TextOf s, c]) a.size = .tup [.n (.str s), .n (.int .i64 (a.size + 2 + s.size)), .n (.int .i64 0)] := by
  have hz : ((cat [a, TextOf s, c]).size : Int) = a.size + 2 + s.size + c.size := by rw [cat3_size, textOf_size]; omega
  have hnum : num (piece (cat [a, TextOf s, c]) a.size 2) = s.size := by
    rw [piece_cat _ _ _ _ (by rw [textOf_size]; omega), textOf_data, List.take_append_of_le_length (by rw [beB_length]; decide), List.take_of_length_le (by rw [beB_length]; decide), num_beB]
    omega
  unfold CutR
  rw [if_neg (by omega), if_neg (by omega), hnum, if_neg (by omega)]
  congr 3
  congr 2
  refine bytes_ext ?_
  rw [ext_data, cat3, textOf_data]
  have e1 : ((a.size : Int) + 2 + s.size).toNat = a.data.toList.length + (2 + s.data.toList.length) := by simp only [size_list]; omega
  have e2 : ((a.size : Int) + 2).toNat = a.data.toList.length + 2 := by simp only [size_list]; omega
  have hb := beB_length s.size 2
  rw [e1, e2, ← List.drop_drop, List.take_length_add_append, List.drop_left, List.take_append_of_le_length (by simp [hb]), List.take_of_length_le (by simp [hb])]
  generalize beB s.size 2 = l at hb
  rw [← hb, List.drop_left]
end Go.Proofs.YtmmnobdpccdeoaaGreatDoor.M
