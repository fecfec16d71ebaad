import Derived.Test.YtjmfgemjabaohaaMPilotT
namespace Go.Proofs.Ytjmfgemjabaohaa.M
set_option linter.unusedVariables false
set_option linter.unusedSimpArgs false
open Go Go.Mir
set_option linter.unusedVariables false

theorem cat3 (a b c : ByteArray) : (cat [a, b, c]).data.toList = a.data.toList ++ (b.data.toList ++ c.data.toList) := by
  rw [cat_data]; simp
theorem piece_cat (a b c : ByteArray) (k : Int) (hk : k.toNat ≤ b.size) : piece (cat [a, b, c]) a.size k = b.data.toList.take k.toNat := by
  unfold piece
  rw [cat3]
  have e : (a.size : Int).toNat = a.data.toList.length := by simp [size_list]
  rw [e, List.drop_left, List.take_append_of_le_length (by rw [size_list]; exact hk)]
theorem cat3_size (a b c : ByteArray) : (cat [a, b, c]).size = a.size + b.size + c.size := by
  simp only [cat_size, sizes]; omega
theorem get_back (n k : Int) (a c : ByteArray) (h1 : 1 ≤ k) (h6 : k ≤ 6) (hn : 0 ≤ n) (hlt : n < 256 ^ k.toNat) : GetR (cat [a, strOf (be n k.toNat), c]) a.size k = .tup [.n (.int .i64 n), .n (.int .i64 (a.size + k)), .n (.int .i64 0)] := by
  have hz : ((cat [a, strOf (be n k.toNat), c]).size : Int) = a.size + k + c.size := by rw [cat3_size, strOf_size, be_length]; omega
  rw [getR_good (by omega) (by omega), piece_cat _ _ _ _ (by rw [strOf_size, be_length]; omega), strOf_data, be_bytes, List.take_of_length_le (by rw [beB_length]; omega), num_beB, Int.emod_eq_of_lt hn hlt]
theorem bytes_ext {a b : ByteArray} (h : a.data.toList = b.data.toList) : a = b := by
  cases a; cases b
  simp only [ByteArray.mk.injEq]
  exact Array.toList_inj.1 h
theorem cut_back (s a c : ByteArray) (hs : (s.size : Int) ≤ 65535) : CutR (cat [a, TextOf s, c]) a.size = .tup [.n (.str s), .n (.int .i64 (a.size + 2 + s.size)), .n (.int .i64 0)] := by
  have hz : ((cat [a, TextOf s, c]).size : Int) = a.size + 2 + s.size + c.size := by rw [cat3_size, textOf_size]; omega
  have hnum : num (piece (cat [a, TextOf s, c]) a.size 2) = s.size := by
    rw [piece_cat _ _ _ _ (by rw [textOf_size]; omega), textOf_data, List.take_append_of_le_length (by rw [beB_length]; decide), List.take_of_length_le (by rw [beB_length]; decide), num_beB]
    omega
  unfold CutR
  rw [if_neg (by omega), if_neg (by omega), hnum, if_neg (by omega)]
  congr 3
  congr 2
  refine bytes_ext ?_
  rw [ext_data, cat3, textOf_data]
  have e1 : ((a.size : Int) + 2 + s.size).toNat = a.data.toList.length + (2 + s.data.toList.length) := by simp only [size_list]; omega
  have e2 : ((a.size : Int) + 2).toNat = a.data.toList.length + 2 := by simp only [size_list]; omega
  have hb := beB_length s.size 2
  rw [e1, e2, ← List.drop_drop, List.take_length_add_append, List.drop_left, List.take_append_of_le_length (by simp [hb]), List.take_of_length_le (by simp [hb])]
  generalize beB s.size 2 = l at hb
  rw [← hb, List.drop_left]

theorem half (a2 a3 a4 : ByteArray) (hsz : a2.size + a3.size + a4.size ≤ 140737488000000) :
(∃ x14 : ByteArray,
      (∃ x15 : Int,
       ((Runs Fs 17 [(Mir.AV.n (Mir.D.str a2))] [] (Mir.AV.tup [(Mir.AV.n (Mir.D.str x14)), (Mir.AV.n (Mir.D.int .i64 x15))]) []) ∧
        (sel (x15 != 0)
         (∃ x16 : Bool,
          ((Runs Fs 11 [] [] (Mir.AV.n (Mir.D.bool x16)) []) ∧
           (sel x16
            ((fun r => r = Mir.AV.n (Mir.D.bool true)) (Mir.AV.n (Mir.D.bool (decide ((((ByteArray.size a2) : Nat) : Int) > 65535)))))
            ((fun r => r = Mir.AV.n (Mir.D.bool true)) (Mir.AV.n (Mir.D.bool false))))))
         ((0 = 0) ∧
          (∃ x17 : ByteArray,
           ((Runs Fs 16 [(Mir.AV.o (Mir.D.sl 1 [(Mir.D.str a3), (Mir.D.str x14), (Mir.D.str a4)]))] [] (Mir.AV.n (Mir.D.str x17)) []) ∧
            (∃ x18 : ByteArray,
             (∃ x19 : Int,
              (∃ x20 : Int,
               ((Runs Fs 14 [(Mir.AV.n (Mir.D.str x17)), (Mir.AV.n (Mir.D.int .i64 (((ByteArray.size a3) : Nat) : Int)))] [] (Mir.AV.tup [(Mir.AV.n (Mir.D.str x18)), (Mir.AV.n (Mir.D.int .i64 x19)), (Mir.AV.n (Mir.D.int .i64 x20))]) []) ∧
                (∃ x21 : Bool,
                 ((Runs Fs 11 [] [] (Mir.AV.n (Mir.D.bool x21)) []) ∧
                  (sel x21
                   (sel (x20 == 0)
                    (sel ((ByteArray.toList x18) == (ByteArray.toList a2))
                     ((fun r => r = Mir.AV.n (Mir.D.bool true)) (Mir.AV.n (Mir.D.bool (x19 == (Go.IntKind.wrap .i64 ((Go.IntKind.wrap .i64 ((((ByteArray.size a3) : Nat) : Int) + 2)) + (((ByteArray.size a2) : Nat) : Int)))))))
                     ((fun r => r = Mir.AV.n (Mir.D.bool true)) (Mir.AV.n (Mir.D.bool false))))
                    ((fun r => r = Mir.AV.n (Mir.D.bool true)) (Mir.AV.n (Mir.D.bool false))))
                   ((fun r => r = Mir.AV.n (Mir.D.bool true)) (Mir.AV.n (Mir.D.bool false))))))))))))))))) := by
  by_cases h : (a2.size : Int) > 65535
  · refine ⟨_, 2, by simpa only [TextR, if_pos h] using p17 a2, sel_intro (fun _ => ⟨true, p11, ?_⟩) (fun h => by cases h)⟩
    exact sel_intro (fun _ => by rw [decide_eq_true h]) (fun h => by cases h)
  · refine ⟨TextOf a2, 0, by simpa only [TextR, if_neg h] using p17 a2, sel_intro (fun h => by cases h) (fun _ => ⟨rfl, cat [a3, TextOf a2, a4], p16 [a3, TextOf a2, a4] (by simp) (by simp only [sizes, textOf_size]; omega), ?_⟩)⟩
    have hc := p14 (cat [a3, TextOf a2, a4]) (by rw [cat3_size, textOf_size]; omega) a3.size
    rw [cut_back _ _ _ (by omega)] at hc
    refine ⟨_, _, _, hc, true, p11, sel_intro (fun _ => sel_intro (fun _ => sel_beq ?_) (fun h => by cases h)) (fun h => by cases h)⟩
    rw [i64_in (a3.size + 2) (by omega), i64_in _ (by omega), beq_self_eq_true]

theorem p7 (n k : Int) (a2 a3 a4 : ByteArray) (hsz : a2.size + a3.size + a4.size ≤ 140737488000000) : Runs Fs 7 [.n (.int .i64 n), .n (.int .i64 k), .n (.str a2), .n (.str a3), .n (.str a4)] [] (.n (.bool true)) [] := by
  refine vc_eq fs7 rfl ?_
  rw [vc7]
  by_cases h : k < 1 ∨ 6 < k ∨ n < 0 ∨ (1 ≤ k ∧ k ≤ 6 ∧ 256 ^ k.toNat ≤ n)
  · exact ⟨_, _, p9_bad n k h, sel_intro (fun h => by cases h) (fun _ => half a2 a3 a4 hsz)⟩
  · have hk : 1 ≤ k ∧ k ≤ 6 ∧ 0 ≤ n ∧ n < 256 ^ k.toNat := by omega
    obtain ⟨h1, h2, h3, h4⟩ := hk
    refine ⟨_, _, p9_good n k h1 h2 h3 h4, sel_intro (fun _ => ⟨rfl, cat [a3, strOf (be n k.toNat), a4], p16 [a3, strOf (be n k.toNat), a4] (by simp) (by simp only [sizes, strOf_size, be_length]; omega), ?_⟩) (fun h => by cases h)⟩
    have hg := p12 (cat [a3, strOf (be n k.toNat), a4]) (by rw [cat3_size, strOf_size, be_length]; omega) a3.size k
    rw [get_back n k _ _ h1 h2 h3 h4] at hg
    refine ⟨_, _, _, hg, sel_intro (fun h => by cases h) (fun _ => sel_intro (fun h => by simp at h) (fun _ => sel_intro (fun h => ?_) (fun _ => half a2 a3 a4 hsz)))⟩
    rw [i64_in _ (by omega)] at h
    simp at h
end Go.Proofs.Ytjmfgemjabaohaa.M
