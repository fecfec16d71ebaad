import Derived.Test.YtjmfgemjabaohaaDoorDPage
import Derived.Test.YtjmfgemjabaohaaDoorDFunX
namespace Go.Proofs.YtjmfgemjabaohaaDoor.M
set_option linter.unusedVariables false
set_option linter.unusedSimpArgs false
open Go Go.Mir
set_option linter.unusedVariables false

theorem toList_data (x : ByteArray) : x.toList = x.data.toList := ByteArray.toList_eq x
theorem beq_dec (x y : ByteArray) : (x.toList == y.toList) = decide (x = y) := by
  rw [toList_data, toList_data]
  by_cases h : x = y
  · subst h; simp
  · rw [decide_eq_false h]
    refine beq_eq_false_iff_ne.2 fun e => h (bytes_ext e)
theorem sel_nb {x y : ByteArray} {A B : Prop} (h1 : x ≠ y → A) (h2 : x = y → B) : sel (Bool.not (x.toList == y.toList)) A B := by
  rw [beq_dec]
  by_cases h : x = y
  · rw [decide_eq_true h]; exact h2 h
  · rw [decide_eq_false h]; exact h1 h
theorem sel_eb {x y : ByteArray} {A B : Prop} (h1 : x = y → A) (h2 : x ≠ y → B) : sel (x.toList == y.toList) A B := by
  rw [beq_dec]
  by_cases h : x = y
  · rw [decide_eq_true h]; exact h1 h
  · rw [decide_eq_false h]; exact h2 h

def OpenR (x : ByteArray) : AV :=
  if (x.size : Int) < 4 then .tup [.n (.str (ByteArray.mk (List.toArray []))), .n (.int .i64 3)]
  else if SealS (x.extract 0 ((x.size : Int) - 4).toNat) = x then .tup [.n (.str (x.extract 0 ((x.size : Int) - 4).toNat)), .n (.int .i64 0)]
  else .tup [.n (.str (ByteArray.mk (List.toArray []))), .n (.int .i64 41)]
theorem p32 (x : ByteArray) (hs : x.size ≤ 140737488300000) : Runs Fs 32 [.n (.str x)] [] (OpenR x) [] := by
  refine vc_eq fs32 rfl ?_
  rw [vc32]
  unfold V32
  rw [i64_in ((x.size : Int) - 4) (by omega)]
  refine sel_dec (fun h => by unfold OpenR; rw [if_pos (by omega)]) (fun h => ⟨by omega, by omega, SealS (x.extract 0 ((x.size : Int) - 4).toNat), p25 _ (by rw [ByteArray.size_extract]; omega), sel_nb (fun he => ?_) (fun he => ⟨by omega, by omega, ?_⟩)⟩)
  · unfold OpenR; rw [if_neg (by omega), if_neg he]
  · unfold OpenR; rw [if_neg (by omega), if_pos he]

/-- A block's bytes, with the zeros. -/
def F (s : ByteArray) : ByteArray := padB s (4096 - s.size)
theorem F_size {s : ByteArray} (h : s.size ≤ 4096) : (F s).size = 4096 := by unfold F; rw [padB_size]; omega
def pErr (e : Int) : AV := .tup [pg 0 0 (ByteArray.mk (List.toArray [])), .n (.int .i64 e)]
def nOf (f : ByteArray) : Nat := (num (piece f 7 2)).toNat
def GetPR (s : ByteArray) : AV :=
  if 4096 < s.size then pErr 1
  else if 4000 < nOf (F s) then pErr 4
  else if SealS ((F s).extract 0 (9 + nOf (F s))) ≠ (F s).extract 0 (13 + nOf (F s)) then pErr 41
  else if num (piece (F s) 0 1) < 1 ∨ 5 < num (piece (F s) 0 1) then pErr 40
  else if ¬ pgOK (num (piece (F s) 0 1)) (num (piece (F s) 1 6)) ((F s).extract 9 (9 + nOf (F s))) then pErr 4
  else if TrimS ((F s).extract (13 + nOf (F s)) 4096) ≠ ByteArray.mk (List.toArray []) then pErr 4
  else .tup [pg (num (piece (F s) 0 1)) (num (piece (F s) 1 6)) ((F s).extract 9 (9 + nOf (F s))), .n (.int .i64 0)]
theorem nOf_eq (f : ByteArray) : ((nOf f : Nat) : Int) = num (piece f 7 2) := by
  have := (num_bound (piece f 7 2)).1
  unfold nOf; omega
theorem nOf_le (f : ByteArray) : nOf f ≤ 65535 := by
  have h := num_bound (piece f 7 2)
  have hl := piece_len f 7 2
  have : (256 : Int) ^ (piece f 7 2).length ≤ 256 ^ 2 := by
    have h2 : (piece f 7 2).length = 0 ∨ (piece f 7 2).length = 1 ∨ (piece f 7 2).length = 2 := by
      simp only [show Int.toNat 2 = 2 from rfl] at hl; omega
    rcases h2 with e | e | e <;> rw [e] <;> decide
  have e2 : (256 : Int) ^ 2 = 65536 := rfl
  rw [e2] at this
  unfold nOf; omega
theorem piece_pre (f : ByteArray) (n : Nat) (at_ k : Int) (h0 : 0 ≤ at_) (hk : 0 ≤ k) (h : at_ + k ≤ n) : piece (f.extract 0 n) at_ k = piece f at_ k := by
  unfold piece
  rw [ext_data, List.drop_zero, List.drop_take, List.take_take]
  congr 1
  omega
theorem ext_ext (f : ByteArray) (a b n : Nat) (h : b ≤ n) : (f.extract 0 n).extract a b = f.extract a b := by
  refine bytes_ext ?_
  rw [ext_data, ext_data, ext_data, List.drop_zero, List.take_take, Nat.min_eq_left h]
theorem p21 (s : ByteArray) (hs : (s.size : Int) ≤ 9223372036854775807) : Runs Fs 21 [.n (.str s)] [] (GetPR s) [] := by
  refine vc_eq fs21 rfl ?_
  rw [vc21]
  have h16 := p16 s 4096 hs
  by_cases h1 : 4096 < s.size
  · unfold PadR at h16
    rw [if_neg (by omega), if_pos (by omega)] at h16
    exact ⟨_, _, h16, sel_intro (fun _ => by unfold GetPR; rw [if_pos h1]; rfl) (fun h => by cases h)⟩
  · rw [padR_good (by omega) (by omega)] at h16
    have eF : padB s (4096 - (s.size : Int)).toNat = F s := by unfold F; congr 1; omega
    rw [eF] at h16
    have hF := F_size (s := s) (by omega)
    have hn := nOf_eq (F s)
    have hn2 := nOf_le (F s)
    have hg := p31 (F s) (by omega) 7 2
    rw [getR_good (by omega) (by omega)] at hg
    refine ⟨_, _, h16, sel_intro (fun h => by cases h) (fun _ => ⟨_, _, _, hg, ?_⟩)⟩
    rw [← hn, i64_in (9 + (nOf (F s) : Int)) (by omega), i64_in (9 + (nOf (F s) : Int) + 4) (by omega)]
    refine sel_dec (fun h => by unfold GetPR; rw [if_neg h1, if_pos (by omega)]; rfl) (fun h2 => ?_)
    have e13 : (9 + (nOf (F s) : Int) + 4).toNat = 13 + nOf (F s) := by omega
    rw [e13, hF]
    have hx : ((F s).extract 0 (13 + nOf (F s))).size = 13 + nOf (F s) := by rw [ByteArray.size_extract, hF]; omega
    have ho := p32 ((F s).extract 0 (13 + nOf (F s))) (by omega)
    unfold OpenR at ho
    rw [if_neg (by omega), hx, show ((13 + nOf (F s) : Nat) : Int) - 4 = ((9 + nOf (F s) : Nat) : Int) by omega, Int.toNat_natCast, ext_ext _ _ _ _ (by omega)] at ho
    refine ⟨by omega, by omega, ?_⟩
    by_cases h3 : SealS ((F s).extract 0 (9 + nOf (F s))) = (F s).extract 0 (13 + nOf (F s))
    · rw [if_pos h3] at ho
      have hi : ((F s).extract 0 (9 + nOf (F s))).size = 9 + nOf (F s) := by rw [ByteArray.size_extract, hF]; omega
      have hk := p31 ((F s).extract 0 (9 + nOf (F s))) (by omega) 0 1
      rw [getR_good (by omega) (by omega), piece_pre _ _ _ _ (by omega) (by omega) (by omega)] at hk
      have hgg := p31 ((F s).extract 0 (9 + nOf (F s))) (by omega) 1 6
      rw [getR_good (by omega) (by omega), piece_pre _ _ _ _ (by omega) (by omega) (by omega)] at hgg
      refine ⟨_, _, ho, sel_intro (fun h => by cases h) (fun _ => ⟨_, _, _, hk, _, _, _, hgg, by omega, by omega, ?_⟩)⟩
      rw [hi, show Int.toNat 9 = 9 from rfl, ext_ext _ _ _ _ (by omega)]
      have e40 : num (piece (F s) 0 1) < 1 ∨ 5 < num (piece (F s) 0 1) → pErr 40 = GetPR s := fun h => by
        unfold GetPR; rw [if_neg h1, if_neg (by omega), if_neg (by simpa using h3), if_pos h]
      refine sel_dec (fun h => e40 (.inl h)) (fun h4 => sel_dec (fun h => e40 (.inr h)) (fun h5 => ⟨_, p12 _ _ _, ?_⟩))
      by_cases h6 : pgOK (num (piece (F s) 0 1)) (num (piece (F s) 1 6)) ((F s).extract 9 (9 + nOf (F s)))
      · rw [decide_eq_true h6]
        refine sel_intro (fun h => by cases h) (fun _ => ⟨by omega, by omega, _, p15 _ (by rw [ByteArray.size_extract]; omega), sel_nb (fun h7 => ?_) (fun h7 => ?_)⟩)
        · unfold GetPR; rw [if_neg h1, if_neg (by omega), if_neg (by simpa using h3), if_neg (by omega), if_neg (by simpa using h6), if_pos h7]; rfl
        · unfold GetPR; rw [if_neg h1, if_neg (by omega), if_neg (by simpa using h3), if_neg (by omega), if_neg (by simpa using h6), if_neg (by simpa using h7)]; rfl
      · rw [decide_eq_false h6]
        exact sel_intro (fun _ => by unfold GetPR; rw [if_neg h1, if_neg (by omega), if_neg (by simpa using h3), if_neg (by omega), if_pos h6]; rfl) (fun h => by cases h)
    · rw [if_neg h3] at ho
      exact ⟨_, _, ho, sel_intro (fun _ => by unfold GetPR; rw [if_neg h1, if_neg (by omega), if_pos h3]; rfl) (fun h => by cases h)⟩

theorem piece_two (f : ByteArray) (a b : UInt8) (h7 : f.data.toList[7]? = some a) (h8 : f.data.toList[8]? = some b) : num (piece f 7 2) = (a.toNat : Int) * 256 + b.toNat := by
  obtain ⟨h7', e7⟩ := List.getElem?_eq_some_iff.1 h7
  obtain ⟨h8', e8⟩ := List.getElem?_eq_some_iff.1 h8
  have : piece f 7 2 = [a, b] := by
    unfold piece
    rw [show Int.toNat 7 = 7 from rfl, show Int.toNat 2 = 2 from rfl, List.drop_eq_getElem_cons h7', List.take_succ_cons, List.drop_eq_getElem_cons h8', List.take_succ_cons, List.take_zero, e7, e8]
  rw [this]; simp [num]
theorem piece_zero (f : ByteArray) (a : UInt8) (h : f.data.toList[0]? = some a) : num (piece f 0 1) = (a.toNat : Int) := by
  obtain ⟨h', e⟩ := List.getElem?_eq_some_iff.1 h
  have : piece f 0 1 = [a] := by
    unfold piece
    rw [show Int.toNat 0 = 0 from rfl, show Int.toNat 1 = 1 from rfl, List.drop_eq_getElem_cons h', List.take_succ_cons, List.take_zero, e]
  rw [this]; simp [num]
theorem p22 (s : ByteArray) (hs : (s.size : Int) ≤ 9223372036854775807) : Runs Fs 22 [.n (.str s)] [] (GetPR s) [] := by
  refine vc_eq fs22 rfl ?_
  rw [vc22]
  refine sel_dec (fun h => by unfold GetPR; rw [if_pos (by omega)]; rfl) (fun h1' => ?_)
  have h1 : ¬ 4096 < s.size := by omega
  have h19 := p19 s 4096 hs
  rw [padR_good (by omega) (by omega)] at h19
  have eF : padB s (4096 - (s.size : Int)).toNat = F s := by unfold F; congr 1; omega
  rw [eF] at h19
  have hF := F_size (s := s) (by omega)
  have hFl : (F s).data.toList.length = 4096 := by rw [size_list, hF]
  have g7 : (F s).data.toList[7]? = some (F s).data.toList[7] := List.getElem?_eq_getElem (by omega)
  have g8 : (F s).data.toList[8]? = some (F s).data.toList[8] := List.getElem?_eq_getElem (by omega)
  have g0 : (F s).data.toList[0]? = some (F s).data.toList[0] := List.getElem?_eq_getElem (by omega)
  refine ⟨_, _, h19, by decide, _, g7, by decide, _, g8, ?_⟩
  have hn := nOf_eq (F s)
  have hn2 := nOf_le (F s)
  have e2 := piece_two (F s) _ _ g7 g8
  have e0 := piece_zero (F s) _ g0
  have b7 := ((F s).data.toList[7]).toNat_lt
  have b8 := ((F s).data.toList[8]).toNat_lt
  have b0 := ((F s).data.toList[0]).toNat_lt
  generalize (F s).data.toList[7] = a7 at *
  generalize (F s).data.toList[8] = a8 at *
  generalize (F s).data.toList[0] = a0 at *
  have w1 : IntKind.i64.wrap (IntKind.i64.wrap (256 * IntKind.i64.wrap ((a7.toNat : Nat) : Int)) + IntKind.i64.wrap ((a8.toNat : Nat) : Int)) = (nOf (F s) : Int) := by
    rw [i64_in ((a7.toNat : Nat) : Int) (by omega), i64_in ((a8.toNat : Nat) : Int) (by omega), i64_in (256 * ((a7.toNat : Nat) : Int)) (by omega), i64_in _ (by omega)]
    omega
  rw [w1, i64_in (9 + (nOf (F s) : Int)) (by omega), i64_in (13 + (nOf (F s) : Int)) (by omega)]
  refine sel_dec (fun h => by unfold GetPR; rw [if_neg h1, if_pos (by omega)]; rfl) (fun h2 => ?_)
  rw [show (9 + (nOf (F s) : Int)).toNat = 9 + nOf (F s) by omega, show (13 + (nOf (F s) : Int)).toNat = 13 + nOf (F s) by omega, hF]
  refine ⟨by omega, by omega, _, p28 _ (by rw [ByteArray.size_extract]; omega), by omega, by omega, sel_nb (fun h3 => by unfold GetPR; rw [if_neg h1, if_neg (by omega), if_pos h3]; rfl) (fun h3 => ?_)⟩
  have hg := p33 (F s) (by omega) 1 6
  rw [getR_good (by omega) (by omega)] at hg
  refine ⟨_, _, _, hg, by decide, _, g0, by omega, by omega, by decide, by omega, ?_⟩
  rw [i64_in ((a0.toNat : Nat) : Int) (by omega), ← e0, show Int.toNat 9 = 9 from rfl]
  have e40 : num (piece (F s) 0 1) < 1 ∨ 5 < num (piece (F s) 0 1) → pErr 40 = GetPR s := fun h => by
    unfold GetPR; rw [if_neg h1, if_neg (by omega), if_neg (by simpa using h3), if_pos h]
  refine sel_dec (fun h => e40 (.inl h)) (fun h4 => sel_dec (fun h => e40 (.inr h)) (fun h5 => ⟨_, p10 _ _ _, ?_⟩))
  by_cases h6 : pgOK (num (piece (F s) 0 1)) (num (piece (F s) 1 6)) ((F s).extract 9 (9 + nOf (F s)))
  · rw [decide_eq_true h6]
    refine sel_intro (fun h => by cases h) (fun _ => ⟨by omega, by omega, _, p20 _ (by rw [ByteArray.size_extract]; omega), sel_nb (fun h7 => ?_) (fun h7 => ?_)⟩)
    · unfold GetPR; rw [if_neg h1, if_neg (by omega), if_neg (by simpa using h3), if_neg (by omega), if_neg (by simpa using h6), if_pos h7]; rfl
    · unfold GetPR; rw [if_neg h1, if_neg (by omega), if_neg (by simpa using h3), if_neg (by omega), if_neg (by simpa using h6), if_neg (by simpa using h7)]; rfl
  · rw [decide_eq_false h6]
    exact sel_intro (fun _ => by unfold GetPR; rw [if_neg h1, if_neg (by omega), if_neg (by simpa using h3), if_neg (by omega), if_pos h6]; rfl) (fun h => by cases h)
/-- What Get tells, in one: an error, or a page that may be, and what it says of the bytes. -/
theorem getP_cases (s : ByteArray) : (∃ e, e ≠ 0 ∧ GetPR s = pErr e) ∨ ∃ k g b, GetPR s = .tup [pg k g b, .n (.int .i64 0)] ∧ pgOK k g b ∧ s.size ≤ 4096 ∧ nOf (F s) ≤ 4000 ∧ SealS ((F s).extract 0 (9 + nOf (F s))) = (F s).extract 0 (13 + nOf (F s)) ∧
    k = num (piece (F s) 0 1) ∧ g = num (piece (F s) 1 6) ∧ b = (F s).extract 9 (9 + nOf (F s)) ∧ TrimS ((F s).extract (13 + nOf (F s)) 4096) = ByteArray.mk (List.toArray []) := by
  unfold GetPR
  split
  · exact .inl ⟨1, by decide, rfl⟩
  split
  · exact .inl ⟨4, by decide, rfl⟩
  split
  · exact .inl ⟨41, by decide, rfl⟩
  split
  · exact .inl ⟨40, by decide, rfl⟩
  split
  · exact .inl ⟨4, by decide, rfl⟩
  split
  · exact .inl ⟨4, by decide, rfl⟩
  · rename_i h1 h2 h3 h4 h5 h6
    exact .inr ⟨_, _, _, rfl, by simpa using h5, by omega, by omega, by simpa using h3, rfl, rfl, rfl, by simpa using h6⟩
end Go.Proofs.YtjmfgemjabaohaaDoor.M
