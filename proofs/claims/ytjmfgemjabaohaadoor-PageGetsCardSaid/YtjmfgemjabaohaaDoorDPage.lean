import Derived.Test.YtjmfgemjabaohaaDoorDSum
namespace Go.Proofs.YtjmfgemjabaohaaDoor.M
set_option linter.unusedVariables false
set_option linter.unusedSimpArgs false
open Go Go.Mir
set_option linter.unusedVariables false

def pg (k g : Int) (b : ByteArray) : AV := .agg [.n (.int .i64 k), .n (.int .i64 g), .n (.str b)]
def pgOK (k g : Int) (b : ByteArray) : Prop := 1 ≤ k ∧ k ≤ 5 ∧ 0 ≤ g ∧ g ≤ 1099511627776 ∧ (b.size : Int) ≤ 4000
instance (k g : Int) (b : ByteArray) : Decidable (pgOK k g b) := by unfold pgOK; infer_instance
theorem right_law (k g : Int) (b : ByteArray) : sel (decide (k ≥ 1)) (sel (decide (k ≤ 5)) (sel (decide (g ≥ 0)) (sel (decide (g ≤ 1099511627776)) (AV.n (Mir.D.bool (decide ((((ByteArray.size b) : Nat) : Int) ≤ 4000))) = AV.n (Mir.D.bool (decide (pgOK k g b)))) (AV.n (Mir.D.bool false) = AV.n (Mir.D.bool (decide (pgOK k g b))))) (AV.n (Mir.D.bool false) = AV.n (Mir.D.bool (decide (pgOK k g b))))) (AV.n (Mir.D.bool false) = AV.n (Mir.D.bool (decide (pgOK k g b))))) (AV.n (Mir.D.bool false) = AV.n (Mir.D.bool (decide (pgOK k g b)))) := by
  have no : ¬ pgOK k g b → AV.n (Mir.D.bool false) = AV.n (Mir.D.bool (decide (pgOK k g b))) := fun h => by rw [decide_eq_false h]
  refine sel_dec (fun h1 => sel_dec (fun h2 => sel_dec (fun h3 => sel_dec (fun h4 => ?_) (fun h => no ?_)) (fun h => no ?_)) (fun h => no ?_)) (fun h => no ?_)
  · have : (((b.size : Nat) : Int) ≤ 4000) ↔ pgOK k g b := ⟨fun h => ⟨h1, h2, h3, h4, h⟩, fun h => h.2.2.2.2⟩
    exact congrArg (fun z => AV.n (Mir.D.bool z)) (decide_eq_decide.2 this)
  all_goals
    unfold pgOK
    omega
theorem p12 (k g : Int) (b : ByteArray) : Runs Fs 12 [pg k g b] [] (.n (.bool (decide (pgOK k g b)))) [] := by
  refine vc_eq fs12 rfl ?_
  unfold pg
  rw [vc12]
  exact right_law k g b
theorem p10 (k g : Int) (b : ByteArray) : Runs Fs 10 [pg k g b] [] (.n (.bool (decide (pgOK k g b)))) [] := by
  refine vc_eq fs10 rfl ?_
  unfold pg
  rw [vc10]
  exact right_law k g b
/-- A page's bytes ahead of its sum; and all of it. -/
def PageB (k g : Int) (b : ByteArray) : ByteArray := cat [strOf (be k 1), strOf (be g 6), TextOf b]
def PageS (k g : Int) (b : ByteArray) : ByteArray := TrimS (SealS (PageB k g b))
theorem pageB_size (k g : Int) (b : ByteArray) : (PageB k g b).size = 9 + b.size := by
  simp only [PageB, cat_size, sizes, strOf_size, be_length, textOf_size]; omega
def PutPR (k g : Int) (b : ByteArray) : AV := if pgOK k g b then .tup [.n (.str (PageS k g b)), .n (.int .i64 0)] else .tup [.n (.str (ByteArray.mk (List.toArray []))), .n (.int .i64 1)]
theorem p9 (k g : Int) (b : ByteArray) : Runs Fs 9 [pg k g b] [] (PutPR k g b) [] := by
  refine vc_eq fs9 rfl ?_
  unfold pg
  rw [vc9]
  refine ⟨_, p12 k g b, ?_⟩
  by_cases h : pgOK k g b
  · have h' := h
    obtain ⟨h1, h2, h3, h4, h5⟩ := h'
    rw [decide_eq_true h]
    have hb : ¬ ((b.size : Int) > 65535) := by omega
    refine sel_intro (fun h => by cases h) (fun _ => ⟨_, _, p24_good k 1 (by omega) (by omega) (by omega) (by show k < 256; omega), _, _, p24_good g 6 (by omega) (by omega) (by omega) (by show g < 281474976710656; omega), TextOf b, 0, by simpa only [TextR, if_neg hb] using p17 b, rfl, PageB k g b, ?_, SealS (PageB k g b), p25 _ (by rw [pageB_size]; omega), PageS k g b, p15 _ (by rw [sealS_size, pageB_size]; omega), by unfold PutPR; rw [if_pos h]⟩)
    exact p26 [strOf (be k 1), strOf (be g 6), TextOf b] (by simp) (by simp only [sizes, strOf_size, be_length, textOf_size]; omega)
  · rw [decide_eq_false h]
    exact sel_intro (fun _ => by unfold PutPR; rw [if_neg h]) (fun h => by cases h)
theorem cat_three (a b c : ByteArray) : (a ++ b) ++ c = cat [a, b, c] := by
  refine bytes_ext ?_
  rw [app_data, app_data, cat3, List.append_assoc]
theorem p13 (k g : Int) (b : ByteArray) (h : pgOK k g b) : Runs Fs 13 [pg k g b] [] (.n (.str (PageS k g b))) [] := by
  obtain ⟨h1, h2, h3, h4, h5⟩ := h
  refine vc_eq fs13 rfl ?_
  unfold pg
  rw [vc13]
  have hb : ¬ ((b.size : Int) > 65535) := by omega
  refine ⟨_, _, p27_good k 1 (by omega) (by omega) (by omega) (by show k < 256; omega), _, _, p27_good g 6 (by omega) (by omega) (by omega) (by show g < 281474976710656; omega), TextOf b, 0, by simpa only [TextR, if_neg hb] using p18 b (by omega), ?_, ?_, ?_⟩
  · simp only [strOf_size, be_length]; decide
  · rw [textOf_size]
    have : ∀ x y : ByteArray, (x ++ y).size = x.size + y.size := fun x y => by simp
    rw [this]; simp only [strOf_size, be_length]; omega
  · rw [show Int.toNat 1 = 1 from rfl, show Int.toNat 6 = 6 from rfl, cat_three]
    exact ⟨SealS (PageB k g b), p28 (PageB k g b) (by rw [pageB_size]; omega), _, p20 _ (by rw [sealS_size, pageB_size]; omega), rfl⟩
theorem alive_len : 9 ≤ (PageS 1 0 (ByteArray.mk (List.toArray []))).size := by decide +kernel
theorem p11 : Runs Fs 11 [] [] (.n (.bool true)) [] := by
  refine vc_eq fs11 rfl ?_
  rw [vc11]
  have := p9 1 0 (ByteArray.mk (List.toArray []))
  unfold PutPR at this
  rw [if_pos (by decide)] at this
  refine ⟨_, _, this, sel_intro (fun _ => ?_) (fun h => by cases h)⟩
  have h := alive_len
  rw [decide_eq_true (by omega)]
theorem p3 (k g : Int) (b : ByteArray) : Runs Fs 3 [pg k g b] [] (.n (.bool true)) [] := by
  refine vc_eq fs3 rfl ?_
  unfold pg
  rw [vc3]
  have h9 := p9 k g b
  unfold PutPR at h9
  by_cases h : pgOK k g b
  · rw [if_pos h] at h9
    refine ⟨_, _, h9, _, p10 k g b, ?_⟩
    rw [decide_eq_true h]
    refine sel_intro (fun h => by cases h) (fun _ => ⟨true, p11, sel_intro (fun _ => ⟨true, by have := p12 k g b; rw [decide_eq_true h] at this; exact this, sel_intro (fun _ => sel_intro (fun _ => ⟨_, p13 k g b h, by rw [beq_self_eq_true]⟩) (fun h => by cases h)) (fun h => by cases h)⟩) (fun h => by cases h)⟩)
  · rw [if_neg h] at h9
    refine ⟨_, _, h9, _, p10 k g b, ?_⟩
    rw [decide_eq_false h]
    exact sel_intro (fun _ => ⟨true, p11, sel_intro (fun _ => ⟨false, by have := p12 k g b; rw [decide_eq_false h] at this; exact this, sel_intro (fun _ => sel_intro (fun _ => by rw [beq_self_eq_true]) (fun h => by cases h)) (fun h => by cases h)⟩) (fun h => by cases h)⟩) (fun h => by cases h)
end Go.Proofs.YtjmfgemjabaohaaDoor.M
