import Derived.Test.YtmmnobdpccdeoaaDoorR3TreeP
import Derived.Test.YtmmnobdpccdeoaaDoorR3WdT
namespace Go.Proofs.YtmmnobdpccdeoaaDoor.M
set_option linter.unusedVariables false
set_option linter.unusedSimpArgs false
open Go Go.Mir
set_option linter.unusedVariables false

theorem ts0_inv : TInv ts0 := ⟨by simp [ts0], by simp [ts0], by simp [ts0]⟩
theorem p38 (w : Wd) (hf : WFits w) (hn : w.now.length ≤ 2048) : ∃ va vb, Runs Fs2 38 [wdV w] [] (.ptr 3800101 0) (hT (treeW w) va vb) := by
  have key : ∃ r H', Runs Fs2 38 [wdV w] [] r H' ∧ r = .ptr 3800101 0 ∧ ∃ va vb, H' = hT (treeW w) va vb := by
    refine vc_own (R := fun r H' => r = .ptr 3800101 0 ∧ ∃ va vb, H' = hT (treeW w) va vb) fs38 rfl ?_
    rw [wdV, vc38o, V38o]
    refine sel_intro (fun h => ?_) (fun h => ⟨rfl, 0, 0, ?_⟩)
    · obtain ⟨va, vb, g⟩ := p72 w hf hn 9 w.root 1 empS empS ts0 0 0 (by omega) (by omega) (by omega) ts0_inv
      have e : below (Hold w) 9 w.root 1 empS empS ts0 = treeW w := by rw [treeW, if_neg (by simpa using h)]
      rw [e] at g
      exact ⟨_, _, _, _, _, _, _, _, g, rfl, va, vb, rfl⟩
    · rw [treeW, if_pos (by simpa using h)]; rfl
  obtain ⟨r, H', hr, rfl, va, vb, rfl⟩ := key
  exact ⟨va, vb, hr⟩
theorem p39 (l : List Pr) (hl : Small l.length) (key : ByteArray) : Runs Fs2 39 [.o (.sl 2 (psD l)), .n (.str key)] [] (sduo (refGet l key)) [] := by
  refine vc_eq fs39 rfl ?_
  rw [vc39, V39, psD_len]
  refine ⟨fun i => 0 ≤ i ∧ i ≤ l.length ∧ refGet l key = refGet (l.drop i.toNat) key, fun i => (l.length - i).toNat, ⟨rfl, by omega, by omega, rfl⟩, ?_⟩
  rintro i ⟨h0, h1, hinv⟩ _
  refine sel_dec (fun hlt => ?_) (fun hge => ?_)
  · have hi : i.toNat < l.length := by omega
    rw [List.drop_eq_getElem_cons hi, refGet] at hinv
    refine ⟨rfl, h0, _, psD_at hi, _, _, rfl, Nat.le_refl 2, ?_⟩
    rw [beq_dec]
    refine sel_dec (fun h => ?_) (fun h => ?_)
    · rw [hinv, if_pos h]; rfl
    · repeat (refine And.intro rfl ?_)
      rw [i64_in _ (by omega)]
      refine ⟨⟨by omega, by omega, ?_⟩, by first | omega | (dsimp only; omega)⟩
      rw [hinv, if_neg h, show (i + 1).toNat = i.toNat + 1 by omega]
  · rw [List.drop_of_length_le (by omega)] at hinv
    rw [hinv]; rfl
theorem treeW_inv {w : Wd} (hn : w.now.length ≤ 2048) : TInv (treeW w) := by
  unfold treeW
  split
  · exact ts0_inv
  · exact below_inv hn _ _ _ _ _ _ ts0_inv
theorem wr_now {w : Wd} (h : WRight w) : w.now.length ≤ 2048 := h.1.2.2.1
theorem p11 (w : Wd) (hf : WFits w) (key : ByteArray) : Runs Fs2 11 [wdV w, .n (.str key)] [] (.n (.bool true)) [] := by
  have g34 := p34 w
  have g36 := p36 w hf key
  have g37 := p37 w hf
  refine vc_eq fs11 rfl ?_
  rw [wdV, vc11, V11]
  refine ⟨_, g34, sel_intro (fun _ => ⟨_, p35, rfl⟩) (fun _ => ⟨_, _, g36, ?_⟩)⟩
  have emp : ∀ s : ByteArray, (s.toList == (ByteArray.mk (List.toArray [])).toList) = decide (s = empS) := fun s => beq_dec s empS
  simp only [emp]
  by_cases hr : WRight w
  · rw [decide_eq_true hr] at g37
    have hn := wr_now hr
    refine ⟨_, g37, sel_intro (fun h => by cases h) (fun _ => ?_)⟩
    refine sel_dec (fun h => ?_) (fun h1 => sel_dec (fun h => ?_) (fun h2 => ?_))
    · have e : GetW w key = (empS, 1) := by rw [GetW, if_pos (by omega)]
      rw [e]
      exact ⟨_, p35, sel_intro (fun _ => sel_intro (fun _ => by simp) (fun h => by simp at h)) (fun h => by cases h)⟩
    · have e : GetW w key = (empS, 1) := by rw [GetW, if_pos (by omega)]
      rw [e]
      exact ⟨_, p35, sel_intro (fun _ => sel_intro (fun _ => by simp) (fun h => by simp at h)) (fun h => by cases h)⟩
    · obtain ⟨va, vb, g38⟩ := p38 w hf hn
      refine ⟨(), _, _, _, _, _, _, _, _, g38, sel_intro (fun hb => ?_) (fun hb => ?_)⟩
      · refine ⟨_, p35, sel_intro (fun _ => ?_) (fun h => by cases h)⟩
        have hc := getW_cases (key := key) hr (by omega) (by omega)
        refine sel_intro (fun _ => by simp) (fun h => ?_)
        have h0 : (GetW w key).2 ≠ 0 := by simpa using h
        obtain ⟨e, hc⟩ := hc.resolve_left h0
        refine sel_dec (fun _ => sel_intro (fun _ => by simp) (fun h => ?_)) (fun h => absurd e h)
        have : (GetW w key).2 ≠ 80 := by simpa using h
        rw [hc.resolve_left this]; simp
      · obtain ⟨h, P, B, ht, he⟩ := tree_sound hb
        have hg := getW_tree (key := key) hr (by omega) (by omega) ht
        have hi := treeW_inv hn
        have hl := hi.len
        have hp := hi.ps
        rw [he] at hl hp ⊢
        dsimp only at hl hp ⊢
        refine ⟨rfl, _, _, p39 P (by omega) key, _, p35, sel_intro (fun _ => ?_) (fun h => by cases h)⟩
        rw [hg]
        exact sel_intro (fun _ => by simp) (fun h => by simp at h)
  · rw [decide_eq_false hr] at g37
    have e : GetW w key = (empS, 1) := by rw [GetW, if_pos (.inl hr)]
    rw [e]
    exact ⟨_, g37, sel_intro (fun _ => ⟨_, p35, sel_intro (fun _ => sel_intro (fun _ => by simp) (fun h => by simp at h)) (fun h => by cases h)⟩) (fun h => by cases h)⟩
theorem p11x (x : wdT.T) (h : wdT.fit x) (key : ByteArray) : Runs Fs2 11 [wdT.av x, .n (.str key)] [] (.n (.bool true)) [] := by
  rw [wd_av]; exact p11 (toWd x) (wd_fit x h) key
end Go.Proofs.YtmmnobdpccdeoaaDoor.M
