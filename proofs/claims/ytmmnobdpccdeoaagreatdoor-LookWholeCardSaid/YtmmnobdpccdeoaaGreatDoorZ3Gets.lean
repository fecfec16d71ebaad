import Derived.Test.YtmmnobdpccdeoaaGreatDoorZ3TreeP
import Derived.Test.YtmmnobdpccdeoaaGreatDoorZ3WdT
namespace Go.Proofs.YtmmnobdpccdeoaaGreatDoor.M
set_option linter.unusedVariables false
set_option linter.unusedSimpArgs false
open Go Go.Mir
set_option linter.unusedVariables false

theorem ts0_inv : TInv ts0 := ⟨by simp [ts0], by simp [ts0], by simp [ts0]⟩
theorem p17 (w : Wd) (hf : WFits w) (hn : w.now.length ≤ 2048) : ∃ va vb, Runs Fs2 17 [wdV w] [] (.ptr 1700101 0) (hT (treeW w) va vb) := by
  have key : ∃ r H', Runs Fs2 17 [wdV w] [] r H' ∧ r = .ptr 1700101 0 ∧ ∃ va vb, H' = hT (treeW w) va vb := by
    refine vc_own (R := fun r H' => r = .ptr 1700101 0 ∧ ∃ va vb, H' = hT (treeW w) va vb) fs17 rfl ?_
    rw [wdV, vc17o, V17o]
    refine sel_intro (fun h => ?_) (fun h => ⟨rfl, 0, 0, ?_⟩)
    · obtain ⟨va, vb, g⟩ := p27 w hf hn 9 w.root 1 empS empS ts0 0 0 (by omega) (by omega) (by omega) ts0_inv
      have e : below (Hold w) 9 w.root 1 empS empS ts0 = treeW w := by rw [treeW, if_neg (by simpa using h)]
      rw [e] at g
      exact ⟨_, _, _, _, _, _, _, _, g, rfl, va, vb, rfl⟩
    · rw [treeW, if_pos (by simpa using h)]; rfl
  obtain ⟨r, H', hr, rfl, va, vb, rfl⟩ := key
  exact ⟨va, vb, hr⟩
theorem treeW_inv {w : Wd} (hn : w.now.length ≤ 2048) : TInv (treeW w) := by
  unfold treeW
  split
  · exact ts0_inv
  · exact below_inv hn _ _ _ _ _ _ ts0_inv
theorem wr_now {w : Wd} (h : WRight w) : w.now.length ≤ 2048 := h.1.2.2.1
end Go.Proofs.YtmmnobdpccdeoaaGreatDoor.M
