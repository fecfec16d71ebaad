import Derived.Test.YtmmnobdpccdeoaaDoorR3Lost
namespace Go.Proofs.YtmmnobdpccdeoaaDoor.M
set_option linter.unusedVariables false
set_option linter.unusedSimpArgs false
open Go Go.Mir
set_option linter.unusedVariables false

theorem flip_fits {w : Wd} (hf : WFits w) (b : Int) : WFits (flip w b) := ⟨hf.b, by rw [flip_len]; exact hf.n, hf.p, hf.s⟩
theorem blk_in (a N : Int) (h24 : 24 ≤ N) (h300 : N ≤ 2048) : ∃ b, IntKind.wrap .i64 (10 + (Int.tmod (IntKind.wrap .i64 ((IntKind.wrap .i64 ((Int.tmod a (IntKind.wrap .i64 (N - 10))) + N)) - 10)) (IntKind.wrap .i64 (N - 10)))) = b ∧ 10 ≤ b ∧ b < N := by
  rw [i64_in (N - 10) (by omega)]
  have h1 : Int.tmod a (N - 10) < N - 10 := Int.tmod_lt_of_pos _ (by omega)
  have h2 : -(N - 10) < Int.tmod a (N - 10) := by
    have h3 : Int.tmod (-a) (N - 10) < N - 10 := Int.tmod_lt_of_pos _ (by omega)
    rw [Int.neg_tmod] at h3; omega
  rw [i64_in (Int.tmod a (N - 10) + N) (by omega), i64_in (Int.tmod a (N - 10) + N - 10) (by omega)]
  have h3 : 0 ≤ Int.tmod (Int.tmod a (N - 10) + N - 10) (N - 10) := Int.tmod_nonneg _ (by omega)
  have h4 : Int.tmod (Int.tmod a (N - 10) + N - 10) (N - 10) < N - 10 := Int.tmod_lt_of_pos _ (by omega)
  rw [i64_in (10 + _) (by omega)]
  exact ⟨_, rfl, by omega, by omega⟩
theorem p13 (w : Wd) (hf : WFits w) (a : Int) : Runs Fs2 13 [wdV w, .n (.int .i64 a)] [] (.n (.bool true)) [] := by
  have g44 := p44 w
  have g := p46 w hf [] (by decide)
  refine vc_eq fs13 rfl ?_
  rw [wdV, vc13, V13]
  refine ⟨_, g44, sel_intro (fun _ => ⟨_, p45, rfl⟩) (fun hs => ⟨_, _, _, _, g, sel_intro (fun _ => ⟨_, p45, rfl⟩) (fun he => ?_)⟩)⟩
  have he : (ChkR w []).2 = 0 := by simpa using he
  obtain ⟨hr, _, _⟩ := chk_ok he
  have hn := wr_now hr
  have h24 := hr.1.2.1
  have hN := i64_in ((w.now.length : Int) - 10) (by omega)
  obtain ⟨b, hb, h10, h1⟩ := blk_in a w.now.length (by omega) (by omega)
  rw [List.nil_append, blD_len, hb, hN]
  have hbi : b.toNat < w.now.length := by omega
  have g2 := p46 (flip w b) (flip_fits hf b) [] (by decide)
  have g3 := p46 (flip w b) (flip_fits hf b) [b] (by simp)
  have g37 := p37 (flip w b) (flip_fits hf b)
  rw [decide_eq_true (flip_right hr h10 h1)] at g37
  obtain ⟨c1, c2⟩ := chk_lost he h10 h1
  have eset : (blD w.now).set b.toNat (.bool (!(w.now[b.toNat]))) = blD (flip w b).now := by
    rw [blD_set, flip, tr_at hbi]
  refine ⟨by omega, by omega, .inl rfl, ⟨⟨rfl, rfl⟩, rfl⟩, by omega, ⟨rfl, rfl⟩, by omega, h1, ⟨rfl, rfl⟩, _, blD_at hbi, _, rfl, ⟨rfl, rfl⟩, by omega, h1, ⟨⟨⟨rfl, rfl⟩, rfl⟩, rfl⟩, by omega, rfl, ?_⟩
  rw [eset]
  refine ⟨_, _, _, _, g2, rfl, rfl, _, _, _, _, g3, _, p45, sel_intro (fun _ => ?_) (fun h => by cases h)⟩
  rw [c1]
  refine sel_intro (fun _ => ⟨rfl, by omega, _, blD_at hbi, _, rfl, ?_⟩) (fun h => by simp at h)
  rw [c2, tr_at hbi]
  refine sel_intro (fun _ => ⟨rfl, _, g37, rfl⟩) (fun h => by simp at h)
theorem p13x (x : wdT.T) (h : wdT.fit x) (a : Int) : Runs Fs2 13 [wdT.av x, .n (.int .i64 a)] [] (.n (.bool true)) [] := by
  rw [wd_av]; exact p13 (toWd x) (wd_fit x h) a
end Go.Proofs.YtmmnobdpccdeoaaDoor.M
