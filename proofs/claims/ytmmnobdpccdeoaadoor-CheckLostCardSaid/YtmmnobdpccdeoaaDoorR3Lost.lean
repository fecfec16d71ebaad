import Derived.Test.YtmmnobdpccdeoaaDoorR3Chk2
namespace Go.Proofs.YtmmnobdpccdeoaaDoor.M
set_option linter.unusedVariables false
set_option linter.unusedSimpArgs false
open Go Go.Mir
set_option linter.unusedVariables false

/-! One block more, or one less. -/
theorem hold_eq {w x : Wd} {b : Int} {r : Bool} (h1 : w.now.length = x.now.length) (h2 : w.pages = x.pages) (h3 : w.gen = x.gen) (h4 : tr w.now b.toNat = tr x.now b.toNat) : Hold w b r = Hold x b r := by
  unfold Hold pgAt
  rw [h1, h2, h3, h4]
theorem hold_tr {w : Wd} {b : Int} {r : Bool} {n : Nd} (h : Hold w b r = some n) : tr w.now b.toNat = true := by
  unfold Hold at h
  split at h
  · cases h
  · rename_i hx
    cases ht : tr w.now b.toNat with
    | true => rfl
    | false => exact absurd (.inr (.inr (.inr ht))) hx
theorem isTree_frame {w x : Wd} {h : Nat} {P : List Pr} {B : List Int} (ht : IsTree w h P B) (hr : x.root = w.root) (hx : ∀ b ∈ B, ∀ r n, Hold w b r = some n → Hold x b r = some n) : IsTree x h P B := by
  rcases ht with ⟨h0, h1, h2, h3⟩ | ⟨h0, h1, h2, h3, h4⟩
  · exact .inl ⟨by rw [hr]; exact h0, h1, h2, h3⟩
  · exact .inr ⟨by rw [hr]; exact h0, h1, h2, by rw [hr]; exact h3.frame hx, h4⟩
theorem isTree_held {w : Wd} {h : Nat} {P : List Pr} {B : List Int} (ht : IsTree w h P B) : ∀ b ∈ B, ∃ r n, Hold w b r = some n := by
  rcases ht with ⟨_, _, _, rfl⟩ | ⟨_, _, _, h3, _⟩
  · intro b hb; cases hb
  · exact h3.held
def flip (w : Wd) (b : Int) : Wd := { w with now := w.now.set b.toNat (!(tr w.now b.toNat)) }
theorem flip_len (w : Wd) (b : Int) : (flip w b).now.length = w.now.length := by simp [flip]
theorem flip_tr {w : Wd} {b : Int} (h0 : 0 ≤ b) (h1 : b < w.now.length) (i : Nat) : tr (flip w b).now i = if (i : Int) = b then !(tr w.now i) else tr w.now i := by
  by_cases e : (i : Int) = b
  · have : b.toNat = i := by omega
    have hi : b.toNat < w.now.length := by omega
    rw [if_pos e, ← this]
    show ((w.now.set b.toNat (!(tr w.now b.toNat)))[b.toNat]?).getD false = _
    rw [List.getElem?_set_self hi]; rfl
  · have : b.toNat ≠ i := by omega
    rw [if_neg e]
    show ((w.now.set b.toNat (!(tr w.now b.toNat)))[i]?).getD false = _
    rw [List.getElem?_set_ne this]; rfl
theorem flip_right {w : Wd} (hr : WRight w) {b : Int} (h10 : 10 ≤ b) (h1 : b < w.now.length) : WRight (flip w b) := by
  obtain ⟨⟨a1, a2, a3, a4⟩, a5, a6, a7, a8, a9⟩ := hr
  refine ⟨⟨by rw [flip_len]; exact a1, by rw [flip_len]; exact a2, by rw [flip_len]; exact a3, fun j hj => ⟨(a4 j hj).1, ?_⟩⟩, by rw [flip_len]; exact a5, a6, a7, by rw [flip_len]; exact a8, a9⟩
  rw [flip_tr (by omega) h1, if_neg (by omega)]
  exact (a4 j hj).2
theorem flip_hold {w : Wd} {b x : Int} {r : Bool} (h0 : 0 ≤ b) (h1 : b < w.now.length) (hx : x ≠ b) (hx0 : 0 ≤ x) : Hold (flip w b) x r = Hold w x r := by
  refine hold_eq (flip_len w b) rfl rfl ?_
  rw [flip_tr h0 h1, if_neg (by omega)]
theorem chk_ok {w : Wd} (h : (ChkR w []).2 = 0) : WRight w ∧ (treeW w).bad = false ∧ nowIs w.now (treeW w).bs := by
  unfold ChkR at h
  by_cases hr : WRight w
  · rw [if_neg (by simpa using hr)] at h
    by_cases hb : (treeW w).bad = true
    · rw [if_pos hb] at h; cases h
    · rw [if_neg hb] at h
      simp only [moreUp] at h
      by_cases hn : nowIs w.now (treeW w).bs
      · exact ⟨hr, by simpa using hb, hn⟩
      · rw [if_neg hn] at h; cases h
  · rw [if_pos hr] at h; cases h
theorem chk_lost {w : Wd} {b : Int} (h : (ChkR w []).2 = 0) (h10 : 10 ≤ b) (h1 : b < w.now.length) :
    (ChkR (flip w b) []).2 = 81 ∧ ((ChkR (flip w b) [b]).2 == 0) = !(tr w.now b.toNat) := by
  obtain ⟨hr, hb, hn⟩ := chk_ok h
  have hr' := flip_right hr h10 h1
  obtain ⟨ht, P, B, hT, heq⟩ := tree_sound hb
  rw [heq] at hn
  dsimp only at hn
  have hbi : b.toNat < w.now.length := by omega
  have hbb : ((b.toNat : Nat) : Int) = b := by omega
  have hwb := hn b.toNat hbi
  rw [hbb, show decide (b.toNat < 10 ∨ b ∈ B) = decide (b ∈ B) by rw [decide_eq_decide]; exact ⟨fun h => h.resolve_left (by omega), .inr⟩] at hwb
  cases hw : tr w.now b.toNat with
  | false =>
    rw [hw] at hwb
    have hnB : b ∉ B := by simpa using hwb.symm
    have hT' : IsTree (flip w b) ht P B := isTree_frame hT rfl fun x hx r n hh => by
      have h2 := hold_rg (wr_now hr) hh
      rw [flip_hold (by omega) h1 (fun e => hnB (e ▸ hx)) (by omega)]; exact hh
    have he' := tree_full hT'
    refine ⟨?_, ?_⟩
    · rw [ChkR, if_neg (by simpa using hr'), he', if_neg (by simp)]
      simp only [moreUp]
      rw [if_neg]
      intro hx
      have := hx b.toNat (by rw [flip_len]; exact hbi)
      rw [flip_tr (by omega) h1, if_pos hbb, hw, hbb, decide_eq_false (by
        rintro (h | h)
        · omega
        · exact hnB h)] at this
      cases this
    · rw [ChkR, if_neg (by simpa using hr'), he', if_neg (by simp)]
      simp only [moreUp]
      rw [if_neg (by
        rw [flip_len]
        rintro (h | h | h)
        · omega
        · omega
        · exact hnB h)]
      dsimp only
      rw [if_pos]
      · rfl
      · intro i hi
        rw [flip_len] at hi
        rw [flip_tr (by omega) h1]
        by_cases e : (i : Int) = b
        · obtain rfl : i = b.toNat := by omega
          rw [if_pos e, hw, decide_eq_true (.inr (by rw [e]; simp))]; rfl
        · rw [if_neg e, hn i hi, decide_eq_decide]
          simp [e]
  | true =>
    rw [hw] at hwb
    have hB : b ∈ B := by simpa using hwb.symm
    have hbad : (treeW (flip w b)).bad = true := by
      cases hb' : (treeW (flip w b)).bad with
      | true => rfl
      | false =>
        obtain ⟨ht', P', B', hT', heq'⟩ := tree_sound hb'
        have no : ∀ r n, Hold (flip w b) b r = some n → False := fun r n hh => by
          have := hold_tr hh
          rw [flip_tr (by omega) h1, if_pos hbb, hw] at this
          cases this
        have hT2 : IsTree w ht' P' B' := isTree_frame hT' rfl fun x hx r n hh => by
          have h2 := hold_rg (wr_now hr') hh
          by_cases e : x = b
          · subst e; exact (no r n hh).elim
          · rw [flip_hold (by omega) h1 e (by omega)] at hh; exact hh
        have := tree_full hT2
        rw [heq] at this
        simp only [TS.mk.injEq] at this
        obtain ⟨_, rfl, _⟩ := this
        obtain ⟨r, n, hh⟩ := isTree_held hT' b hB
        exact (no r n hh).elim
    refine ⟨?_, ?_⟩
    · rw [ChkR, if_neg (by simpa using hr'), if_pos hbad]
    · rw [ChkR, if_neg (by simpa using hr'), if_pos hbad]; rfl
end Go.Proofs.YtmmnobdpccdeoaaDoor.M
