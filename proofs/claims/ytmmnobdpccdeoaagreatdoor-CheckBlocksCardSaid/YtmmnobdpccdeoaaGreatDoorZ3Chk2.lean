import Derived.Test.YtmmnobdpccdeoaaGreatDoorZ3Chk
namespace Go.Proofs.YtmmnobdpccdeoaaGreatDoor.M
set_option linter.unusedVariables false
set_option linter.unusedSimpArgs false
open Go Go.Mir
set_option linter.unusedVariables false

theorem marks_nil (N : Nat) : marks N [] = List.replicate N false := by
  refine List.ext_getElem (by simp [marks]) fun i h1 h2 => ?_
  rw [marks_get]; simp
theorem p22 (w : Wd) (hf : WFits w) : (¬ WRight w ∧ Runs Fs2 22 [wdV w] [] (.tup [.nilp, .n (.int .i64 1)]) []) ∨ (WRight w ∧ (treeW w).bad = true ∧ Runs Fs2 22 [wdV w] [] (.tup [.nilp, .n (.int .i64 81)]) []) ∨
    (WRight w ∧ (treeW w).bad = false ∧ Runs Fs2 22 [wdV w] [] (.tup [.ptr 2200307 0, .n (.int .i64 0)]) (hC w (csOf w.now.length (treeW w)) 0)) := by
  have g41 := p24 w hf
  have key : ∃ r H', Runs Fs2 22 [wdV w] [] r H' ∧ ((¬ WRight w ∧ r = .tup [.nilp, .n (.int .i64 1)] ∧ H' = []) ∨ (WRight w ∧ (treeW w).bad = true ∧ r = .tup [.nilp, .n (.int .i64 81)] ∧ H' = []) ∨
      (WRight w ∧ (treeW w).bad = false ∧ r = .tup [.ptr 2200307 0, .n (.int .i64 0)] ∧ H' = hC w (csOf w.now.length (treeW w)) 0)) := by
    refine vc_own (R := fun r H' => (¬ WRight w ∧ r = .tup [.nilp, .n (.int .i64 1)] ∧ H' = []) ∨ (WRight w ∧ (treeW w).bad = true ∧ r = .tup [.nilp, .n (.int .i64 81)] ∧ H' = []) ∨
      (WRight w ∧ (treeW w).bad = false ∧ r = .tup [.ptr 2200307 0, .n (.int .i64 0)] ∧ H' = hC w (csOf w.now.length (treeW w)) 0)) fs22 rfl ?_
    rw [wdV, vc22o, V22o, blD_len]
    by_cases hr : WRight w
    · rw [decide_eq_true hr] at g41
      have hn := wr_now hr
      have er : blD (marks w.now.length []) = List.replicate (Int.toNat (w.now.length : Int)) (.bool false) := by
        rw [marks_nil]; simp [blD]
      refine ⟨_, g41, sel_intro (fun h => by cases h) (fun _ => ⟨by omega, by omega, sel_intro (fun h => ?_) (fun h => ?_)⟩)⟩
      · obtain ⟨s', g, c1, c2⟩ := p31 w hf hr 9 w.root 1 empS empS ts0 0 (by omega) (by omega) (by omega) ts0_inv rfl
        have e : below (Hold w) 9 w.root 1 empS empS ts0 = treeW w := by rw [treeW, if_neg (by simpa using h)]
        rw [e] at c1 c2
        have e0 : hC w (csOf w.now.length ts0) 0 = [hR 2200305 0 4 1 (List.replicate (Int.toNat (w.now.length : Int)) (.bool false)), hB 2200307 [.o (.sl 1 (blD w.base)), .o (.sl 1 (blD w.now)), .o (.sl 1 (sl_ w.pages)), .n (.int .i64 w.root), .n (.int .i64 w.gen), .n (.int .i64 0), .n (.int .i64 0), .n (.int .i64 0), .row 2200305 0, .n (.bool false)]] := by
          rw [← er]; rfl
        rw [e0] at g
        refine ⟨_, _, _, _, _, _, _, _, _, _, _, _, g, sel_intro (fun hb => .inr (.inl ⟨hr, by rw [← c1]; exact hb, rfl, rfl⟩)) (fun hb => ?_)⟩
        rw [c1] at hb
        have := c2 hb
        subst this
        exact .inr (.inr ⟨hr, hb, rfl, rfl⟩)
      · have e : treeW w = ts0 := by rw [treeW, if_pos (by simpa using h)]
        refine .inr (.inr ⟨hr, by rw [e]; rfl, rfl, ?_⟩)
        rw [e, ← er]; rfl
    · rw [decide_eq_false hr] at g41
      exact ⟨_, g41, sel_intro (fun _ => .inl ⟨hr, rfl, rfl⟩) (fun h => by cases h)⟩
  obtain ⟨r, H', hg, ⟨h1, rfl, rfl⟩ | ⟨h1, h2, rfl, rfl⟩ | ⟨h1, h2, rfl, rfl⟩⟩ := key
  · exact .inl ⟨h1, hg⟩
  · exact .inr (.inl ⟨h1, h2, hg⟩)
  · exact .inr (.inr ⟨h1, h2, hg⟩)
/-- Blocks that are named beside a tree's. -/
def moreUp (N : Nat) : List Int → List Int → Option (List Int)
  | [], l => some l
  | b :: r, l => if b < 10 ∨ b ≥ N ∨ b ∈ l then none else moreUp N r (l ++ [b])
def nowIs (now : List Bool) (l : List Int) : Prop := ∀ i : Nat, i < now.length → tr now i = decide (i < 10 ∨ (i : Int) ∈ l)
noncomputable instance (now : List Bool) (l : List Int) : Decidable (nowIs now l) := Classical.propDecidable _
/-- What a check tells. -/
noncomputable def ChkR (w : Wd) (more : List Int) : (Int × Int × Int) × Int :=
  if ¬ WRight w then ((0, 0, 0), 1) else if (treeW w).bad = true then ((0, 0, 0), 81) else match moreUp w.now.length more (treeW w).bs with
  | none => ((0, 0, 0), 81)
  | some l => if nowIs w.now l then (((treeW w).ps.length, (treeW w).he, (treeW w).bs.length), 0) else ((0, 0, 0), 81)
def ckV (x : (Int × Int × Int) × Int) : AV := .tup [.agg [.n (.int .i64 x.1.1), .n (.int .i64 x.1.2.1), .n (.int .i64 x.1.2.2)], .n (.int .i64 x.2)]
set_option maxRecDepth 10000 in
theorem p11 (w : Wd) (hf : WFits w) (more : List Int) (hm : Small more.length) : Runs Fs2 11 [wdV w, .o (.sl 1 (il more))] [] (ckV (ChkR w more)) [] := by
  refine vc_eq fs11 rfl ?_
  rw [wdV, vc11, V11]
  rcases p22 w hf with ⟨hr, g⟩ | ⟨hr, hb, g⟩ | ⟨hr, hb, g⟩
  · rw [wdV] at g
    refine .inr ⟨(), _, g, sel_intro (fun _ => ?_) (fun h => by cases h)⟩
    rw [ChkR, if_pos hr]; rfl
  · rw [wdV] at g
    refine .inr ⟨(), _, g, sel_intro (fun _ => ?_) (fun h => by cases h)⟩
    rw [ChkR, if_neg (by simpa using hr), if_pos hb]; rfl
  · rw [hC, wdV] at g
    have hn := wr_now hr
    have eq : ChkR w more = match moreUp w.now.length more (treeW w).bs with
        | none => ((0, 0, 0), 81)
        | some l => if nowIs w.now l then (((treeW w).ps.length, (treeW w).he, (treeW w).bs.length), 0) else ((0, 0, 0), 81) := by
      rw [ChkR, if_neg (by simpa using hr), if_neg (by rw [hb]; simp)]
    refine .inl ⟨(), _, _, _, _, _, _, _, _, _, _, _, _, _, g, sel_intro (fun h => by cases h) (fun _ => ?_)⟩
    rw [il_len, blD_len]
    have no : ChkR w more = ((0, 0, 0), 81) → AV.tup [.agg [.n (.int .i64 0), .n (.int .i64 0), .n (.int .i64 0)], .n (.int .i64 81)] = ckV (ChkR w more) := fun e => by rw [e]; rfl
    refine ⟨fun i S Q => 0 ≤ i ∧ i ≤ more.length ∧ S = (0, 0, 0, ()) ∧ ∃ l, Q = (0, blD (marks w.now.length l)) ∧ moreUp w.now.length more (treeW w).bs = moreUp w.now.length (more.drop i.toNat) l, fun i _ _ => (more.length - i).toNat, ⟨rfl, by omega, by omega, rfl, (treeW w).bs, rfl, rfl⟩, ?_⟩
    rintro i S Q ⟨h0, h1, rfl, l, rfl, hinv⟩ _
    dsimp only
    rw [blD_len, marks_len]
    refine sel_dec (fun hlt => ?_) (fun hge => ?_)
    · have hi : i.toNat < more.length := by omega
      rw [List.drop_eq_getElem_cons hi, moreUp] at hinv
      refine ⟨rfl, h0, _, il_at hi, _, rfl, sel_dec (fun h => no ?_) (fun h2 => ⟨rfl, sel_dec (fun h => no ?_) (fun h3 => ?_)⟩)⟩
      · rw [eq, hinv, if_pos (.inl h)]
      · rw [eq, hinv, if_pos (.inr (.inl h))]
      have hbm : more[i.toNat].toNat < (marks w.now.length l).length := by rw [marks_len]; omega
      have hbb : ((more[i.toNat].toNat : Nat) : Int) = more[i.toNat] := by omega
      refine ⟨⟨rfl, rfl⟩, by omega, by omega, ⟨rfl, rfl⟩, _, blD_at hbm, _, rfl, ?_⟩
      rw [marks_get, hbb]
      refine sel_dec (fun h => no ?_) (fun h4 => ?_)
      · rw [eq, hinv, if_pos (.inr (.inr h))]
      refine ⟨⟨rfl, rfl⟩, by omega, by omega, ⟨⟨⟨rfl, rfl⟩, rfl⟩, rfl⟩, by omega, ?_⟩
      rw [blD_set, marks_set (by omega)]
      repeat (refine And.intro rfl ?_)
      rw [i64_in _ (by omega)]
      refine ⟨⟨by omega, by omega, rfl, _, rfl, ?_⟩, by first | omega | (dsimp only; omega)⟩
      rw [hinv, if_neg (by
        rintro (h | h | h)
        · exact h2 h
        · omega
        · exact h4 h), show (i + 1).toNat = i.toNat + 1 by omega]
    · rw [List.drop_of_length_le (by omega), moreUp] at hinv
      rw [hinv] at eq
      dsimp only at eq
      refine ⟨fun i S => 0 ≤ i ∧ i ≤ w.now.length ∧ S = (0, 0, 0, ()) ∧ ∀ j : Nat, (j : Int) < i → tr w.now j = decide (j < 10 ∨ (j : Int) ∈ l), fun i _ => (w.now.length - i).toNat, ⟨rfl, by omega, by omega, rfl, fun j hj => by omega⟩, ?_⟩
      rintro i S ⟨h0, h1, rfl, hok⟩ _
      dsimp only
      refine sel_dec (fun hlt => ?_) (fun hge => ?_)
      · have hi : i.toNat < w.now.length := by omega
        have hii : ((i.toNat : Nat) : Int) = i := by omega
        have next : tr w.now i.toNat = decide (i.toNat < 10 ∨ ((i.toNat : Nat) : Int) ∈ l) → ∀ j : Nat, (j : Int) < i + 1 → tr w.now j = decide (j < 10 ∨ (j : Int) ∈ l) := fun h j hj => by
          by_cases e : (j : Int) < i
          · exact hok j e
          · obtain rfl : j = i.toNat := by omega
            exact h
        have fail : tr w.now i.toNat ≠ decide (i.toNat < 10 ∨ ((i.toNat : Nat) : Int) ∈ l) → ChkR w more = ((0, 0, 0), 81) := fun h => by
          rw [eq, if_neg (fun hx => h (hx i.toNat hi))]
        refine ⟨rfl, h0, _, blD_at hi, _, rfl, sel_dec (fun h10 => ?_) (fun h10 => ?_)⟩
        · have hd : decide (i.toNat < 10 ∨ ((i.toNat : Nat) : Int) ∈ l) = true := decide_eq_true (.inl (by omega))
          rw [hd] at next fail
          rw [← tr_at hi]
          refine sel_intro (fun h => no (fail (by intro e; rw [e] at h; cases h))) (fun h => ?_)
          repeat (refine And.intro rfl ?_)
          rw [i64_in _ (by omega)]
          exact ⟨⟨by omega, by omega, rfl, next (by cases hx : tr w.now i.toNat with | true => rfl | false => rw [hx] at h; cases h)⟩, by first | omega | (dsimp only; omega)⟩
        · have hbm : i.toNat < (marks w.now.length l).length := by rw [marks_len]; omega
          have hd : decide (i.toNat < 10 ∨ ((i.toNat : Nat) : Int) ∈ l) = decide (i ∈ l) := by rw [hii, decide_eq_decide]; exact ⟨fun h => h.resolve_left (by omega), .inr⟩
          rw [hd] at next fail
          refine ⟨⟨rfl, rfl⟩, h0, hlt, ⟨rfl, rfl⟩, _, blD_at hbm, _, rfl, ?_⟩
          rw [marks_get, hii, ← tr_at hi]
          refine sel_intro (fun h => no (fail (by intro e; rw [e] at h; simp at h))) (fun h => ?_)
          repeat (refine And.intro rfl ?_)
          rw [i64_in _ (by omega)]
          exact ⟨⟨by omega, by omega, rfl, next (by simpa using h)⟩, by first | omega | (dsimp only; omega)⟩
      · have hx : nowIs w.now l := fun j hj => hok j (by omega)
        rw [if_pos hx] at eq
        rw [eq]; rfl
theorem p7 (w : Wd) : Runs Fs2 7 [wdV w] [] (.n (.bool (decide (w.now.length ≤ 300 ∧ w.pages.length ≤ 300)))) [] := by
  refine vc_eq fs7 rfl ?_
  rw [wdV, vc7, V7, blD_len, sl_len]
  refine sel_dec (fun h => ?_) (fun h => by rw [decide_eq_false (by omega)])
  congr 2
  simp only [decide_eq_decide]
  omega
def w00 : Wd := ⟨[], [], [], 0, 0⟩
theorem w00_fits : WFits w00 := ⟨by decide, by decide, by decide, fun s hs => by cases hs⟩
theorem newR_tr {n i : Nat} (h : i < n) : tr (newR n) i = decide (i < 10) := by simp [tr, newR, h]
theorem w24_chk : ChkR w24 [] = ((0, 0, 0), 0) := by
  have e : treeW w24 = ts0 := by rw [treeW, if_pos (show w24.root = 0 from rfl)]
  rw [ChkR, if_neg (by simpa using w24_right), e, if_neg (by simp [ts0])]
  show (if nowIs w24.now [] then _ else _) = _
  rw [if_pos]
  · rfl
  · intro i hi
    have : i < 24 := by rw [show w24.now = newR 24 from rfl, newR_len] at hi; exact hi
    rw [show w24.now = newR 24 from rfl, newR_tr this]
    simp
theorem p8 : Runs Fs2 8 [] [] (.n (.bool true)) [] := by
  refine vc_eq fs8 rfl ?_
  rw [vc8, V8]
  have g := p11 w24 w24_fits [] (by decide)
  rw [w24_chk] at g
  have g2 := p11 w00 w00_fits [] (by decide)
  have e : ChkR w00 [] = ((0, 0, 0), 1) := by
    rw [ChkR, if_pos (fun h => absurd h.1.2.1 (by decide))]
  rw [e] at g2
  exact ⟨_, _, p21 24 (by decide), by decide, by decide, rfl, _, _, _, _, g, _, _, _, _, g2, sel_intro (fun _ => rfl) (fun h => by cases h)⟩
end Go.Proofs.YtmmnobdpccdeoaaGreatDoor.M
