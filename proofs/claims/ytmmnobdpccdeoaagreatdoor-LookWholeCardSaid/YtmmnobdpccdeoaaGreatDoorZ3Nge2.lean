import Derived.Test.YtmmnobdpccdeoaaGreatDoorZ3Nget
namespace Go.Proofs.YtmmnobdpccdeoaaGreatDoor.M
set_option linter.unusedVariables false
set_option linter.unusedSimpArgs false
open Go Go.Mir
set_option linter.unusedVariables false

set_option maxRecDepth 10000 in
set_option maxHeartbeats 4300000 in
theorem p48 (kind : Int) (s : ByteArray) (hs : Small s.size) : Runs Fs2 48 [.n (.int .i64 kind), .n (.str s)] [] (nduo (NGet kind s)) [] := by
  refine vc_eq fs48 rfl ?_
  rw [vc48, V48]
  have g0 := (p65 s hs 0 1).up up2
  rw [gT_eq] at g0
  have hb0 := gT_byte s 0
  have bad : kind ≠ 1 → kind ≠ 2 → NGet kind s = (nd0, 81) := fun h1 h2 => by rw [NGet, if_pos ⟨h1, h2⟩]
  have start : ¬ (kind ≠ 1 ∧ kind ≠ 2) → NGet kind s = if (gT s 0 1).2.2 ≠ 0 then (nd0, (gT s 0 1).2.2) else nCont s (kind == 1) (gT s 0 1).1.toNat (gT s 0 1).2.1 [] [] [] := fun h => by rw [NGet, if_neg h]
  refine sel_intro (fun h1 => sel_intro (fun h2 => by rw [bad (by simpa using h1) (by simpa using h2)]; rfl) (fun h2 => ?_)) (fun h1 => ?_)
  · obtain rfl : kind = 2 := by simpa using h2
    have hst := start (by simp)
    rw [show ((2 : Int) == 1) = false from rfl] at hst
    have hbad : (gT s 0 1).2.2 ≠ 0 → NGet 2 s = (nd0, (gT s 0 1).2.2) := fun h => by rw [hst, if_pos h]
    refine ⟨_, _, _, g0, ?_⟩
    refine ⟨fun N i _ Q K V B => 0 ≤ i ∧ Q.1 = false ∧ Q.2.1 = K.1 ∧ Q.2.2.1 = V.1 ∧ Q.2.2.2.1 = B.1 ∧ ∃ (ks : List ByteArray) (bs : List Int), K.2 = sl_ ks ∧ V.2 = [] ∧ B.2 = il bs ∧ (ks.length : Int) ≤ i ∧ (bs.length : Int) ≤ i ∧ (i ≤ (gT s 0 1).1) ∧
        ((gT s 0 1).2.2 = 0 → NGet 2 s = nCont s false ((gT s 0 1).1 - i).toNat N ks [] bs), fun _ i _ _ _ _ _ => ((gT s 0 1).1 - i).toNat,
      ⟨rfl, Int.le_refl _, rfl, rfl, rfl, rfl, [], [], rfl, rfl, rfl, by simp, by simp, hb0.1, fun h => by rw [hst, if_neg (by rw [h]; simp), Int.sub_zero]⟩, ?_⟩
    rintro N i R0 ⟨lf, va, vb, vc, _⟩ ⟨ka, K⟩ ⟨kb, V⟩ ⟨kc, B⟩ ⟨h0, hlf, rfl, rfl, rfl, ks, bs, rfl, rfl, rfl, lk, lb, him, hinv⟩ _
    dsimp only at hlf hinv ⊢
    subst hlf
    refine sel_dec (fun hlt => ?_) (fun hge => ?_)
    · refine sel_intro (fun hE => ?_) (fun hE => ?_)
      · have hE : (gT s 0 1).2.2 = 0 := by simpa using hE
        have hU := hinv hE
        obtain ⟨j, hj⟩ : ∃ j, ((gT s 0 1).1 - i).toNat = j + 1 := ⟨((gT s 0 1).1 - i).toNat - 1, by omega⟩
        have hj' : ((gT s 0 1).1 - (i + 1)).toNat = j := by omega
        rw [hj, nc_false] at hU
        refine sel_intro (fun _ => ?_) (fun h => absurd h (by decide))
        have g1 := (p65 s hs N 2).up up2
        rw [gT_eq] at g1
        refine ⟨_, _, _, g1, sel_intro (fun he => ?_) (fun he => ?_)⟩
        · rw [hU, in_b (by simpa using he)]; rfl
        · have he : (gT s N 2).2.2 = 0 := by simpa using he
          have g2 := (p68 s hs (gT s N 2).2.1).up up2
          rw [cT_eq] at g2
          refine ⟨rfl, .inl rfl, ⟨⟨rfl, rfl⟩, rfl⟩, by simp [il_len]; omega, _, _, _, g2, sel_intro (fun hv => ?_) (fun hv => ?_)⟩
          · rw [hU, in_k he (by simpa using hv)]; rfl
          · have hv : (cT s (gT s N 2).2.1).2.2 = 0 := by simpa using hv
            refine ⟨rfl, .inl rfl, ⟨⟨rfl, rfl⟩, rfl⟩, by simp [sl_len]; omega, sel_intro (fun h => absurd h (by decide)) (fun _ => ?_)⟩
            repeat (refine And.intro rfl ?_)
            rw [i64_in _ (by omega), sl_snoc, il_snoc]
            refine ⟨⟨by omega, rfl, rfl, rfl, rfl, _, _, rfl, rfl, rfl, (by simp; omega), (by simp; omega), by omega, fun _ => ?_⟩, by first | omega | (dsimp only; omega)⟩
            rw [hj', hU, nc_false, in_go he hv]
      · have hx : (gT s 0 1).2.2 = 0 → NGet 2 s = nCont s false 0 N ks [] bs := fun h => absurd h (by simpa using hE)
        refine sel_intro (fun _ => ?_) (fun h => absurd h (by decide))
        by_cases hE : (gT s 0 1).2.2 = 0
        · have hN := hx hE
          rw [nc_false] at hN
          simp only [inUp] at hN
          have gx := (p65 s hs N 2).up up2
          rw [gT_eq] at gx
          refine sel_intro (fun _ => ?_) (fun h => absurd h (by simp [hE]))
          refine ⟨_, _, _, gx, rfl, .inl rfl, ⟨⟨rfl, rfl⟩, rfl⟩, by simp [il_len]; omega, ?_⟩
          refine sel_intro (fun he => ?_) (fun he => ?_)
          · rw [hN, if_pos (by simpa using he)]; rfl
          · have he : (gT s N 2).2.2 = 0 := by simpa using he
            rw [hN, if_neg (by rw [he]; simp), il_snoc]
            refine sel_intro (fun hz => ?_) (fun hz => ⟨rfl, rfl, rfl, _, p49 ⟨false, ks, [], bs ++ [(gT s N 2).1]⟩ true (nFits_small (by dsimp only; omega) (by dsimp only; first | omega | (simp; done)) (by simp; first | omega | done)), ?_⟩)
            · rw [nFin, if_pos (.inl (by simpa using hz))]; rfl
            · by_cases hk : NdOK ⟨false, ks, [], bs ++ [(gT s N 2).1]⟩ true
              · rw [decide_eq_true hk]
                refine sel_intro (fun h => by cases h) (fun _ => ⟨rfl, rfl, rfl, ?_⟩)
                rw [nFin, if_neg (by
                  rintro (h | h)
                  · exact h (by simpa using hz)
                  · exact h hk)]; rfl
              · rw [decide_eq_false hk]
                refine sel_intro (fun _ => ?_) (fun h => by cases h)
                rw [nFin, if_pos (.inr hk)]; rfl
        · refine sel_intro (fun h => absurd (by simpa using h) hE) (fun _ => ?_)
          refine sel_intro (fun _ => by rw [hbad hE]; rfl) (fun h => absurd (by simpa using h) hE)
    · have hx : (gT s 0 1).2.2 = 0 → NGet 2 s = nCont s false 0 N ks [] bs := fun h => by
        have := hinv h
        rw [show ((gT s 0 1).1 - i).toNat = 0 by omega] at this
        exact this
      refine sel_intro (fun _ => ?_) (fun h => absurd h (by decide))
      by_cases hE : (gT s 0 1).2.2 = 0
      · have hN := hx hE
        rw [nc_false] at hN
        simp only [inUp] at hN
        have gx := (p65 s hs N 2).up up2
        rw [gT_eq] at gx
        refine sel_intro (fun _ => ?_) (fun h => absurd h (by simp [hE]))
        refine ⟨_, _, _, gx, rfl, .inl rfl, ⟨⟨rfl, rfl⟩, rfl⟩, by simp [il_len]; omega, ?_⟩
        refine sel_intro (fun he => ?_) (fun he => ?_)
        · rw [hN, if_pos (by simpa using he)]; rfl
        · have he : (gT s N 2).2.2 = 0 := by simpa using he
          rw [hN, if_neg (by rw [he]; simp), il_snoc]
          refine sel_intro (fun hz => ?_) (fun hz => ⟨rfl, rfl, rfl, _, p49 ⟨false, ks, [], bs ++ [(gT s N 2).1]⟩ true (nFits_small (by dsimp only; omega) (by dsimp only; first | omega | (simp; done)) (by simp; first | omega | done)), ?_⟩)
          · rw [nFin, if_pos (.inl (by simpa using hz))]; rfl
          · by_cases hk : NdOK ⟨false, ks, [], bs ++ [(gT s N 2).1]⟩ true
            · rw [decide_eq_true hk]
              refine sel_intro (fun h => by cases h) (fun _ => ⟨rfl, rfl, rfl, ?_⟩)
              rw [nFin, if_neg (by
                rintro (h | h)
                · exact h (by simpa using hz)
                · exact h hk)]; rfl
            · rw [decide_eq_false hk]
              refine sel_intro (fun _ => ?_) (fun h => by cases h)
              rw [nFin, if_pos (.inr hk)]; rfl
      · refine sel_intro (fun h => absurd (by simpa using h) hE) (fun _ => ?_)
        refine sel_intro (fun _ => by rw [hbad hE]; rfl) (fun h => absurd (by simpa using h) hE)
  · obtain rfl : kind = 1 := by simpa using h1
    have hst := start (by simp)
    rw [show ((1 : Int) == 1) = true from rfl] at hst
    have hbad : (gT s 0 1).2.2 ≠ 0 → NGet 1 s = (nd0, (gT s 0 1).2.2) := fun h => by rw [hst, if_pos h]
    refine ⟨_, _, _, g0, ?_⟩
    refine ⟨fun N i _ Q K V B => 0 ≤ i ∧ Q.1 = true ∧ Q.2.1 = K.1 ∧ Q.2.2.1 = V.1 ∧ Q.2.2.2.1 = B.1 ∧ ∃ (ks vs : List ByteArray), K.2 = sl_ ks ∧ V.2 = sl_ vs ∧ B.2 = [] ∧ (ks.length : Int) ≤ i ∧ (vs.length : Int) ≤ i ∧ (i ≤ (gT s 0 1).1) ∧
        ((gT s 0 1).2.2 = 0 → NGet 1 s = nCont s true ((gT s 0 1).1 - i).toNat N ks vs []), fun _ i _ _ _ _ _ => ((gT s 0 1).1 - i).toNat,
      ⟨rfl, Int.le_refl _, rfl, rfl, rfl, rfl, [], [], rfl, rfl, rfl, by simp, by simp, hb0.1, fun h => by rw [hst, if_neg (by rw [h]; simp), Int.sub_zero]⟩, ?_⟩
    rintro N i R0 ⟨lf, va, vb, vc, _⟩ ⟨ka, K⟩ ⟨kb, V⟩ ⟨kc, B⟩ ⟨h0, hlf, rfl, rfl, rfl, ks, vs, rfl, rfl, rfl, lk, lv, him, hinv⟩ _
    dsimp only at hlf hinv ⊢
    subst hlf
    refine sel_dec (fun hlt => ?_) (fun hge => ?_)
    · refine sel_intro (fun hE => ?_) (fun hE => ?_)
      · have hE : (gT s 0 1).2.2 = 0 := by simpa using hE
        have hU := hinv hE
        obtain ⟨j, hj⟩ : ∃ j, ((gT s 0 1).1 - i).toNat = j + 1 := ⟨((gT s 0 1).1 - i).toNat - 1, by omega⟩
        have hj' : ((gT s 0 1).1 - (i + 1)).toNat = j := by omega
        rw [hj, nc_true] at hU
        refine sel_intro (fun h => absurd h (by decide)) (fun _ => ?_)
        have g1 := (p68 s hs N).up up2
        rw [cT_eq] at g1
        refine ⟨_, _, _, g1, sel_intro (fun he => ?_) (fun he => ?_)⟩
        · rw [hU, lf_k (by simpa using he)]; rfl
        · have he : (cT s N).2.2 = 0 := by simpa using he
          have g2 := (p68 s hs (cT s N).2.1).up up2
          rw [cT_eq] at g2
          refine ⟨rfl, .inl rfl, ⟨⟨rfl, rfl⟩, rfl⟩, by simp [sl_len]; omega, sel_intro (fun _ => ?_) (fun h => absurd h (by decide))⟩
          refine ⟨_, _, _, g2, sel_intro (fun hv => ?_) (fun hv => ?_)⟩
          · rw [hU, lf_v he (by simpa using hv)]; rfl
          · have hv : (cT s (cT s N).2.1).2.2 = 0 := by simpa using hv
            refine ⟨rfl, .inl rfl, ⟨⟨rfl, rfl⟩, rfl⟩, by simp [sl_len]; omega, ?_⟩
            repeat (refine And.intro rfl ?_)
            rw [i64_in _ (by omega), sl_snoc, sl_snoc]
            refine ⟨⟨by omega, rfl, rfl, rfl, rfl, _, _, rfl, rfl, rfl, (by simp; omega), (by simp; omega), by omega, fun _ => ?_⟩, by first | omega | (dsimp only; omega)⟩
            rw [hj', hU, nc_true, lf_go he hv]
      · have hx : (gT s 0 1).2.2 = 0 → NGet 1 s = nCont s true 0 N ks vs [] := fun h => absurd h (by simpa using hE)
        refine sel_intro (fun h => absurd h (by decide)) (fun _ => ?_)
        by_cases hE : (gT s 0 1).2.2 = 0
        · have hN := hx hE
          rw [nc_true] at hN
          simp only [lfUp] at hN
          refine sel_intro (fun h => absurd h (by simp [hE])) (fun _ => ?_)
          rw [hN]
          refine sel_intro (fun hz => ?_) (fun hz => ⟨rfl, rfl, rfl, _, p49 ⟨true, ks, vs, []⟩ true (nFits_small (by dsimp only; omega) (by dsimp only; first | omega | (simp; done)) (by simp; first | omega | done)), ?_⟩)
          · rw [nFin, if_pos (.inl (by simpa using hz))]; rfl
          · by_cases hk : NdOK ⟨true, ks, vs, []⟩ true
            · rw [decide_eq_true hk]
              refine sel_intro (fun h => by cases h) (fun _ => ⟨rfl, rfl, rfl, ?_⟩)
              rw [nFin, if_neg (by
                rintro (h | h)
                · exact h (by simpa using hz)
                · exact h hk)]; rfl
            · rw [decide_eq_false hk]
              refine sel_intro (fun _ => ?_) (fun h => by cases h)
              rw [nFin, if_pos (.inr hk)]; rfl
        · refine sel_intro (fun _ => by rw [hbad hE]; rfl) (fun h => absurd (by simpa using h) hE)
    · have hx : (gT s 0 1).2.2 = 0 → NGet 1 s = nCont s true 0 N ks vs [] := fun h => by
        have := hinv h
        rw [show ((gT s 0 1).1 - i).toNat = 0 by omega] at this
        exact this
      refine sel_intro (fun h => absurd h (by decide)) (fun _ => ?_)
      by_cases hE : (gT s 0 1).2.2 = 0
      · have hN := hx hE
        rw [nc_true] at hN
        simp only [lfUp] at hN
        refine sel_intro (fun h => absurd h (by simp [hE])) (fun _ => ?_)
        rw [hN]
        refine sel_intro (fun hz => ?_) (fun hz => ⟨rfl, rfl, rfl, _, p49 ⟨true, ks, vs, []⟩ true (nFits_small (by dsimp only; omega) (by dsimp only; first | omega | (simp; done)) (by simp; first | omega | done)), ?_⟩)
        · rw [nFin, if_pos (.inl (by simpa using hz))]; rfl
        · by_cases hk : NdOK ⟨true, ks, vs, []⟩ true
          · rw [decide_eq_true hk]
            refine sel_intro (fun h => by cases h) (fun _ => ⟨rfl, rfl, rfl, ?_⟩)
            rw [nFin, if_neg (by
              rintro (h | h)
              · exact h (by simpa using hz)
              · exact h hk)]; rfl
          · rw [decide_eq_false hk]
            refine sel_intro (fun _ => ?_) (fun h => by cases h)
            rw [nFin, if_pos (.inr hk)]; rfl
      · refine sel_intro (fun _ => by rw [hbad hE]; rfl) (fun h => absurd (by simpa using h) hE)
end Go.Proofs.YtmmnobdpccdeoaaGreatDoor.M
