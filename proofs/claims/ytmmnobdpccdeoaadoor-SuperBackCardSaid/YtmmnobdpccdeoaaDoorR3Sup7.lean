import Derived.Test.YtmmnobdpccdeoaaDoorR3SupL
namespace Go.Proofs.YtmmnobdpccdeoaaDoor.M
set_option linter.unusedVariables false
set_option linter.unusedSimpArgs false
open Go Go.Mir
set_option linter.unusedVariables false

theorem chE_ok {b : Su} {a : Int} (h : (a = -1 ∧ b.g = 0) ∨ (0 ≤ a ∧ 1 ≤ b.g)) : (b.g = 0 ∧ chE a = 120) ∨ (b.g ≠ 0 ∧ chE a = 0 ∧ chS b a = b ∧ chA a = a) := by
  rcases h with ⟨rfl, h⟩ | ⟨h1, h2⟩
  · exact .inl ⟨h, rfl⟩
  · refine .inr ⟨by omega, ?_, ?_, ?_⟩
    · rw [chE, if_neg (by omega)]
    · rw [chS, if_neg (by omega)]
    · rw [chA, if_neg (by omega)]
theorem p7 (l : List Su) (junk : ByteArray) (a2 : Int) (hl : (l.length : Int) ≤ 9223372036854775807) (hjs : (junk.size : Int) ≤ 9223372036854775807) : Runs Fs 7 [.o (.sl 4 (suL l)), .n (.str junk), .n (.int .i64 a2)] [] (.n (.bool true)) [] := by
  refine vc_eq fs7 rfl ?_
  rw [vc7, V7, suL_len]
  have g14 := p14 junk hjs
  rw [sg_eta] at g14
  refine ⟨_, _, _, _, _, g14, ?_⟩
  refine sel_intro (fun _ => ⟨_, p18, rfl⟩) (fun hj => ?_)
  have hj : (SGet junk).2 ≠ 0 := by simpa using hj
  obtain ⟨N, hN, h1, h6⟩ := mm_low l.length 6 (by decide)
  rw [hN, show Int.toNat (N : Int) = N from rfl]
  have hdt : List.drop 0 (List.take N (suL l)) = suL (l.take N) := by simp [suL, List.map_take]
  rw [hdt, suL_len]
  have hL : (l.take N).length ≤ 6 := by rw [List.length_take]; omega
  generalize l.take N = L at hL
  refine ⟨rfl, by omega, by omega, fun ver most i row => 0 ≤ i ∧ i ≤ L.length ∧ most = mostOf (L.take i.toNat) ∧ row = (ver, sl_ ((L.take i.toNat).map (putJ junk))), fun _ _ i _ => (L.length - i).toNat, ⟨rfl, by omega, by omega, rfl, rfl⟩, ?_⟩
  rintro ver most i row ⟨h0, h2, rfl, rfl⟩ _
  refine sel_dec (fun hlt => ?_) (fun hge => ?_)
  · have hi : i.toNat < L.length := by omega
    obtain ⟨x, e, hp, hc⟩ := suPut_pair L[i.toNat] junk
    have g22 := p22 L[i.toNat]
    rw [hp] at g22
    have e1 : (i + 1).toNat = i.toNat + 1 := by omega
    have hm : L.take (i.toNat + 1) = L.take i.toNat ++ [L[i.toNat]] := take_snoc hi
    have hlen : (sl_ ((L.take i.toNat).map (putJ junk))).length ≤ 6 := by rw [sl_len, List.length_map, List.length_take]; omega
    refine ⟨rfl, h0, _, suL_at hi, _, _, _, _, rfl, Nat.le_refl _, _, _, g22, ?_⟩
    rcases hc with ⟨hok, rfl, rfl⟩ | ⟨hno, rfl⟩
    · refine sel_intro (fun h => by cases h) (fun _ => ?_)
      refine ⟨rfl, .inl rfl, ⟨⟨rfl, rfl⟩, rfl⟩, by simp only [List.length_singleton]; omega, ?_⟩
      repeat (refine And.intro rfl ?_)
      rw [i64_in _ (by omega)]
      refine ⟨⟨by omega, by omega, ?_, ?_⟩, by first | omega | (dsimp only; omega)⟩
      · rw [e1, hm, mostOf_snoc, if_pos hok]
      · dsimp only
        rw [sl_snoc, e1, hm, List.map_append, show List.map (putJ junk) [L[i.toNat]] = [putJ junk L[i.toNat]] from rfl, putJ, if_pos hok]
    · refine sel_intro (fun _ => ?_) (fun h => by cases h)
      refine ⟨rfl, .inl rfl, ⟨⟨rfl, rfl⟩, rfl⟩, by simp only [List.length_singleton]; omega, ?_⟩
      repeat (refine And.intro rfl ?_)
      rw [i64_in _ (by omega)]
      refine ⟨⟨by omega, by omega, ?_, ?_⟩, by first | omega | (dsimp only; omega)⟩
      · rw [e1, hm, mostOf_snoc, if_neg hno]
      · dsimp only
        rw [sl_snoc, e1, hm, List.map_append, show List.map (putJ junk) [L[i.toNat]] = [putJ junk L[i.toNat]] from rfl, putJ, if_neg hno]
  · have hiL : i.toNat = L.length := by omega
    rw [hiL, List.take_length]
    dsimp only
    generalize hB : L.map (putJ junk) = B
    have hBl : B.length = L.length := by rw [← hB, List.length_map]
    have hf : Fits' B := ⟨by omega, fun s hs => by
      rw [← hB] at hs
      obtain ⟨u, _, rfl⟩ := List.mem_map.1 hs
      unfold putJ
      split
      · have := suS_size u; omega
      · exact hjs⟩
    rw [sl_len]
    obtain ⟨K, hK, eK⟩ := at_bounds a2 B.length (by omega)
    rw [eK, show Int.toNat (K : Int) = K from rfl]
    have ek : IntKind.wrap .i64 ((B.length : Int) + 1) ≠ 0 := by rw [i64_in _ (by omega)]; omega
    have hW : (([] ++ List.drop 0 (List.take K (sl_ B))) ++ [D.str junk]) ++ List.drop K (List.take B.length (sl_ B)) = sl_ (B.take K ++ [junk] ++ B.drop K) := by
      rw [sl_take, List.take_of_length_le (show (sl_ B).length ≤ B.length by rw [sl_len]; exact Nat.le_refl _)]
      simp [sl_, List.map_drop]
    obtain ⟨b, a, hb, g1⟩ := p16 B hf
    have hfW : Fits' (B.take K ++ [junk] ++ B.drop K) := ⟨by simp only [List.length_append, List.length_take, List.length_drop, List.length_singleton]; omega, fun s hs => by
      simp only [List.mem_append, List.mem_singleton] at hs
      rcases hs with (hs | rfl) | hs
      · exact hf.2 s (List.mem_of_mem_take hs)
      · exact hjs
      · exact hf.2 s (List.mem_of_mem_drop hs)⟩
    obtain ⟨b', a', hb', g2⟩ := p16 _ hfW
    have hWl : (B.take K ++ [junk] ++ B.drop K).length = B.length + 1 := by simp only [List.length_append, List.length_take, List.length_drop, List.length_singleton]; omega
    rw [hWl] at hb'
    obtain ⟨rfl, rfl⟩ := best_one hb' (best_with hj hK hb)
    have hmost : b'.g = mostOf L := best_most hj (by rw [hB, ← hBl]; exact hb)
    rw [← hmost]
    rw [chooV_eq] at g1 g2
    refine ⟨rfl, ek, rfl, rfl, ek, rfl, rfl, by omega, by omega, .inl rfl, ⟨⟨rfl, rfl⟩, rfl⟩, ?_, rfl, .inl rfl, ⟨⟨rfl, rfl⟩, rfl⟩, ?_, rfl, rfl, by omega, by omega, .inl rfl, ⟨⟨rfl, rfl⟩, rfl⟩, ?_, rfl, _, _, _, _, _, _, g1, rfl, ?_⟩
    · simp only [List.length_drop, List.length_take, sl_len]; omega
    · simp only [List.length_append, List.length_nil, List.length_drop, List.length_take, sl_len, List.length_singleton]; omega
    · simp only [List.length_append, List.length_nil, List.length_drop, List.length_take, sl_len, List.length_singleton]; omega
    rw [hW]
    refine ⟨_, _, _, _, _, _, g2, ?_⟩
    have hg := best_gen hb
    have hcase : (if a ≥ (K : Int) then a + 1 else a) = (if a ≥ (K : Int) then a + 1 else a) := rfl
    rcases chE_ok hg with ⟨z1, z2⟩ | ⟨z1, z2, z3, z4⟩
    · have ha : a = -1 := by rcases hg with ⟨h, _⟩ | ⟨_, h⟩ <;> omega
      refine sel_intro (fun _ => ⟨_, p18, sel_intro (fun _ => ?_) (fun h => by cases h)⟩) (fun h => absurd z1 (by simpa using h))
      rw [z2]
      refine sel_intro (fun _ => ?_) (fun h => by cases h)
      rw [if_neg (by omega), z2]; rfl
    · refine sel_intro (fun h => absurd (by simpa using h) z1) (fun _ => ?_)
      have ha : 0 ≤ a := by rcases hg with ⟨_, h⟩ | ⟨h, _⟩ <;> omega
      have hlt : a < 100 := by
        rcases hb with ⟨h, _⟩ | ⟨k, h, _, h3, _⟩ <;> omega
      rw [z2, z3, z4]
      refine sel_dec (fun hk => ?_) (fun hk => ?_)
      · rw [if_pos hk]
        have w1 : chE (a + 1) = 0 := by rw [chE, if_neg (by omega)]
        have w2 : chS b' (a + 1) = b' := by rw [chS, if_neg (by omega)]
        have w3 : chA (a + 1) = a + 1 := by rw [chA, if_neg (by omega)]
        rw [w1, w2, w3, i64_in _ (by omega), su_eq]
        refine ⟨_, p18, sel_intro (fun _ => sel_intro (fun _ => sel_intro (fun _ => sel_intro (fun _ => sel_beq ?_) (fun h => by cases h)) (fun h => by cases h)) (fun h => by cases h)) (fun h => by cases h)⟩
        rw [beq_self_eq_true]
      · rw [if_neg hk, z2, z3, z4, su_eq]
        refine ⟨_, p18, sel_intro (fun _ => sel_intro (fun _ => sel_intro (fun _ => sel_intro (fun _ => sel_beq ?_) (fun h => by cases h)) (fun h => by cases h)) (fun h => by cases h)) (fun h => by cases h)⟩
        rw [beq_self_eq_true]
/-! As arguments. -/
abbrev slT : Mir.Ty := .sl .str
theorem fitsS_of (x : slT.T) (h : slT.fit x) : Fits' x := by
  obtain ⟨h1, h2⟩ := h
  have e : maxLen = 9223372036854775807 := rfl
  refine ⟨?_, fun s hs => ?_⟩
  · have : List.length (show List ByteArray from x) ≤ maxLen := h1
    show ((List.length (show List ByteArray from x) : Nat) : Int) ≤ _
    omega
  · have : s.size ≤ maxLen := h2 s hs
    omega
abbrev suT : Mir.Ty := .st [.int .i64, .int .i64, .int .i64, .int .i64]
def toSu (x : Int × Int × Int × Int × Unit) : Su := ⟨x.1, x.2.1, x.2.2.1, x.2.2.2.1⟩
abbrev suLT : Mir.Ty := .sl suT
theorem law7 (x : suLT.T) (h : suLT.fit x) (junk : ByteArray) (a2 : Int) (hj : (junk.size : Int) ≤ 9223372036854775807) : Runs Fs 7 [suLT.av x, .n (.str junk), .n (.int .i64 a2)] [] (.n (.bool true)) [] := by
  have e : suLT.av x = .o (.sl 4 (suL (List.map toSu (show List (Int × Int × Int × Int × Unit) from x)))) := by
    rw [suL, List.map_map]; rfl
  rw [e]
  refine p7 _ junk a2 ?_ hj
  have e : maxLen = 9223372036854775807 := rfl
  have h1 : List.length (show List (Int × Int × Int × Int × Unit) from x) ≤ maxLen := h.1
  rw [List.length_map]; omega
end Go.Proofs.YtmmnobdpccdeoaaDoor.M
