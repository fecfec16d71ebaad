import Derived.Test.YtmmnobdpccdeoaaDoorR3Sup
namespace Go.Proofs.YtmmnobdpccdeoaaDoor.M
set_option linter.unusedVariables false
set_option linter.unusedSimpArgs false
open Go Go.Mir
set_option linter.unusedVariables false

theorem sget_cases (s : ByteArray) : ((SGet s).2 = 0 ∧ suOK (SGet s).1) ∨ ((SGet s).2 ≠ 0 ∧ (SGet s).1 = su0) := by
  unfold SGet
  rcases getP_cases s with ⟨e, he, h⟩ | ⟨k, g, b, h, hok, _⟩
  · rw [h, sGet_err he]; exact .inr ⟨he, rfl⟩
  · rw [h, sGet_ok]
    split
    · exact .inr ⟨by decide, rfl⟩
    split
    · exact .inr ⟨by decide, rfl⟩
    split
    · rename_i h; exact .inl ⟨rfl, h⟩
    · exact .inr ⟨by decide, rfl⟩
def sAt (l : List ByteArray) (j : Nat) : Su × Int := SGet ((l[j]?).getD empS)
theorem sAt_get {l : List ByteArray} {j : Nat} (h : j < l.length) : sAt l j = SGet l[j] := by
  unfold sAt; rw [List.getElem?_eq_getElem h]; rfl
theorem sAt_gen {l : List ByteArray} {j : Nat} (h : (sAt l j).2 = 0) : 1 ≤ (sAt l j).1.g := by
  rcases sget_cases ((l[j]?).getD empS) with ⟨_, h2⟩ | ⟨h1, _⟩
  · exact h2.1
  · exact absurd h h1
/-- The one that counts, among some places. -/
def Best (l : List ByteArray) (lo hi : Nat) (b : Su) (a : Int) : Prop :=
  (a = -1 ∧ b = su0 ∧ ∀ j, lo ≤ j → j < hi → (sAt l j).2 ≠ 0) ∨
  (∃ k : Nat, a = k ∧ lo ≤ k ∧ k < hi ∧ sAt l k = (b, 0) ∧ ∀ j, lo ≤ j → j < hi → (sAt l j).2 = 0 → (j < k → (sAt l j).1.g < b.g) ∧ (k < j → (sAt l j).1.g ≤ b.g))
theorem best_none (l : List ByteArray) (i : Nat) : Best l i i su0 (-1) := .inl ⟨rfl, rfl, fun j h1 h2 => by omega⟩
theorem best_gen {l : List ByteArray} {lo hi : Nat} {b : Su} {a : Int} (h : Best l lo hi b a) : (a = -1 ∧ b.g = 0) ∨ (0 ≤ a ∧ 1 ≤ b.g) := by
  rcases h with ⟨h1, rfl, _⟩ | ⟨k, rfl, _, _, h, _⟩
  · exact .inl ⟨h1, rfl⟩
  · have := sAt_gen (l := l) (j := k) (by rw [h])
    rw [h] at this
    exact .inr ⟨by omega, this⟩
theorem best_pass {l : List ByteArray} {lo i : Nat} {b : Su} {a : Int} (h : Best l lo i b a) (hn : (sAt l i).2 ≠ 0 ∨ ¬ (sAt l i).1.g > b.g) : Best l lo (i + 1) b a := by
  rcases h with ⟨h1, rfl, h2⟩ | ⟨k, rfl, h1, h2, h3, h4⟩
  · refine .inl ⟨h1, rfl, fun j hj hj2 => ?_⟩
    by_cases e : j = i
    · subst e
      rcases hn with hn | hn
      · exact hn
      · intro h0
        have := sAt_gen h0
        simp only [su0] at hn
        omega
    · exact h2 j hj (by omega)
  · refine .inr ⟨k, rfl, h1, by omega, h3, fun j hj hj2 h0 => ?_⟩
    by_cases e : j = i
    · subst e
      refine ⟨fun h => by omega, fun _ => ?_⟩
      rcases hn with hn | hn
      · exact absurd h0 hn
      · omega
    · exact h4 j hj (by omega) h0
theorem best_take {l : List ByteArray} {lo i : Nat} {b : Su} {a : Int} (hlo : lo ≤ i) (h : Best l lo i b a) (h0 : (sAt l i).2 = 0) (hg : (sAt l i).1.g > b.g) : Best l lo (i + 1) (sAt l i).1 i := by
  refine .inr ⟨i, rfl, hlo, by omega, ?_, fun j hj hj2 h0' => ⟨fun hji => ?_, fun hji => by omega⟩⟩
  · rw [← h0]
  · rcases h with ⟨h1, rfl, h2⟩ | ⟨k, rfl, h1, h2, h3, h4⟩
    · exact absurd h0' (h2 j hj hji)
    · by_cases e : j = k
      · subst e; rw [h3]; exact hg
      · obtain ⟨g1, g2⟩ := h4 j hj hji h0'
        by_cases hlt : j < k
        · have := g1 hlt; omega
        · have := g2 (by omega); omega
theorem best_back {l : List ByteArray} {i hi : Nat} {b : Su} {a : Int} (hi' : i < hi) (h : Best l (i + 1) hi b a) (hn : (sAt l i).2 ≠ 0 ∨ ¬ (sAt l i).1.g ≥ b.g) : Best l i hi b a := by
  rcases h with ⟨h1, rfl, h2⟩ | ⟨k, rfl, h1, h2, h3, h4⟩
  · refine .inl ⟨h1, rfl, fun j hj hj2 => ?_⟩
    by_cases e : j = i
    · subst e
      rcases hn with hn | hn
      · exact hn
      · intro h0
        have := sAt_gen h0
        simp only [su0] at hn
        omega
    · exact h2 j (by omega) hj2
  · refine .inr ⟨k, rfl, by omega, h2, h3, fun j hj hj2 h0 => ?_⟩
    by_cases e : j = i
    · subst e
      refine ⟨fun _ => ?_, fun h => by omega⟩
      rcases hn with hn | hn
      · exact absurd h0 hn
      · omega
    · exact h4 j (by omega) hj2 h0
theorem best_new {l : List ByteArray} {i hi : Nat} {b : Su} {a : Int} (hi' : i < hi) (h : Best l (i + 1) hi b a) (h0 : (sAt l i).2 = 0) (hg : (sAt l i).1.g ≥ b.g) : Best l i hi (sAt l i).1 i := by
  refine .inr ⟨i, rfl, by omega, hi', ?_, fun j hj hj2 h0' => ⟨fun hji => by omega, fun hji => ?_⟩⟩
  · rw [← h0]
  · rcases h with ⟨h1, rfl, h2⟩ | ⟨k, rfl, h1, h2, h3, h4⟩
    · exact absurd h0' (h2 j (by omega) hj2)
    · by_cases e : j = k
      · subst e; rw [h3]; exact hg
      · obtain ⟨g1, g2⟩ := h4 j (by omega) hj2 h0'
        by_cases hlt : j < k
        · have := g1 hlt; omega
        · have := g2 (by omega); omega
theorem best_one {l : List ByteArray} {lo hi : Nat} {b b' : Su} {a a' : Int} (h : Best l lo hi b a) (h' : Best l lo hi b' a') : b = b' ∧ a = a' := by
  rcases h with ⟨h1, rfl, h2⟩ | ⟨k, rfl, h1, h2, h3, h4⟩ <;> rcases h' with ⟨g1, rfl, g2⟩ | ⟨k', rfl, g1, g2, g3, g4⟩
  · exact ⟨rfl, by omega⟩
  · exact absurd (by rw [g3]) (h2 k' g1 g2)
  · exact absurd (by rw [h3]) (g2 k h1 h2)
  · by_cases e : k = k'
    · subst e; rw [h3] at g3; simp only [Prod.mk.injEq, and_true] at g3; exact ⟨g3, rfl⟩
    · exfalso
      have p1 := h4 k' g1 g2 (by rw [g3])
      have p2 := g4 k h1 h2 (by rw [h3])
      rw [g3] at p1
      rw [h3] at p2
      dsimp only at p1 p2
      rcases Nat.lt_or_gt_of_ne e with hlt | hlt
      · have := p1.2 hlt; have := p2.1 hlt; omega
      · have := p1.1 hlt; have := p2.2 hlt; omega
def chooV (b : Su) (a : Int) : AV := if a < 0 then .tup [suV su0, .n (.int .i64 0), .n (.int .i64 120)] else .tup [suV b, .n (.int .i64 a), .n (.int .i64 0)]
def sl_ (l : List ByteArray) : List D := l.map D.str
theorem sl_len (l : List ByteArray) : (sl_ l).length = l.length := by simp [sl_]
theorem sl_at {l : List ByteArray} {i : Nat} (h : i < l.length) : (sl_ l)[i]? = some (D.str l[i]) := by simp [sl_, h]
def Fits' (l : List ByteArray) : Prop := (l.length : Int) ≤ 9223372036854775807 ∧ ∀ s ∈ l, (s.size : Int) ≤ 9223372036854775807
theorem sg_eta (s : ByteArray) : duo (SGet s) = .tup [.agg [.n (.int .i64 (SGet s).1.g), .n (.int .i64 (SGet s).1.r), .n (.int .i64 (SGet s).1.m), .n (.int .i64 (SGet s).1.z)], .n (.int .i64 (SGet s).2)] := rfl
theorem p16 (l : List ByteArray) (hl : Fits' l) : ∃ b a, Best l 0 l.length b a ∧ Runs Fs 16 [.o (.sl 1 (sl_ l))] [] (chooV b a) [] := by
  have key : ∃ r, Runs Fs 16 [.o (.sl 1 (sl_ l))] [] r [] ∧ ∃ b a, r = chooV b a ∧ Best l 0 l.length b a := by
    refine vc_runs (R := fun r => ∃ b a, r = chooV b a ∧ Best l 0 l.length b a) fs16 rfl ?_
    have hL := hl.1
    rw [vc16, V16, sl_len]
    refine ⟨fun at_ i q => 0 ≤ i ∧ i ≤ l.length ∧ ∃ b : Su, q = (b.g, b.r, b.m, b.z, ()) ∧ Best l 0 i.toNat b at_, fun _ i _ => (l.length - i).toNat, ⟨rfl, by omega, by omega, su0, rfl, best_none l 0⟩, ?_⟩
    rintro at_ i q ⟨h0, h1, b, rfl, hb⟩ _
    refine sel_dec (fun h => ?_) (fun h => ?_)
    · have hi : i.toNat < l.length := by omega
      have g := p14 l[i.toNat] (hl.2 _ (List.getElem_mem hi))
      have hs := sAt_get hi
      rw [sg_eta] at g
      rw [← hs] at g
      refine ⟨rfl, h0, _, sl_at hi, _, rfl, _, _, _, _, _, g, ?_⟩
      have e1 : (i + 1).toNat = i.toNat + 1 := by omega
      refine sel_intro (fun hz => sel_dec (fun hg => ?_) (fun hg => ?_)) (fun hz => ?_)
      · repeat (refine And.intro rfl ?_)
        rw [i64_in _ (by omega)]
        have := best_take (by omega) hb (by simpa using hz) hg
        rw [show ((i.toNat : Nat) : Int) = i by omega] at this
        exact ⟨⟨by omega, by omega, _, rfl, by rw [e1]; exact this⟩, by dsimp only; omega⟩
      · repeat (refine And.intro rfl ?_)
        rw [i64_in _ (by omega)]
        exact ⟨⟨by omega, by omega, b, rfl, by rw [e1]; exact best_pass hb (.inr hg)⟩, by dsimp only; omega⟩
      · repeat (refine And.intro rfl ?_)
        rw [i64_in _ (by omega)]
        exact ⟨⟨by omega, by omega, b, rfl, by rw [e1]; exact best_pass hb (.inl (by simpa using hz))⟩, by dsimp only; omega⟩
    · rw [show i.toNat = l.length by omega] at hb
      refine sel_dec (fun hlt => ⟨b, at_, by rw [chooV, if_pos hlt]; rfl, hb⟩) (fun hlt => ⟨b, at_, by rw [chooV, if_neg hlt]; rfl, hb⟩)
  obtain ⟨r, hr, b, a, rfl, hb⟩ := key
  exact ⟨b, a, hb, hr⟩
theorem p17 (l : List ByteArray) (hl : Fits' l) : ∃ b a, Best l 0 l.length b a ∧ Runs Fs 17 [.o (.sl 1 (sl_ l))] [] (chooV b a) [] := by
  have key : ∃ r, Runs Fs 17 [.o (.sl 1 (sl_ l))] [] r [] ∧ ∃ b a, r = chooV b a ∧ Best l 0 l.length b a := by
    refine vc_runs (R := fun r => ∃ b a, r = chooV b a ∧ Best l 0 l.length b a) fs17 rfl ?_
    have hL := hl.1
    rw [vc17, V17, sl_len, i64_in ((l.length : Int) - 1) (by omega)]
    refine ⟨fun at_ i q => -1 ≤ i ∧ i < l.length ∧ ∃ b : Su, q = (b.g, b.r, b.m, b.z, ()) ∧ Best l (i + 1).toNat l.length b at_, fun _ i _ => (i + 1).toNat, ⟨rfl, by omega, by omega, su0, rfl, by
      rw [show ((l.length : Int) - 1 + 1).toNat = l.length by omega]; exact best_none l _⟩, ?_⟩
    rintro at_ i q ⟨h0, h1, b, rfl, hb⟩ _
    refine sel_dec (fun h => ?_) (fun h => ?_)
    · have hi : i.toNat < l.length := by omega
      have g := p15 l[i.toNat] (hl.2 _ (List.getElem_mem hi))
      have hs := sAt_get hi
      rw [sg_eta] at g
      rw [← hs] at g
      rw [show (i + 1).toNat = i.toNat + 1 by omega] at hb
      have e1 : (i - 1 + 1).toNat = i.toNat := by omega
      refine ⟨rfl, h, _, sl_at hi, _, rfl, _, _, _, _, _, g, ?_⟩
      refine sel_intro (fun hz => sel_dec (fun hg => ?_) (fun hg => ?_)) (fun hz => ?_)
      · repeat (refine And.intro rfl ?_)
        rw [i64_in _ (by omega)]
        have := best_new hi hb (by simpa using hz) hg
        rw [show ((i.toNat : Nat) : Int) = i by omega] at this
        exact ⟨⟨by omega, by omega, _, rfl, by rw [e1]; exact this⟩, by dsimp only; omega⟩
      · repeat (refine And.intro rfl ?_)
        rw [i64_in _ (by omega)]
        exact ⟨⟨by omega, by omega, b, rfl, by rw [e1]; exact best_back hi hb (.inr hg)⟩, by dsimp only; omega⟩
      · repeat (refine And.intro rfl ?_)
        rw [i64_in _ (by omega)]
        exact ⟨⟨by omega, by omega, b, rfl, by rw [e1]; exact best_back hi hb (.inl (by simpa using hz))⟩, by dsimp only; omega⟩
    · rw [show (i + 1).toNat = 0 by omega] at hb
      refine sel_dec (fun hlt => ⟨b, at_, by rw [chooV, if_pos hlt]; rfl, hb⟩) (fun hlt => ⟨b, at_, by rw [chooV, if_neg hlt]; rfl, hb⟩)
  obtain ⟨r, hr, b, a, rfl, hb⟩ := key
  exact ⟨b, a, hb, hr⟩
theorem sget_emp : (SGet empS).2 ≠ 0 := by
  obtain ⟨e, he, h⟩ := get_none
  have : SGet empS = (su0, e) := by
    unfold SGet
    rw [show empS = noB from rfl, h, sGet_err he]
  rw [this]; exact he
theorem p18 : Runs Fs 18 [] [] (.n (.bool true)) [] := by
  refine vc_eq fs18 rfl ?_
  rw [vc18, V18]
  obtain ⟨b, a, hb, hr⟩ := p16 [empS] ⟨by decide, fun s hs => by rw [List.mem_singleton.1 hs]; decide⟩
  have h1 : a = -1 := by
    rcases hb with ⟨h, _⟩ | ⟨k, rfl, _, h2, h3, _⟩
    · exact h
    · exfalso
      have hk : k = 0 := by simpa using h2
      subst hk
      have : (sAt [empS] 0).2 = 0 := by rw [h3]
      exact sget_emp this
  subst h1
  have hok : suOK ⟨1, 0, 10, 24⟩ := by decide
  refine ⟨rfl, _, _, _, _, _, _, hr, sel_intro (fun _ => ⟨_, p24 ⟨1, 0, 10, 24⟩, by rw [decide_eq_true hok]⟩) (fun h => by cases h)⟩
end Go.Proofs.YtmmnobdpccdeoaaDoor.M
