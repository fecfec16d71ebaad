import Derived.Test.YtmmnobdpccdeoaaGreatDoorZ3Nge2
import Derived.Test.YtmmnobdpccdeoaaGreatDoorMirO
namespace Go.Proofs.YtmmnobdpccdeoaaGreatDoor.M
set_option linter.unusedVariables false
set_option linter.unusedSimpArgs false
open Go Go.Mir
set_option linter.unusedVariables false

/-- A wood. -/
structure Wd where
  base : List Bool
  now : List Bool
  pages : List ByteArray
  root : Int
  gen : Int
def blD (l : List Bool) : List Mir.D := l.map .bool
theorem blD_len (l : List Bool) : (blD l).length = l.length := by simp [blD]
theorem blD_at {l : List Bool} {i : Nat} (h : i < l.length) : (blD l)[i]? = some (.bool l[i]) := by simp [blD, h]
def wdV (w : Wd) : AV := .agg [.o (.sl 1 (blD w.base)), .o (.sl 1 (blD w.now)), .o (.sl 1 (sl_ w.pages)), .n (.int .i64 w.root), .n (.int .i64 w.gen)]
structure WFits (w : Wd) : Prop where
  b : Small w.base.length
  n : Small w.now.length
  p : Small w.pages.length
  s : ∀ x ∈ w.pages, Small x.size
def tr (l : List Bool) (i : Nat) : Bool := (l[i]?).getD false
theorem tr_at {l : List Bool} {i : Nat} (h : i < l.length) : tr l i = l[i] := by simp [tr, h]
theorem tr_out {l : List Bool} {i : Nat} (h : l.length ≤ i) : tr l i = false := by simp [tr, h]
def ARight (base now : List Bool) : Prop := base.length = now.length ∧ 24 ≤ now.length ∧ now.length ≤ 2048 ∧ ∀ j, j < 10 → tr base j = true ∧ tr now j = true
noncomputable instance (a b : List Bool) : Decidable (ARight a b) := Classical.propDecidable _
def alV (a b : List Bool) : AV := .agg [.o (.sl 1 (blD a)), .o (.sl 1 (blD b))]
theorem no_ar {a b : List Bool} (h : ¬ ARight a b) : AV.n (D.bool false) = .n (.bool (decide (ARight a b))) := by rw [decide_eq_false h]
theorem p26 (a b : List Bool) (ha : Small a.length) (hb : Small b.length) : Runs Fs2 26 [alV a b] [] (.n (.bool (decide (ARight a b)))) [] := by
  refine vc_eq fs26 rfl ?_
  rw [alV, vc26, V26, blD_len, blD_len]
  refine sel_intro (fun h => no_ar (by have := of_decide_eq_true (show decide ((a.length : Int) ≠ b.length) = true by simpa using h); unfold ARight; omega)) (fun h => ?_)
  have hl : (a.length : Int) = b.length := by simpa using h
  refine sel_dec (fun h => no_ar (by unfold ARight; omega)) (fun h1 => sel_dec (fun h => no_ar (by unfold ARight; omega)) (fun h2 => ?_))
  refine ⟨fun i => 0 ≤ i ∧ i ≤ 10 ∧ ∀ j : Nat, (j : Int) < i → tr a j = true ∧ tr b j = true, fun i => (10 - i).toNat, ⟨rfl, by omega, by omega, fun j h => by omega⟩, ?_⟩
  rintro i ⟨h0, h10, hok⟩ _
  refine sel_dec (fun hlt => ?_) (fun hge => ?_)
  · have ia : i.toNat < a.length := by omega
    have ib : i.toNat < b.length := by omega
    have ea := tr_at ia
    have eb := tr_at ib
    refine ⟨rfl, h0, _, blD_at ia, _, rfl, sel_intro (fun hx => no_ar fun hr => ?_) (fun hx => ⟨rfl, h0, _, blD_at ib, _, rfl, sel_intro (fun hy => no_ar fun hr => ?_) (fun hy => ?_)⟩)⟩
    · have := (hr.2.2.2 i.toNat (by omega)).1
      rw [ea] at this
      rw [this] at hx; cases hx
    · have := (hr.2.2.2 i.toNat (by omega)).2
      rw [eb] at this
      rw [this] at hy; cases hy
    · repeat (refine And.intro rfl ?_)
      rw [i64_in _ (by omega)]
      refine ⟨⟨by omega, by omega, fun j hj => ?_⟩, by first | omega | (dsimp only; omega)⟩
      by_cases e : (j : Int) < i
      · exact hok j e
      · obtain rfl : j = i.toNat := by omega
        rw [ea, eb]
        exact ⟨by simpa using hx, by simpa using hy⟩
  · rw [decide_eq_true ⟨by omega, by omega, by omega, fun j hj => hok j (by omega)⟩]

/-! Counting. -/
def bls (L : List (List Bool)) : List Mir.D := L.map fun a => .sl 1 (blD a)
theorem bls_len (L : List (List Bool)) : (bls L).length = L.length := by simp [bls]
theorem bls_at {L : List (List Bool)} {i : Nat} (h : i < L.length) : (bls L)[i]? = some (.sl 1 (blD L[i])) := by simp [bls, h]
theorem p62 (a : List Bool) (i : Int) (h0 : 0 ≤ i) : Runs Fs2 62 [.o (.sl 1 (blD a)), .n (.int .i64 i)] [] (.n (.bool (tr a i.toNat))) [] := by
  refine vc_eq fs62 rfl ?_
  rw [vc62, V62, blD_len]
  refine sel_dec (fun h => ?_) (fun h => ?_)
  · have ia : i.toNat < a.length := by omega
    exact ⟨rfl, h0, _, blD_at ia, _, rfl, by rw [tr_at ia]⟩
  · rw [tr_out (by omega)]
def h104 (i : Int) : Heap := [(4500401, .box [.n (.int .i64 i)])]
theorem p61 (a : List Bool) (i : Int) (h0 : 0 ≤ i) : Runs Fs2 61 [.o (.sl 1 (blD a)), .ptr 4500401 0] (h104 i) (.n (.bool (!(tr a i.toNat)))) (h104 i) := by
  refine vc_look fs61 rfl (by kernel_rfl) ?_
  rw [h104, vc61h]
  exact ⟨_, p62 a i h0, rfl, rfl⟩
theorem p78 (L : List (List Bool)) (hl : Small L.length) (i : Int) (h0 : 0 ≤ i) : ∃ r : Int, decide (r ≥ 0) = L.any (fun a => !(tr a i.toNat)) ∧ Runs Fs2 78 [.o (.sl 1 (bls L)), .fn 61 [.ptr 4500401 0]] (h104 i) (.n (.int .i64 r)) (h104 i) := by
  have key : ∃ r H', Runs Fs2 78 [.o (.sl 1 (bls L)), .fn 61 [.ptr 4500401 0]] (h104 i) r H' ∧ ∃ k : Int, r = .n (.int .i64 k) ∧ H' = h104 i ∧ decide (k ≥ 0) = L.any (fun a => !(tr a i.toNat)) := by
    refine vc_objs (R := fun r H' => ∃ k : Int, r = .n (.int .i64 k) ∧ H' = h104 i ∧ decide (k ≥ 0) = L.any (fun a => !(tr a i.toNat))) fs78 rfl (by kernel_rfl) ?_
    rw [h104, vc78h, V78h, bls_len]
    refine ⟨fun k => 0 ≤ k ∧ k ≤ L.length ∧ ∀ (j : Nat) (h : j < L.length), (j : Int) < k → (!(tr L[j] i.toNat)) = false, fun k => (L.length - k).toNat, ⟨rfl, by omega, by omega, fun j _ hj => by omega⟩, ?_⟩
    rintro k ⟨k0, k1, hok⟩ _
    refine sel_dec (fun h => ?_) (fun h => ⟨-1, rfl, rfl, ?_⟩)
    · have hi : k.toNat < L.length := by omega
      refine ⟨rfl, k0, _, bls_at hi, _, rfl, _, p61 _ i h0, sel_intro (fun hb => ⟨k, rfl, rfl, ?_⟩) (fun hb => ?_)⟩
      · rw [decide_eq_true k0]; exact (any_at (p := fun a : List Bool => !(tr a i.toNat)) hi hb).symm
      · repeat (refine And.intro rfl ?_)
        rw [i64_in _ (by omega)]
        exact ⟨⟨by omega, by omega, step_up (p := fun a : List Bool => !(tr a i.toNat)) k0 hi hb hok⟩, by first | omega | (dsimp only; omega)⟩
    · exact (any_up (p := fun a : List Bool => !(tr a i.toNat)) k0 h hok).symm
  obtain ⟨r, H', hr, k, rfl, rfl, hk⟩ := key
  exact ⟨k, hk, hr⟩
theorem p60 (L : List (List Bool)) (hl : Small L.length) (i : Int) (h0 : 0 ≤ i) : Runs Fs2 60 [.o (.sl 1 (bls L)), .fn 61 [.ptr 4500401 0]] (h104 i) (.n (.bool (L.any fun a => !(tr a i.toNat)))) (h104 i) := by
  refine vc_look fs60 rfl (by kernel_rfl) ?_
  rw [h104, vc60h]
  obtain ⟨r, hr, h⟩ := p78 L hl i h0
  exact ⟨r, h, by rw [hr], rfl⟩
def longest (L : List (List Bool)) : Nat := L.foldl (fun n a => max n a.length) 0
theorem longest_snoc (L : List (List Bool)) (a : List Bool) : longest (L ++ [a]) = max (longest L) a.length := by simp [longest]
theorem mmI_max (a b : Nat) : mmI true (a : Int) (b : Int) = (max a b : Nat) := by
  unfold mmI; simp only [if_true]; split <;> omega
theorem p59 (L : List (List Bool)) (hl : Small L.length) : Runs Fs2 59 [.o (.sl 1 (bls L))] [] (.n (.int .i64 (longest L))) [] := by
  refine vc_eq fs59 rfl ?_
  rw [vc59, V59, bls_len]
  refine ⟨fun n k => 0 ≤ k ∧ k ≤ L.length ∧ n = longest (L.take k.toNat), fun _ k => (L.length - k).toNat, ⟨rfl, by omega, by omega, rfl⟩, ?_⟩
  rintro n k ⟨k0, k1, rfl⟩ _
  refine sel_dec (fun h => ?_) (fun h => ?_)
  · have hi : k.toNat < L.length := by omega
    refine ⟨rfl, k0, _, bls_at hi, _, rfl, ?_⟩
    repeat (refine And.intro rfl ?_)
    rw [i64_in _ (by omega), blD_len, mmI_max]
    refine ⟨⟨by omega, by omega, ?_⟩, by first | omega | (dsimp only; omega)⟩
    rw [show (k + 1).toNat = k.toNat + 1 by omega, take_snoc hi, longest_snoc]
  · rw [List.take_of_length_le (by omega)]
def countUp (L : List (List Bool)) : Nat → Nat
  | 0 => 0
  | i + 1 => countUp L i + if L.any (fun a => !(tr a i)) then 0 else 1
theorem countUp_le (L : List (List Bool)) : ∀ i, countUp L i ≤ i
  | 0 => Nat.le_refl _
  | i + 1 => by
    have := countUp_le L i
    unfold countUp
    split <;> omega
theorem countUp_all (L : List (List Bool)) : ∀ i, countUp L i = i ↔ ∀ j, j < i → L.any (fun a => !(tr a j)) = false
  | 0 => ⟨fun _ j h => by omega, fun _ => rfl⟩
  | i + 1 => by
    have h1 := countUp_le L i
    have h2 := countUp_all L i
    unfold countUp
    constructor
    · intro h j hj
      cases hq : L.any (fun a => !(tr a i)) with
      | true => rw [hq] at h; simp at h; omega
      | false =>
        rw [hq] at h
        simp at h
        by_cases e : j = i
        · subst e; exact hq
        · exact (h2.1 h) j (by omega)
    · intro h
      rw [h i (by omega), h2.2 fun j hj => h j (by omega)]
      simp
theorem p45 (L : List (List Bool)) (hl : Small L.length) (hL : longest L ≤ 2048) : Runs Fs2 45 [.o (.sl 1 (bls L))] [] (.n (.int .i64 (countUp L (longest L)))) [] := by
  refine vc_eq fs45 rfl ?_
  rw [vc45, V45]
  refine ⟨_, p59 L hl, fun n i => 0 ≤ i ∧ i ≤ longest L ∧ n = countUp L i.toNat, fun _ i => (longest L - i).toNat, ⟨rfl, by omega, by omega, rfl⟩, ?_⟩
  rintro n i ⟨h0, h1, rfl⟩ _
  have hc := countUp_le L i.toNat
  refine sel_dec (fun h => ?_) (fun h => by rw [show i.toNat = longest L by omega])
  have e1 : (i + 1).toNat = i.toNat + 1 := by omega
  refine ⟨_, p60 L hl i h0, sel_intro (fun hb => ?_) (fun hb => ?_)⟩
  · repeat (refine And.intro rfl ?_)
    rw [i64_in (_ + 1) (by omega), i64_in (i + 1) (by omega)]
    refine ⟨⟨by omega, by omega, ?_⟩, by first | omega | (dsimp only; omega)⟩
    rw [e1, countUp, if_neg (by simpa using hb)]; rfl
  · repeat (refine And.intro rfl ?_)
    rw [i64_in (i + 1) (by omega)]
    refine ⟨⟨by omega, by omega, ?_⟩, by first | omega | (dsimp only; omega)⟩
    rw [e1, countUp, if_pos (by simpa using hb)]; rfl
theorem blD_take (l : List Bool) (n : Nat) : List.drop 0 (List.take n (blD l)) = blD (l.take n) := by simp [blD, List.map_take]
theorem tr_take {l : List Bool} {n i : Nat} (h : i < n) : tr (l.take n) i = tr l i := by unfold tr; rw [List.getElem?_take_of_lt h]
theorem p32 (a b : List Bool) (ha : Small a.length) (hb : Small b.length) : Runs Fs2 32 [alV a b] [] (.n (.bool (decide (ARight a b)))) [] := by
  refine vc_eq fs32 rfl ?_
  rw [alV, vc32, V32, blD_len, blD_len]
  refine sel_intro (fun h => no_ar (by have := of_decide_eq_true (show decide ((a.length : Int) ≠ b.length) = true by simpa using h); unfold ARight; omega)) (fun h => ?_)
  have hl : (a.length : Int) = b.length := by simpa using h
  refine sel_dec (fun h => no_ar (by unfold ARight; omega)) (fun h1 => sel_dec (fun h => no_ar (by unfold ARight; omega)) (fun h2 => ?_))
  rw [show Int.toNat 10 = 10 from rfl, blD_take, blD_take]
  have g := p45 [a.take 10, b.take 10] (by simp) (by simp [longest]; omega)
  have hlg : longest [a.take 10, b.take 10] = 10 := by simp [longest]; omega
  rw [hlg] at g
  refine ⟨rfl, by decide, by omega, rfl, by decide, by omega, rfl, _, g, ?_⟩
  congr 2
  refine Bool.eq_iff_iff.2 ⟨fun h => ?_, fun h => ?_⟩
  · have hc : countUp [a.take 10, b.take 10] 10 = 10 := by have := nat_eq h; omega
    have := (countUp_all _ 10).1 hc
    refine decide_eq_true ⟨by omega, by omega, by omega, fun j hj => ?_⟩
    have h3 := this j hj
    simp only [List.any_cons, List.any_nil, Bool.or_false, Bool.or_eq_false_iff, Bool.not_eq_false', tr_take hj] at h3
    exact h3
  · have hr := of_decide_eq_true h
    have : countUp [a.take 10, b.take 10] 10 = 10 := (countUp_all _ 10).2 fun j hj => by
      obtain ⟨h3, h4⟩ := hr.2.2.2 j hj
      simp only [List.any_cons, List.any_nil, Bool.or_false, tr_take hj, h3, h4]
      rfl
    rw [this]; rfl

/-! Which woods may be. -/
def WRight (w : Wd) : Prop := ARight w.base w.now ∧ w.pages.length = w.now.length ∧ 1 ≤ w.gen ∧ w.gen ≤ 1099511627776 ∧ (w.root = 0 ∨ (10 ≤ w.root ∧ w.root < w.now.length)) ∧ ∀ s ∈ w.pages, s.size ≤ 4096
noncomputable instance (w : Wd) : Decidable (WRight w) := Classical.propDecidable _
theorem no_wr {w : Wd} (h : ¬ WRight w) : AV.n (D.bool false) = .n (.bool (decide (WRight w))) := by rw [decide_eq_false h]
theorem p24 (w : Wd) (hf : WFits w) : Runs Fs2 24 [wdV w] [] (.n (.bool (decide (WRight w)))) [] := by
  refine vc_eq fs24 rfl ?_
  rw [wdV, vc24, V24, blD_len, sl_len]
  refine ⟨_, p32 w.base w.now hf.b hf.n, ?_⟩
  by_cases ha : ARight w.base w.now
  · rw [decide_eq_true ha]
    refine sel_intro (fun h => by cases h) (fun _ => ?_)
    refine sel_intro (fun h => no_wr fun hr => ?_) (fun hp => ?_)
    · have h1 := hr.2.1
      have : (w.pages.length : Int) ≠ w.now.length := by simpa using h
      omega
    have hp : (w.pages.length : Int) = w.now.length := by simpa using hp
    refine sel_dec (fun h => no_wr (by unfold WRight; omega)) (fun h1 => sel_dec (fun h => no_wr (by unfold WRight; omega)) (fun h2 => ?_))
    have last : (w.root = 0 ∨ (10 ≤ w.root ∧ w.root < w.now.length)) → ∃ x : Bool, Runs Fs2 33 [.o (.sl 1 (sl_ w.pages)), .fn 34 []] [] (.n (.bool x)) [] ∧ AV.n (D.bool (!x)) = .n (.bool (decide (WRight w))) := fun hr => by
      refine ⟨_, p33p w.pages hf.p, ?_⟩
      congr 2
      refine Bool.eq_iff_iff.2 ⟨fun h => ?_, fun h => ?_⟩
      · refine decide_eq_true ⟨ha, by omega, by omega, by omega, hr, fun s hs => ?_⟩
        have h3 : (w.pages.any fun s => decide ((s.size : Int) > 4096)) = false := by simpa using h
        have := List.any_eq_false.1 h3 s hs
        have : ¬ (s.size : Int) > 4096 := by simpa using this
        omega
      · have h3 := (of_decide_eq_true h).2.2.2.2.2
        have : (w.pages.any fun s => decide ((s.size : Int) > 4096)) = false := List.any_eq_false.2 fun s hs => by
          have := h3 s hs
          simp; omega
        rw [this]; rfl
    refine sel_intro (fun h => ?_) (fun h => last (.inl (by simpa using h)))
    have hr0 : w.root ≠ 0 := by simpa using h
    refine sel_dec (fun h => no_wr (by unfold WRight; omega)) (fun h3 => sel_dec (fun h => no_wr (by unfold WRight; omega)) (fun h4 => last (.inr (by omega))))
  · rw [decide_eq_false ha]
    exact sel_intro (fun _ => no_wr fun hr => ha hr.1) (fun h => by cases h)
theorem p16 (w : Wd) (hf : WFits w) : Runs Fs2 16 [wdV w] [] (.n (.bool (decide (WRight w)))) [] := by
  refine vc_eq fs16 rfl ?_
  rw [wdV, vc16, V16, blD_len, sl_len]
  refine ⟨_, p26 w.base w.now hf.b hf.n, ?_⟩
  by_cases ha : ARight w.base w.now
  · rw [decide_eq_true ha]
    refine sel_intro (fun h => by cases h) (fun _ => ?_)
    refine sel_intro (fun h => no_wr fun hr => ?_) (fun hp => ?_)
    · have h1 := hr.2.1
      have : (w.pages.length : Int) ≠ w.now.length := by simpa using h
      omega
    have hp : (w.pages.length : Int) = w.now.length := by simpa using hp
    refine sel_dec (fun h => no_wr (by unfold WRight; omega)) (fun h1 => sel_dec (fun h => no_wr (by unfold WRight; omega)) (fun h2 => ?_))
    refine ⟨fun i => 0 ≤ i ∧ i ≤ w.pages.length ∧ ∀ (j : Nat) (h : j < w.pages.length), (j : Int) < i → w.pages[j].size ≤ 4096, fun i => (w.pages.length - i).toNat, ⟨rfl, by omega, by omega, fun j _ h => by omega⟩, ?_⟩
    rintro i ⟨h0, h3, hs⟩ _
    have hfp := hf.p
    refine sel_dec (fun hlt => ?_) (fun hge => ?_)
    · have hi : i.toNat < w.pages.length := by omega
      refine ⟨rfl, h0, _, sl_at hi, _, rfl, sel_dec (fun h => no_wr fun hr => ?_) (fun h => ?_)⟩
      · have := hr.2.2.2.2.2 _ (List.getElem_mem hi); omega
      · repeat (refine And.intro rfl ?_)
        rw [i64_in _ (by omega)]
        refine ⟨⟨by omega, by omega, fun j hj hji => ?_⟩, by first | omega | (dsimp only; omega)⟩
        by_cases e : (j : Int) < i
        · exact hs j hj e
        · obtain rfl : j = i.toNat := by omega
          omega
    · have hs' : ∀ s ∈ w.pages, s.size ≤ 4096 := fun s hm => by
        obtain ⟨j, hj, rfl⟩ := List.getElem_of_mem hm
        exact hs j hj (by omega)
      refine sel_intro (fun h => ?_) (fun h => ?_)
      · rw [decide_eq_true (p := WRight w) ⟨ha, by omega, by omega, by omega, .inl (by simpa using h), hs'⟩]
      · have hr0 : w.root ≠ 0 := by simpa using h
        refine sel_dec (fun h3 => ?_) (fun h3 => no_wr (by unfold WRight; omega))
        congr 2
        simp only [decide_eq_decide]
        exact ⟨fun h => ⟨ha, by omega, by omega, by omega, .inr ⟨by omega, h⟩, hs'⟩, fun h => by
          rcases h.2.2.2.2.1 with h | h
          · exact absurd h hr0
          · exact h.2⟩
  · rw [decide_eq_false ha]
    exact sel_intro (fun _ => no_wr fun hr => ha hr.1) (fun h => by cases h)
end Go.Proofs.YtmmnobdpccdeoaaGreatDoor.M
