import Derived.Test.YtcakphhnilklnaaDoorD2FunX
import Derived.Test.YtcakphhnilklnaaDoorD2Crs
namespace Go.Proofs.YtcakphhnilklnaaDoor.M
set_option linter.unusedVariables false
set_option linter.unusedSimpArgs false
open Go Go.Mir
set_option linter.unusedVariables false

/-- The first ones turned. -/
def upTo {α : Type} (f : α → α) (l : List α) (i : Nat) : List α := (l.take i).map f ++ l.drop i
theorem upTo_len {α : Type} (f : α → α) (l : List α) (i : Nat) : (upTo f l i).length = l.length := by simp [upTo]; omega
theorem upTo_at {α : Type} (f : α → α) (l : List α) (i : Nat) (h : i < l.length) : (upTo f l i)[i]? = some l[i] := by
  rw [upTo, List.getElem?_append_right (by simp; omega)]
  simp [Nat.min_eq_left (Nat.le_of_lt h)]
theorem upTo_succ {α : Type} (f : α → α) (l : List α) (i : Nat) (h : i < l.length) : upTo f l (i + 1) = (upTo f l i).set i (f l[i]) := by
  refine List.ext_getElem? fun k => ?_
  by_cases hk : k < l.length
  · rcases Nat.lt_trichotomy k i with h1 | h1 | h1
    · rw [List.getElem?_set_ne (by omega), upTo, upTo, List.getElem?_append_left (by simp; omega), List.getElem?_append_left (by simp; omega)]
      simp [List.getElem?_take, h1, Nat.lt_succ_of_lt h1]
    · subst h1
      rw [List.getElem?_set_self (by rw [upTo_len]; exact h), upTo, List.getElem?_append_left (by simp; omega)]
      simp [List.getElem?_take, h]
    · rw [List.getElem?_set_ne (by omega), upTo, upTo, List.getElem?_append_right (by simp; omega), List.getElem?_append_right (by simp; omega)]
      simp only [List.length_map, List.length_take, List.getElem?_drop]
      congr 1; omega
  · rw [List.getElem?_eq_none (by rw [upTo_len]; omega), List.getElem?_eq_none (by rw [List.length_set, upTo_len]; omega)]
theorem upTo_same {α : Type} (f : α → α) (l : List α) (i : Nat) (h : i < l.length) (hf : f l[i] = l[i]) : upTo f l (i + 1) = upTo f l i := by
  rw [upTo_succ f l i h, hf]
  refine List.ext_getElem? fun k => ?_
  by_cases hk : k = i
  · subst hk; rw [List.getElem?_set_self (by rw [upTo_len]; exact h), upTo_at f l k h]
  · rw [List.getElem?_set_ne (fun e => hk e.symm)]
theorem upTo_all {α : Type} (f : α → α) (l : List α) (i : Nat) (h : l.length ≤ i) : upTo f l i = l.map f := by
  rw [upTo, List.take_of_length_le h, List.drop_of_length_le h, List.append_nil]

def tinyB (s : ByteArray) : ByteArray := if 512 < s.size then noS else s
def tinyW (w : Wr) : Wr := if 512 < w.2.1.size then (w.1, ⟨#[120]⟩, ()) else w
theorem tinyB_le (s : ByteArray) : (tinyB s).size ≤ 512 := by
  unfold tinyB; split
  · decide
  · omega
theorem tinyW_le (w : Wr) : (tinyW w).2.1.size ≤ 512 := by
  unfold tinyW; split
  · show (ByteArray.mk #[120]).size ≤ 512
    decide
  · omega
theorem pk_set (l : List Wr) (i : Nat) (w : Wr) : (pk l).set i (.rcd [.int .i64 w.1, .str w.2.1]) = pk (l.set i w) := by simp [pk, List.map_set]
theorem at_none {s : ByteArray} {k : Nat} (h : s.size ≤ k) : At s k = 0 := by
  rw [At, atL, List.getElem?_eq_none (by rw [size_list]; exact h)]; rfl
theorem mix_small {a b : ByteArray} (m : Int) (ha : a.size ≤ 512) (hb : b.size ≤ 512) (ta : TrimS a = a) (tb : TrimS b = b) : MixS a b m = if bt m 0 then b else a := by
  refine tm_ext (mix_trim a b m) (by split <;> assumption) fun k => ?_
  rw [mix_at]
  by_cases h : k < 512
  · rw [if_pos (by omega), Nat.div_eq_of_lt h]
  · rw [show At (if bt m 0 then b else a) k = 0 by split <;> exact at_none (by omega)]
    split
    · split <;> exact at_none (by omega)
    · rfl
/-- Of small bytes a crash leaves a write's, or what was. -/
theorem crL_small {b : List ByteArray} {p : List Wr} (h : Rt b p = true) (hb : ∀ s ∈ b, s.size ≤ 512) (hp : ∀ w ∈ p, w.2.1.size ≤ 512) (f : Nat → Int) :
    ∀ (n i : Nat) (s : ByteArray), (CrL f b p n)[i]? = some s → s.size ≤ 512 ∧ TrimS s = s ∧ (b[i]? = some s ∨ ∃ w ∈ p, w.1 = (i : Int) ∧ w.2.1 = s) := by
  obtain ⟨h1, h2, h3⟩ := rt_tms h
  have tmT : ∀ {s : ByteArray}, Tm s = true → TrimS s = s := fun h => by rw [Tm, Bool.and_eq_true] at h; exact of_decide_eq_true h.2
  intro n
  induction n with
  | zero =>
    intro i s hs
    have := List.mem_of_getElem? hs
    exact ⟨hb s this, tmT (h1 s this), .inl hs⟩
  | succ n ih =>
    intro i s hs
    rw [CrL] at hs
    split at hs
    · rename_i w hw
      have hwm := List.mem_of_getElem? hw
      have hW := h3 w hwm
      rw [Wm, Bool.and_eq_true, Bool.and_eq_true, decide_eq_true_iff, decide_eq_true_iff] at hW
      by_cases hi : i = w.1.toNat
      · subst hi
        have hlt : w.1.toNat < (CrL f b p n).length := by
          have := (List.getElem?_eq_some_iff.1 hs).1
          simpa using this
        rw [List.getElem?_set_self hlt, List.getElem?_eq_getElem hlt] at hs
        simp only [Option.getD_some, Option.some.injEq] at hs
        obtain ⟨g1, g2, g3⟩ := ih w.1.toNat _ (List.getElem?_eq_getElem hlt)
        rw [mix_small (f n) g1 (hp w hwm) g2 (tmT hW.2.2)] at hs
        split at hs
        · subst hs
          exact ⟨hp w hwm, tmT hW.2.2, .inr ⟨w, hwm, by omega, rfl⟩⟩
        · subst hs
          exact ⟨g1, g2, g3⟩
      · rw [List.getElem?_set_ne (fun e => hi e.symm)] at hs
        exact ih i s hs
    · exact ih i s hs

theorem few_len (b : List ByteArray) : (fewB b).length ≤ b.length := by
  unfold fewB; split
  · rw [List.length_take]; omega
  · exact Nat.le_refl _
theorem few_lenP (p : List Wr) : (fewP p).length ≤ p.length := by
  unfold fewP; split
  · rw [List.length_take]; omega
  · exact Nat.le_refl _
/-- Is it one of the first writes to a block? -/
def hit (p : List Wr) (s : ByteArray) (i : Int) (j : Nat) : Bool := (p.take j).any fun w => decide (w.1 = i ∧ w.2.1 = s)
theorem hit_succ (p : List Wr) (s : ByteArray) (i : Int) (j : Nat) (h : j < p.length) : hit p s i (j + 1) = (hit p s i j || decide (p[j].1 = i ∧ p[j].2.1 = s)) := by
  rw [hit, hit, List.take_add_one, List.getElem?_eq_getElem h, List.any_append]
  simp only [Option.toList, List.any_cons, List.any_nil, Bool.or_false]
set_option maxHeartbeats 1000000 in
set_option maxRecDepth 10000 in
theorem p7 (b0 : List ByteArray) (p0 : List Wr) (ms : List Int) (hf0 : Fits b0 p0) (hb0 : b0.length ≤ 1048576) (hp0 : p0.length ≤ 1048576) : Runs Fs 7 [Dev b0 p0, .o (.sl 1 (ml ms))] [] (.n (.bool true)) [] := by
  refine vc_eq fs7 rfl ?_
  have hf := fits_few hf0
  have h12 := p12 b0 p0
  have hb1 := few_len b0
  have hp1 := few_lenP p0
  rw [Dev, vc7, V7]
  generalize fewB b0 = b at *
  generalize fewP p0 = p at *
  refine ⟨_, _, h12, .inl rfl, ⟨⟨rfl, rfl⟩, rfl⟩, ?_⟩
  rw [bk_len, pk_len, List.nil_append, List.nil_append]
  refine ⟨by omega, rfl, fun i r => 0 ≤ i ∧ i ≤ b.length ∧ r.1 = 1 ∧ r.2 = bk (upTo tinyB b i.toNat), fun i r => (b.length - i).toNat, ⟨rfl, by omega, by omega, rfl, by simp [upTo]⟩, ?_⟩
  rintro i r ⟨h0, h1, hr1, hr2⟩ _
  rw [hr1, hr2]
  rw [bk_len]
  refine sel_dec (fun hlt => ?_) (fun hge => ?_)
  · have hi : i.toNat < b.length := by omega
    have hat : (bk (upTo tinyB b i.toNat))[i.toNat]? = some (.str b[i.toNat]) := by
      rw [bk, List.getElem?_map, upTo_at _ _ _ hi]; rfl
    refine ⟨⟨rfl, rfl⟩, h0, by rw [bk_len, upTo_len]; exact hlt, ⟨rfl, rfl⟩, _, hat, _, rfl, sel_dec (fun hz => ?_) (fun hz => ?_)⟩
    · refine ⟨⟨rfl, rfl⟩, h0, by rw [bk_len, upTo_len]; exact hlt, ⟨⟨⟨rfl, rfl⟩, rfl⟩, rfl⟩, by rw [bk_len, upTo_len]; exact hi, ?_⟩
      repeat (refine And.intro rfl ?_)
      rw [i64_in _ (by omega), bk_set]
      refine ⟨⟨by omega, by omega, rfl, ?_⟩, by dsimp only; omega⟩
      rw [show (i + 1).toNat = i.toNat + 1 by omega, upTo_succ _ _ _ hi, tinyB, if_pos (by omega)]; rfl
    · repeat (refine And.intro rfl ?_)
      rw [i64_in _ (by omega)]
      refine ⟨⟨by omega, by omega, rfl, ?_⟩, by dsimp only; omega⟩
      rw [show (i + 1).toNat = i.toNat + 1 by omega, upTo_same _ _ _ hi (by rw [tinyB, if_neg (by omega)])]
  rw [upTo_all tinyB b i.toNat (by omega)]
  refine ⟨.inl rfl, ⟨⟨rfl, rfl⟩, rfl⟩, by omega, rfl, fun i r => 0 ≤ i ∧ i ≤ p.length ∧ r.1 = 1 ∧ r.2 = pk (upTo tinyW p i.toNat), fun i r => (p.length - i).toNat, ⟨rfl, by omega, by omega, rfl, by simp [upTo]⟩, ?_⟩
  clear h0 h1 hr1 hr2 hge
  rintro i r ⟨h0, h1, hr1, hr2⟩ _
  rw [hr1, hr2]
  refine sel_dec (fun hlt => ?_) (fun hge => ?_)
  · rw [pk_len] at hlt
    have hi : i.toNat < p.length := by omega
    have hat : (pk (upTo tinyW p i.toNat))[i.toNat]? = some (.rcd [.int .i64 p[i.toNat].1, .str p[i.toNat].2.1]) := by
      rw [pk, List.getElem?_map, upTo_at _ _ _ hi]; rfl
    refine ⟨⟨rfl, rfl⟩, h0, by rw [pk_len, upTo_len]; exact hlt, ⟨rfl, rfl⟩, _, hat, _, _, rfl, Nat.le_refl _, sel_dec (fun hz => ?_) (fun hz => ?_)⟩
    · refine ⟨⟨rfl, rfl⟩, h0, by rw [pk_len, upTo_len]; exact hlt, ⟨⟨rfl, Nat.le_refl _⟩, rfl⟩, _, hat, ?_⟩
      repeat (refine And.intro rfl ?_)
      rw [i64_in _ (by omega)]
      refine ⟨⟨by omega, by omega, rfl, ?_⟩, by dsimp only; omega⟩
      rw [show (i + 1).toNat = i.toNat + 1 by omega, upTo_succ _ _ _ hi, tinyW, if_pos (by omega), ← pk_set]; rfl
    · repeat (refine And.intro rfl ?_)
      rw [i64_in _ (by omega)]
      refine ⟨⟨by omega, by omega, rfl, ?_⟩, by dsimp only; omega⟩
      rw [show (i + 1).toNat = i.toNat + 1 by omega, upTo_same _ _ _ hi (by rw [tinyW, if_neg (by omega)])]
  rw [pk_len] at hge
  rw [upTo_all tinyW p i.toNat (by omega)]
  clear h0 h1 hr1 hr2 hge
  have hB : ∀ s ∈ b.map tinyB, s.size ≤ 512 := fun s hs => by obtain ⟨x, _, rfl⟩ := List.mem_map.1 hs; exact tinyB_le x
  have hW : ∀ w ∈ p.map tinyW, w.2.1.size ≤ 512 := fun s hs => by obtain ⟨x, _, rfl⟩ := List.mem_map.1 hs; exact tinyW_le x
  have hff : Fits (b.map tinyB) (p.map tinyW) := ⟨by rw [List.length_map]; omega, by rw [List.length_map]; omega, fun s hs => by have := hB s hs; omega, fun w hw => by have := hW w hw; omega⟩
  have hbl : (b.map tinyB).length ≤ 1048576 := by rw [List.length_map]; omega
  have hpl : (p.map tinyW).length ≤ 1048576 := by rw [List.length_map]; omega
  generalize b.map tinyB = b at *
  generalize p.map tinyW = p at *
  refine ⟨rfl, rfl, _, p17 b p hff, sel_intro (fun h => ⟨_, p15, rfl⟩) (fun h => ?_)⟩
  have h : Rt b p = true := by simpa using h
  have h22 := p22 b p ms hff
  rw [CrashR, if_pos h] at h22
  refine ⟨rfl, rfl, _, _, _, h22, ?_⟩
  have hok := ok_of hff h
  have hcl : (CrL (mk false ms) b p p.length).length = b.length := crL_len _ _ _ _
  have hsm := crL_small h hB hW (mk false ms) p.length
  generalize CrL (mk false ms) b p p.length = c at *
  rw [bk_len, bk_len, pk_len, hcl]
  refine ⟨rfl, sel_intro (fun h => by simp at h) (fun _ => ?_)⟩
  refine ⟨fun i => 0 ≤ i ∧ i ≤ b.length, fun i => (b.length - i).toNat, ⟨rfl, by omega, by omega⟩, ?_⟩
  rintro i ⟨h0, h1⟩ _
  refine sel_dec (fun hlt => ?_) (fun hge => ⟨_, p15, rfl⟩)
  have hi : i.toNat < b.length := by omega
  have hic : i.toNat < c.length := by omega
  obtain ⟨_, _, hone⟩ := hsm i.toNat _ (List.getElem?_eq_getElem hic)
  refine ⟨rfl, h0, _, bk_at hic, _, rfl, ⟨rfl, rfl⟩, h0, hlt, ⟨rfl, rfl⟩, _, bk_at hi, _, rfl, rfl, fun ok j => 0 ≤ j ∧ j ≤ p.length ∧ ok = (decide (c[i.toNat] = b[i.toNat]) || hit p c[i.toNat] i j.toNat), fun ok j => (p.length - j).toNat, ⟨rfl, by omega, by omega, ?_⟩, ?_⟩
  · rw [beq_dec]; simp [hit]
  rintro ok j ⟨hj0, hj1, hok2⟩ _
  refine sel_dec (fun hlt2 => ?_) (fun hge2 => ?_)
  · have hj : j.toNat < p.length := by omega
    have hs := hit_succ p c[i.toNat] i j.toNat hj
    refine ⟨⟨rfl, rfl⟩, hj0, hlt2, ⟨rfl, rfl⟩, _, pk_at hj, _, _, rfl, Nat.le_refl _, sel_intro (fun ho => ?_) (fun ho => ?_)⟩
    · repeat (refine And.intro rfl ?_)
      rw [i64_in _ (by omega)]
      refine ⟨⟨by omega, by omega, ?_⟩, by dsimp only; omega⟩
      rw [show (j + 1).toNat = j.toNat + 1 by omega, hs, ← Bool.or_assoc, ← hok2, ho]; rfl
    · refine sel_intro (fun he => ?_) (fun he => ?_)
      · repeat (refine And.intro rfl ?_)
        rw [i64_in _ (by omega)]
        refine ⟨⟨by omega, by omega, ?_⟩, by dsimp only; omega⟩
        rw [show (j + 1).toNat = j.toNat + 1 by omega, hs, ← Bool.or_assoc, ← hok2, ho, beq_dec, Bool.false_or]
        simp [beq_iff_eq.1 he]
      · repeat (refine And.intro rfl ?_)
        rw [i64_in _ (by omega)]
        refine ⟨⟨by omega, by omega, ?_⟩, by dsimp only; omega⟩
        rw [show (j + 1).toNat = j.toNat + 1 by omega, hs, ← Bool.or_assoc, ← hok2, ho, Bool.false_or]
        have : ¬ p[j.toNat].1 = i := fun e => by rw [e] at he; simp at he
        simp [this]
  · have hjl : j.toNat = p.length := by omega
    have ht : ok = true := by
      rw [hok2, hjl]
      rcases hone with e | ⟨w, hw, e1, e2⟩
      · rw [List.getElem?_eq_getElem hi, Option.some.injEq] at e
        rw [decide_eq_true e.symm]; rfl
      · have : hit p c[i.toNat] i p.length = true := by
          rw [hit, List.take_of_length_le (Nat.le_refl _)]
          exact List.any_eq_true.2 ⟨w, hw, decide_eq_true ⟨by omega, e2⟩⟩
        rw [this, Bool.or_true]
    rw [ht]
    refine sel_intro (fun h => by cases h) (fun _ => ?_)
    repeat (refine And.intro rfl ?_)
    rw [i64_in _ (by omega)]
    exact ⟨⟨by omega, by omega⟩, by dsimp only; omega⟩
theorem small_of (x : devT.T) (h : devT.bk x ≤ 1048576) : x.1.length ≤ 1048576 ∧ x.2.1.length ≤ 1048576 := by
  have key : ∀ (b : List ByteArray) (p : List Wr), ((b.map fun y => ByteArray.size y + 1).sum + 1) + (((p.map fun y => (1 + ((ByteArray.size y.2.1 + 1) + 0)) + 1).sum + 1) + 0) + 1 ≤ 1048576 → b.length ≤ 1048576 ∧ p.length ≤ 1048576 := fun b p h0 => by
    have h1 := len_le_sum (fun y => ByteArray.size y + 1) b fun _ _ => Nat.le_add_left ..
    have h2 := len_le_sum (fun y : Wr => (1 + ((ByteArray.size y.2.1 + 1) + 0)) + 1) p fun _ _ => Nat.le_add_left ..
    omega
  exact key x.1 x.2.1 h
end Go.Proofs.YtcakphhnilklnaaDoor.M
