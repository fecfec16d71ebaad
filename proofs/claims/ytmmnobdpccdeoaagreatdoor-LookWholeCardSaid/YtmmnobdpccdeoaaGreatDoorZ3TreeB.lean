import Derived.Test.YtmmnobdpccdeoaaGreatDoorZ3TreeA
namespace Go.Proofs.YtmmnobdpccdeoaaGreatDoor.M
set_option linter.unusedVariables false
set_option linter.unusedSimpArgs false
open Go Go.Mir
set_option linter.unusedVariables false

/-! A key's value, of a tree. -/
def refGet : List Pr → ByteArray → ByteArray × Int
  | [], _ => (empS, 80)
  | p :: r, key => if p.1 = key then (p.2, 0) else refGet r key
theorem refGet_no {key : ByteArray} : ∀ {P : List Pr}, (∀ p ∈ P, p.1 ≠ key) → refGet P key = (empS, 80)
  | [], _ => rfl
  | p :: r, h => by rw [refGet, if_neg (h p (by simp))]; exact refGet_no fun q hq => h q (List.mem_cons_of_mem _ hq)
theorem refGet_right {key : ByteArray} : ∀ {P Q : List Pr}, (∀ p ∈ P, p.1 ≠ key) → refGet (P ++ Q) key = refGet Q key
  | [], _, _ => rfl
  | p :: r, Q, h => by rw [List.cons_append, refGet, if_neg (h p (by simp))]; exact refGet_right fun q hq => h q (List.mem_cons_of_mem _ hq)
theorem refGet_left {key : ByteArray} : ∀ {P Q : List Pr}, (∀ p ∈ Q, p.1 ≠ key) → refGet (P ++ Q) key = refGet P key
  | [], Q, h => by rw [List.nil_append, refGet_no h]; rfl
  | p :: r, Q, h => by rw [List.cons_append, refGet, refGet, refGet_left h]
/-- Which child a key belongs to. -/
def kidOf : List ByteArray → ByteArray → Nat
  | [], _ => 0
  | k :: r, x => if lt x k then 0 else kidOf r x + 1
theorem kidOf_le : ∀ (l : List ByteArray) (x : ByteArray), kidOf l x ≤ l.length
  | [], _ => Nat.le_refl _
  | k :: r, x => by
    unfold kidOf
    split
    · omega
    · have := kidOf_le r x; simp; omega
theorem isAt_cons {k x : ByteArray} {r : List ByteArray} (h : lt k x = true) : isAt (k :: r) x = isAt r x := by
  unfold isAt
  rw [show srch (k :: r) x = srch r x + 1 by rw [srch, if_pos h], List.getElem?_cons_succ]
theorem kidOf_eq {x : ByteArray} : ∀ {l : List ByteArray}, Rise l → srch l x + (if isAt l x then 1 else 0) = kidOf l x
  | [], _ => by simp [srch, isAt, kidOf]
  | k :: r, h => by
    obtain ⟨h1, h2⟩ := List.pairwise_cons.1 h
    by_cases hk : lt k x = true
    · have e : kidOf (k :: r) x = kidOf r x + 1 := by rw [kidOf, lt_asym hk, if_neg Bool.false_ne_true]
      rw [isAt_cons hk, e, ← kidOf_eq h2, srch, if_pos hk]; omega
    · have e : srch (k :: r) x = 0 := by rw [srch, if_neg hk]
      have hk : lt k x = false := by simpa using hk
      rw [isAt, e, List.getElem?_cons_zero, kidOf]
      rcases nlt_iff.1 hk with rfl | hx
      · have e2 : kidOf r k = 0 := by
          cases r with
          | nil => rfl
          | cons y r => rw [kidOf, h1 y (by simp), if_pos rfl]
        simp [lt_irr, e2]
      · rw [hx, decide_eq_false (by
          intro e; simp only [Option.some.injEq] at e
          subst e; rw [lt_irr] at hx; cases hx)]
        rfl
theorem kidI_of {n : Nd} (hk : KOK n.keys) (x : ByteArray) : kidI n x = kidOf n.keys x := kidOf_eq (kok_rise hk)
/-- Where a key belongs: that child, with what lies ahead of it and behind it. -/
theorem KTr.at_key {R : Int → ByteArray → ByteArray → List Pr → List Int → Prop} (m : ∀ c lo hi P B, R c lo hi P B → ∀ p ∈ P, Go.Proofs.YtmmnobdpccdeoaaGreatDoor.M.within p.1 lo hi = true) {key : ByteArray} : ∀ {ks : List ByteArray} {cs : List Int} {lo hi : ByteArray} {P : List Pr} {B : List Int},
    Rise ks → (∀ k ∈ ks, k ≠ empS) → (∀ k ∈ ks, Go.Proofs.YtmmnobdpccdeoaaGreatDoor.M.within k lo hi = true) → Go.Proofs.YtmmnobdpccdeoaaGreatDoor.M.within key lo hi = true → KTr R lo hi ks cs P B →
      ∃ c lo' hi' P1 P2 P3 B1 B2 B3, cs[kidOf ks key]? = some c ∧ R c lo' hi' P2 B2 ∧ Go.Proofs.YtmmnobdpccdeoaaGreatDoor.M.within key lo' hi' = true ∧ P = P1 ++ (P2 ++ P3) ∧ B = B1 ++ (B2 ++ B3) ∧ (∀ p ∈ P1, lt p.1 key = true) ∧ (∀ p ∈ P3, lt key p.1 = true)
  | [], [], _, _, _, _, _, _, _, _, h => h.elim
  | [], [c], lo, hi, P, B, _, _, _, hk, h => ⟨c, lo, hi, [], P, [], [], B, [], rfl, h, hk, by simp, by simp, by simp, by simp⟩
  | [], _ :: _ :: _, _, _, _, _, _, _, _, _, h => h.elim
  | _ :: _, [], _, _, _, _, _, _, _, _, h => h.elim
  | k :: ks, c :: cs, lo, hi, P, B, hr, he, hw, hx, h => by
    obtain ⟨P1, B1, P2, B2, h1, h2, rfl, rfl⟩ := h
    obtain ⟨r1, r2⟩ := List.pairwise_cons.1 hr
    have he' : ∀ k ∈ ks, k ≠ empS := fun k hk => he k (List.mem_cons_of_mem _ hk)
    have hw' : ∀ x ∈ ks, Go.Proofs.YtmmnobdpccdeoaaGreatDoor.M.within x k hi = true := fun x hx => within_iff.2 ⟨lt_asym (r1 x hx), (within_iff.1 (hw x (List.mem_cons_of_mem _ hx))).2⟩
    by_cases hk : lt key k = true
    · refine ⟨c, lo, k, [], P1, P2, [], B1, B2, by rw [kidOf, if_pos hk]; rfl, h1, within_iff.2 ⟨(within_iff.1 hx).1, .inr hk⟩, rfl, rfl, by simp, fun p hp => ?_⟩
      exact lt_nlt hk (within_iff.1 (KTr.within m r2 he' hw' h2 p hp)).1
    · have hk' : lt key k = false := by simpa using hk
      obtain ⟨c', lo', hi', Q1, Q2, Q3, C1, C2, C3, g1, g2, g3, g4, g5, g6, g7⟩ := KTr.at_key m (key := key) r2 he' hw' (within_iff.2 ⟨hk', (within_iff.1 hx).2⟩) h2
      refine ⟨c', lo', hi', P1 ++ Q1, Q2, Q3, B1 ++ C1, C2, C3, by rw [kidOf, if_neg hk, List.getElem?_cons_succ]; exact g1, g2, g3, by rw [g4, List.append_assoc], by rw [g5, List.append_assoc], fun p hp => ?_, g7⟩
      rcases List.mem_append.1 hp with hp | hp
      · rcases (within_iff.1 (m _ _ _ _ _ h1 p hp)).2 with h | h
        · exact absurd h (he k (by simp))
        · exact lt_nlt h hk'
      · exact g6 p hp
theorem leaf_get {key : ByteArray} : ∀ {ks vs : List ByteArray}, Rise ks → vs.length = ks.length → (if isAt ks key then ((vs[srch ks key]?).getD empS, (0 : Int)) else (empS, 80)) = refGet (ks.zip vs) key
  | [], _, _, _ => rfl
  | _ :: _, [], _, hl => by simp at hl
  | k :: ks, v :: vs, h, hl => by
    obtain ⟨h1, h2⟩ := List.pairwise_cons.1 h
    by_cases hk : lt k key = true
    · rw [isAt_cons hk, show srch (k :: ks) key = srch ks key + 1 by rw [srch, if_pos hk], List.getElem?_cons_succ, leaf_get h2 (by simpa using hl), List.zip_cons_cons, refGet, if_neg (lt_ne hk)]
    · have e : srch (k :: ks) key = 0 := by rw [srch, if_neg hk]
      have hk : lt k key = false := by simpa using hk
      rw [isAt, e, List.getElem?_cons_zero, List.getElem?_cons_zero, List.zip_cons_cons, refGet]
      rcases nlt_iff.1 hk with rfl | hx
      · rw [if_pos (by simp), if_pos rfl]; rfl
      · have hne : k ≠ key := fun e => by subst e; rw [lt_irr] at hx; cases hx
        rw [if_neg (by simpa using hne), if_neg hne]
        refine (refGet_no fun p hp => ?_).symm
        have := h1 _ (List.of_mem_zip (a := p.1) (b := p.2) hp).1
        exact fun e => by rw [e] at this; have := lt_trans hx this; rw [lt_irr] at this; cases this
theorem gtD_tr {w : Wd} {key : ByteArray} : ∀ {h f : Nat} {b : Int} {lo hi : ByteArray} {P : List Pr} {B : List Int},
    Tr (Hold w) h b (b == w.root) lo hi P B → B.Nodup → (∀ x ∈ B, x = w.root → x = b) → h ≤ f → within key lo hi = true → gtD w key f b = refGet P key
  | 0, _, _, _, _, _, _, h, _, _, _, _ => h.elim
  | h + 1, 0, _, _, _, _, _, _, _, _, hf, _ => by omega
  | h + 1, f + 1, b, lo, hi, P, B, ht, hn, hr, hf, hk => by
    obtain ⟨n, hh, hw, hx⟩ := ht
    have hok := hold_ok hh
    have hkk := hok.1.2.1
    rw [gtD, hh]
    dsimp only
    rcases hx with ⟨hl, rfl, hk0, rfl, rfl⟩ | ⟨hl, B', rfl, hx⟩
    · rw [hl, if_pos rfl]
      refine leaf_get (kok_rise hkk) ?_
      rcases hok.1.2.2 with ⟨_, _, h, _⟩ | ⟨h, _⟩
      · exact h
      · rw [hl] at h; cases h
    · rw [hl, if_neg (by simp), kidI_of hkk]
      obtain ⟨hnb, hn'⟩ := List.nodup_cons.1 hn
      obtain ⟨c, lo', hi', P1, P2, P3, B1, B2, B3, g1, g2, g3, rfl, rfl, g6, g7⟩ := KTr.at_key (key := key) (fun c lo hi P B hc => Tr.within (hold_hok w) hc) (kok_rise hkk) (kok_some hkk) hw hk hx
      rw [g1, refGet_right fun p hp => lt_ne (g6 p hp), refGet_left fun p hp e => lt_ne (g7 p hp) e.symm]
      have hn2 : B2.Nodup := (List.nodup_append.1 (List.nodup_append.1 hn').2.1).1
      have hsub : ∀ x ∈ B2, x ∈ B1 ++ (B2 ++ B3) := fun x hx => List.mem_append_right _ (List.mem_append_left _ hx)
      have hno : ∀ x ∈ B2, x ≠ w.root := fun x hx e => by
        have := hr x (List.mem_cons_of_mem _ (hsub x hx)) e
        subst this
        exact hnb (hsub _ hx)
      have hc := g2.root_mem
      refine gtD_tr (h := h) (f := f) (b := c) (lo := lo') (hi := hi') (B := B2) ?_ hn2 (fun x hx e => absurd e (hno x hx)) (by omega) g3
      rw [show (c == w.root) = false by simpa using hno c hc]
      exact g2
theorem within_all (key : ByteArray) : within key empS empS = true := within_iff.2 ⟨lt_nil key, .inl rfl⟩
/-- What a wood tells of a key, if it is a tree. -/
theorem getW_tree {w : Wd} {key : ByteArray} {h : Nat} {P : List Pr} {B : List Int} (hr : WRight w) (h1 : 1 ≤ key.size) (h2 : key.size ≤ 32) (ht : IsTree w h P B) : GetW w key = refGet P key := by
  rw [GetW, if_neg (by
    rintro (h | h | h)
    · exact h hr
    · omega
    · omega)]
  rcases ht with ⟨h0, rfl, rfl, rfl⟩ | ⟨h0, _, h8, ht, hn⟩
  · rw [if_pos h0]; rfl
  · rw [if_neg h0]
    refine gtD_tr (h := h) (lo := empS) (hi := empS) (B := B) (by rw [show (w.root == w.root) = true by simp]; exact ht) hn (fun x _ e => e) h8 (within_all key)
theorem gtD_cases (w : Wd) (key : ByteArray) : ∀ (f : Nat) (b : Int), (gtD w key f b).2 = 0 ∨ ((gtD w key f b).1 = empS ∧ ((gtD w key f b).2 = 80 ∨ (gtD w key f b).2 = 81))
  | 0, b => .inr ⟨rfl, .inr rfl⟩
  | f + 1, b => by
    rw [gtD]
    cases hh : Hold w b (b == w.root) with
    | none => exact .inr ⟨rfl, .inr rfl⟩
    | some n =>
      dsimp only
      split
      · split
        · exact .inl rfl
        · exact .inr ⟨rfl, .inl rfl⟩
      · exact gtD_cases w key f _
theorem getW_cases {w : Wd} {key : ByteArray} (hr : WRight w) (h1 : 1 ≤ key.size) (h2 : key.size ≤ 32) : (GetW w key).2 = 0 ∨ ((GetW w key).1 = empS ∧ ((GetW w key).2 = 80 ∨ (GetW w key).2 = 81)) := by
  rw [GetW, if_neg (by
    rintro (h | h | h)
    · exact h hr
    · omega
    · omega)]
  split
  · exact .inr ⟨rfl, .inl rfl⟩
  · exact gtD_cases w key 8 w.root
end Go.Proofs.YtmmnobdpccdeoaaGreatDoor.M
