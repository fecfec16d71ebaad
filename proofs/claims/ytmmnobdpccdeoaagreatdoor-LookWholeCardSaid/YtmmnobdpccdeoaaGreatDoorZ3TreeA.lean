import Derived.Test.YtmmnobdpccdeoaaGreatDoorZ3Look
namespace Go.Proofs.YtmmnobdpccdeoaaGreatDoor.M
set_option linter.unusedVariables false
set_option linter.unusedSimpArgs false
open Go Go.Mir
set_option linter.unusedVariables false

/-! Trees: plain, no program in sight. -/
abbrev Pr := ByteArray × ByteArray
abbrev Hd := Int → Bool → Option Nd
/-- All nodes that are held may stand. -/
def HOK (H : Hd) : Prop := ∀ b r n, H b r = some n → NdOK n r
theorem hold_hok (w : Wd) : HOK (Hold w) := fun _ _ _ h => hold_ok h
/-- Not below one key, and below another one (empty: no bound). -/
def within (k lo hi : ByteArray) : Bool := !(lt k lo) && (decide (hi = empS) || lt k hi)
theorem within_iff {k lo hi : ByteArray} : within k lo hi = true ↔ lt k lo = false ∧ (hi = empS ∨ lt k hi = true) := by
  unfold within
  simp only [Bool.and_eq_true, Bool.not_eq_true', Bool.or_eq_true, decide_eq_true_eq]
def KTr (R : Int → ByteArray → ByteArray → List Pr → List Int → Prop) : ByteArray → ByteArray → List ByteArray → List Int → List Pr → List Int → Prop
  | lo, hi, [], [c], P, B => R c lo hi P B
  | lo, hi, k :: ks, c :: cs, P, B => ∃ P1 B1 P2 B2, R c lo k P1 B1 ∧ KTr R k hi ks cs P2 B2 ∧ P = P1 ++ P2 ∧ B = B1 ++ B2
  | _, _, _, _, _, _ => False
/-- A tree of a height, below a block: its pairs and its blocks. -/
def Tr (H : Hd) : Nat → Int → Bool → ByteArray → ByteArray → List Pr → List Int → Prop
  | 0, _, _, _, _, _, _ => False
  | h + 1, b, root, lo, hi, P, B => ∃ n, H b root = some n ∧ (∀ k ∈ n.keys, within k lo hi = true) ∧
      ((n.leaf = true ∧ h = 0 ∧ n.keys ≠ [] ∧ P = n.keys.zip n.vals ∧ B = [b]) ∨
       (n.leaf = false ∧ ∃ B', B = b :: B' ∧ KTr (fun c lo hi P B => Tr H h c false lo hi P B) lo hi n.keys n.kids P B'))
theorem KTr.mono {R S : Int → ByteArray → ByteArray → List Pr → List Int → Prop} : ∀ {ks : List ByteArray} {cs : List Int} {lo hi : ByteArray} {P : List Pr} {B : List Int},
    (∀ c lo hi P B', (∀ x ∈ B', x ∈ B) → R c lo hi P B' → S c lo hi P B') → KTr R lo hi ks cs P B → KTr S lo hi ks cs P B
  | [], [], _, _, _, _, _, h => h
  | [], [c], lo, hi, P, B, m, h => m c lo hi P B (fun _ h => h) h
  | [], _ :: _ :: _, _, _, _, _, _, h => h
  | _ :: _, [], _, _, _, _, _, h => h
  | k :: ks, c :: cs, lo, hi, P, B, m, h => by
    obtain ⟨P1, B1, P2, B2, h1, h2, rfl, rfl⟩ := h
    exact ⟨P1, B1, P2, B2, m _ _ _ _ _ (fun x hx => List.mem_append_left _ hx) h1, KTr.mono (fun c lo hi P B' hB h => m c lo hi P B' (fun x hx => List.mem_append_right _ (hB x hx)) h) h2, rfl, rfl⟩
/-- A tree hangs on its own blocks alone. -/
theorem Tr.frame {H G : Hd} : ∀ {h : Nat} {b : Int} {root : Bool} {lo hi : ByteArray} {P : List Pr} {B : List Int},
    (∀ x ∈ B, ∀ r n, H x r = some n → G x r = some n) → Tr H h b root lo hi P B → Tr G h b root lo hi P B
  | 0, _, _, _, _, _, _, _, h => h
  | h + 1, b, root, lo, hi, P, B, f, ht => by
    obtain ⟨n, hn, hk, hh⟩ := ht
    rcases hh with ⟨h1, h2, h3, h4, rfl⟩ | ⟨h1, B', rfl, h2⟩
    · exact ⟨n, f b (by simp) _ _ hn, hk, .inl ⟨h1, h2, h3, h4, rfl⟩⟩
    · refine ⟨n, f b (by simp) _ _ hn, hk, .inr ⟨h1, B', rfl, KTr.mono (fun c lo hi P B'' hB hc => Tr.frame (fun x hx => f x (List.mem_cons_of_mem _ (hB x hx))) hc) h2⟩⟩
theorem KTr.one {R S : Int → ByteArray → ByteArray → List Pr → List Int → Prop} (m : ∀ c lo hi lo' hi' P B P' B', R c lo hi P B → S c lo' hi' P' B' → P = P' ∧ B = B') : ∀ {ks : List ByteArray} {cs : List Int} {lo hi lo' hi' : ByteArray} {P P' : List Pr} {B B' : List Int},
    KTr R lo hi ks cs P B → KTr S lo' hi' ks cs P' B' → P = P' ∧ B = B'
  | [], [], _, _, _, _, _, _, _, _, h, _ => h.elim
  | [], [c], lo, hi, _, _, P, P', B, B', h, h' => m _ _ _ _ _ _ _ _ _ h h'
  | [], _ :: _ :: _, _, _, _, _, _, _, _, _, h, _ => h.elim
  | _ :: _, [], _, _, _, _, _, _, _, _, h, _ => h.elim
  | k :: ks, c :: cs, lo, hi, _, _, P, P', B, B', h, h' => by
    obtain ⟨P1, B1, P2, B2, h1, h2, rfl, rfl⟩ := h
    obtain ⟨Q1, C1, Q2, C2, g1, g2, rfl, rfl⟩ := h'
    obtain ⟨rfl, rfl⟩ := m _ _ _ _ _ _ _ _ _ h1 g1
    obtain ⟨rfl, rfl⟩ := KTr.one m h2 g2
    exact ⟨rfl, rfl⟩
/-- What a tree's pairs and blocks are hangs on the block alone. -/
theorem Tr.one {H : Hd} : ∀ {h h' : Nat} {b : Int} {root : Bool} {lo hi lo' hi' : ByteArray} {P P' : List Pr} {B B' : List Int},
    Tr H h b root lo hi P B → Tr H h' b root lo' hi' P' B' → P = P' ∧ B = B'
  | 0, _, _, _, _, _, _, _, _, _, _, _, h, _ => h.elim
  | _, 0, _, _, _, _, _, _, _, _, _, _, _, h => h.elim
  | h + 1, h' + 1, b, root, lo, hi, lo', hi', P, P', B, B', ht, ht' => by
    obtain ⟨n, hn, _, hh⟩ := ht
    obtain ⟨n', hn', _, hh'⟩ := ht'
    rw [hn] at hn'
    obtain rfl : n = n' := by simpa using hn'
    rcases hh with ⟨h1, h2, h3, rfl, rfl⟩ | ⟨h1, C, rfl, h2⟩
    · rcases hh' with ⟨_, _, _, rfl, rfl⟩ | ⟨g1, _⟩
      · exact ⟨rfl, rfl⟩
      · rw [h1] at g1; cases g1
    · rcases hh' with ⟨g1, _⟩ | ⟨_, C', rfl, g2⟩
      · rw [h1] at g1; cases g1
      · obtain ⟨rfl, rfl⟩ := KTr.one (R := fun c lo hi P B => Tr H h c false lo hi P B) (S := fun c lo hi P B => Tr H h' c false lo hi P B) (fun c lo hi lo' hi' P B P' B' x y => Tr.one x y) h2 g2
        exact ⟨rfl, rfl⟩
theorem KTr.mem {R : Int → ByteArray → ByteArray → List Pr → List Int → Prop} {Q : Int → Prop} (m : ∀ c lo hi P B, R c lo hi P B → ∀ x ∈ B, Q x) : ∀ {ks : List ByteArray} {cs : List Int} {lo hi : ByteArray} {P : List Pr} {B : List Int},
    KTr R lo hi ks cs P B → ∀ x ∈ B, Q x
  | [], [], _, _, _, _, h => h.elim
  | [], [c], lo, hi, P, B, h => m _ _ _ _ _ h
  | [], _ :: _ :: _, _, _, _, _, h => h.elim
  | _ :: _, [], _, _, _, _, h => h.elim
  | k :: ks, c :: cs, lo, hi, P, B, h => by
    obtain ⟨P1, B1, P2, B2, h1, h2, rfl, rfl⟩ := h
    intro x hx
    rcases List.mem_append.1 hx with hx | hx
    · exact m _ _ _ _ _ h1 x hx
    · exact KTr.mem m h2 x hx
/-- Each block of a tree holds a node. -/
theorem Tr.held {H : Hd} : ∀ {h : Nat} {b : Int} {root : Bool} {lo hi : ByteArray} {P : List Pr} {B : List Int},
    Tr H h b root lo hi P B → ∀ x ∈ B, ∃ r n, H x r = some n
  | 0, _, _, _, _, _, _, h => h.elim
  | h + 1, b, root, lo, hi, P, B, ht => by
    obtain ⟨n, hn, _, hh⟩ := ht
    intro x hx
    rcases hh with ⟨_, _, _, _, rfl⟩ | ⟨_, C, rfl, h2⟩
    · obtain rfl : x = b := by simpa using hx
      exact ⟨_, _, hn⟩
    · rcases List.mem_cons.1 hx with rfl | hx
      · exact ⟨_, _, hn⟩
      · exact KTr.mem (Q := fun x => ∃ r n, H x r = some n) (fun c lo hi P B hc => Tr.held hc) h2 x hx
theorem Tr.root_mem {H : Hd} {h : Nat} {b : Int} {root : Bool} {lo hi : ByteArray} {P : List Pr} {B : List Int} (ht : Tr H h b root lo hi P B) : b ∈ B := by
  cases h with
  | zero => exact ht.elim
  | succ h =>
    obtain ⟨n, _, _, ⟨_, _, _, _, rfl⟩ | ⟨_, C, rfl, _⟩⟩ := ht
    · simp
    · simp
/-! Order. -/
theorem within_low {k a b c : ByteArray} (h : within k b c = true) (hab : lt b a = false) : within k a c = true := by
  obtain ⟨h1, h2⟩ := within_iff.1 h
  refine within_iff.2 ⟨?_, h2⟩
  rcases nlt_iff.1 hab with rfl | hab
  · exact h1
  · rcases nlt_iff.1 h1 with rfl | h1
    · exact lt_asym hab
    · exact lt_asym (lt_trans hab h1)
theorem within_high {k lo a hi : ByteArray} (h : within k lo a = true) (ha : a ≠ empS) (hah : within a lo hi = true) : within k lo hi = true := by
  obtain ⟨h1, h2⟩ := within_iff.1 h
  obtain ⟨_, g2⟩ := within_iff.1 hah
  refine within_iff.2 ⟨h1, ?_⟩
  rcases g2 with g2 | g2
  · exact .inl g2
  · rcases h2 with h2 | h2
    · exact absurd h2 ha
    · exact .inr (lt_trans h2 g2)
/-- Keys that rise, none empty. -/
def Rise (ks : List ByteArray) : Prop := ks.Pairwise (fun a b => lt a b = true)
theorem kok_rise {l : List ByteArray} (h : KOK l) : Rise l := List.pairwise_iff_getElem.2 fun i j hi hj hij => kok_mono h i j hi hj hij
theorem kok_some {l : List ByteArray} (h : KOK l) : ∀ k ∈ l, k ≠ empS := fun k hk e => by
  obtain ⟨i, hi, rfl⟩ := List.getElem_of_mem hk
  have := (h i hi hi).1
  rw [e] at this
  exact absurd this (by decide)
theorem lt_nil (k : ByteArray) : lt k empS = false := by
  unfold lt
  have : empS.toList = [] := by rw [toList_data]; rfl
  rw [this]
  cases k.toList <;> rfl
theorem KTr.within {R : Int → ByteArray → ByteArray → List Pr → List Int → Prop} (m : ∀ c lo hi P B, R c lo hi P B → ∀ p ∈ P, within p.1 lo hi = true) : ∀ {ks : List ByteArray} {cs : List Int} {lo hi : ByteArray} {P : List Pr} {B : List Int},
    Rise ks → (∀ k ∈ ks, k ≠ empS) → (∀ k ∈ ks, within k lo hi = true) → KTr R lo hi ks cs P B → ∀ p ∈ P, within p.1 lo hi = true
  | [], [], _, _, _, _, _, _, _, h => h.elim
  | [], [c], lo, hi, P, B, _, _, _, h => m _ _ _ _ _ h
  | [], _ :: _ :: _, _, _, _, _, _, _, _, h => h.elim
  | _ :: _, [], _, _, _, _, _, _, _, h => h.elim
  | k :: ks, c :: cs, lo, hi, P, B, hr, he, hw, h => by
    obtain ⟨P1, B1, P2, B2, h1, h2, rfl, rfl⟩ := h
    obtain ⟨r1, r2⟩ := List.pairwise_cons.1 hr
    have hk := hw k (by simp)
    intro p hp
    rcases List.mem_append.1 hp with hp | hp
    · exact within_high (m _ _ _ _ _ h1 p hp) (he k (by simp)) hk
    · have := KTr.within m r2 (fun k hk => he k (List.mem_cons_of_mem _ hk)) (fun x hx => within_iff.2 ⟨lt_asym (r1 x hx), (within_iff.1 (hw x (List.mem_cons_of_mem _ hx))).2⟩) h2 p hp
      exact within_low this (within_iff.1 hk).1
theorem zip_mem {n : Nd} {p : Pr} (h : p ∈ n.keys.zip n.vals) : p.1 ∈ n.keys := (List.of_mem_zip (a := p.1) (b := p.2) h).1
theorem Tr.within {H : Hd} (ho : HOK H) : ∀ {h : Nat} {b : Int} {root : Bool} {lo hi : ByteArray} {P : List Pr} {B : List Int},
    Tr H h b root lo hi P B → ∀ p ∈ P, within p.1 lo hi = true
  | 0, _, _, _, _, _, _, h => h.elim
  | h + 1, b, root, lo, hi, P, B, ht => by
    obtain ⟨n, hn, hw, hh⟩ := ht
    have hk := (ho _ _ _ hn).1.2.1
    rcases hh with ⟨_, _, _, rfl, _⟩ | ⟨_, C, rfl, h2⟩
    · exact fun p hp => hw _ (zip_mem hp)
    · exact KTr.within (fun c lo hi P B hc => Tr.within ho hc) (kok_rise hk) (kok_some hk) hw h2
/-- Pairs by rising keys. -/
def Inc (P : List Pr) : Prop := P.Pairwise (fun a b => lt a.1 b.1 = true)
theorem zip_inc : ∀ {ks vs : List ByteArray}, Rise ks → Inc (ks.zip vs)
  | [], _, _ => by simp [Inc]
  | _ :: _, [], _ => by simp [Inc]
  | k :: ks, v :: vs, h => by
    obtain ⟨h1, h2⟩ := List.pairwise_cons.1 h
    exact List.pairwise_cons.2 ⟨fun p hp => h1 _ (List.of_mem_zip (a := p.1) (b := p.2) hp).1, zip_inc h2⟩
theorem KTr.inc {R : Int → ByteArray → ByteArray → List Pr → List Int → Prop} (m : ∀ c lo hi P B, R c lo hi P B → ∀ p ∈ P, Go.Proofs.YtmmnobdpccdeoaaGreatDoor.M.within p.1 lo hi = true) (m2 : ∀ c lo hi P B, R c lo hi P B → Inc P) : ∀ {ks : List ByteArray} {cs : List Int} {lo hi : ByteArray} {P : List Pr} {B : List Int},
    Rise ks → (∀ k ∈ ks, k ≠ empS) → (∀ k ∈ ks, Go.Proofs.YtmmnobdpccdeoaaGreatDoor.M.within k lo hi = true) → KTr R lo hi ks cs P B → Inc P
  | [], [], _, _, _, _, _, _, _, h => h.elim
  | [], [c], lo, hi, P, B, _, _, _, h => m2 _ _ _ _ _ h
  | [], _ :: _ :: _, _, _, _, _, _, _, _, h => h.elim
  | _ :: _, [], _, _, _, _, _, _, _, h => h.elim
  | k :: ks, c :: cs, lo, hi, P, B, hr, he, hw, h => by
    obtain ⟨P1, B1, P2, B2, h1, h2, rfl, rfl⟩ := h
    obtain ⟨r1, r2⟩ := List.pairwise_cons.1 hr
    have he' : ∀ k ∈ ks, k ≠ empS := fun k hk => he k (List.mem_cons_of_mem _ hk)
    have hw' : ∀ x ∈ ks, Go.Proofs.YtmmnobdpccdeoaaGreatDoor.M.within x k hi = true := fun x hx => within_iff.2 ⟨lt_asym (r1 x hx), (within_iff.1 (hw x (List.mem_cons_of_mem _ hx))).2⟩
    refine List.pairwise_append.2 ⟨m2 _ _ _ _ _ h1, KTr.inc m m2 r2 he' hw' h2, fun p hp q hq => ?_⟩
    have hp := (within_iff.1 (m _ _ _ _ _ h1 p hp)).2
    have hq := (within_iff.1 (KTr.within m r2 he' hw' h2 q hq)).1
    rcases hp with hp | hp
    · exact absurd hp (he k (by simp))
    · exact lt_nlt hp hq
theorem Tr.inc {H : Hd} (ho : HOK H) : ∀ {h : Nat} {b : Int} {root : Bool} {lo hi : ByteArray} {P : List Pr} {B : List Int},
    Tr H h b root lo hi P B → Inc P
  | 0, _, _, _, _, _, _, h => h.elim
  | h + 1, b, root, lo, hi, P, B, ht => by
    obtain ⟨n, hn, hw, hh⟩ := ht
    have hk := (ho _ _ _ hn).1.2.1
    rcases hh with ⟨_, _, _, rfl, _⟩ | ⟨_, C, rfl, h2⟩
    · exact zip_inc (kok_rise hk)
    · exact KTr.inc (fun c lo hi P B hc => Tr.within ho hc) (fun c lo hi P B hc => Tr.inc ho hc) (kok_rise hk) (kok_some hk) hw h2

/-! Gone through as the document does. -/
structure TS where
  ps : List Pr
  bs : List Int
  he : Int
  bad : Bool
def ts0 : TS := ⟨[], [], 0, false⟩
def kidsB (f : Int → ByteArray → ByteArray → TS → TS) : ByteArray → ByteArray → List ByteArray → List Int → TS → TS
  | _, _, _, [], t => t
  | lo, hi, [], c :: cs, t => kidsB f hi hi [] cs (if t.bad then t else f c lo hi t)
  | lo, hi, k :: ks, c :: cs, t => kidsB f k hi ks cs (if t.bad then t else f c lo k t)
def offK (n : Nd) (lo hi : ByteArray) : Bool := n.keys.any fun k => !(within k lo hi)
def below (H : Hd) : Nat → Int → Int → ByteArray → ByteArray → TS → TS
  | 0, _, _, _, _, t => { t with bad := true }
  | f + 1, b, d, lo, hi, t =>
    if b ∈ t.bs ∨ t.bad = true then { t with bad := true } else
    match H b (d == 1) with
    | none => { t with bad := true }
    | some n => if d > 8 ∨ (n.leaf = true ∧ n.keys = []) then { t with bad := true } else
      if n.leaf then ⟨t.ps ++ n.keys.zip n.vals, t.bs ++ [b], d, offK n lo hi || (t.he != 0 && t.he != d)⟩
      else kidsB (fun c lo hi t => below H f c (d + 1) lo hi t) lo hi n.keys n.kids ⟨t.ps, t.bs ++ [b], t.he, offK n lo hi⟩
theorem kidsB_bad {f : Int → ByteArray → ByteArray → TS → TS} : ∀ {ks : List ByteArray} {cs : List Int} {lo hi : ByteArray} {t : TS}, t.bad = true → kidsB f lo hi ks cs t = t
  | _, [], _, _, _, _ => by cases ‹List ByteArray› <;> rfl
  | [], c :: cs, lo, hi, t, h => by rw [kidsB, if_pos h]; exact kidsB_bad h
  | k :: ks, c :: cs, lo, hi, t, h => by rw [kidsB, if_pos h]; exact kidsB_bad h
/-- What a part of a tree adds. 'D': how deep its leaves are. -/
structure Adds (t t' : TS) (P : List Pr) (B : List Int) (D : Int) : Prop where
  eq : t' = ⟨t.ps ++ P, t.bs ++ B, D, false⟩
  he : t.he = 0 ∨ t.he = D
  nd : t.bs.Nodup → (t.bs ++ B).Nodup
  pos : 1 ≤ D ∧ D ≤ 8
theorem kidsB_sound {H : Hd} {d : Int} {f : Int → ByteArray → ByteArray → TS → TS}
    (ih : ∀ c lo hi t, (f c lo hi t).bad = false → t.bad = false ∧ ∃ (h : Nat) (P : List Pr) (B : List Int), Tr H h c false lo hi P B ∧ Adds t (f c lo hi t) P B (d + h)) :
    ∀ {ks : List ByteArray} {cs : List Int} {lo hi : ByteArray} {t : TS}, cs.length = ks.length + 1 → (kidsB f lo hi ks cs t).bad = false →
      t.bad = false ∧ ∃ (h : Nat) (P : List Pr) (B : List Int), KTr (fun c lo hi P B => Tr H h c false lo hi P B) lo hi ks cs P B ∧ Adds t (kidsB f lo hi ks cs t) P B (d + h)
  | ks, [], _, _, _, hl, _ => by simp at hl
  | [], [c], lo, hi, t, _, hb => by
    simp only [kidsB] at hb ⊢
    by_cases ht : t.bad = true
    · rw [if_pos ht] at hb; rw [ht] at hb; cases hb
    · rw [if_neg ht] at hb ⊢
      obtain ⟨h1, h, P, B, h2, h3⟩ := ih _ _ _ _ hb
      exact ⟨h1, h, P, B, h2, h3⟩
  | [], _ :: _ :: _, _, _, _, hl, _ => by simp at hl
  | k :: ks, c :: cs, lo, hi, t, hl, hb => by
    simp only [kidsB] at hb ⊢
    by_cases ht : t.bad = true
    · rw [if_pos ht, kidsB_bad ht, ht] at hb; cases hb
    · rw [if_neg ht] at hb ⊢
      obtain ⟨g1, h', P2, B2, g2, g3⟩ := kidsB_sound ih (by simpa using hl) hb
      obtain ⟨h1, h, P1, B1, h2, h3⟩ := ih _ _ _ _ g1
      have hp := h3.pos
      have e : d + (h : Int) = d + h' := by
        have := g3.he
        rw [h3.eq] at this
        simp only at this
        omega
      obtain rfl : h = h' := by omega
      refine ⟨h1, h, P1 ++ P2, B1 ++ B2, ⟨P1, B1, P2, B2, h2, g2, rfl, rfl⟩, ⟨?_, h3.he, fun hn => ?_, hp⟩⟩
      · rw [g3.eq, h3.eq]; simp only [List.append_assoc]
      · have := g3.nd (by rw [h3.eq]; exact h3.nd hn)
        rw [h3.eq] at this
        simpa only [List.append_assoc] using this
theorem below_sound {H : Hd} (ho : HOK H) : ∀ (f : Nat) (b d : Int) (lo hi : ByteArray) (t : TS), 1 ≤ d → (below H f b d lo hi t).bad = false →
    t.bad = false ∧ ∃ (h : Nat) (P : List Pr) (B : List Int), Tr H h b (d == 1) lo hi P B ∧ Adds t (below H f b d lo hi t) P B (d - 1 + h)
  | 0, b, d, lo, hi, t, _, hb => by cases hb
  | f + 1, b, d, lo, hi, t, hd, hb => by
    unfold below at hb ⊢
    by_cases h1 : b ∈ t.bs ∨ t.bad = true
    · rw [if_pos h1] at hb; cases hb
    rw [if_neg h1] at hb ⊢
    have hnb : b ∉ t.bs := fun h => h1 (.inl h)
    have htb : t.bad = false := by cases h : t.bad with | false => rfl | true => exact absurd (.inr h) h1
    have ndb : t.bs.Nodup → (t.bs ++ [b]).Nodup := fun hn => List.nodup_append.2 ⟨hn, by simp, fun x hx y hy => by
      obtain rfl : y = b := by simpa using hy
      rintro rfl; exact hnb hx⟩
    cases hh : H b (d == 1) with
    | none => rw [hh] at hb; cases hb
    | some n =>
      rw [hh] at hb
      dsimp only at hb ⊢
      by_cases h2 : d > 8 ∨ (n.leaf = true ∧ n.keys = [])
      · rw [if_pos h2] at hb; cases hb
      rw [if_neg h2] at hb ⊢
      have hok := ho _ _ _ hh
      cases hl : n.leaf with
      | true =>
        rw [hl] at hb
        simp only [if_true, Bool.or_eq_false_iff, Bool.and_eq_false_iff, bne_eq_false_iff_eq] at hb ⊢
        have hw : ∀ k ∈ n.keys, within k lo hi = true := fun k hk => by
          have := List.any_eq_false.1 hb.1 k hk
          simpa using this
        refine ⟨htb, 1, n.keys.zip n.vals, [b], ⟨n, hh, hw, .inl ⟨hl, rfl, fun h => h2 (.inr ⟨hl, h⟩), rfl, rfl⟩⟩, ⟨?_, ?_, ndb, by omega⟩⟩
        · congr 1
          · simp
          · rw [Bool.or_eq_false_iff, Bool.and_eq_false_iff]
            exact ⟨hb.1, by simpa using hb.2⟩
        · rcases hb.2 with h | h
          · exact .inl h
          · exact .inr (by simp; exact h)
      | false =>
        rw [hl] at hb
        simp only [Bool.false_eq_true, if_false] at hb ⊢
        have hkl : n.kids.length = n.keys.length + 1 := by
          rcases hok.1.2.2 with ⟨h, _⟩ | ⟨_, _, _, h, _⟩
          · rw [hl] at h; cases h
          · exact h
        obtain ⟨g1, h, P, B, g2, g3⟩ := kidsB_sound (H := H) (d := d) (fun c lo hi t hb => by
          obtain ⟨x1, h, P, B, x2, x3⟩ := below_sound ho f c (d + 1) lo hi t (by omega) hb
          have e : (d + 1 == 1) = false := by simp; omega
          rw [e] at x2
          rw [show d + 1 - 1 + (h : Int) = d + h by omega] at x3
          exact ⟨x1, h, P, B, x2, x3⟩) hkl hb
        have hoff : offK n lo hi = false := g1
        have hw : ∀ k ∈ n.keys, within k lo hi = true := fun k hk => by
          have := List.any_eq_false.1 hoff k hk
          simpa using this
        have e : d - 1 + ((h + 1 : Nat) : Int) = d + h := by omega
        refine ⟨htb, h + 1, P, b :: B, ⟨n, hh, hw, .inr ⟨hl, B, rfl, g2⟩⟩, ?_⟩
        rw [e]
        refine ⟨?_, g3.he, fun hn => ?_, g3.pos⟩
        · rw [g3.eq]; simp
        · have := g3.nd (ndb hn)
          simpa using this
theorem kidsB_full {H : Hd} {d : Int} {h : Nat} {f : Int → ByteArray → ByteArray → TS → TS}
    (ih : ∀ c lo hi t P B, Tr H h c false lo hi P B → t.bad = false → (t.bs ++ B).Nodup → (t.he = 0 ∨ t.he = d + h) → f c lo hi t = ⟨t.ps ++ P, t.bs ++ B, d + h, false⟩) :
    ∀ {ks : List ByteArray} {cs : List Int} {lo hi : ByteArray} {t : TS} {P : List Pr} {B : List Int}, KTr (fun c lo hi P B => Tr H h c false lo hi P B) lo hi ks cs P B → t.bad = false → (t.bs ++ B).Nodup → (t.he = 0 ∨ t.he = d + h) →
      kidsB f lo hi ks cs t = ⟨t.ps ++ P, t.bs ++ B, d + h, false⟩
  | [], [], _, _, _, _, _, hk, _, _, _ => hk.elim
  | [], [c], lo, hi, t, P, B, hk, hb, hn, he => by
    simp only [kidsB, hb, Bool.false_eq_true, if_false]
    exact ih _ _ _ _ _ _ hk hb hn he
  | [], _ :: _ :: _, _, _, _, _, _, hk, _, _, _ => hk.elim
  | _ :: _, [], _, _, _, _, _, hk, _, _, _ => hk.elim
  | k :: ks, c :: cs, lo, hi, t, P, B, hk, hb, hn, he => by
    obtain ⟨P1, B1, P2, B2, h1, h2, rfl, rfl⟩ := hk
    rw [← List.append_assoc] at hn
    simp only [kidsB, hb, Bool.false_eq_true, if_false]
    rw [ih _ _ _ _ _ _ h1 hb (List.nodup_append.1 hn).1 he, kidsB_full ih h2 rfl hn (.inr rfl)]
    simp only [List.append_assoc]
theorem below_full {H : Hd} : ∀ (f h : Nat) (b d : Int) (lo hi : ByteArray) (t : TS) (P : List Pr) (B : List Int), Tr H h b (d == 1) lo hi P B → 1 ≤ d → d - 1 + h ≤ 8 → h ≤ f → t.bad = false → (t.bs ++ B).Nodup → (t.he = 0 ∨ t.he = d - 1 + h) →
    below H f b d lo hi t = ⟨t.ps ++ P, t.bs ++ B, d - 1 + h, false⟩
  | f, 0, b, d, lo, hi, t, P, B, ht, _, _, _, _, _, _ => ht.elim
  | 0, h + 1, b, d, lo, hi, t, P, B, ht, _, _, hf, _, _, _ => by omega
  | f + 1, h + 1, b, d, lo, hi, t, P, B, ht, hd, h8, hf, hb, hn, he => by
    have hb0 : b ∈ B := ht.root_mem
    obtain ⟨n, hh, hw, hx⟩ := ht
    have hnb : b ∉ t.bs := fun h => (List.nodup_append.1 hn).2.2 b h b hb0 rfl
    have hoff : offK n lo hi = false := List.any_eq_false.2 fun k hk => by rw [hw k hk]; simp
    unfold below
    rw [if_neg (by rw [hb]; simpa using hnb), hh]
    dsimp only
    rcases hx with ⟨hl, rfl, hk, rfl, rfl⟩ | ⟨hl, B', rfl, hk⟩
    · rw [if_neg (by
        rintro (h | h)
        · omega
        · exact hk h.2), hl, if_pos rfl, hoff]
      have e : (t.he != 0 && t.he != d) = false := by
        rcases he with he | he
        · rw [he]; rfl
        · rw [show t.he = d by simpa using he]; simp
      rw [e]
      congr 1
      simp
    · rw [if_neg (by
        rintro (h | h)
        · omega
        · rw [hl] at h; cases h.1), hl, if_neg (by simp), hoff]
      have e : d - 1 + ((h + 1 : Nat) : Int) = d + h := by omega
      rw [e] at he ⊢
      have hq := kidsB_full (H := H) (d := d) (h := h) (f := fun c lo hi t => below H f c (d + 1) lo hi t) (fun c lo hi t P B hc hb hn he => by
        have e2 : (d + 1 == 1) = false := by simp; omega
        have := below_full f h c (d + 1) lo hi t P B (by rw [e2]; exact hc) (by omega) (by omega) (by omega) hb hn (by rw [show d + 1 - 1 + (h : Int) = d + h by omega]; exact he)
        rw [show d + 1 - 1 + (h : Int) = d + h by omega] at this
        exact this) (t := ⟨t.ps, t.bs ++ [b], t.he, false⟩) hk rfl (by simpa using hn) he
      rw [hq]
      simp
/-- A wood's tree. -/
noncomputable def treeW (w : Wd) : TS := if w.root = 0 then ts0 else below (Hold w) 9 w.root 1 empS empS ts0
/-- Is a wood a tree, of this height, these pairs, these blocks? -/
def IsTree (w : Wd) (h : Nat) (P : List Pr) (B : List Int) : Prop :=
  (w.root = 0 ∧ h = 0 ∧ P = [] ∧ B = []) ∨ (w.root ≠ 0 ∧ 1 ≤ h ∧ h ≤ 8 ∧ Tr (Hold w) h w.root true empS empS P B ∧ B.Nodup)
theorem tree_sound {w : Wd} (hb : (treeW w).bad = false) : ∃ h P B, IsTree w h P B ∧ treeW w = ⟨P, B, h, false⟩ := by
  unfold treeW at hb ⊢
  by_cases h0 : w.root = 0
  · rw [if_pos h0]; exact ⟨0, [], [], .inl ⟨h0, rfl, rfl, rfl⟩, rfl⟩
  · rw [if_neg h0] at hb ⊢
    obtain ⟨_, h, P, B, ht, ha⟩ := below_sound (hold_hok w) 9 w.root 1 empS empS ts0 (by omega) hb
    have hp := ha.pos
    have e : (1 : Int) - 1 + h = h := by omega
    rw [e] at ha hp
    refine ⟨h, P, B, .inr ⟨h0, by omega, by omega, ht, ?_⟩, ?_⟩
    · have := ha.nd (by simp [ts0])
      simpa [ts0] using this
    · rw [ha.eq]; simp [ts0]
theorem tree_full {w : Wd} {h : Nat} {P : List Pr} {B : List Int} (ht : IsTree w h P B) : treeW w = ⟨P, B, h, false⟩ := by
  unfold treeW
  rcases ht with ⟨h0, rfl, rfl, rfl⟩ | ⟨h0, h1, h8, ht, hn⟩
  · rw [if_pos h0]; rfl
  · rw [if_neg h0, below_full 9 h w.root 1 empS empS ts0 P B ht (by omega) (by omega) (by omega) rfl (by simpa [ts0] using hn) (.inl rfl)]
    simp [ts0]
end Go.Proofs.YtmmnobdpccdeoaaGreatDoor.M
