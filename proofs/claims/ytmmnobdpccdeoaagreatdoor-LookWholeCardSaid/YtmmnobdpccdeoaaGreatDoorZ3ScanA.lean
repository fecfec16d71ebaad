import Derived.Test.YtmmnobdpccdeoaaGreatDoorZ3TreeB
namespace Go.Proofs.YtmmnobdpccdeoaaGreatDoor.M
set_option linter.unusedVariables false
set_option linter.unusedSimpArgs false
open Go Go.Mir
set_option linter.unusedVariables false

/-! Scanning: plain. -/
structure SC where
  se : Int
  out : List Pr
  nx : ByteArray
  full : Bool
  bad : Bool
def sc0 : SC := ⟨0, [], empS, false, false⟩
/-- Is the last of what was taken below a key? -/
def lastLt (out : List Pr) (key : ByteArray) : Bool := match out.getLast? with
  | none => true
  | some p => lt p.1 key
def takeS (fr : ByteArray) (mo : Int) (s : SC) (p : Pr) : SC :=
  if s.full = true ∨ lt p.1 fr = true then s
  else if lastLt s.out p.1 = false then { s with bad := true }
  else if (s.out.length : Int) = mo then { s with full := true, nx := p.1 }
  else { s with out := s.out ++ [p] }
def takesS (fr : ByteArray) (mo : Int) (s : SC) (l : List Pr) : SC := l.foldl (takeS fr mo) s
def kidsS (g : Int → SC → SC) : List Int → SC → SC
  | [], s => s
  | c :: cs, s => if s.full = true ∨ s.bad = true then s else kidsS g cs (g c s)
def walkS (H : Hd) (N : Int) (fr : ByteArray) (mo : Int) : Nat → Int → Int → SC → SC
  | 0, _, _, s => { s with se := s.se + 1, bad := true }
  | f + 1, b, d, s => match H b (d == 1) with
    | none => { s with se := s.se + 1, bad := true }
    | some n => if d > 8 ∨ s.se + 1 > N then { s with se := s.se + 1, bad := true }
      else if n.leaf then takesS fr mo { s with se := s.se + 1 } (n.keys.zip n.vals)
      else kidsS (fun c s => walkS H N fr mo f c (d + 1) s) (n.kids.drop (kidI n fr)) { s with se := s.se + 1 }
theorem takeS_se (fr : ByteArray) (mo : Int) (s : SC) (p : Pr) : (takeS fr mo s p).se = s.se := by
  unfold takeS
  split
  · rfl
  split
  · rfl
  split
  · rfl
  · rfl
theorem takesS_se (fr : ByteArray) (mo : Int) : ∀ (l : List Pr) (s : SC), (takesS fr mo s l).se = s.se
  | [], s => rfl
  | p :: l, s => by rw [takesS, List.foldl_cons, ← takesS, takesS_se fr mo l, takeS_se]
theorem takesS_app (fr : ByteArray) (mo : Int) (s : SC) (l r : List Pr) : takesS fr mo s (l ++ r) = takesS fr mo (takesS fr mo s l) r := by
  unfold takesS; rw [List.foldl_append]
theorem takesS_full (fr : ByteArray) (mo : Int) : ∀ (l : List Pr) (s : SC), s.full = true → takesS fr mo s l = s
  | [], s, _ => rfl
  | p :: l, s, h => by
    rw [takesS, List.foldl_cons, ← takesS, show takeS fr mo s p = s by rw [takeS, if_pos (.inl h)]]
    exact takesS_full fr mo l s h
theorem takesS_low (fr : ByteArray) (mo : Int) : ∀ (l : List Pr) (s : SC), (∀ p ∈ l, lt p.1 fr = true) → takesS fr mo s l = s
  | [], s, _ => rfl
  | p :: l, s, h => by
    rw [takesS, List.foldl_cons, ← takesS, show takeS fr mo s p = s by rw [takeS, if_pos (.inr (h p (by simp)))]]
    exact takesS_low fr mo l s fun q hq => h q (List.mem_cons_of_mem _ hq)
theorem lastLt_of {out : List Pr} {key : ByteArray} (h : ∀ p ∈ out, lt p.1 key = true) : lastLt out key = true := by
  unfold lastLt
  cases hx : out.getLast? with
  | none => rfl
  | some p => exact h p (List.mem_of_getLast? hx)
/-- What is taken of rising pairs behind what was taken. -/
theorem takeS_rise {fr : ByteArray} {mo : Int} {s : SC} {p : Pr} (hb : s.bad = false) (ho : ∀ q ∈ s.out, lt q.1 p.1 = true) : (takeS fr mo s p).bad = false ∧ ∀ q ∈ (takeS fr mo s p).out, q ∈ s.out ∨ q = p := by
  unfold takeS
  split
  · exact ⟨hb, fun q hq => .inl hq⟩
  rw [if_neg (by rw [lastLt_of ho]; simp)]
  split
  · exact ⟨hb, fun q hq => .inl hq⟩
  · exact ⟨hb, fun q hq => by simpa using hq⟩
theorem takesS_rise {fr : ByteArray} {mo : Int} : ∀ {l : List Pr} {s : SC}, s.bad = false → Inc l → (∀ q ∈ s.out, ∀ p ∈ l, lt q.1 p.1 = true) → (takesS fr mo s l).bad = false ∧ ∀ q ∈ (takesS fr mo s l).out, q ∈ s.out ∨ q ∈ l
  | [], s, hb, _, _ => ⟨hb, fun q hq => .inl hq⟩
  | p :: l, s, hb, hi, ho => by
    obtain ⟨i1, i2⟩ := List.pairwise_cons.1 hi
    obtain ⟨h1, h2⟩ := takeS_rise (fr := fr) (mo := mo) hb (fun q hq => ho q hq p (by simp))
    obtain ⟨h3, h4⟩ := takesS_rise (fr := fr) (mo := mo) (l := l) h1 i2 (fun q hq r hr => by
      rcases h2 q hq with h | rfl
      · exact ho q h r (List.mem_cons_of_mem _ hr)
      · exact i1 r hr)
    rw [takesS, List.foldl_cons, ← takesS]
    refine ⟨h3, fun q hq => ?_⟩
    rcases h4 q hq with h | h
    · rcases h2 q h with h | rfl
      · exact .inl h
      · exact .inr (by simp)
    · exact .inr (List.mem_cons_of_mem _ h)
/-- The same but for how much was seen. -/
def Same (r s : SC) : Prop := r.out = s.out ∧ r.nx = s.nx ∧ r.full = s.full ∧ r.bad = s.bad
theorem takeS_same {fr : ByteArray} {mo : Int} {r s : SC} {p : Pr} (h : Same r s) : Same (takeS fr mo r p) (takeS fr mo s p) := by
  obtain ⟨h1, h2, h3, h4⟩ := h
  unfold takeS
  rw [h1, h3]
  split
  · exact ⟨h1, h2, h3, h4⟩
  split
  · exact ⟨rfl, h2, rfl, rfl⟩
  split
  · exact ⟨rfl, rfl, rfl, h4⟩
  · exact ⟨rfl, h2, rfl, h4⟩
theorem takesS_same {fr : ByteArray} {mo : Int} : ∀ {l : List Pr} {r s : SC}, Same r s → Same (takesS fr mo r l) (takesS fr mo s l)
  | [], _, _, h => h
  | p :: l, r, s, h => by
    show Same (takesS fr mo (takeS fr mo r p) l) (takesS fr mo (takeS fr mo s p) l)
    exact takesS_same (takeS_same h)
theorem Same.trans {a b c : SC} (h : Same a b) (g : Same b c) : Same a c := ⟨h.1.trans g.1, h.2.1.trans g.2.1, h.2.2.1.trans g.2.2.1, h.2.2.2.trans g.2.2.2⟩
theorem Same.refl (a : SC) : Same a a := ⟨rfl, rfl, rfl, rfl⟩
/-- What a walk does of a part of a tree. -/
def Does (fr : ByteArray) (mo : Int) (s r : SC) (P : List Pr) (n : Nat) : Prop := Same r (takesS fr mo s P) ∧ s.se ≤ r.se ∧ r.se ≤ s.se + n
theorem kidsS_all {R : Int → ByteArray → ByteArray → List Pr → List Int → Prop} {g : Int → SC → SC} {fr : ByteArray} {mo N : Int}
    (mw : ∀ c lo hi P B, R c lo hi P B → ∀ p ∈ P, within p.1 lo hi = true) (mi : ∀ c lo hi P B, R c lo hi P B → Inc P)
    (ih : ∀ c lo hi P B s, R c lo hi P B → s.bad = false → 0 ≤ s.se → s.se + B.length ≤ N → (∀ q ∈ s.out, ∀ p ∈ P, lt q.1 p.1 = true) → Does fr mo s (g c s) P B.length) :
    ∀ {ks : List ByteArray} {cs : List Int} {lo hi : ByteArray} {P : List Pr} {B : List Int} {s : SC}, Rise ks → (∀ k ∈ ks, k ≠ empS) → (∀ k ∈ ks, within k lo hi = true) → KTr R lo hi ks cs P B → s.bad = false → 0 ≤ s.se → s.se + B.length ≤ N → (∀ q ∈ s.out, ∀ p ∈ P, lt q.1 p.1 = true) →
      Does fr mo s (kidsS g cs s) P B.length
  | [], [], _, _, _, _, _, _, _, _, h, _, _, _, _ => h.elim
  | [], [c], lo, hi, P, B, s, _, _, _, h, hb, h0, hN, ho => by
    rw [kidsS]
    by_cases hf : s.full = true
    · rw [if_pos (.inl hf)]
      exact ⟨by rw [takesS_full fr mo P s hf]; exact Same.refl s, by omega, by omega⟩
    · rw [if_neg (by rw [hb]; simpa using hf), kidsS]
      exact ih _ _ _ _ _ _ h hb h0 hN ho
  | [], _ :: _ :: _, _, _, _, _, _, _, _, _, h, _, _, _, _ => h.elim
  | _ :: _, [], _, _, _, _, _, _, _, _, h, _, _, _, _ => h.elim
  | k :: ks, c :: cs, lo, hi, P, B, s, hr, he, hw, h, hb, h0, hN, ho => by
    obtain ⟨P1, B1, P2, B2, h1, h2, rfl, rfl⟩ := h
    obtain ⟨r1, r2⟩ := List.pairwise_cons.1 hr
    have he' : ∀ k ∈ ks, k ≠ empS := fun k hk => he k (List.mem_cons_of_mem _ hk)
    have hw' : ∀ x ∈ ks, within x k hi = true := fun x hx => within_iff.2 ⟨lt_asym (r1 x hx), (within_iff.1 (hw x (List.mem_cons_of_mem _ hx))).2⟩
    rw [kidsS]
    by_cases hf : s.full = true
    · rw [if_pos (.inl hf)]
      exact ⟨by rw [takesS_full fr mo _ s hf]; exact Same.refl s, by omega, by omega⟩
    · rw [if_neg (by rw [hb]; simpa using hf)]
      rw [List.length_append] at hN ⊢
      obtain ⟨d1, d2, d3⟩ := ih _ _ _ _ _ s h1 hb h0 (by omega) (fun q hq p hp => ho q hq p (List.mem_append_left _ hp))
      obtain ⟨t1, t2⟩ := takesS_rise (fr := fr) (mo := mo) hb (mi _ _ _ _ _ h1) (fun q hq p hp => ho q hq p (List.mem_append_left _ hp))
      have hlow : ∀ q ∈ P1, ∀ p ∈ P2, lt q.1 p.1 = true := fun q hq p hp => by
        have hp' := (within_iff.1 (KTr.within mw r2 he' hw' h2 p hp)).1
        rcases (within_iff.1 (mw _ _ _ _ _ h1 q hq)).2 with h | h
        · exact absurd h (he k (by simp))
        · exact lt_nlt h hp'
      obtain ⟨e1, e2, e3⟩ := kidsS_all (N := N) mw mi ih (s := g c s) r2 he' hw' h2 (by rw [d1.2.2.2]; exact t1) (by omega) (by omega) (fun q hq p hp => by
        rw [d1.1] at hq
        rcases t2 q hq with h | h
        · exact ho q h p (List.mem_append_right _ hp)
        · exact hlow q h p hp)
      refine ⟨?_, by omega, by omega⟩
      rw [takesS_app]
      exact e1.trans (takesS_same d1)
theorem kidsS_from {R : Int → ByteArray → ByteArray → List Pr → List Int → Prop} {g : Int → SC → SC} {fr : ByteArray} {mo N : Int}
    (mw : ∀ c lo hi P B, R c lo hi P B → ∀ p ∈ P, within p.1 lo hi = true) (mi : ∀ c lo hi P B, R c lo hi P B → Inc P)
    (ih : ∀ c lo hi P B s, R c lo hi P B → s.bad = false → 0 ≤ s.se → s.se + B.length ≤ N → (∀ q ∈ s.out, ∀ p ∈ P, lt q.1 p.1 = true) → Does fr mo s (g c s) P B.length) :
    ∀ {ks : List ByteArray} {cs : List Int} {lo hi : ByteArray} {P : List Pr} {B : List Int} {s : SC}, Rise ks → (∀ k ∈ ks, k ≠ empS) → (∀ k ∈ ks, within k lo hi = true) → KTr R lo hi ks cs P B → s.bad = false → 0 ≤ s.se → s.se + B.length ≤ N → (∀ q ∈ s.out, ∀ p ∈ P, lt q.1 p.1 = true) →
      Does fr mo s (kidsS g (cs.drop (kidOf ks fr)) s) P B.length
  | [], cs, _, _, _, _, _, hr, he, hw, h, hb, h0, hN, ho => by
    rw [kidOf, List.drop_zero]; exact kidsS_all mw mi ih hr he hw h hb h0 hN ho
  | _ :: _, [], _, _, _, _, _, _, _, _, h, _, _, _, _ => h.elim
  | k :: ks, c :: cs, lo, hi, P, B, s, hr, he, hw, h, hb, h0, hN, ho => by
    by_cases hk : lt fr k = true
    · rw [kidOf, if_pos hk, List.drop_zero]; exact kidsS_all mw mi ih hr he hw h hb h0 hN ho
    · obtain ⟨P1, B1, P2, B2, h1, h2, rfl, rfl⟩ := h
      obtain ⟨r1, r2⟩ := List.pairwise_cons.1 hr
      have he' : ∀ k ∈ ks, k ≠ empS := fun k hk => he k (List.mem_cons_of_mem _ hk)
      have hw' : ∀ x ∈ ks, within x k hi = true := fun x hx => within_iff.2 ⟨lt_asym (r1 x hx), (within_iff.1 (hw x (List.mem_cons_of_mem _ hx))).2⟩
      rw [kidOf, if_neg hk, List.drop_succ_cons]
      rw [List.length_append] at hN ⊢
      obtain ⟨e1, e2, e3⟩ := kidsS_from mw mi ih (s := s) r2 he' hw' h2 hb h0 (by omega) (fun q hq p hp => ho q hq p (List.mem_append_right _ hp))
      refine ⟨?_, by omega, by omega⟩
      rw [takesS_app, takesS_low fr mo P1 s fun p hp => ?_]
      · exact e1
      · rcases (within_iff.1 (mw _ _ _ _ _ h1 p hp)).2 with h | h
        · exact absurd h (he k (by simp))
        · exact lt_nlt h (by simpa using hk)
theorem walkS_tr {H : Hd} (ho : HOK H) {N : Int} {fr : ByteArray} {mo : Int} : ∀ {h f : Nat} {b d : Int} {lo hi : ByteArray} {P : List Pr} {B : List Int} {s : SC},
    Tr H h b (d == 1) lo hi P B → 1 ≤ d → d - 1 + h ≤ 8 → h ≤ f → s.bad = false → 0 ≤ s.se → s.se + B.length ≤ N → (∀ q ∈ s.out, ∀ p ∈ P, lt q.1 p.1 = true) →
      Does fr mo s (walkS H N fr mo f b d s) P B.length
  | 0, _, _, _, _, _, _, _, _, h, _, _, _, _, _, _, _ => h.elim
  | h + 1, 0, _, _, _, _, _, _, _, _, _, _, hf, _, _, _, _ => by omega
  | h + 1, f + 1, b, d, lo, hi, P, B, s, ht, hd, h8, hf, hb, h0, hN, hout => by
    have hinc := ht.inc ho
    obtain ⟨n, hh, hw, hx⟩ := ht
    have hkk := (ho _ _ _ hh).1.2.1
    rw [walkS, hh]
    dsimp only
    rcases hx with ⟨hl, rfl, hk, rfl, rfl⟩ | ⟨hl, B', rfl, hx⟩
    · rw [List.length_singleton] at hN ⊢
      rw [if_neg (by omega), hl, if_pos rfl]
      refine ⟨takesS_same ⟨rfl, rfl, rfl, rfl⟩, ?_, ?_⟩
      · rw [takesS_se]; dsimp only; omega
      · rw [takesS_se]; dsimp only; omega
    · rw [List.length_cons] at hN ⊢
      rw [if_neg (by omega), hl, if_neg (by simp), kidI_of hkk]
      have e2 : (d + 1 == 1) = false := by simp; omega
      obtain ⟨e1, e3, e4⟩ := kidsS_from (N := N) (g := fun c s => walkS H N fr mo f c (d + 1) s) (fr := fr) (mo := mo) (R := fun c lo hi P B => Tr H h c false lo hi P B) (fun c lo hi P B hc => Tr.within ho hc) (fun c lo hi P B hc => Tr.inc ho hc)
        (fun c lo hi P B s hc hb h0 hN hq => walkS_tr ho (by rw [e2]; exact hc) (by omega) (by omega) (by omega) hb h0 hN hq)
        (s := { s with se := s.se + 1 }) (kok_rise hkk) (kok_some hkk) hw hx hb (by dsimp only; omega) (by dsimp only; omega) hout
      dsimp only at e3 e4
      exact ⟨e1.trans (takesS_same ⟨rfl, rfl, rfl, rfl⟩), by omega, by omega⟩
/-- The document's scan. -/
def scanR (fr : ByteArray) (mo : Int) : List Pr → List Pr → List Pr × ByteArray
  | [], out => (out, empS)
  | p :: r, out => if lt p.1 fr then scanR fr mo r out else if (out.length : Int) = mo then (out, p.1) else scanR fr mo r (out ++ [p])
theorem takesS_scan {fr : ByteArray} {mo : Int} : ∀ {l : List Pr} {s : SC}, s.bad = false → s.full = false → s.nx = empS → Inc l → (∀ q ∈ s.out, ∀ p ∈ l, lt q.1 p.1 = true) → ((takesS fr mo s l).out, (takesS fr mo s l).nx) = scanR fr mo l s.out
  | [], s, _, _, hn, _, _ => by rw [scanR, ← hn]; rfl
  | p :: l, s, hb, hf, hn, hi, ho => by
    obtain ⟨i1, i2⟩ := List.pairwise_cons.1 hi
    rw [takesS, List.foldl_cons, ← takesS, scanR]
    by_cases h1 : lt p.1 fr = true
    · rw [if_pos h1, show takeS fr mo s p = s by rw [takeS, if_pos (.inr h1)]]
      exact takesS_scan hb hf hn i2 fun q hq r hr => ho q hq r (List.mem_cons_of_mem _ hr)
    · rw [if_neg h1]
      have hl : lastLt s.out p.1 = true := lastLt_of fun q hq => ho q hq p (by simp)
      by_cases h2 : (s.out.length : Int) = mo
      · rw [if_pos h2, show takeS fr mo s p = { s with full := true, nx := p.1 } by rw [takeS, if_neg (by rw [hf]; simpa using h1), if_neg (by rw [hl]; simp), if_pos h2], takesS_full _ _ _ _ rfl]
      · rw [if_neg h2, show takeS fr mo s p = { s with out := s.out ++ [p] } by rw [takeS, if_neg (by rw [hf]; simpa using h1), if_neg (by rw [hl]; simp), if_neg h2]]
        exact takesS_scan (s := { s with out := s.out ++ [p] }) hb hf hn i2 fun q hq r hr => by
          rcases List.mem_append.1 hq with h | h
          · exact ho q h r (List.mem_cons_of_mem _ hr)
          · obtain rfl : q = p := by simpa using h
            exact i1 r hr
/-! Of whatever wood. -/
structure SInv (fr : ByteArray) (mo N : Int) (s : SC) : Prop where
  inc : Inc s.out
  low : ∀ p ∈ s.out, lt p.1 fr = false
  len : (s.out.length : Int) ≤ mo
  nx : s.full = true → lastLt s.out s.nx = true
  nf : s.full = false → s.nx = empS
  se : 0 ≤ s.se ∧ (s.bad = false → s.se ≤ N)
theorem inc_snoc {l : List Pr} {p : Pr} (h : Inc l) (hl : lastLt l p.1 = true) : Inc (l ++ [p]) := by
  refine List.pairwise_append.2 ⟨h, by simp, fun q hq r hr => ?_⟩
  obtain rfl : r = p := by simpa using hr
  unfold lastLt at hl
  cases hx : l.getLast? with
  | none => rw [List.getLast?_eq_none_iff.1 hx] at hq; cases hq
  | some z =>
    rw [hx] at hl
    obtain ⟨l', rfl⟩ := List.getLast?_eq_some_iff.1 hx
    rcases List.mem_append.1 hq with h2 | h2
    · have := (List.pairwise_append.1 h).2.2 q h2 z (by simp)
      exact lt_trans this hl
    · obtain rfl : q = z := by simpa using h2
      exact hl
theorem takeS_inv {fr : ByteArray} {mo N : Int} {s : SC} {p : Pr} (h : SInv fr mo N s) : SInv fr mo N (takeS fr mo s p) := by
  unfold takeS
  by_cases h1 : s.full = true ∨ lt p.1 fr = true
  · rw [if_pos h1]; exact h
  rw [if_neg h1]
  have hf : s.full = false := by cases hx : s.full with | false => rfl | true => exact absurd (.inl hx) h1
  have hp : lt p.1 fr = false := by cases hx : lt p.1 fr with | false => rfl | true => exact absurd (.inr hx) h1
  by_cases h2 : lastLt s.out p.1 = false
  · rw [if_pos h2]; exact ⟨h.inc, h.low, h.len, h.nx, h.nf, h.se.1, fun e => by cases e⟩
  rw [if_neg h2]
  have h2 : lastLt s.out p.1 = true := by simpa using h2
  by_cases h3 : (s.out.length : Int) = mo
  · rw [if_pos h3]; exact ⟨h.inc, h.low, h.len, fun _ => h2, (fun e => by cases e), h.se⟩
  · rw [if_neg h3]
    have := h.len
    refine ⟨inc_snoc h.inc h2, fun q hq => ?_, by simp; omega, fun e => ?_, h.nf, h.se⟩
    · rcases List.mem_append.1 hq with hq | hq
      · exact h.low q hq
      · obtain rfl : q = p := by simpa using hq
        exact hp
    · rw [hf] at e; cases e
theorem takesS_inv {fr : ByteArray} {mo N : Int} : ∀ {l : List Pr} {s : SC}, SInv fr mo N s → SInv fr mo N (takesS fr mo s l)
  | [], _, h => h
  | p :: l, s, h => by
    rw [takesS, List.foldl_cons, ← takesS]; exact takesS_inv (takeS_inv h)
theorem kidsS_inv {fr : ByteArray} {mo N : Int} {g : Int → SC → SC} (ih : ∀ c s, SInv fr mo N s → s.bad = false → SInv fr mo N (g c s)) : ∀ {cs : List Int} {s : SC}, SInv fr mo N s → SInv fr mo N (kidsS g cs s)
  | [], _, h => h
  | c :: cs, s, h => by
    rw [kidsS]
    by_cases hx : s.full = true ∨ s.bad = true
    · rw [if_pos hx]; exact h
    · rw [if_neg hx]
      exact kidsS_inv ih (ih c s h (by cases hb : s.bad with | false => rfl | true => exact absurd (.inr hb) hx))
theorem walkS_inv {H : Hd} {fr : ByteArray} {mo N : Int} : ∀ (f : Nat) (b d : Int) (s : SC), SInv fr mo N s → s.bad = false → SInv fr mo N (walkS H N fr mo f b d s)
  | 0, b, d, s, h, hb => ⟨h.inc, h.low, h.len, h.nx, h.nf, by have := h.se.1; show 0 ≤ s.se + 1; omega, fun e => by cases e⟩
  | f + 1, b, d, s, h, hb => by
    have hbad : SInv fr mo N { s with se := s.se + 1, bad := true } := ⟨h.inc, h.low, h.len, h.nx, h.nf, by have := h.se.1; show 0 ≤ s.se + 1; omega, fun e => by cases e⟩
    rw [walkS]
    cases hh : H b (d == 1) with
    | none => exact hbad
    | some n =>
      dsimp only
      by_cases h1 : d > 8 ∨ s.se + 1 > N
      · rw [if_pos h1]; exact hbad
      rw [if_neg h1]
      have hs : SInv fr mo N { s with se := s.se + 1 } := ⟨h.inc, h.low, h.len, h.nx, h.nf, by have := h.se.1; show 0 ≤ s.se + 1; omega, fun _ => by show s.se + 1 ≤ N; omega⟩
      split
      · exact takesS_inv hs
      · exact kidsS_inv (fun c s hs hb => walkS_inv f c (d + 1) s hs hb) hs
/-- What a scan tells. -/
noncomputable def ScanW (w : Wd) (fr : ByteArray) (mo : Int) : List Pr × ByteArray × Int :=
  if ¬ WRight w ∨ 32 < fr.size ∨ mo < 0 ∨ 256 < mo then ([], empS, 1) else
  let s := if w.root = 0 then sc0 else walkS (Hold w) w.now.length fr mo 9 w.root 1 sc0
  if s.bad = true then ([], empS, 81) else (s.out, s.nx, 0)
theorem sc0_inv {fr : ByteArray} {mo N : Int} (h : 0 ≤ mo) (hN : 0 ≤ N) : SInv fr mo N sc0 := ⟨by simp [Inc, sc0], by simp [sc0], by simpa [sc0] using h, (fun e => by cases e), fun _ => rfl, Int.le_refl _, fun _ => hN⟩
theorem scanW_tree {w : Wd} {fr : ByteArray} {mo : Int} {h : Nat} {P : List Pr} {B : List Int} (hr : WRight w) (h1 : fr.size ≤ 32) (h2 : 0 ≤ mo) (h3 : mo ≤ 256) (ht : IsTree w h P B) (hB : B.length ≤ w.now.length) :
    ScanW w fr mo = ((scanR fr mo P []).1, (scanR fr mo P []).2, 0) := by
  rw [ScanW, if_neg (by
    rintro (h | h | h | h)
    · exact h hr
    · omega
    · omega
    · omega)]
  rcases ht with ⟨h0, rfl, rfl, rfl⟩ | ⟨h0, _, h8, ht, hn⟩
  · rw [if_pos h0]; rfl
  · rw [if_neg h0]
    dsimp only
    have hinc := ht.inc (hold_hok w)
    obtain ⟨⟨d1, d2, d3, d4⟩, _, _⟩ := walkS_tr (hold_hok w) (N := w.now.length) (fr := fr) (mo := mo) (f := 9) (d := 1) (s := sc0) ht (by omega) (by omega) (by omega) rfl (by simp [sc0]) (by simp only [sc0]; omega) (by simp [sc0])
    obtain ⟨t1, _⟩ := takesS_rise (fr := fr) (mo := mo) (s := sc0) rfl hinc (by simp [sc0])
    have hsc := takesS_scan (fr := fr) (mo := mo) (s := sc0) rfl rfl rfl hinc (by simp [sc0])
    rw [if_neg (by rw [d4, t1]; simp), d1, d2]
    have e1 := congrArg Prod.fst hsc
    have e2 := congrArg Prod.snd hsc
    dsimp only at e1 e2
    rw [e1, e2]; rfl
end Go.Proofs.YtmmnobdpccdeoaaGreatDoor.M
