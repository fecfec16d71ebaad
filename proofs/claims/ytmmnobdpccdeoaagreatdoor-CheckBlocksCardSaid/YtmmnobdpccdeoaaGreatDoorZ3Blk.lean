import Derived.Test.YtmmnobdpccdeoaaGreatDoorZ3Chk2
namespace Go.Proofs.YtmmnobdpccdeoaaGreatDoor.M
set_option linter.unusedVariables false
set_option linter.unusedSimpArgs false
open Go Go.Mir
set_option linter.unusedVariables false

/-! Blocks of a tree; the document's check. -/
theorem p23 (l : List Int) (hl : Small l.length) (b : Int) : Runs Fs2 23 [.o (.sl 1 (il l)), .n (.int .i64 b)] [] (.n (.bool (decide (b ∈ l)))) [] := by
  refine vc_eq fs23 rfl ?_
  rw [vc23, V23, il_len]
  refine ⟨fun i => 0 ≤ i ∧ i ≤ l.length ∧ ∀ (j : Nat) (h : j < l.length), (j : Int) < i → l[j] ≠ b, fun i => (l.length - i).toNat, ⟨rfl, by omega, by omega, fun j _ hj => by omega⟩, ?_⟩
  rintro i ⟨h0, h1, hok⟩ _
  refine sel_dec (fun hlt => ?_) (fun hge => ?_)
  · have hi : i.toNat < l.length := by omega
    refine ⟨rfl, h0, _, il_at hi, _, rfl, sel_intro (fun h => ?_) (fun h => ?_)⟩
    · have h : l[i.toNat] = b := by simpa using h
      rw [decide_eq_true (by rw [← h]; exact List.getElem_mem hi)]
    · have h : l[i.toNat] ≠ b := by simpa using h
      repeat (refine And.intro rfl ?_)
      rw [i64_in _ (by omega)]
      refine ⟨⟨by omega, by omega, fun j hj hji => ?_⟩, by first | omega | (dsimp only; omega)⟩
      by_cases e : (j : Int) < i
      · exact hok j hj e
      · obtain rfl : j = i.toNat := by omega
        exact h
  · rw [decide_eq_false]
    intro hm
    obtain ⟨j, hj, hb⟩ := List.getElem_of_mem hm
    exact hok j hj (by omega) hb
/-- The blocks of a list, rising. -/
def upTo (bs : List Int) : Nat → List Int
  | 0 => []
  | i + 1 => if (i : Int) ∈ bs then upTo bs i ++ [(i : Int)] else upTo bs i
theorem upTo_mem {bs : List Int} {x : Int} : ∀ {N : Nat}, x ∈ upTo bs N ↔ (0 ≤ x ∧ x < N ∧ x ∈ bs)
  | 0 => by simp [upTo]; omega
  | N + 1 => by
    have ih := upTo_mem (bs := bs) (x := x) (N := N)
    unfold upTo
    split
    · rename_i h
      rw [List.mem_append, ih, List.mem_singleton]
      constructor
      · rintro (h2 | rfl)
        · exact ⟨h2.1, by omega, h2.2.2⟩
        · exact ⟨by omega, by omega, h⟩
      · rintro ⟨h1, h2, h3⟩
        by_cases e : x = N
        · exact .inr e
        · exact .inl ⟨h1, by omega, h3⟩
    · rename_i h
      rw [ih]
      constructor
      · rintro ⟨h1, h2, h3⟩; exact ⟨h1, by omega, h3⟩
      · rintro ⟨h1, h2, h3⟩
        have : x ≠ N := fun e => by subst e; exact h h3
        exact ⟨h1, by omega, h3⟩
theorem upTo_len (bs : List Int) : ∀ N, (upTo bs N).length ≤ N
  | 0 => Nat.le_refl _
  | N + 1 => by
    have := upTo_len bs N
    unfold upTo
    split
    · simp; omega
    · omega
theorem tree_rg {w : Wd} (hn : w.now.length ≤ 2048) (hb : (treeW w).bad = false) : ∀ b ∈ (treeW w).bs, 10 ≤ b ∧ b < w.now.length := by
  obtain ⟨h, P, B, hT, he⟩ := tree_sound hb
  rw [he]
  intro b hbm
  have : ∃ r n, Hold w b r = some n := by
    rcases hT with ⟨_, _, _, rfl⟩ | ⟨_, _, _, h3, _⟩
    · cases hbm
    · exact h3.held b hbm
  obtain ⟨r, n, hh⟩ := this
  have := hold_rg hn hh
  omega
noncomputable def BlkR (w : Wd) : List Int × Int := if ¬ WRight w then ([], 1) else if (treeW w).bad = true then ([], 81) else (upTo (treeW w).bs w.now.length, 0)
def blV (x : List Int × Int) : AV := .tup [.o (.sl 1 (il x.1)), .n (.int .i64 x.2)]
theorem il_snoc' (l : List Int) (b : Int) : il l ++ [D.int .i64 b] = il (l ++ [b]) := by simp [il]
theorem p9 (w : Wd) (hf : WFits w) : Runs Fs2 9 [wdV w] [] (blV (BlkR w)) [] := by
  refine vc_eq fs9 rfl ?_
  rw [wdV, vc9, V9]
  rcases p22 w hf with ⟨hr, g⟩ | ⟨hr, hb, g⟩ | ⟨hr, hb, g⟩
  · rw [wdV] at g
    refine .inr ⟨(), _, g, sel_intro (fun _ => ?_) (fun h => by cases h)⟩
    rw [BlkR, if_pos hr]; rfl
  · rw [wdV] at g
    refine .inr ⟨(), _, g, sel_intro (fun _ => ?_) (fun h => by cases h)⟩
    rw [BlkR, if_neg (by simpa using hr), if_pos hb]; rfl
  · rw [hC, wdV] at g
    have hn := wr_now hr
    have eq : BlkR w = (upTo (treeW w).bs w.now.length, 0) := by
      rw [BlkR, if_neg (by simpa using hr), if_neg (by rw [hb]; simp)]
    refine .inl ⟨(), _, _, _, _, _, _, _, _, _, _, _, _, _, g, sel_intro (fun h => by cases h) (fun _ => ⟨rfl, ?_⟩)⟩
    have el : (blD (csOf w.now.length (treeW w)).used).length = w.now.length := by rw [blD_len, csOf, marks_len]
    rw [el]
    refine ⟨fun v i Q => 0 ≤ i ∧ i ≤ w.now.length ∧ Q = (v, il (upTo (treeW w).bs i.toNat)), fun _ i _ => (w.now.length - i).toNat, ⟨rfl, by omega, by omega, rfl⟩, ?_⟩
    rintro v i Q ⟨h0, h1, rfl⟩ _
    dsimp only
    refine sel_dec (fun hlt => ?_) (fun hge => ?_)
    · have hi : i.toNat < (marks w.now.length (treeW w).bs).length := by rw [marks_len]; omega
      have hii : ((i.toNat : Nat) : Int) = i := by omega
      have hl := upTo_len (treeW w).bs i.toNat
      refine ⟨⟨rfl, rfl⟩, h0, by omega, ⟨rfl, rfl⟩, _, blD_at hi, _, rfl, ?_⟩
      rw [marks_get, hii]
      have e1 : (i + 1).toNat = i.toNat + 1 := by omega
      refine sel_dec (fun h => ?_) (fun h => ?_)
      · refine ⟨rfl, .inl rfl, ⟨⟨rfl, rfl⟩, rfl⟩, by simp only [List.length_singleton, il_len]; omega, ?_⟩
        repeat (refine And.intro rfl ?_)
        rw [i64_in _ (by omega)]
        refine ⟨⟨by omega, by omega, ?_⟩, by first | omega | (dsimp only; omega)⟩
        rw [e1, upTo, hii, if_pos h, il_snoc']
      · repeat (refine And.intro rfl ?_)
        rw [i64_in _ (by omega)]
        refine ⟨⟨by omega, by omega, ?_⟩, by first | omega | (dsimp only; omega)⟩
        rw [e1, upTo, hii, if_neg h]
    · refine ⟨rfl, ?_⟩
      rw [eq, show i.toNat = w.now.length by omega]; rfl
def h10 (v : Nat) (l : List Int) : Heap := [(1000600, .row false true v 3 1 (il l))]
theorem p10 (w : Wd) (hf : WFits w) : ((BlkR w).2 ≠ 0 ∧ (BlkR w).1 = [] ∧ ChkR w = (fun _ => ((0, 0, 0), (BlkR w).2)) ∧ Runs Fs2 10 [wdV w] [] (.tup [.o (.sl 1 []), .n (.int .i64 (BlkR w).2)]) []) ∨
    (WRight w ∧ (treeW w).bad = false ∧ BlkR w = (upTo (treeW w).bs w.now.length, 0) ∧ ∃ v, Runs Fs2 10 [wdV w] [] (.tup [.row 1000600 v, .n (.int .i64 0)]) (h10 v (upTo (treeW w).bs w.now.length))) := by
  have g16 := p16 w hf
  have key : ∃ r H', Runs Fs2 10 [wdV w] [] r H' ∧ (((BlkR w).2 ≠ 0 ∧ (BlkR w).1 = [] ∧ ChkR w = (fun _ => ((0, 0, 0), (BlkR w).2)) ∧ r = .tup [.o (.sl 1 []), .n (.int .i64 (BlkR w).2)] ∧ H' = []) ∨
    (WRight w ∧ (treeW w).bad = false ∧ BlkR w = (upTo (treeW w).bs w.now.length, 0) ∧ ∃ v, r = .tup [.row 1000600 v, .n (.int .i64 0)] ∧ H' = h10 v (upTo (treeW w).bs w.now.length))) := by
    refine vc_own (R := fun r H' => ((BlkR w).2 ≠ 0 ∧ (BlkR w).1 = [] ∧ ChkR w = (fun _ => ((0, 0, 0), (BlkR w).2)) ∧ r = .tup [.o (.sl 1 []), .n (.int .i64 (BlkR w).2)] ∧ H' = []) ∨
      (WRight w ∧ (treeW w).bad = false ∧ BlkR w = (upTo (treeW w).bs w.now.length, 0) ∧ ∃ v, r = .tup [.row 1000600 v, .n (.int .i64 0)] ∧ H' = h10 v (upTo (treeW w).bs w.now.length))) fs10 rfl ?_
    rw [wdV, vc10o, V10o, blD_len]
    by_cases hr : WRight w
    · rw [decide_eq_true hr] at g16
      have hn := wr_now hr
      obtain ⟨va, vb, g17⟩ := p17 w hf hn
      refine ⟨_, g16, sel_intro (fun h => by cases h) (fun _ => ⟨(), _, _, _, _, _, _, _, _, g17, sel_intro (fun hb => ?_) (fun hb => ?_)⟩)⟩
      · have eq : BlkR w = ([], 81) := by rw [BlkR, if_neg (by simpa using hr), if_pos hb]
        refine .inl ⟨by rw [eq]; simp, by rw [eq], ?_, by rw [eq], rfl⟩
        funext more
        rw [eq, ChkR, if_neg (by simpa using hr), if_pos hb]
      · have eq : BlkR w = (upTo (treeW w).bs w.now.length, 0) := by
          rw [BlkR, if_neg (by simpa using hr), if_neg (by rw [hb]; simp)]
        have hlen := (treeW_inv hn).len
        refine ⟨fun v i Q S => 0 ≤ i ∧ i ≤ w.now.length ∧ Q = (vb, il (treeW w).bs) ∧ S = (v, il (upTo (treeW w).bs i.toNat)), fun _ i _ _ => (w.now.length - i).toNat, ⟨rfl, by omega, by omega, rfl, rfl⟩, ?_⟩
        rintro v i Q S ⟨h0, h1, rfl, rfl⟩ _
        dsimp only
        refine sel_dec (fun hlt => ?_) (fun hge => ?_)
        · have hii : ((i.toNat : Nat) : Int) = i := by omega
          have hl := upTo_len (treeW w).bs i.toNat
          have e1 : (i + 1).toNat = i.toNat + 1 := by omega
          refine ⟨rfl, _, p23 (treeW w).bs (by omega) i, sel_dec (fun h => ?_) (fun h => ?_)⟩
          · refine ⟨rfl, .inl rfl, ⟨⟨rfl, rfl⟩, rfl⟩, by simp only [List.length_singleton, il_len]; omega, ?_⟩
            repeat (refine And.intro rfl ?_)
            rw [i64_in _ (by omega)]
            refine ⟨⟨by omega, by omega, rfl, ?_⟩, by first | omega | (dsimp only; omega)⟩
            rw [e1, upTo, hii, if_pos h, il_snoc']
          · repeat (refine And.intro rfl ?_)
            rw [i64_in _ (by omega)]
            refine ⟨⟨by omega, by omega, rfl, ?_⟩, by first | omega | (dsimp only; omega)⟩
            rw [e1, upTo, hii, if_neg h]
        · rw [show i.toNat = w.now.length by omega]
          exact .inr ⟨hr, hb, eq, v, rfl, rfl⟩
    · rw [decide_eq_false hr] at g16
      have eq : BlkR w = ([], 1) := by rw [BlkR, if_pos hr]
      refine ⟨_, g16, sel_intro (fun _ => .inl ⟨by rw [eq]; simp, by rw [eq], ?_, by rw [eq], rfl⟩) (fun h => by cases h)⟩
      funext more
      rw [eq, ChkR, if_pos hr]
  obtain ⟨r, H', hg, ⟨h1, h2, h3, rfl, rfl⟩ | ⟨h1, h2, h3, v, rfl, rfl⟩⟩ := key
  · exact .inl ⟨h1, h2, h3, hg⟩
  · exact .inr ⟨h1, h2, h3, v, hg⟩
set_option maxRecDepth 10000 in
theorem p12 (w : Wd) (hf : WFits w) (more : List Int) (hm : more.length ≤ 20) : Runs Fs2 12 [wdV w, .o (.sl 1 (il more))] [] (ckV (ChkR w more)) [] := by
  refine vc_eq fs12 rfl ?_
  rw [wdV, vc12, V12]
  rcases p10 w hf with ⟨h1, h2, h3, g⟩ | ⟨hr, hb, hB, v0, g⟩
  · rw [wdV] at g
    refine .inr ⟨_, _, g, sel_intro (fun _ => ?_) (fun h => absurd (by simpa using h) h1)⟩
    rw [h3]; rfl
  · rw [h10, wdV] at g
    have hn := wr_now hr
    have hrg := tree_rg hn hb
    have hlen := (treeW_inv hn).len
    have eq : ChkR w more = match moreUp w.now.length more (treeW w).bs with
        | none => ((0, 0, 0), 81)
        | some l => if nowIs w.now l then (((treeW w).ps.length, (treeW w).he, (treeW w).bs.length), 0) else ((0, 0, 0), 81) := by
      rw [ChkR, if_neg (by simpa using hr), if_neg (by rw [hb]; simp)]
      cases moreUp w.now.length more (treeW w).bs <;> rfl
    obtain ⟨va, vb, g17⟩ := p17 w hf hn
    rw [hT, wdV] at g17
    refine .inl ⟨_, _, _, _, g, sel_intro (fun h => by cases h) (fun _ => ⟨(), _, _, _, _, _, _, _, _, g17, ?_⟩)⟩
    rw [il_len, blD_len]
    have no : ChkR w more = ((0, 0, 0), 81) → AV.tup [.agg [.n (.int .i64 0), .n (.int .i64 0), .n (.int .i64 0)], .n (.int .i64 81)] = ckV (ChkR w more) := fun e => by rw [e]; rfl
    have hu := upTo_len (treeW w).bs w.now.length
    refine ⟨fun v i S Q => 0 ≤ i ∧ i ≤ more.length ∧ S = (0, 0, 0, ()) ∧ ∃ l' l, Q = (v, il l') ∧ l'.length ≤ w.now.length + i.toNat ∧ (∀ x, x ∈ l' ↔ x ∈ l) ∧ moreUp w.now.length more (treeW w).bs = moreUp w.now.length (more.drop i.toNat) l, fun _ i _ _ => (more.length - i).toNat, ⟨rfl, by omega, by omega, rfl, upTo (treeW w).bs w.now.length, (treeW w).bs, rfl, by omega, fun x => ?_, rfl⟩, ?_⟩
    · rw [upTo_mem]
      exact ⟨fun h => h.2.2, fun h => by have := hrg x h; exact ⟨by omega, by omega, h⟩⟩
    rintro v i S Q ⟨h0, h1, rfl, l', l, rfl, hll, hmem, hinv⟩ _
    dsimp only
    refine sel_dec (fun hlt => ?_) (fun hge => ?_)
    · have hi : i.toNat < more.length := by omega
      rw [List.drop_eq_getElem_cons hi, moreUp] at hinv
      refine ⟨rfl, h0, _, il_at hi, _, rfl, sel_dec (fun h => no ?_) (fun h2 => sel_dec (fun h => no ?_) (fun h3 => ⟨rfl, _, p23 l' (by omega) _, sel_dec (fun h => no ?_) (fun h4 => ?_)⟩))⟩
      · rw [eq, hinv, if_pos (.inl h)]
      · rw [eq, hinv, if_pos (.inr (.inl h))]
      · rw [eq, hinv, if_pos (.inr (.inr ((hmem _).1 h)))]
      refine ⟨rfl, .inl rfl, ⟨⟨rfl, rfl⟩, rfl⟩, by simp only [List.length_singleton, il_len]; omega, ?_⟩
      repeat (refine And.intro rfl ?_)
      rw [i64_in _ (by omega), il_snoc']
      refine ⟨⟨by omega, by omega, rfl, _, l ++ [more[i.toNat]], rfl, by simp; omega, fun x => ?_, ?_⟩, by first | omega | (dsimp only; omega)⟩
      · rw [List.mem_append, List.mem_append, hmem]
      · rw [hinv, if_neg (by
          rintro (h | h | h)
          · exact h2 h
          · omega
          · exact h4 ((hmem _).2 h)), show (i + 1).toNat = i.toNat + 1 by omega]
    · rw [List.drop_of_length_le (by omega), moreUp] at hinv
      rw [hinv] at eq
      dsimp only at eq
      refine ⟨fun i S => 0 ≤ i ∧ i ≤ w.now.length ∧ S = (0, 0, 0, ()) ∧ ∀ j : Nat, (j : Int) < i → tr w.now j = decide (j < 10 ∨ (j : Int) ∈ l), fun i _ => (w.now.length - i).toNat, ⟨rfl, by omega, by omega, rfl, fun j hj => by omega⟩, ?_⟩
      rintro i S ⟨h0, h1, rfl, hok⟩ _
      dsimp only
      refine sel_dec (fun hlt => ?_) (fun hge => ?_)
      · have hi : i.toNat < w.now.length := by omega
        have hii : ((i.toNat : Nat) : Int) = i := by omega
        have next : tr w.now i.toNat = decide (i.toNat < 10 ∨ ((i.toNat : Nat) : Int) ∈ l) → ∀ j : Nat, (j : Int) < i + 1 → tr w.now j = decide (j < 10 ∨ (j : Int) ∈ l) := fun h j hj => by
          by_cases e : (j : Int) < i
          · exact hok j e
          · obtain rfl : j = i.toNat := by omega
            exact h
        have fail : tr w.now i.toNat ≠ decide (i.toNat < 10 ∨ ((i.toNat : Nat) : Int) ∈ l) → ChkR w more = ((0, 0, 0), 81) := fun h => by
          rw [eq, if_neg (fun hx => h (hx i.toNat hi))]
        refine ⟨rfl, h0, _, blD_at hi, _, rfl, sel_dec (fun h10 => ?_) (fun h10 => ⟨rfl, _, p23 l' (by omega) i, ?_⟩)⟩
        · have hd : decide (i.toNat < 10 ∨ ((i.toNat : Nat) : Int) ∈ l) = true := decide_eq_true (.inl (by omega))
          rw [hd] at next fail
          rw [← tr_at hi]
          refine sel_intro (fun h => no (fail (by intro e; rw [e] at h; cases h))) (fun h => ?_)
          repeat (refine And.intro rfl ?_)
          rw [i64_in _ (by omega)]
          exact ⟨⟨by omega, by omega, rfl, next (by cases hx : tr w.now i.toNat with | true => rfl | false => rw [hx] at h; cases h)⟩, by first | omega | (dsimp only; omega)⟩
        · have hd : decide (i.toNat < 10 ∨ ((i.toNat : Nat) : Int) ∈ l) = decide (i ∈ l') := by rw [hii, decide_eq_decide, hmem]; exact ⟨fun h => h.resolve_left (by omega), .inr⟩
          rw [hd] at next fail
          rw [← tr_at hi]
          refine sel_intro (fun h => no (fail (by intro e; rw [e] at h; simp at h))) (fun h => ?_)
          repeat (refine And.intro rfl ?_)
          rw [i64_in _ (by omega)]
          exact ⟨⟨by omega, by omega, rfl, next (by simpa using h)⟩, by first | omega | (dsimp only; omega)⟩
      · have hx : nowIs w.now l := fun j hj => hok j (by omega)
        rw [if_pos hx] at eq
        refine ⟨rfl, rfl, ?_⟩
        rw [eq, psD_len, il_len]; rfl
theorem il_take (l : List Int) (n : Nat) : List.drop 0 (List.take n (il l)) = il (l.take n) := by simp [il]
theorem mm20 (n : Nat) : ∃ N : Nat, mmI false (n : Int) 20 = N ∧ N ≤ n ∧ N ≤ 20 := by
  unfold mmI
  simp only [Bool.false_eq_true, if_false]
  split
  · exact ⟨20, rfl, by omega, by omega⟩
  · exact ⟨n, rfl, by omega, by omega⟩
theorem p3 (w : Wd) (hf : WFits w) (more : List Int) : Runs Fs2 3 [wdV w, .o (.sl 1 (il more))] [] (.n (.bool true)) [] := by
  have g7 := p7 w
  have g9 := p9 w hf
  refine vc_eq fs3 rfl ?_
  rw [wdV, vc3, V3, il_len]
  obtain ⟨N, hN, h1, h2⟩ := mm20 more.length
  rw [hN, show Int.toNat (N : Int) = N from rfl, il_take]
  have hlt : (more.take N).length ≤ 20 := by rw [List.length_take]; omega
  have g11 := p11 w hf (more.take N) (by omega)
  have g12 := p12 w hf (more.take N) hlt
  have fin : ∃ x17 x18 x19 x20 : Int, Runs Fs2 11 [wdV w, .o (.sl 1 (il (more.take N)))] [] (.tup [.agg [.n (.int .i64 x17), .n (.int .i64 x18), .n (.int .i64 x19)], .n (.int .i64 x20)]) [] ∧
      ∃ x21 x22 x23 x24 : Int, Runs Fs2 12 [wdV w, .o (.sl 1 (il (more.take N)))] [] (.tup [.agg [.n (.int .i64 x21), .n (.int .i64 x22), .n (.int .i64 x23)], .n (.int .i64 x24)]) [] ∧
        sel ((x17 == x21) && ((x18 == x22) && ((x19 == x23) && true))) (AV.n (.bool (x20 == x24)) = .n (.bool true)) (AV.n (.bool false) = .n (.bool true)) :=
    ⟨_, _, _, _, g11, _, _, _, _, g12, sel_intro (fun _ => by simp) (fun h => by simp at h)⟩
  refine ⟨_, g7, sel_intro (fun _ => ⟨_, p8, rfl⟩) (fun hs => ⟨rfl, by omega, by omega, _, _, g9, ?_⟩)⟩
  rcases p10 w hf with ⟨e1, e2, e3, g⟩ | ⟨hr, hb, hB, v0, g⟩
  · rw [wdV] at g
    refine .inr ⟨_, _, g, sel_intro (fun h => by simp at h) (fun _ => ?_)⟩
    rw [e2]
    refine sel_intro (fun h => by simp [il] at h) (fun _ => ⟨_, p8, sel_intro (fun h => by cases h) (fun _ => ?_)⟩)
    refine ⟨fun i => i = 0, fun i => 0, ⟨rfl, rfl⟩, ?_⟩
    rintro i rfl _
    refine sel_dec (fun h => by simp [il] at h) (fun _ => fin)
  · rw [h10, wdV] at g
    rw [hB]
    refine .inl ⟨_, _, _, _, g, sel_intro (fun h => by simp at h) (fun _ => ⟨rfl, ?_⟩)⟩
    dsimp only
    rw [il_len]
    have hu := upTo_len (treeW w).bs w.now.length
    have hn := wr_now hr
    refine sel_intro (fun h => by simp at h) (fun _ => ⟨_, p8, sel_intro (fun h => by cases h) (fun _ => ?_)⟩)
    refine ⟨fun i => 0 ≤ i ∧ i ≤ (upTo (treeW w).bs w.now.length).length, fun i => ((upTo (treeW w).bs w.now.length).length - i).toNat, ⟨rfl, by omega, by omega⟩, ?_⟩
    rintro i ⟨h0, h1⟩ _
    refine sel_dec (fun h => ?_) (fun _ => fin)
    have hi : i.toNat < (upTo (treeW w).bs w.now.length).length := by omega
    refine ⟨rfl, h0, _, il_at hi, _, rfl, ⟨rfl, rfl⟩, h0, h, ⟨rfl, rfl⟩, _, il_at hi, _, rfl, sel_intro (fun h => by simp at h) (fun _ => ?_)⟩
    repeat (refine And.intro rfl ?_)
    rw [i64_in _ (by omega)]
    exact ⟨⟨by omega, by omega⟩, by first | omega | (dsimp only; omega)⟩
theorem p3x (x : wdT.T) (h : wdT.fit x) (more : (Mir.Ty.sl (.int .i64)).T) : Runs Fs2 3 [wdT.av x, (Mir.Ty.sl (.int .i64)).av more] [] (.n (.bool true)) [] := by
  rw [wd_av]; exact p3 (toWd x) (wd_fit x h) more
end Go.Proofs.YtmmnobdpccdeoaaGreatDoor.M
