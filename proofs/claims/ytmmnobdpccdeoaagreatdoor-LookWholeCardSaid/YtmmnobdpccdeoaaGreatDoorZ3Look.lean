import Derived.Test.YtmmnobdpccdeoaaGreatDoorZ3Hold
namespace Go.Proofs.YtmmnobdpccdeoaaGreatDoor.M
set_option linter.unusedVariables false
set_option linter.unusedSimpArgs false
open Go Go.Mir
set_option linter.unusedVariables false

/-- A new row of blocks. -/
def newR (n : Nat) : List Bool := (List.range n).map fun i => decide (i < 10)
theorem newR_len (n : Nat) : (newR n).length = n := by simp [newR]
theorem newR_succ (n : Nat) : newR (n + 1) = newR n ++ [decide (n < 10)] := by simp [newR, List.range_succ]
theorem blD_snoc (l : List Bool) (b : Bool) : blD l ++ [D.bool b] = blD (l ++ [b]) := by simp [blD]
theorem p21 (n : Nat) (hn : n ≤ 2048) : Runs Fs2 21 [.n (.int .i64 n)] [] (alV (newR n) (newR n)) [] := by
  refine vc_eq fs21 rfl ?_
  rw [vc21, V21]
  refine ⟨fun i B r q => 0 ≤ i ∧ i ≤ n ∧ B.1 = r.1 ∧ B.2.1 = q.1 ∧ r.2 = blD (newR i.toNat) ∧ q.2 = blD (newR i.toNat), fun i _ _ _ => (n - i).toNat, ⟨rfl, by omega, by omega, rfl, rfl, rfl, rfl⟩, ?_⟩
  rintro i ⟨va, vb, _⟩ ⟨ra, r⟩ ⟨qa, q⟩ ⟨h0, h1, rfl, rfl, rfl, rfl⟩ _
  dsimp only
  refine sel_dec (fun h => ?_) (fun h => ?_)
  · have e : decide (i < 10) = decide (i.toNat < 10) := by rw [decide_eq_decide]; omega
    refine ⟨rfl, .inl rfl, ⟨⟨rfl, rfl⟩, rfl⟩, by simp only [blD_len, newR_len, List.length_singleton]; omega, rfl, .inl rfl, ⟨⟨rfl, rfl⟩, rfl⟩, by simp only [blD_len, newR_len, List.length_singleton]; omega, ?_⟩
    repeat (refine And.intro rfl ?_)
    rw [i64_in _ (by omega), blD_snoc, e]
    refine ⟨⟨by omega, by omega, rfl, rfl, ?_, ?_⟩, by first | omega | (dsimp only; omega)⟩ <;>
      rw [show (i + 1).toNat = i.toNat + 1 by omega, newR_succ]
  · rw [show i.toNat = n by omega]
    exact ⟨rfl, rfl, rfl⟩
theorem p13 (w : Wd) : Runs Fs2 13 [wdV w] [] (.n (.bool (decide (w.now.length ≤ 300 ∧ w.pages.length ≤ 300)))) [] := by
  refine vc_eq fs13 rfl ?_
  rw [wdV, vc13, V13, blD_len, sl_len]
  refine sel_dec (fun h => ?_) (fun h => by rw [decide_eq_false (by omega)])
  congr 2
  simp only [decide_eq_decide]
  omega

/-! Get. -/
theorem hold_ok {w : Wd} {block : Int} {root : Bool} {n : Nd} (h : Hold w block root = some n) : NdOK n root := by
  unfold Hold at h
  split at h
  · cases h
  · rcases getP_cases (pgAt w block) with ⟨e, he, h'⟩ | ⟨k, g, b, h', _⟩
    · rw [h', hPage_err he] at h; cases h
    · rw [h', hPage_ok] at h
      split at h
      · cases h
      split at h
      · cases h
      split at h
      · rename_i hk
        simp only [Option.some.injEq] at h
        rw [← h]; exact hk
      · cases h
def kidI (n : Nd) (key : ByteArray) : Nat := srch n.keys key + if isAt n.keys key then 1 else 0
theorem kid_lt {n : Nd} (hs : Stands n) (hl : n.leaf = false) (key : ByteArray) : kidI n key < n.kids.length := by
  rcases hs.2.2 with ⟨h, _⟩ | ⟨_, _, _, h, _⟩
  · rw [hl] at h; cases h
  · have h1 := srch_le n.keys key
    unfold kidI
    split
    · rename_i hat
      have : n.keys[srch n.keys key]? = some key := of_decide_eq_true hat
      obtain ⟨h2, _⟩ := List.getElem?_eq_some_iff.1 this
      omega
    · omega
theorem at_lt {l : List ByteArray} {key : ByteArray} (h : isAt l key = true) : srch l key < l.length := by
  obtain ⟨h2, _⟩ := List.getElem?_eq_some_iff.1 (of_decide_eq_true h)
  exact h2
noncomputable def gtD (w : Wd) (key : ByteArray) : Nat → Int → ByteArray × Int
  | 0, _ => (empS, 81)
  | f + 1, block => match Hold w block (block == w.root) with
    | none => (empS, 81)
    | some n => if n.leaf then (if isAt n.keys key then ((n.vals[srch n.keys key]?).getD empS, 0) else (empS, 80)) else gtD w key f ((n.kids[kidI n key]?).getD 0)
noncomputable def GetW (w : Wd) (key : ByteArray) : ByteArray × Int :=
  if ¬ WRight w ∨ key.size < 1 ∨ 32 < key.size then (empS, 1) else if w.root = 0 then (empS, 80) else gtD w key 8 w.root
def sduo (x : ByteArray × Int) : AV := .tup [.n (.str x.1), .n (.int .i64 x.2)]
set_option maxRecDepth 4000 in
theorem p20 (w : Wd) (hf : WFits w) (key : ByteArray) : Runs Fs2 20 [wdV w, .n (.str key)] [] (sduo (GetW w key)) [] := by
  have g41 := p24 w hf
  refine vc_eq fs20 rfl ?_
  rw [wdV, vc20, V20]
  refine ⟨_, g41, ?_⟩
  by_cases hr : WRight w
  · rw [decide_eq_true hr]
    refine sel_intro (fun h => by cases h) (fun _ => ?_)
    refine sel_dec (fun h => by rw [GetW, if_pos (by omega)]; rfl) (fun h1 => sel_dec (fun h => by rw [GetW, if_pos (by omega)]; rfl) (fun h2 => ?_))
    have hgo : GetW w key = if w.root = 0 then (empS, 80) else gtD w key 8 w.root := by rw [GetW, if_neg (by
      rintro (h | h | h)
      · exact h hr
      · omega
      · omega)]
    refine sel_intro (fun h => ?_) (fun h => ?_)
    · rw [hgo, if_pos (by simpa using h)]; rfl
    have h0 : w.root ≠ 0 := by simpa using h
    rw [if_neg h0] at hgo
    refine ⟨fun b i q => 0 ≤ i ∧ i ≤ 8 ∧ q = (blD w.base, blD w.now, sl_ w.pages, w.root, w.gen, ByteArray.mk (List.toArray []), 0, 0, (), ByteArray.mk (List.toArray []), false, false, ()) ∧ GetW w key = gtD w key (8 - i).toNat b, fun _ i _ => (8 - i).toNat, ⟨rfl, by omega, by omega, rfl, hgo⟩, ?_⟩
    rintro b i q ⟨i0, i8, rfl, hinv⟩ _
    refine sel_dec (fun hlt => ?_) (fun hge => ?_)
    · obtain ⟨j, hj⟩ : ∃ j, (8 - i).toNat = j + 1 := ⟨(8 - i).toNat - 1, by omega⟩
      have hj' : (8 - (i + 1)).toNat = j := by omega
      rw [hj, gtD] at hinv
      have g68 := p28a w hf hr.2.1 b (b == w.root)
      cases hh : Hold w b (b == w.root) with
      | none =>
        rw [hh] at g68 hinv
        refine ⟨_, _, _, _, _, _, _, _, _, _, _, _, _, _, _, _, g68, sel_intro (fun _ => ?_) (fun h => by cases h)⟩
        rw [hinv]; rfl
      | some n =>
        rw [hh] at g68 hinv
        dsimp only at hinv
        have hok := hold_ok hh
        have hfit := (ndOK_fits hok).1
        refine ⟨_, _, _, _, _, _, _, _, _, _, _, _, _, _, _, _, g68, sel_intro (fun h => by cases h) (fun _ => ?_)⟩
        refine sel_intro (fun hl => ?_) (fun hl => ?_)
        · have hl : n.leaf = false := by simpa using hl
          rw [hl, if_neg (by simp)] at hinv
          have hk := kid_lt hok.1 hl key
          have g := p29 n key hfit hok.1 hl
          have e : ((srch n.keys key : Nat) : Int) + (if isAt n.keys key then 1 else 0) = (kidI n key : Nat) := by
            unfold kidI; split <;> simp
          rw [e] at g
          refine ⟨_, g, rfl, by omega, _, (by rw [show Int.toNat ((kidI n key : Nat) : Int) = kidI n key from rfl]; exact il_at hk), _, rfl, ?_⟩
          repeat (refine And.intro rfl ?_)
          rw [i64_in _ (by omega)]
          refine ⟨⟨by omega, by omega, rfl, ?_⟩, by first | omega | (dsimp only; omega)⟩
          rw [hj', hinv, List.getElem?_eq_getElem hk]; rfl
        · have hl : n.leaf = true := by simpa using hl
          rw [hl, if_pos rfl] at hinv
          refine ⟨_, _, p30 n key hfit hok.1, sel_intro (fun ha => ?_) (fun ha => ?_)⟩
          · have ha : isAt n.keys key = false := by simpa using ha
            rw [hinv, ha]; rfl
          · have ha : isAt n.keys key = true := by simpa using ha
            have hlt := at_lt ha
            have hv : srch n.keys key < n.vals.length := by
              rcases hok.1.2.2 with ⟨_, _, h, _⟩ | ⟨h, _⟩
              · omega
              · rw [hl] at h; cases h
            refine ⟨rfl, by omega, _, sl_at hv, _, rfl, ?_⟩
            rw [hinv, ha, if_pos rfl, List.getElem?_eq_getElem hv]; rfl
    · rw [show (8 - i).toNat = 0 by omega, gtD] at hinv
      rw [hinv]; rfl
  · rw [decide_eq_false hr]
    refine sel_intro (fun _ => ?_) (fun h => by cases h)
    rw [GetW, if_pos (.inl hr)]; rfl
def w24 : Wd := ⟨newR 24, newR 24, List.replicate 24 empS, 0, 1⟩
theorem w24_right : WRight w24 := ⟨⟨rfl, by decide, by decide, fun j hj => by
  have : j = 0 ∨ j = 1 ∨ j = 2 ∨ j = 3 ∨ j = 4 ∨ j = 5 ∨ j = 6 ∨ j = 7 ∨ j = 8 ∨ j = 9 := by omega
  rcases this with rfl | rfl | rfl | rfl | rfl | rfl | rfl | rfl | rfl | rfl <;> exact ⟨rfl, rfl⟩⟩, rfl, by decide, by decide, .inl rfl, fun s hs => by
  rw [(List.mem_replicate.1 hs).2]; decide⟩
theorem w24_fits : WFits w24 := ⟨by decide, by decide, by decide, fun s hs => by
  rw [(List.mem_replicate.1 hs).2]; decide⟩
theorem sl_rep (n : Nat) : List.replicate n (D.str (ByteArray.mk (List.toArray []))) = sl_ (List.replicate n empS) := by simp [sl_, empS]
theorem p14 : Runs Fs2 14 [] [] (.n (.bool true)) [] := by
  refine vc_eq fs14 rfl ?_
  rw [vc14, V14]
  have g := p20 w24 w24_fits (ByteArray.mk (List.toArray [97]))
  have g2 := p24 w24 w24_fits
  rw [decide_eq_true w24_right] at g2
  have e : GetW w24 (ByteArray.mk (List.toArray [97])) = (empS, 80) := by
    rw [GetW, if_neg (by
      rintro (h | h | h)
      · exact h w24_right
      · exact absurd h (by decide)
      · exact absurd h (by decide)), if_pos (show w24.root = 0 from rfl)]
  rw [e] at g
  refine ⟨_, _, p21 24 (by decide), by decide, by decide, rfl, _, _, g, rfl, _, g2, sel_intro (fun _ => rfl) (fun h => by cases h)⟩
theorem nd0_fits : NdFits nd0 := ⟨by decide, by decide, by decide⟩
theorem ndV0 : ndV nd0 = .agg [.n (.bool false), .o (.sl 1 []), .o (.sl 1 []), .o (.sl 1 [])] := rfl
end Go.Proofs.YtmmnobdpccdeoaaGreatDoor.M
