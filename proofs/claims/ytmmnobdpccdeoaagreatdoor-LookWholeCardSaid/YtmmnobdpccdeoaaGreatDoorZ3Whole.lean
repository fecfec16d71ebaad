import Derived.Test.YtmmnobdpccdeoaaGreatDoorZ3Parts
namespace Go.Proofs.YtmmnobdpccdeoaaGreatDoor.M
set_option linter.unusedVariables false
set_option linter.unusedSimpArgs false
open Go Go.Mir
set_option linter.unusedVariables false

/-- What stands behind all scanning. -/
def Rest5 (a0_0 a0_1 a0_2 : LD) (a0_3 a0_4 : Int) (x5 x6 : Nat) (x7 : Int) (x8 : Bool) (x9 : Nat) (x10 : LD) (x11 : Nat) (x12 : LD) (x16 : Nat) (x19 : Nat × LD) (x21 : LD) (x22 : ByteArray) (R : Mir.AV → Prop) : Prop :=
 ((rn (x16 + 1)) ∧ (∃ y0 : (Int → Prop),(∃ y1 : (Int → Nat),(((rh [(hB 500000 [(aL a0_0),(aL a0_1),(aL a0_2),(aI a0_3),(aI a0_4)]),(hR 501102 (x16 + 1) 51 2 ((Prod.snd x19) ++
 x21)),(hB 550110 [(.row 560110 x5),(.row 570110 x6),(aI x7),(aB x8)]),(hR 560110 x9 51 2 x10),(hR 570110 x11 3 1 x12)]) ∧ (y0 0)) ∧ (∀ y2 : Int,((y0 y2) → (∀ y3 : (Nat →
 Mir.AV),(sel (decide (y2 < (((Prod.snd x19) ++ x21).length : Int))) (((rn (x16 + 1)) ∧ (rn 2)) ∧ ((0 : Int) ≤ y2) ∧ ((y2 : Int) < (((Prod.snd x19) ++ x21).length : Int)) ∧ ((rn
 (x16 + 1)) ∧ (rn 2)) ∧ (∃ y4 : Mir.D,((((Prod.snd x19) ++ x21)[Int.toNat y2]? = some y4) ∧ (∃ y5 : ByteArray,(∃ y6 : ByteArray,((@Eq LD (List.take 2 (List.drop 0 (D.cells y4)))
 [(Mir.D.str y5),(Mir.D.str y6)]) ∧ (((0 + 2) : Nat) ≤ (List.length (D.cells y4))) ∧ (∃ y7 : ByteArray,(∃ y8 : Int,((Runs Fs2 20 [(.agg [(aL a0_0),(aL a0_1),(aL a0_2),(aI a0_3),(aI
 a0_4)]),(aS y5)] [] (.tup [(aS y7),(aI y8)]) []) ∧ (sel (y8 != 0) (R (.n (.bool false))) (sel (Bool.not ((ByteArray.toList y7) == (ByteArray.toList y6))) (R (.n (.bool false)))
 (sel (decide (y2 > 0)) (((rn (x16 + 1)) ∧ (rn 2)) ∧ ((0 : Int) ≤ (IntKind.wrap .i64 (y2 - 1))) ∧ (((IntKind.wrap .i64 (y2 - 1)) : Int) < (((Prod.snd x19) ++ x21).length : Int)) ∧
 ((rn (x16 + 1)) ∧ (rn 2)) ∧ (∃ y9 : Mir.D,((((Prod.snd x19) ++ x21)[Int.toNat (IntKind.wrap .i64 (y2 - 1))]? = some y9) ∧ (∃ y10 : ByteArray,(((D.cells y9)[0]? = some (Mir.D.str
 y10)) ∧ (sel (Bool.not (Op.bytesLess (ByteArray.toList y10) (ByteArray.toList y5))) (R (.n (.bool false))) (sel (decide ((((ByteArray.size y5) : Nat) : Int) < 32)) ((rn (x16 + 1))
 ∧ (sel ((IntKind.wrap .i64 (y2 + 1)) == (((Prod.snd x19) ++ x21).length : Int)) (((((((ByteArray.size y5) + (ByteArray.size (ByteArray.mk (List.toArray [0])))) : Nat) : Int) : Int)
 ≤ 9223372036854775807) ∧ (∃ y11 : ByteArray,(∃ y12 : Int,((Runs Fs2 20 [(.agg [(aL a0_0),(aL a0_1),(aL a0_2),(aI a0_3),(aI a0_4)]),(aS (y5 ++ (ByteArray.mk (List.toArray [0]))))]
 [] (.tup [(aS y11),(aI y12)]) []) ∧ (sel (y12 != 80) (R (.n (.bool false))) ((rq (.ptr 500000 0)) ∧ (rq (.row 501102 (x16 + 1))) ∧ (rq (aS x22)) ∧ (rq (.row 501102 (x16 + 1))) ∧
 (rq (aI (((Prod.snd x19) ++ x21).length : Int))) ∧ (rh [(hB 500000 [(aL a0_0),(aL a0_1),(aL a0_2),(aI a0_3),(aI a0_4)]),(hR 501102 (x16 + 1) 51 2 ((Prod.snd x19) ++ x21)),(hB
 550110 [(.row 560110 x5),(.row 570110 x6),(aI x7),(aB x8)]),(hR 560110 x9 51 2 x10),(hR 570110 x11 3 1 x12)]) ∧ (y0 (IntKind.wrap .i64 (y2 + 1))) ∧ (((y1 (IntKind.wrap .i64 (y2 +
 1))) : Nat) < (y1 y2)))))))) (((rn (x16 + 1)) ∧ (rn 2)) ∧ ((0 : Int) ≤ (IntKind.wrap .i64 (y2 + 1))) ∧ (((IntKind.wrap .i64 (y2 + 1)) : Int) < (((Prod.snd x19) ++ x21).length :
 Int)) ∧ ((rn (x16 + 1)) ∧ (rn 2)) ∧ (∃ y13 : Mir.D,((((Prod.snd x19) ++ x21)[Int.toNat (IntKind.wrap .i64 (y2 + 1))]? = some y13) ∧ (∃ y14 : ByteArray,(((D.cells y13)[0]? = some
 (Mir.D.str y14)) ∧ ((((((ByteArray.size y5) + (ByteArray.size (ByteArray.mk (List.toArray [0])))) : Nat) : Int) : Int) ≤ 9223372036854775807) ∧ (sel (Bool.not ((ByteArray.toList
 y14) == (ByteArray.toList (y5 ++ (ByteArray.mk (List.toArray [0])))))) (((((((ByteArray.size y5) + (ByteArray.size (ByteArray.mk (List.toArray [0])))) : Nat) : Int) : Int) ≤
 9223372036854775807) ∧ (∃ y15 : ByteArray,(∃ y16 : Int,((Runs Fs2 20 [(.agg [(aL a0_0),(aL a0_1),(aL a0_2),(aI a0_3),(aI a0_4)]),(aS (y5 ++ (ByteArray.mk (List.toArray [0]))))] []
 (.tup [(aS y15),(aI y16)]) []) ∧ (sel (y16 != 80) (R (.n (.bool false))) ((rq (.ptr 500000 0)) ∧ (rq (.row 501102 (x16 + 1))) ∧ (rq (aS x22)) ∧ (rq (.row 501102 (x16 + 1))) ∧ (rq
 (aI (((Prod.snd x19) ++ x21).length : Int))) ∧ (rh [(hB 500000 [(aL a0_0),(aL a0_1),(aL a0_2),(aI a0_3),(aI a0_4)]),(hR 501102 (x16 + 1) 51 2 ((Prod.snd x19) ++ x21)),(hB 550110
 [(.row 560110 x5),(.row 570110 x6),(aI x7),(aB x8)]),(hR 560110 x9 51 2 x10),(hR 570110 x11 3 1 x12)]) ∧ (y0 (IntKind.wrap .i64 (y2 + 1))) ∧ (((y1 (IntKind.wrap .i64 (y2 + 1))) :
 Nat) < (y1 y2)))))))) ((rq (.ptr 500000 0)) ∧ (rq (.row 501102 (x16 + 1))) ∧ (rq (aS x22)) ∧ (rq (.row 501102 (x16 + 1))) ∧ (rq (aI (((Prod.snd x19) ++ x21).length : Int))) ∧ (rh
 [(hB 500000 [(aL a0_0),(aL a0_1),(aL a0_2),(aI a0_3),(aI a0_4)]),(hR 501102 (x16 + 1) 51 2 ((Prod.snd x19) ++ x21)),(hB 550110 [(.row 560110 x5),(.row 570110 x6),(aI x7),(aB
 x8)]),(hR 560110 x9 51 2 x10),(hR 570110 x11 3 1 x12)]) ∧ (y0 (IntKind.wrap .i64 (y2 + 1))) ∧ (((y1 (IntKind.wrap .i64 (y2 + 1))) : Nat) < (y1 y2))))))))))) ((rq (.ptr 500000 0)) ∧
 (rq (.row 501102 (x16 + 1))) ∧ (rq (aS x22)) ∧ (rq (.row 501102 (x16 + 1))) ∧ (rq (aI (((Prod.snd x19) ++ x21).length : Int))) ∧ (rh [(hB 500000 [(aL a0_0),(aL a0_1),(aL a0_2),(aI
 a0_3),(aI a0_4)]),(hR 501102 (x16 + 1) 51 2 ((Prod.snd x19) ++ x21)),(hB 550110 [(.row 560110 x5),(.row 570110 x6),(aI x7),(aB x8)]),(hR 560110 x9 51 2 x10),(hR 570110 x11 3 1
 x12)]) ∧ (y0 (IntKind.wrap .i64 (y2 + 1))) ∧ (((y1 (IntKind.wrap .i64 (y2 + 1))) : Nat) < (y1 y2)))))))))) (sel (decide ((((ByteArray.size y5) : Nat) : Int) < 32)) ((rn (x16 + 1))
 ∧ (sel ((IntKind.wrap .i64 (y2 + 1)) == (((Prod.snd x19) ++ x21).length : Int)) (((((((ByteArray.size y5) + (ByteArray.size (ByteArray.mk (List.toArray [0])))) : Nat) : Int) : Int)
 ≤ 9223372036854775807) ∧ (∃ y17 : ByteArray,(∃ y18 : Int,((Runs Fs2 20 [(.agg [(aL a0_0),(aL a0_1),(aL a0_2),(aI a0_3),(aI a0_4)]),(aS (y5 ++ (ByteArray.mk (List.toArray [0]))))]
 [] (.tup [(aS y17),(aI y18)]) []) ∧ (sel (y18 != 80) (R (.n (.bool false))) ((rq (.ptr 500000 0)) ∧ (rq (.row 501102 (x16 + 1))) ∧ (rq (aS x22)) ∧ (rq (.row 501102 (x16 + 1))) ∧
 (rq (aI (((Prod.snd x19) ++ x21).length : Int))) ∧ (rh [(hB 500000 [(aL a0_0),(aL a0_1),(aL a0_2),(aI a0_3),(aI a0_4)]),(hR 501102 (x16 + 1) 51 2 ((Prod.snd x19) ++ x21)),(hB
 550110 [(.row 560110 x5),(.row 570110 x6),(aI x7),(aB x8)]),(hR 560110 x9 51 2 x10),(hR 570110 x11 3 1 x12)]) ∧ (y0 (IntKind.wrap .i64 (y2 + 1))) ∧ (((y1 (IntKind.wrap .i64 (y2 +
 1))) : Nat) < (y1 y2)))))))) (((rn (x16 + 1)) ∧ (rn 2)) ∧ ((0 : Int) ≤ (IntKind.wrap .i64 (y2 + 1))) ∧ (((IntKind.wrap .i64 (y2 + 1)) : Int) < (((Prod.snd x19) ++ x21).length :
 Int)) ∧ ((rn (x16 + 1)) ∧ (rn 2)) ∧ (∃ y19 : Mir.D,((((Prod.snd x19) ++ x21)[Int.toNat (IntKind.wrap .i64 (y2 + 1))]? = some y19) ∧ (∃ y20 : ByteArray,(((D.cells y19)[0]? = some
 (Mir.D.str y20)) ∧ ((((((ByteArray.size y5) + (ByteArray.size (ByteArray.mk (List.toArray [0])))) : Nat) : Int) : Int) ≤ 9223372036854775807) ∧ (sel (Bool.not ((ByteArray.toList
 y20) == (ByteArray.toList (y5 ++ (ByteArray.mk (List.toArray [0])))))) (((((((ByteArray.size y5) + (ByteArray.size (ByteArray.mk (List.toArray [0])))) : Nat) : Int) : Int) ≤
 9223372036854775807) ∧ (∃ y21 : ByteArray,(∃ y22 : Int,((Runs Fs2 20 [(.agg [(aL a0_0),(aL a0_1),(aL a0_2),(aI a0_3),(aI a0_4)]),(aS (y5 ++ (ByteArray.mk (List.toArray [0]))))] []
 (.tup [(aS y21),(aI y22)]) []) ∧ (sel (y22 != 80) (R (.n (.bool false))) ((rq (.ptr 500000 0)) ∧ (rq (.row 501102 (x16 + 1))) ∧ (rq (aS x22)) ∧ (rq (.row 501102 (x16 + 1))) ∧ (rq
 (aI (((Prod.snd x19) ++ x21).length : Int))) ∧ (rh [(hB 500000 [(aL a0_0),(aL a0_1),(aL a0_2),(aI a0_3),(aI a0_4)]),(hR 501102 (x16 + 1) 51 2 ((Prod.snd x19) ++ x21)),(hB 550110
 [(.row 560110 x5),(.row 570110 x6),(aI x7),(aB x8)]),(hR 560110 x9 51 2 x10),(hR 570110 x11 3 1 x12)]) ∧ (y0 (IntKind.wrap .i64 (y2 + 1))) ∧ (((y1 (IntKind.wrap .i64 (y2 + 1))) :
 Nat) < (y1 y2)))))))) ((rq (.ptr 500000 0)) ∧ (rq (.row 501102 (x16 + 1))) ∧ (rq (aS x22)) ∧ (rq (.row 501102 (x16 + 1))) ∧ (rq (aI (((Prod.snd x19) ++ x21).length : Int))) ∧ (rh
 [(hB 500000 [(aL a0_0),(aL a0_1),(aL a0_2),(aI a0_3),(aI a0_4)]),(hR 501102 (x16 + 1) 51 2 ((Prod.snd x19) ++ x21)),(hB 550110 [(.row 560110 x5),(.row 570110 x6),(aI x7),(aB
 x8)]),(hR 560110 x9 51 2 x10),(hR 570110 x11 3 1 x12)]) ∧ (y0 (IntKind.wrap .i64 (y2 + 1))) ∧ (((y1 (IntKind.wrap .i64 (y2 + 1))) : Nat) < (y1 y2))))))))))) ((rq (.ptr 500000 0)) ∧
 (rq (.row 501102 (x16 + 1))) ∧ (rq (aS x22)) ∧ (rq (.row 501102 (x16 + 1))) ∧ (rq (aI (((Prod.snd x19) ++ x21).length : Int))) ∧ (rh [(hB 500000 [(aL a0_0),(aL a0_1),(aL a0_2),(aI
 a0_3),(aI a0_4)]),(hR 501102 (x16 + 1) 51 2 ((Prod.snd x19) ++ x21)),(hB 550110 [(.row 560110 x5),(.row 570110 x6),(aI x7),(aB x8)]),(hR 560110 x9 51 2 x10),(hR 570110 x11 3 1
 x12)]) ∧ (y0 (IntKind.wrap .i64 (y2 + 1))) ∧ (((y1 (IntKind.wrap .i64 (y2 + 1))) : Nat) < (y1 y2)))))))))))))))) (∃ y23 : Bool,((Runs Fs2 14 [] [] (aB y23) []) ∧ (sel y23 (sel
 ((ByteArray.toList x22) == (ByteArray.toList (ByteArray.mk (List.toArray [])))) (∃ y24 : Unit,(∃ y25 : Nat,(∃ y26 : Nat,(∃ y27 : Int,(∃ y28 : Bool,(∃ y29 : Nat,(∃ y30 : LD,(∃ y31 :
 Nat,(∃ y32 : LD,((Runs Fs2 17 [(.agg [(aL a0_0),(aL a0_1),(aL a0_2),(aI a0_3),(aI a0_4)])] [] (.ptr 1700101 0) [(hB 1700101 [(.row 1790001 y25),(.row 1790002 y26),(aI y27),(aB
 y28)]),(hR 1790001 y29 51 2 y30),(hR 1790002 y31 3 1 y32)]) ∧ ((x16 + 1) = (x16 + 1)) ∧ (y29 = y25) ∧ (∃ y33 : Bool,((Runs Fs2 19 [(.o (Mir.D.sl 2 ((Prod.snd x19) ++ x21))),(.o
 (Mir.D.sl 2 y30))] [] (aB y33) []) ∧ (R (.n (.bool y33))))))))))))))) (R (.n (.bool false)))) (R (.n (.bool false))))))))))))))
theorem bl_succ : ∀ {a x : List UInt8}, bl a x = true → bl x (a ++ [0]) = false
  | [], [], h => by cases h
  | [], y :: s, _ => by
    rw [List.nil_append, bl_cons]
    have e : bl s [] = false := by cases s <;> rfl
    rw [e]; simp
  | _ :: _, [], h => by cases h
  | a :: r, y :: s, h => by
    rw [bl_cons] at h
    rw [List.cons_append, bl_cons]
    simp only [Bool.or_eq_true, Bool.and_eq_true, decide_eq_true_eq] at h
    rcases h with h | ⟨h1, h2⟩
    · simp; omega
    · rw [bl_succ h2]; simp; omega
theorem bl_self : ∀ a : List UInt8, bl a (a ++ [0]) = true
  | [] => rfl
  | x :: r => by rw [List.cons_append, bl_cons, bl_self r]; simp
def zB : ByteArray := ByteArray.mk (List.toArray [0])
theorem zB_list (k : ByteArray) : (k ++ zB).toList = k.toList ++ [0] := by
  rw [toList_data, toList_data, ByteArray.data_append, Array.toList_append]; rfl
theorem lt_succ {k x : ByteArray} (h : lt k x = true) : lt x (k ++ zB) = false := by
  unfold lt at h ⊢
  rw [zB_list]; exact bl_succ h
theorem lt_self (k : ByteArray) : lt k (k ++ zB) = true := by
  unfold lt
  rw [zB_list]; exact bl_self _
theorem zB_size (k : ByteArray) : (k ++ zB).size = k.size + 1 := by rw [ByteArray.size_append]; rfl
theorem inc_at {P : List Pr} (h : Inc P) {i j : Nat} (hi : i < P.length) (hj : j < P.length) (hij : i < j) : lt P[i].1 P[j].1 = true := List.pairwise_iff_getElem.1 h i j hi hj hij
theorem no_succ {P : List Pr} (h : Inc P) {i : Nat} (hi : i < P.length) (hn : ∀ h2 : i + 1 < P.length, P[i + 1].1 ≠ P[i].1 ++ zB) : ∀ p ∈ P, p.1 ≠ P[i].1 ++ zB := fun p hp e => by
  obtain ⟨j, hj, rfl⟩ := List.getElem_of_mem hp
  have hs := lt_self P[i].1
  rw [← e] at hs
  have hij : i < j := by
    rcases Nat.lt_trichotomy i j with h1 | h1 | h1
    · exact h1
    · subst h1; rw [lt_irr] at hs; cases hs
    · have := lt_asym (inc_at h hj hi h1); rw [this] at hs; cases hs
  by_cases e1 : j = i + 1
  · subst e1; exact hn hj e
  · have h1 := inc_at h hi (show i + 1 < P.length by omega) (by omega)
    have h2 := inc_at h (show i + 1 < P.length by omega) hj (by omega)
    have h3 := lt_succ h1
    rw [← e, h2] at h3; cases h3
theorem refGet_at : ∀ {P : List Pr}, Inc P → ∀ {i : Nat} (hi : i < P.length), refGet P P[i].1 = (P[i].2, 0)
  | [], _, i, hi => by simp at hi
  | p :: P, h, 0, _ => by simp [refGet]
  | p :: P, h, i + 1, hi => by
    obtain ⟨h1, h2⟩ := List.pairwise_cons.1 h
    have hi' : i < P.length := by simpa using hi
    rw [List.getElem_cons_succ, refGet, if_neg (lt_ne (h1 _ (List.getElem_mem hi')))]
    exact refGet_at h2 hi'
theorem rest5 {w : Wd} (hf : WFits w) (hr : WRight w) {h : Nat} {P : List Pr} {B : List Int} (ht : IsTree w h P B) {va vb : Nat} (he : treeW w = ⟨P, B, h, false⟩) (g17 : Runs Fs2 17 [wdV w] [] (.ptr 1700101 0) (hT (treeW w) va vb)) {L1 L2 : List Pr} (hL : L1 ++ L2 = P) (x5 x6 : Nat) (x7 : Int) (x8 : Bool) (x9 : Nat) (x10 : LD) (x11 : Nat) (x12 : LD) (v z : Nat) {nx : ByteArray} (hnx : nx = empS) :
    Rest5 (blD w.base) (blD w.now) (sl_ w.pages) w.root w.gen x5 x6 x7 x8 x9 x10 x11 x12 v (z, psD L1) (psD L2) nx (· = .n (.bool true)) := by
  have hn := wr_now hr
  obtain ⟨l1, l2⟩ := isTree_len hn ht
  have hsz := isTree_ksz ht
  have hinc := isTree_inc ht
  have eL : psD L1 ++ psD L2 = psD P := by rw [← hL]; simp [psD]
  unfold Rest5
  dsimp only
  rw [eL, psD_len]
  refine ⟨rfl, fun i => 0 ≤ i ∧ i ≤ P.length, fun i => (P.length - i).toNat, ⟨rfl, by omega, by omega⟩, ?_⟩
  rintro i ⟨h0, h1⟩ _
  refine sel_dec (fun hlt => ?_) (fun hge => ?_)
  · have hi : i.toNat < P.length := by omega
    obtain ⟨s1, s32⟩ := hsz _ (List.getElem_mem hi)
    have g := p20 w hf P[i.toNat].1
    rw [getW_tree hr s1 s32 ht, refGet_at hinc hi] at g
    have hz : ((((ByteArray.size P[i.toNat].1) + (ByteArray.size (ByteArray.mk (List.toArray [0])))) : Nat) : Int) ≤ 9223372036854775807 := by
      have : ByteArray.size (ByteArray.mk (List.toArray [0])) = 1 := rfl
      omega
    have next : P[i.toNat].1.size < 32 → (∀ h2 : i.toNat + 1 < P.length, P[i.toNat + 1].1 ≠ P[i.toNat].1 ++ zB) → Runs Fs2 20 [wdV w, .n (.str (P[i.toNat].1 ++ (ByteArray.mk (List.toArray [0]))))] [] (.tup [.n (.str empS), .n (.int .i64 80)]) [] := fun hs hx => by
      have g := p20 w hf (P[i.toNat].1 ++ zB)
      have hsz2 := zB_size P[i.toNat].1
      rw [getW_tree hr (by omega) (by omega) ht, refGet_no (no_succ hinc hi hx)] at g
      exact g
    have e1 : (i + 1).toNat = i.toNat + 1 := by omega
    refine ⟨⟨rfl, rfl⟩, h0, hlt, ⟨rfl, rfl⟩, _, psD_at hi, _, _, rfl, Nat.le_refl 2, _, _, g, sel_intro (fun h => by simp at h) (fun _ => ?_)⟩
    rw [beq_dec, decide_eq_true rfl]
    refine sel_intro (fun h => by cases h) (fun _ => ?_)
    rw [i64_in (i - 1) (by omega), i64_in (i + 1) (by omega)]
    refine sel_dec (fun hp => ⟨⟨rfl, rfl⟩, by omega, by omega, ⟨rfl, rfl⟩, _, psD_at (show (i - 1).toNat < P.length by omega), _, rfl, sel_intro (fun h => absurd h (by
      have := inc_at hinc (show (i - 1).toNat < P.length by omega) hi (by omega)
      rw [show Op.bytesLess (P[(i - 1).toNat]'(by omega)).1.toList P[i.toNat].1.toList = lt (P[(i - 1).toNat]'(by omega)).1 P[i.toNat].1 from rfl, this]; simp)) (fun _ => ?_)⟩) (fun hp => ?_)
    all_goals
      refine sel_dec (fun hs => ⟨rfl, ?_⟩) (fun _ => ?_)
      · refine sel_intro (fun h => ⟨hz, _, _, next (by omega) (fun h2 => ?_), sel_intro (fun h => by simp at h) (fun _ => ?_)⟩) (fun h => ?_)
        · have h : i + 1 = (P.length : Int) := by simpa using h
          omega
        · repeat (refine And.intro rfl ?_)
          exact ⟨⟨by omega, by omega⟩, by first | omega | (dsimp only; omega)⟩
        · have h : i + 1 ≠ (P.length : Int) := by simpa using h
          have hi2 : (i + 1).toNat < P.length := by omega
          refine ⟨⟨rfl, rfl⟩, by omega, by omega, ⟨rfl, rfl⟩, _, psD_at hi2, _, rfl, hz, ?_⟩
          rw [beq_dec]
          refine sel_intro (fun hx => ⟨hz, _, _, next (by omega) (fun h2 => ?_), sel_intro (fun h => by simp at h) (fun _ => ?_)⟩) (fun _ => ?_)
          · have hx : P[(i + 1).toNat].1 ≠ P[i.toNat].1 ++ (ByteArray.mk (List.toArray [0])) := by simpa using hx
            intro hq
            refine hx ?_
            have e3 : P[(i + 1).toNat].1 = P[i.toNat + 1].1 := by simp only [e1]
            exact e3.trans hq
          · repeat (refine And.intro rfl ?_)
            exact ⟨⟨by omega, by omega⟩, by first | omega | (dsimp only; omega)⟩
          · repeat (refine And.intro rfl ?_)
            exact ⟨⟨by omega, by omega⟩, by first | omega | (dsimp only; omega)⟩
      · repeat (refine And.intro rfl ?_)
        exact ⟨⟨by omega, by omega⟩, by first | omega | (dsimp only; omega)⟩
  · obtain ⟨rfl⟩ := hnx
    have hx := p19 P P (by omega) (by omega)
    rw [decide_eq_true rfl] at hx
    rw [he] at g17
    refine ⟨_, p14, sel_intro (fun _ => ?_) (fun h => by cases h)⟩
    rw [show (empS.toList == (ByteArray.mk (List.toArray [])).toList) = decide (empS = empS) from beq_dec empS empS]
    refine sel_dec (fun _ => ?_) (fun h => absurd rfl h)
    exact ⟨(), _, _, _, _, _, _, _, _, g17, rfl, rfl, _, hx, rfl⟩
theorem mm256 (a : Int) : ∃ S : Nat, mmI false (mmI true a 1) 256 = S ∧ 1 ≤ S ∧ S ≤ 256 := by
  unfold mmI
  simp only [Bool.false_eq_true, if_false, if_true]
  split
  · split
    · exact ⟨256, rfl, by omega, by omega⟩
    · exact ⟨1, rfl, by omega, by omega⟩
  · split
    · exact ⟨256, rfl, by omega, by omega⟩
    · exact ⟨a.toNat, by omega, by omega, by omega⟩
theorem p5 (w : Wd) (hf : WFits w) (step : Int) : Runs Fs2 5 [wdV w, .n (.int .i64 step)] [] (.n (.bool true)) [] := by
  have g13 := p13 w
  have g16 := p16 w hf
  obtain ⟨S, hS, S1, S2⟩ := mm256 step
  refine vc_eq fs5 rfl ?_
  rw [wdV, vc5, V5, hS]
  refine ⟨_, g13, sel_intro (fun _ => ⟨_, p14, rfl⟩) (fun hsm => ⟨_, g16, ?_⟩)⟩
  have hsm : w.now.length ≤ 300 ∧ w.pages.length ≤ 300 := by simpa using hsm
  by_cases hr : WRight w
  · rw [decide_eq_true hr]
    have hn := wr_now hr
    obtain ⟨va, vb, g17⟩ := p17 w hf hn
    refine sel_intro (fun h => by cases h) (fun _ => ⟨(), _, _, _, _, _, _, _, _, g17, sel_intro (fun _ => ⟨_, p14, rfl⟩) (fun hb => ?_)⟩)
    obtain ⟨h, P, B, ht, he⟩ := tree_sound hb
    obtain ⟨l1, l2⟩ := isTree_len hn ht
    have hsz := isTree_ksz ht
    have hinc := isTree_inc ht
    have emp : ∀ s : ByteArray, (s.toList == (ByteArray.mk (List.toArray [])).toList) = decide (s = empS) := fun s => beq_dec s empS
    refine ⟨fun v fr i Q => 0 ≤ i ∧ ∃ k : Nat, i ≤ k ∧ k ≤ P.length ∧ Q = (v, psD (P.take k)) ∧ ((k = 0 ∧ fr = empS) ∨ ∃ hk : k < P.length, fr = P[k].1), fun _ _ i _ => (3000 - i).toNat, ⟨rfl, by omega, 0, by omega, by omega, rfl, .inl ⟨rfl, rfl⟩⟩, ?_⟩
    rintro v fr i Q ⟨h0, k, hik, hkl, rfl, hfr⟩ _
    dsimp only
    refine sel_dec (fun hlt => ?_) (fun hge => by omega)
    have hfilt : filt fr P = P.drop k := by
      rcases hfr with ⟨rfl, rfl⟩ | ⟨hk, rfl⟩
      · rw [filt_all, List.drop_zero]
      · exact filt_at hinc hk
    have hfs : fr.size ≤ 32 := by
      rcases hfr with ⟨_, rfl⟩ | ⟨hk, rfl⟩
      · decide
      · exact (hsz _ (List.getElem_mem hk)).2
    have g15 := p15 w hf fr S
    rw [scanW_tree hr hfs (by omega) (by omega) ht l1, scanR_top, hfilt, List.drop_drop] at g15
    have htk : P.take k ++ (P.drop k).take S = P.take (k + S) := List.take_add.symm
    have hTl : ((P.drop k).take S).length ≤ 256 := by rw [List.length_take]; omega
    have hLl : (P.take k).length ≤ P.length := by rw [List.length_take]; omega
    refine ⟨_, _, _, g15, sel_intro (fun h => by simp at h) (fun _ => ?_)⟩
    dsimp only
    rw [psD_len, psD_len]
    refine sel_dec (fun h => by rw [List.length_take] at h; omega) (fun _ => ?_)
    have hdz : KSz (P.drop (k + S)) := fun p hp => hsz p (List.mem_of_mem_drop hp)
    have fin : headK (P.drop (k + S)) = empS → Rest5 (blD w.base) (blD w.now) (sl_ w.pages) w.root w.gen va vb (treeW w).he (treeW w).bad va (psD (treeW w).ps) vb (il (treeW w).bs) v (v, psD (P.take k)) (psD ((P.drop k).take S)) (headK (P.drop (k + S))) (· = .n (.bool true)) := fun hh => by
      have hd := headK_nil hdz hh
      refine rest5 hf hr ht he g17 ?_ _ _ _ _ _ _ _ _ _ _ hh
      rw [htk, List.take_of_length_le (List.drop_eq_nil_iff.1 hd)]
    have more : headK (P.drop (k + S)) ≠ empS → (0 ≤ IntKind.wrap .i64 (i + 1) ∧ ∃ k2 : Nat, IntKind.wrap .i64 (i + 1) ≤ k2 ∧ k2 ≤ P.length ∧ (v + 1, psD (P.take k) ++ psD ((P.drop k).take S)) = (v + 1, psD (P.take k2)) ∧ ((k2 = 0 ∧ headK (P.drop (k + S)) = empS) ∨ ∃ hk : k2 < P.length, headK (P.drop (k + S)) = P[k2].1)) := fun hh => by
      have hlt2 : k + S < P.length := Classical.byContradiction fun hc => hh (by rw [List.drop_of_length_le (by omega)]; rfl)
      rw [i64_in _ (by omega)]
      refine ⟨by omega, k + S, by omega, by omega, ?_, .inr ⟨hlt2, ?_⟩⟩
      · rw [← htk]; simp [psD]
      · rw [List.drop_eq_getElem_cons hlt2]; rfl
    have hbd : (((P.take k).length + ((P.drop k).take S).length) * 32 : Nat) ≤ 140737488355328 := by omega
    refine sel_intro (fun hh => ?_) (fun hh => ?_)
    · have hh2 := hh
      rw [emp] at hh
      have hh := of_decide_eq_true hh
      refine sel_intro (fun hl0 => ⟨rfl, sel_dec (fun hpos => ?_) (fun _ => ⟨.inl rfl, ⟨⟨rfl, rfl⟩, rfl⟩, hbd, ?_⟩)⟩) (fun _ => ⟨.inl rfl, ⟨⟨rfl, rfl⟩, rfl⟩, hbd, ?_⟩)
      · exfalso
        have hl0 : (((P.drop k).take S).length : Int) = 0 := by simpa using hl0
        rw [List.length_take, List.length_drop] at hl0
        rcases hfr with ⟨rfl, _⟩ | ⟨hk, _⟩
        · simp at hpos
        · omega
      · exact sel_intro (fun _ => fin hh) (fun h => by rw [hh2] at h; cases h)
      · exact sel_intro (fun _ => fin hh) (fun h => by rw [hh2] at h; cases h)
    · have hh2 := hh
      rw [emp] at hh
      have hh := of_decide_eq_false hh
      refine ⟨.inl rfl, ⟨⟨rfl, rfl⟩, rfl⟩, hbd, ?_⟩
      refine sel_intro (fun h => by rw [hh2] at h; cases h) (fun _ => ?_)
      have hm := more hh
      refine ⟨rfl, rfl, rfl, hm, ?_⟩
      rw [i64_in _ (by omega)]; omega
  · rw [decide_eq_false hr]
    exact sel_intro (fun _ => ⟨_, p14, rfl⟩) (fun h => by cases h)
theorem p5x (x : wdT.T) (h : wdT.fit x) (step : Int) : Runs Fs2 5 [wdT.av x, .n (.int .i64 step)] [] (.n (.bool true)) [] := by
  rw [wd_av]; exact p5 (toWd x) (wd_fit x h) step
end Go.Proofs.YtmmnobdpccdeoaaGreatDoor.M
