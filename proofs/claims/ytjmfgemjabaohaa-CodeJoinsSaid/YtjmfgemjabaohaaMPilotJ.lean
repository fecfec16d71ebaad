import Derived.Test.YtjmfgemjabaohaaMPilotT
namespace Go.Proofs.Ytjmfgemjabaohaa.M
set_option linter.unusedVariables false
set_option linter.unusedSimpArgs false
open Go Go.Mir
set_option linter.unusedVariables false

theorem p16' {L : List Mir.D} {ys : List ByteArray} (h : L = ys.map Mir.D.str) (h1 : ys.length ≤ 50) (h2 : sizes ys ≤ 50000) : Runs Fs 16 [.o (.sl 1 L)] [] (.n (.str (cat ys))) [] := by
  subst h
  exact p16 ys (by omega) (by omega)
theorem sizes_le : ∀ ys : List ByteArray, (∀ y ∈ ys, y.size ≤ 1000) → sizes ys ≤ 1000 * ys.length
  | [], _ => by simp [sizes]
  | y :: r, h => by
    have := sizes_le r fun z hz => h z (List.mem_cons_of_mem _ hz)
    have := h y (List.mem_cons_self ..)
    simp only [sizes, List.length_cons]; omega
theorem cat_two (a b : List ByteArray) : cat [cat a, cat b] = cat (a ++ b) := by
  simp [cat]
theorem cat_snoc (a : List ByteArray) (b : ByteArray) : cat a ++ b = cat (a ++ [b]) := by
  have : ∀ x y : ByteArray, (x ++ y).data.toList = x.data.toList ++ y.data.toList := fun x y => by simp
  cases h : cat a ++ b with
  | mk d =>
    have h2 := congrArg (fun z : ByteArray => z.data.toList) h
    simp only [this] at h2
    unfold cat
    congr 1
    simp only [cat] at h2
    simp only [List.map_append, List.flatten_append]
    simp only [List.map_cons, List.map_nil, List.flatten_cons, List.flatten_nil, List.append_nil]
    rw [h2]

theorem fin (L : List Mir.D) (a : Int) (W : ByteArray) (ys : List ByteArray) (hL : L = ys.map Mir.D.str) (hW : W = cat ys) (hl : ys.length ≤ 50) (hs : ∀ y ∈ ys, y.size ≤ 1000) :
((((Go.IntKind.wrap .i64 ((((List.length L) : Nat) : Int) + 1)) : Int) ≠ 0) ∧
              ((((Go.IntKind.wrap .i64 ((((List.length L) : Nat) : Int) + 1)) : Int) ≠ 0) ∧
               (∃ x18 : Bool,
                ((Runs Fs 11 [] [] (Mir.AV.n (Mir.D.bool x18)) []) ∧
                 (sel x18
                  (∃ x19 : ByteArray,
                   ((Runs Fs 16 [(Mir.AV.o (Mir.D.sl 1 L))] [] (Mir.AV.n (Mir.D.str x19)) []) ∧
                    (sel ((ByteArray.toList x19) == (ByteArray.toList W))
                     (((1 : Nat) = 1) ∧
                      (((0 : Int) ≤ (Int.tmod (Go.IntKind.wrap .i64 ((Go.IntKind.wrap .i64 ((Int.tmod a (Go.IntKind.wrap .i64 ((((List.length L) : Nat) : Int) + 1))) + (((List.length L) : Nat) : Int))) + 1)) (Go.IntKind.wrap .i64 ((((List.length L) : Nat) : Int) + 1)))) ∧
                       ((((Int.tmod (Go.IntKind.wrap .i64 ((Go.IntKind.wrap .i64 ((Int.tmod a (Go.IntKind.wrap .i64 ((((List.length L) : Nat) : Int) + 1))) + (((List.length L) : Nat) : Int))) + 1)) (Go.IntKind.wrap .i64 ((((List.length L) : Nat) : Int) + 1))) : Int) ≤ (((List.length L) : Nat) : Int)) ∧
                        (∃ x20 : ByteArray,
                         ((Runs Fs 16 [(Mir.AV.o (Mir.D.sl 1 (List.drop 0 (List.take (Int.toNat (Int.tmod (Go.IntKind.wrap .i64 ((Go.IntKind.wrap .i64 ((Int.tmod a (Go.IntKind.wrap .i64 ((((List.length L) : Nat) : Int) + 1))) + (((List.length L) : Nat) : Int))) + 1)) (Go.IntKind.wrap .i64 ((((List.length L) : Nat) : Int) + 1)))) L))))] [] (Mir.AV.n (Mir.D.str x20)) []) ∧
                          (((1 : Nat) = 1) ∧
                           (((0 : Int) ≤ (Int.tmod (Go.IntKind.wrap .i64 ((Go.IntKind.wrap .i64 ((Int.tmod a (Go.IntKind.wrap .i64 ((((List.length L) : Nat) : Int) + 1))) + (((List.length L) : Nat) : Int))) + 1)) (Go.IntKind.wrap .i64 ((((List.length L) : Nat) : Int) + 1)))) ∧
                            ((((Int.tmod (Go.IntKind.wrap .i64 ((Go.IntKind.wrap .i64 ((Int.tmod a (Go.IntKind.wrap .i64 ((((List.length L) : Nat) : Int) + 1))) + (((List.length L) : Nat) : Int))) + 1)) (Go.IntKind.wrap .i64 ((((List.length L) : Nat) : Int) + 1))) : Int) ≤ (((List.length L) : Nat) : Int)) ∧
                             (∃ x21 : ByteArray,
                              ((Runs Fs 16 [(Mir.AV.o (Mir.D.sl 1 (List.drop (Int.toNat (Int.tmod (Go.IntKind.wrap .i64 ((Go.IntKind.wrap .i64 ((Int.tmod a (Go.IntKind.wrap .i64 ((((List.length L) : Nat) : Int) + 1))) + (((List.length L) : Nat) : Int))) + 1)) (Go.IntKind.wrap .i64 ((((List.length L) : Nat) : Int) + 1)))) (List.take (List.length L) L))))] [] (Mir.AV.n (Mir.D.str x21)) []) ∧
                               ((0 = 0) ∧
                                (∃ x22 : ByteArray,
                                 ((Runs Fs 16 [(Mir.AV.o (Mir.D.sl 1 [(Mir.D.str x20), (Mir.D.str x21)]))] [] (Mir.AV.n (Mir.D.str x22)) []) ∧
                                  (sel ((ByteArray.toList x22) == (ByteArray.toList W))
                                   (∃ x23 : ByteArray,
                                    ((Runs Fs 16 [(Mir.AV.o (Mir.D.sl 1 []))] [] (Mir.AV.n (Mir.D.str x23)) []) ∧
                                     ((fun r => r = Mir.AV.n (Mir.D.bool true)) (Mir.AV.n (Mir.D.bool ((ByteArray.toList x23) == (ByteArray.toList (ByteArray.mk (List.toArray [])))))))))
                                   ((fun r => r = Mir.AV.n (Mir.D.bool true)) (Mir.AV.n (Mir.D.bool false)))))))))))))))))
                     ((fun r => r = Mir.AV.n (Mir.D.bool true)) (Mir.AV.n (Mir.D.bool false))))))
                  ((fun r => r = Mir.AV.n (Mir.D.bool true)) (Mir.AV.n (Mir.D.bool false)))))))) := by
  subst hL; subst hW
  have hlen : (ys.map Mir.D.str).length = ys.length := by simp
  have sub : ∀ zs : List ByteArray, (∀ y ∈ zs, y ∈ ys) → zs.length ≤ 50 → sizes zs ≤ 50000 := fun zs hz h => by
    have := sizes_le zs fun y hy => hs y (hz y hy)
    omega
  rw [hlen, i64_in ((ys.length : Int) + 1) (by omega)]
  have hn : ((ys.length : Int) + 1) ≠ 0 := by omega
  have h1 := Int.tmod_lt_of_pos a (show (0:Int) < (ys.length : Int) + 1 by omega)
  have h2 : -((ys.length : Int) + 1) < Int.tmod a ((ys.length : Int) + 1) := by
    have := Int.lt_tmod_of_pos a (show (0:Int) < (ys.length : Int) + 1 by omega)
    omega
  generalize Int.tmod a ((ys.length : Int) + 1) = m at h1 h2
  rw [i64_in (m + (ys.length : Int)) (by omega), i64_in (m + (ys.length : Int) + 1) (by omega)]
  have h3 := Int.tmod_lt_of_pos (m + (ys.length : Int) + 1) (show (0:Int) < (ys.length : Int) + 1 by omega)
  have h4 := Int.tmod_nonneg ((ys.length : Int) + 1) (show (0:Int) ≤ m + (ys.length : Int) + 1 by omega)
  generalize Int.tmod (m + (ys.length : Int) + 1) ((ys.length : Int) + 1) = k at h3 h4
  have hall := p16' (L := ys.map Mir.D.str) rfl hl (sub ys (fun _ h => h) hl)
  have htk := p16' (L := List.drop 0 (List.take k.toNat (ys.map Mir.D.str))) (ys := ys.take k.toNat) (by simp [List.map_take]) (by simp; omega) (sub _ (fun y hy => List.mem_of_mem_take hy) (by simp; omega))
  have hdr := p16' (L := List.drop k.toNat (List.take ys.length (ys.map Mir.D.str))) (ys := ys.drop k.toNat) (by rw [← hlen, List.take_length, List.map_drop]) (by simp; omega) (sub _ (fun y hy => List.mem_of_mem_drop hy) (by simp; omega))
  have hz2 : sizes [cat (ys.take k.toNat), cat (ys.drop k.toNat)] ≤ 140737488355328 := by
    have g1 := sub (ys.take k.toNat) (fun y hy => List.mem_of_mem_take hy) (by simp; omega)
    have g2 := sub (ys.drop k.toNat) (fun y hy => List.mem_of_mem_drop hy) (by simp; omega)
    simp only [sizes, cat_size]; omega
  have htwo := p16 [cat (ys.take k.toNat), cat (ys.drop k.toNat)] (by simp) hz2
  rw [cat_two, List.take_append_drop] at htwo
  refine ⟨hn, hn, true, p11, sel_intro (fun _ => ⟨cat ys, hall, sel_beq ⟨rfl, h4, by omega, _, htk, rfl, h4, by omega, _, hdr, rfl, _, htwo, sel_beq ⟨_, p16 [] (by simp) (by simp [sizes]), ?_⟩⟩⟩) (fun h => by cases h)⟩
  show Mir.AV.n (Mir.D.bool ((cat []).toList == (ByteArray.mk (List.toArray [])).toList)) = Mir.AV.n (Mir.D.bool true)
  rw [show cat [] = ByteArray.mk (List.toArray []) from rfl, beq_self_eq_true]

theorem p6 (xs : List ByteArray) (hx : xs.length ≤ 9223372036854775807) (a : Int) : Runs Fs 6 [.o (.sl 1 (xs.map Mir.D.str)), .n (.int .i64 a)] [] (.n (.bool true)) [] := by
  refine vc_eq fs6 rfl ?_
  rw [vc6]
  refine ⟨fun x2 x3 x4 x5 x6 x7 => x2 = xs.map Mir.D.str ∧ x5 = xs.map Mir.D.str ∧ x6 = xs.length ∧ 0 ≤ x7 ∧ x7 ≤ xs.length ∧ x7 ≤ 50 ∧ x4 = cat (xs.take x7.toNat) ∧ ∀ y ∈ xs.take x7.toNat, y.size ≤ 1000, fun x2 x3 x4 x5 x6 x7 => (x6 - x7).toNat, ⟨rfl, rfl, rfl, by simp, by omega, by omega, by omega, rfl, fun y hy => by simp at hy⟩, ?_⟩
  rintro x2 x3 x4 x5 x6 x7 ⟨rfl, rfl, rfl, h0, h1, h50, hW, hs⟩ j
  refine sel_dec (fun h => ?_) (fun h => ?_)
  · have hlt : x7.toNat < xs.length := by omega
    have hg : (xs.map Mir.D.str)[x7.toNat]? = some (.str xs[x7.toNat]) := by rw [List.getElem?_map, List.getElem?_eq_getElem hlt]; rfl
    refine ⟨rfl, h0, _, hg, xs[x7.toNat], rfl, sel_dec (fun h5 => ?_) (fun h5 => sel_dec (fun h6 => ⟨true, p11, rfl⟩) (fun h6 => ?_))⟩
    · have h7 : x7.toNat = 50 := by omega
      rw [h7] at hW hs
      refine ⟨rfl, by omega, by simp; omega, ?_⟩
      exact fin _ x3 x4 (xs.take 50) (by simp [List.map_take]) hW (by simp; omega) hs
    · have e : xs.take (x7 + 1).toNat = xs.take x7.toNat ++ [xs[x7.toNat]] := by
        rw [show (x7 + 1).toNat = x7.toNat + 1 by omega, List.take_add_one, List.getElem?_eq_getElem hlt]; rfl
      have hz : (cat (xs.take x7.toNat)).size ≤ 50000 := by
        rw [cat_size]
        have := sizes_le _ hs
        simp only [List.length_take] at this
        omega
      rw [i64_in (x7 + 1) (by omega)]
      refine ⟨by rw [hW]; omega, rfl, ⟨rfl, rfl, rfl, by omega, by omega, by omega, by rw [e, hW, cat_snoc], fun y hy => ?_⟩, by dsimp only; omega⟩
      rw [e] at hy
      rcases List.mem_append.1 hy with hy | hy
      · exact hs y hy
      · rw [List.mem_singleton] at hy; subst hy; omega
  · have h7 : x7.toNat = xs.length := by omega
    rw [h7, List.take_length] at hW hs
    exact fin _ x3 x4 xs rfl hW (by omega) hs
end Go.Proofs.Ytjmfgemjabaohaa.M
