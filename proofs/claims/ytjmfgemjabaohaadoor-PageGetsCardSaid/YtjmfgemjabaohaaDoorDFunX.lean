import Derived.Test.YtjmfgemjabaohaaDoorDFun
namespace Go.Proofs.YtjmfgemjabaohaaDoor.M
set_option linter.unusedVariables false
set_option linter.unusedSimpArgs false
open Go Go.Mir
set_option linter.unusedVariables false
def V21 (a0 : ByteArray) (R : Mir.AV → Prop) : Prop :=
 (∃ x0 : ByteArray,
  (∃ x1 : Int,
   ((Runs Fs 16 [(Mir.AV.n (Mir.D.str a0)), (Mir.AV.n (Mir.D.int .i64 4096))] [] (Mir.AV.tup [(Mir.AV.n (Mir.D.str x0)), (Mir.AV.n (Mir.D.int .i64 x1))]) []) ∧
    (sel (x1 != 0)
     (R (Mir.AV.tup [(Mir.AV.agg [(Mir.AV.n (Mir.D.int .i64 0)), (Mir.AV.n (Mir.D.int .i64 0)), (Mir.AV.n (Mir.D.str (ByteArray.mk (List.toArray []))))]), (Mir.AV.n (Mir.D.int .i64 1))]))
     (∃ x2 : Int,
      (∃ x3 : Int,
       (∃ x4 : Int,
        ((Runs Fs 31 [(Mir.AV.n (Mir.D.str x0)), (Mir.AV.n (Mir.D.int .i64 7)), (Mir.AV.n (Mir.D.int .i64 2))] [] (Mir.AV.tup [(Mir.AV.n (Mir.D.int .i64 x2)), (Mir.AV.n (Mir.D.int .i64 x3)), (Mir.AV.n (Mir.D.int .i64 x4))]) []) ∧
         (sel (decide (x2 > 4000))
          (R (Mir.AV.tup [(Mir.AV.agg [(Mir.AV.n (Mir.D.int .i64 0)), (Mir.AV.n (Mir.D.int .i64 0)), (Mir.AV.n (Mir.D.str (ByteArray.mk (List.toArray []))))]), (Mir.AV.n (Mir.D.int .i64 4))]))
          (((0 : Int) ≤ (Go.IntKind.wrap .i64 ((Go.IntKind.wrap .i64 (9 + x2)) + 4))) ∧
           ((((Go.IntKind.wrap .i64 ((Go.IntKind.wrap .i64 (9 + x2)) + 4)) : Int) ≤ (((ByteArray.size x0) : Nat) : Int)) ∧
            (∃ x5 : ByteArray,
             (∃ x6 : Int,
              ((Runs Fs 32 [(Mir.AV.n (Mir.D.str (ByteArray.extract x0 0 (Int.toNat (Go.IntKind.wrap .i64 ((Go.IntKind.wrap .i64 (9 + x2)) + 4))))))] [] (Mir.AV.tup [(Mir.AV.n (Mir.D.str x5)), (Mir.AV.n (Mir.D.int .i64 x6))]) []) ∧
               (sel (x6 != 0)
                (R (Mir.AV.tup [(Mir.AV.agg [(Mir.AV.n (Mir.D.int .i64 0)), (Mir.AV.n (Mir.D.int .i64 0)), (Mir.AV.n (Mir.D.str (ByteArray.mk (List.toArray []))))]), (Mir.AV.n (Mir.D.int .i64 x6))]))
                (∃ x7 : Int,
                 (∃ x8 : Int,
                  (∃ x9 : Int,
                   ((Runs Fs 31 [(Mir.AV.n (Mir.D.str x5)), (Mir.AV.n (Mir.D.int .i64 0)), (Mir.AV.n (Mir.D.int .i64 1))] [] (Mir.AV.tup [(Mir.AV.n (Mir.D.int .i64 x7)), (Mir.AV.n (Mir.D.int .i64 x8)), (Mir.AV.n (Mir.D.int .i64 x9))]) []) ∧
                    (∃ x10 : Int,
                     (∃ x11 : Int,
                      (∃ x12 : Int,
                       ((Runs Fs 31 [(Mir.AV.n (Mir.D.str x5)), (Mir.AV.n (Mir.D.int .i64 x8)), (Mir.AV.n (Mir.D.int .i64 6))] [] (Mir.AV.tup [(Mir.AV.n (Mir.D.int .i64 x10)), (Mir.AV.n (Mir.D.int .i64 x11)), (Mir.AV.n (Mir.D.int .i64 x12))]) []) ∧
                        (((0 : Int) ≤ 9) ∧
                         (((9 : Int) ≤ (((ByteArray.size x5) : Nat) : Int)) ∧
                          (sel (decide (x7 < 1))
                           (R (Mir.AV.tup [(Mir.AV.agg [(Mir.AV.n (Mir.D.int .i64 0)), (Mir.AV.n (Mir.D.int .i64 0)), (Mir.AV.n (Mir.D.str (ByteArray.mk (List.toArray []))))]), (Mir.AV.n (Mir.D.int .i64 40))]))
                           (sel (decide (x7 > 5))
                            (R (Mir.AV.tup [(Mir.AV.agg [(Mir.AV.n (Mir.D.int .i64 0)), (Mir.AV.n (Mir.D.int .i64 0)), (Mir.AV.n (Mir.D.str (ByteArray.mk (List.toArray []))))]), (Mir.AV.n (Mir.D.int .i64 40))]))
                            (∃ x13 : Bool,
                             ((Runs Fs 12 [(Mir.AV.agg [(Mir.AV.n (Mir.D.int .i64 x7)), (Mir.AV.n (Mir.D.int .i64 x10)), (Mir.AV.n (Mir.D.str (ByteArray.extract x5 (Int.toNat 9) (ByteArray.size x5))))])] [] (Mir.AV.n (Mir.D.bool x13)) []) ∧
                              (sel (Bool.not x13)
                               (R (Mir.AV.tup [(Mir.AV.agg [(Mir.AV.n (Mir.D.int .i64 0)), (Mir.AV.n (Mir.D.int .i64 0)), (Mir.AV.n (Mir.D.str (ByteArray.mk (List.toArray []))))]), (Mir.AV.n (Mir.D.int .i64 4))]))
                               (((0 : Int) ≤ (Go.IntKind.wrap .i64 ((Go.IntKind.wrap .i64 (9 + x2)) + 4))) ∧
                                ((((Go.IntKind.wrap .i64 ((Go.IntKind.wrap .i64 (9 + x2)) + 4)) : Int) ≤ (((ByteArray.size x0) : Nat) : Int)) ∧
                                 (∃ x14 : ByteArray,
                                  ((Runs Fs 15 [(Mir.AV.n (Mir.D.str (ByteArray.extract x0 (Int.toNat (Go.IntKind.wrap .i64 ((Go.IntKind.wrap .i64 (9 + x2)) + 4))) (ByteArray.size x0))))] [] (Mir.AV.n (Mir.D.str x14)) []) ∧
                                   (sel (Bool.not ((ByteArray.toList x14) == (ByteArray.toList (ByteArray.mk (List.toArray [])))))
                                    (R (Mir.AV.tup [(Mir.AV.agg [(Mir.AV.n (Mir.D.int .i64 0)), (Mir.AV.n (Mir.D.int .i64 0)), (Mir.AV.n (Mir.D.str (ByteArray.mk (List.toArray []))))]), (Mir.AV.n (Mir.D.int .i64 4))]))
                                    (R (Mir.AV.tup [(Mir.AV.agg [(Mir.AV.n (Mir.D.int .i64 x7)), (Mir.AV.n (Mir.D.int .i64 x10)), (Mir.AV.n (Mir.D.str (ByteArray.extract x5 (Int.toNat 9) (ByteArray.size x5))))]), (Mir.AV.n (Mir.D.int .i64 0))])))))))))))))))))))))))))))))))))))))
theorem vc21 (a0 : ByteArray) (R : Mir.AV → Prop) : Vc Fs c21.body (argsQ c21 [(.n (.str a0))]) [] (endQ c21 R) = V21 a0 R := by kernel_rfl
def V22 (a0 : ByteArray) (R : Mir.AV → Prop) : Prop :=
 (sel (decide ((((ByteArray.size a0) : Nat) : Int) > 4096))
  (R (Mir.AV.tup [(Mir.AV.agg [(Mir.AV.n (Mir.D.int .i64 0)), (Mir.AV.n (Mir.D.int .i64 0)), (Mir.AV.n (Mir.D.str (ByteArray.mk (List.toArray []))))]), (Mir.AV.n (Mir.D.int .i64 1))]))
  (∃ x0 : ByteArray,
   (∃ x1 : Int,
    ((Runs Fs 19 [(Mir.AV.n (Mir.D.str a0)), (Mir.AV.n (Mir.D.int .i64 4096))] [] (Mir.AV.tup [(Mir.AV.n (Mir.D.str x0)), (Mir.AV.n (Mir.D.int .i64 x1))]) []) ∧
     (((0 : Int) ≤ 7) ∧
      (∃ x2 : UInt8,
       ((((GetElem?.getElem? (Array.toList (ByteArray.data x0)) (Int.toNat 7)) : (Option UInt8)) = (some x2)) ∧
        (((0 : Int) ≤ 8) ∧
         (∃ x3 : UInt8,
          ((((GetElem?.getElem? (Array.toList (ByteArray.data x0)) (Int.toNat 8)) : (Option UInt8)) = (some x3)) ∧
           (sel (decide ((Go.IntKind.wrap .i64 ((Go.IntKind.wrap .i64 (256 * (Go.IntKind.wrap .i64 (((UInt8.toNat x2) : Nat) : Int)))) + (Go.IntKind.wrap .i64 (((UInt8.toNat x3) : Nat) : Int)))) > 4000))
            (R (Mir.AV.tup [(Mir.AV.agg [(Mir.AV.n (Mir.D.int .i64 0)), (Mir.AV.n (Mir.D.int .i64 0)), (Mir.AV.n (Mir.D.str (ByteArray.mk (List.toArray []))))]), (Mir.AV.n (Mir.D.int .i64 4))]))
            (((0 : Int) ≤ (Go.IntKind.wrap .i64 (9 + (Go.IntKind.wrap .i64 ((Go.IntKind.wrap .i64 (256 * (Go.IntKind.wrap .i64 (((UInt8.toNat x2) : Nat) : Int)))) + (Go.IntKind.wrap .i64 (((UInt8.toNat x3) : Nat) : Int))))))) ∧
             ((((Go.IntKind.wrap .i64 (9 + (Go.IntKind.wrap .i64 ((Go.IntKind.wrap .i64 (256 * (Go.IntKind.wrap .i64 (((UInt8.toNat x2) : Nat) : Int)))) + (Go.IntKind.wrap .i64 (((UInt8.toNat x3) : Nat) : Int)))))) : Int) ≤ (((ByteArray.size x0) : Nat) : Int)) ∧
              (∃ x4 : ByteArray,
               ((Runs Fs 28 [(Mir.AV.n (Mir.D.str (ByteArray.extract x0 0 (Int.toNat (Go.IntKind.wrap .i64 (9 + (Go.IntKind.wrap .i64 ((Go.IntKind.wrap .i64 (256 * (Go.IntKind.wrap .i64 (((UInt8.toNat x2) : Nat) : Int)))) + (Go.IntKind.wrap .i64 (((UInt8.toNat x3) : Nat) : Int))))))))))] [] (Mir.AV.n (Mir.D.str x4)) []) ∧
                (((0 : Int) ≤ (Go.IntKind.wrap .i64 (13 + (Go.IntKind.wrap .i64 ((Go.IntKind.wrap .i64 (256 * (Go.IntKind.wrap .i64 (((UInt8.toNat x2) : Nat) : Int)))) + (Go.IntKind.wrap .i64 (((UInt8.toNat x3) : Nat) : Int))))))) ∧
                 ((((Go.IntKind.wrap .i64 (13 + (Go.IntKind.wrap .i64 ((Go.IntKind.wrap .i64 (256 * (Go.IntKind.wrap .i64 (((UInt8.toNat x2) : Nat) : Int)))) + (Go.IntKind.wrap .i64 (((UInt8.toNat x3) : Nat) : Int)))))) : Int) ≤ (((ByteArray.size x0) : Nat) : Int)) ∧
                  (sel (Bool.not ((ByteArray.toList x4) == (ByteArray.toList (ByteArray.extract x0 0 (Int.toNat (Go.IntKind.wrap .i64 (13 + (Go.IntKind.wrap .i64 ((Go.IntKind.wrap .i64 (256 * (Go.IntKind.wrap .i64 (((UInt8.toNat x2) : Nat) : Int)))) + (Go.IntKind.wrap .i64 (((UInt8.toNat x3) : Nat) : Int)))))))))))
                   (R (Mir.AV.tup [(Mir.AV.agg [(Mir.AV.n (Mir.D.int .i64 0)), (Mir.AV.n (Mir.D.int .i64 0)), (Mir.AV.n (Mir.D.str (ByteArray.mk (List.toArray []))))]), (Mir.AV.n (Mir.D.int .i64 41))]))
                   (∃ x5 : Int,
                    (∃ x6 : Int,
                     (∃ x7 : Int,
                      ((Runs Fs 33 [(Mir.AV.n (Mir.D.str x0)), (Mir.AV.n (Mir.D.int .i64 1)), (Mir.AV.n (Mir.D.int .i64 6))] [] (Mir.AV.tup [(Mir.AV.n (Mir.D.int .i64 x5)), (Mir.AV.n (Mir.D.int .i64 x6)), (Mir.AV.n (Mir.D.int .i64 x7))]) []) ∧
                       (((0 : Int) ≤ 0) ∧
                        (∃ x8 : UInt8,
                         ((((GetElem?.getElem? (Array.toList (ByteArray.data x0)) (Int.toNat 0)) : (Option UInt8)) = (some x8)) ∧
                          (((0 : Int) ≤ (Go.IntKind.wrap .i64 (9 + (Go.IntKind.wrap .i64 ((Go.IntKind.wrap .i64 (256 * (Go.IntKind.wrap .i64 (((UInt8.toNat x2) : Nat) : Int)))) + (Go.IntKind.wrap .i64 (((UInt8.toNat x3) : Nat) : Int))))))) ∧
                           ((((Go.IntKind.wrap .i64 (9 + (Go.IntKind.wrap .i64 ((Go.IntKind.wrap .i64 (256 * (Go.IntKind.wrap .i64 (((UInt8.toNat x2) : Nat) : Int)))) + (Go.IntKind.wrap .i64 (((UInt8.toNat x3) : Nat) : Int)))))) : Int) ≤ (((ByteArray.size x0) : Nat) : Int)) ∧
                            (((0 : Int) ≤ 9) ∧
                             (((9 : Int) ≤ (((Int.toNat (Go.IntKind.wrap .i64 (9 + (Go.IntKind.wrap .i64 ((Go.IntKind.wrap .i64 (256 * (Go.IntKind.wrap .i64 (((UInt8.toNat x2) : Nat) : Int)))) + (Go.IntKind.wrap .i64 (((UInt8.toNat x3) : Nat) : Int))))))) : Nat) : Int)) ∧
                              (sel (decide ((Go.IntKind.wrap .i64 (((UInt8.toNat x8) : Nat) : Int)) < 1))
                               (R (Mir.AV.tup [(Mir.AV.agg [(Mir.AV.n (Mir.D.int .i64 0)), (Mir.AV.n (Mir.D.int .i64 0)), (Mir.AV.n (Mir.D.str (ByteArray.mk (List.toArray []))))]), (Mir.AV.n (Mir.D.int .i64 40))]))
                               (sel (decide ((Go.IntKind.wrap .i64 (((UInt8.toNat x8) : Nat) : Int)) > 5))
                                (R (Mir.AV.tup [(Mir.AV.agg [(Mir.AV.n (Mir.D.int .i64 0)), (Mir.AV.n (Mir.D.int .i64 0)), (Mir.AV.n (Mir.D.str (ByteArray.mk (List.toArray []))))]), (Mir.AV.n (Mir.D.int .i64 40))]))
                                (∃ x9 : Bool,
                                 ((Runs Fs 10 [(Mir.AV.agg [(Mir.AV.n (Mir.D.int .i64 (Go.IntKind.wrap .i64 (((UInt8.toNat x8) : Nat) : Int)))), (Mir.AV.n (Mir.D.int .i64 x5)), (Mir.AV.n (Mir.D.str (ByteArray.extract x0 (Int.toNat 9) (Int.toNat (Go.IntKind.wrap .i64 (9 + (Go.IntKind.wrap .i64 ((Go.IntKind.wrap .i64 (256 * (Go.IntKind.wrap .i64 (((UInt8.toNat x2) : Nat) : Int)))) + (Go.IntKind.wrap .i64 (((UInt8.toNat x3) : Nat) : Int))))))))))])] [] (Mir.AV.n (Mir.D.bool x9)) []) ∧
                                  (sel (Bool.not x9)
                                   (R (Mir.AV.tup [(Mir.AV.agg [(Mir.AV.n (Mir.D.int .i64 0)), (Mir.AV.n (Mir.D.int .i64 0)), (Mir.AV.n (Mir.D.str (ByteArray.mk (List.toArray []))))]), (Mir.AV.n (Mir.D.int .i64 4))]))
                                   (((0 : Int) ≤ (Go.IntKind.wrap .i64 (13 + (Go.IntKind.wrap .i64 ((Go.IntKind.wrap .i64 (256 * (Go.IntKind.wrap .i64 (((UInt8.toNat x2) : Nat) : Int)))) + (Go.IntKind.wrap .i64 (((UInt8.toNat x3) : Nat) : Int))))))) ∧
                                    ((((Go.IntKind.wrap .i64 (13 + (Go.IntKind.wrap .i64 ((Go.IntKind.wrap .i64 (256 * (Go.IntKind.wrap .i64 (((UInt8.toNat x2) : Nat) : Int)))) + (Go.IntKind.wrap .i64 (((UInt8.toNat x3) : Nat) : Int)))))) : Int) ≤ (((ByteArray.size x0) : Nat) : Int)) ∧
                                     (∃ x10 : ByteArray,
                                      ((Runs Fs 20 [(Mir.AV.n (Mir.D.str (ByteArray.extract x0 (Int.toNat (Go.IntKind.wrap .i64 (13 + (Go.IntKind.wrap .i64 ((Go.IntKind.wrap .i64 (256 * (Go.IntKind.wrap .i64 (((UInt8.toNat x2) : Nat) : Int)))) + (Go.IntKind.wrap .i64 (((UInt8.toNat x3) : Nat) : Int))))))) (ByteArray.size x0))))] [] (Mir.AV.n (Mir.D.str x10)) []) ∧
                                       (sel (Bool.not ((ByteArray.toList x10) == (ByteArray.toList (ByteArray.mk (List.toArray [])))))
                                        (R (Mir.AV.tup [(Mir.AV.agg [(Mir.AV.n (Mir.D.int .i64 0)), (Mir.AV.n (Mir.D.int .i64 0)), (Mir.AV.n (Mir.D.str (ByteArray.mk (List.toArray []))))]), (Mir.AV.n (Mir.D.int .i64 4))]))
                                        (R (Mir.AV.tup [(Mir.AV.agg [(Mir.AV.n (Mir.D.int .i64 (Go.IntKind.wrap .i64 (((UInt8.toNat x8) : Nat) : Int)))), (Mir.AV.n (Mir.D.int .i64 x5)), (Mir.AV.n (Mir.D.str (ByteArray.extract x0 (Int.toNat 9) (Int.toNat (Go.IntKind.wrap .i64 (9 + (Go.IntKind.wrap .i64 ((Go.IntKind.wrap .i64 (256 * (Go.IntKind.wrap .i64 (((UInt8.toNat x2) : Nat) : Int)))) + (Go.IntKind.wrap .i64 (((UInt8.toNat x3) : Nat) : Int))))))))))]), (Mir.AV.n (Mir.D.int .i64 0))])))))))))))))))))))))))))))))))))))))))))
theorem vc22 (a0 : ByteArray) (R : Mir.AV → Prop) : Vc Fs c22.body (argsQ c22 [(.n (.str a0))]) [] (endQ c22 R) = V22 a0 R := by kernel_rfl
def V49 (a0 : List Mir.D) (a1 : Int) (R : Mir.AV → Prop) : Prop :=
 (∃ x0 : ((List Mir.D) → (Int → (Int → (Int → Prop)))),
  (∃ x1 : ((List Mir.D) → (Int → (Int → (Int → Nat)))),
   (((@Eq (List (Nat × Mir.Ob)) [] []) ∧
     (x0 a0 a1 (((List.length a0) : Nat) : Int) 0)) ∧
    (∀ x2 : (List Mir.D),
     (∀ x3 : Int,
      (∀ x4 : Int,
       (∀ x5 : Int,
        ((x0 x2 x3 x4 x5) →
         (∀ x6 : (Nat → Mir.AV),
          (sel (decide (x5 < x4))
           (((1 : Nat) = 1) ∧
            (((0 : Int) ≤ x5) ∧
             (∃ x7 : Mir.D,
              ((((GetElem?.getElem? x2 (Int.toNat x5)) : (Option Mir.D)) = (some x7)) ∧
               (∃ x8 : Int,
                ((((GetElem?.getElem? (Go.Mir.D.cells x7) 0) : (Option Mir.D)) = (some (Mir.D.int .i64 x8))) ∧
                 (sel (x3 == x8)
                  (R (Mir.AV.n (Mir.D.int .i64 x5)))
                  ((@Eq (List (Nat × Mir.Ob)) [] []) ∧
                   ((x0 x2 x3 x4 (Go.IntKind.wrap .i64 (x5 + 1))) ∧
                    (((x1 x2 x3 x4 (Go.IntKind.wrap .i64 (x5 + 1))) : Nat) < (x1 x2 x3 x4 x5)))))))))))
           (R (Mir.AV.n (Mir.D.int .i64 (-1))))))))))))))
theorem vc49 (a0 : List Mir.D) (a1 : Int) (R : Mir.AV → Prop) : Vc Fs c49.body (argsQ c49 [(.o (.sl 1 a0)), (.n (.int .i64 a1))]) [] (endQ c49 R) = V49 a0 a1 R := by kernel_rfl
def V34 (a0 : List Mir.D) (a1 : Int) (R : Mir.AV → Prop) : Prop :=
 (∃ x0 : Int,
  ((Runs Fs 49 [(Mir.AV.o (Mir.D.sl 1 a0)), (Mir.AV.n (Mir.D.int .i64 a1))] [] (Mir.AV.n (Mir.D.int .i64 x0)) []) ∧
   (R (Mir.AV.n (Mir.D.bool (decide (x0 ≥ 0)))))))
theorem vc34 (a0 : List Mir.D) (a1 : Int) (R : Mir.AV → Prop) : Vc Fs c34.body (argsQ c34 [(.o (.sl 1 a0)), (.n (.int .i64 a1))]) [] (endQ c34 R) = V34 a0 a1 R := by kernel_rfl
def V23 (a0 : ByteArray) (a1 : List Mir.D) (R : Mir.AV → Prop) : Prop :=
 (∃ x0 : Int,
  (∃ x1 : Int,
   (∃ x2 : ByteArray,
    (∃ x3 : Int,
     ((Runs Fs 21 [(Mir.AV.n (Mir.D.str a0))] [] (Mir.AV.tup [(Mir.AV.agg [(Mir.AV.n (Mir.D.int .i64 x0)), (Mir.AV.n (Mir.D.int .i64 x1)), (Mir.AV.n (Mir.D.str x2))]), (Mir.AV.n (Mir.D.int .i64 x3))]) []) ∧
      (sel (x3 != 0)
       (R (Mir.AV.tup [(Mir.AV.agg [(Mir.AV.n (Mir.D.int .i64 0)), (Mir.AV.n (Mir.D.int .i64 0)), (Mir.AV.n (Mir.D.str (ByteArray.mk (List.toArray []))))]), (Mir.AV.n (Mir.D.int .i64 x3))]))
       (∃ x4 : Bool,
        ((Runs Fs 34 [(Mir.AV.o (Mir.D.sl 1 a1)), (Mir.AV.n (Mir.D.int .i64 x0))] [] (Mir.AV.n (Mir.D.bool x4)) []) ∧
         (sel (Bool.not x4)
          (R (Mir.AV.tup [(Mir.AV.agg [(Mir.AV.n (Mir.D.int .i64 0)), (Mir.AV.n (Mir.D.int .i64 0)), (Mir.AV.n (Mir.D.str (ByteArray.mk (List.toArray []))))]), (Mir.AV.n (Mir.D.int .i64 40))]))
          (R (Mir.AV.tup [(Mir.AV.agg [(Mir.AV.n (Mir.D.int .i64 x0)), (Mir.AV.n (Mir.D.int .i64 x1)), (Mir.AV.n (Mir.D.str x2))]), (Mir.AV.n (Mir.D.int .i64 0))])))))))))))
theorem vc23 (a0 : ByteArray) (a1 : List Mir.D) (R : Mir.AV → Prop) : Vc Fs c23.body (argsQ c23 [(.n (.str a0)), (.o (.sl 1 a1))]) [] (endQ c23 R) = V23 a0 a1 R := by kernel_rfl
def V6 (a0 : ByteArray) (R : Mir.AV → Prop) : Prop :=
 (∃ x0 : Int,
  (∃ x1 : Int,
   (∃ x2 : ByteArray,
    (∃ x3 : Int,
     ((Runs Fs 21 [(Mir.AV.n (Mir.D.str a0))] [] (Mir.AV.tup [(Mir.AV.agg [(Mir.AV.n (Mir.D.int .i64 x0)), (Mir.AV.n (Mir.D.int .i64 x1)), (Mir.AV.n (Mir.D.str x2))]), (Mir.AV.n (Mir.D.int .i64 x3))]) []) ∧
      (∃ x4 : Int,
       (∃ x5 : Int,
        (∃ x6 : ByteArray,
         (∃ x7 : Int,
          ((Runs Fs 21 [(Mir.AV.n (Mir.D.str (ByteArray.mk (List.toArray []))))] [] (Mir.AV.tup [(Mir.AV.agg [(Mir.AV.n (Mir.D.int .i64 x4)), (Mir.AV.n (Mir.D.int .i64 x5)), (Mir.AV.n (Mir.D.str x6))]), (Mir.AV.n (Mir.D.int .i64 x7))]) []) ∧
           (sel (x3 != 0)
            (∃ x8 : Bool,
             ((Runs Fs 11 [] [] (Mir.AV.n (Mir.D.bool x8)) []) ∧
              (sel x8
               (sel (x7 != 0)
                (R (Mir.AV.n (Mir.D.bool ((x0 == 0) && ((x1 == 0) && (((ByteArray.toList x2) == (ByteArray.toList (ByteArray.mk (List.toArray [])))) && true))))))
                (R (Mir.AV.n (Mir.D.bool false))))
               (R (Mir.AV.n (Mir.D.bool false))))))
            (∃ x9 : ByteArray,
             (∃ x10 : Int,
              ((Runs Fs 9 [(Mir.AV.agg [(Mir.AV.n (Mir.D.int .i64 x0)), (Mir.AV.n (Mir.D.int .i64 x1)), (Mir.AV.n (Mir.D.str x2))])] [] (Mir.AV.tup [(Mir.AV.n (Mir.D.str x9)), (Mir.AV.n (Mir.D.int .i64 x10))]) []) ∧
               (∃ x11 : Bool,
                ((Runs Fs 11 [] [] (Mir.AV.n (Mir.D.bool x11)) []) ∧
                 (sel x11
                  (sel (x7 != 0)
                   (sel (x10 == 0)
                    (∃ x12 : ByteArray,
                     ((Runs Fs 20 [(Mir.AV.n (Mir.D.str a0))] [] (Mir.AV.n (Mir.D.str x12)) []) ∧
                      (sel ((ByteArray.toList x9) == (ByteArray.toList x12))
                       (∃ x13 : Bool,
                        ((Runs Fs 12 [(Mir.AV.agg [(Mir.AV.n (Mir.D.int .i64 x0)), (Mir.AV.n (Mir.D.int .i64 x1)), (Mir.AV.n (Mir.D.str x2))])] [] (Mir.AV.n (Mir.D.bool x13)) []) ∧
                         (R (Mir.AV.n (Mir.D.bool x13)))))
                       (R (Mir.AV.n (Mir.D.bool false))))))
                    (R (Mir.AV.n (Mir.D.bool false))))
                   (R (Mir.AV.n (Mir.D.bool false))))
                  (R (Mir.AV.n (Mir.D.bool false))))))))))))))))))))
theorem vc6 (a0 : ByteArray) (R : Mir.AV → Prop) : Vc Fs c6.body (argsQ c6 [(.n (.str a0))]) [] (endQ c6 R) = V6 a0 R := by kernel_rfl
def V7 (a0 : ByteArray) (a1 : List Mir.D) (R : Mir.AV → Prop) : Prop :=
 (((1 : Nat) = 1) ∧
  (((0 : Int) ≤ (Go.Mir.mmI false (((List.length a1) : Nat) : Int) 10)) ∧
   ((((Go.Mir.mmI false (((List.length a1) : Nat) : Int) 10) : Int) ≤ (((List.length a1) : Nat) : Int)) ∧
    (∃ x0 : Int,
     (∃ x1 : Int,
      (∃ x2 : ByteArray,
       (∃ x3 : Int,
        ((Runs Fs 21 [(Mir.AV.n (Mir.D.str a0))] [] (Mir.AV.tup [(Mir.AV.agg [(Mir.AV.n (Mir.D.int .i64 x0)), (Mir.AV.n (Mir.D.int .i64 x1)), (Mir.AV.n (Mir.D.str x2))]), (Mir.AV.n (Mir.D.int .i64 x3))]) []) ∧
         (∃ x4 : Int,
          (∃ x5 : Int,
           (∃ x6 : ByteArray,
            (∃ x7 : Int,
             ((Runs Fs 22 [(Mir.AV.n (Mir.D.str a0))] [] (Mir.AV.tup [(Mir.AV.agg [(Mir.AV.n (Mir.D.int .i64 x4)), (Mir.AV.n (Mir.D.int .i64 x5)), (Mir.AV.n (Mir.D.str x6))]), (Mir.AV.n (Mir.D.int .i64 x7))]) []) ∧
              (∃ x8 : Int,
               (∃ x9 : Int,
                (∃ x10 : ByteArray,
                 (∃ x11 : Int,
                  ((Runs Fs 23 [(Mir.AV.n (Mir.D.str a0)), (Mir.AV.o (Mir.D.sl 1 (List.drop 0 (List.take (Int.toNat (Go.Mir.mmI false (((List.length a1) : Nat) : Int) 10)) a1))))] [] (Mir.AV.tup [(Mir.AV.agg [(Mir.AV.n (Mir.D.int .i64 x8)), (Mir.AV.n (Mir.D.int .i64 x9)), (Mir.AV.n (Mir.D.str x10))]), (Mir.AV.n (Mir.D.int .i64 x11))]) []) ∧
                   (sel (Bool.not ((x0 == x4) && ((x1 == x5) && (((ByteArray.toList x2) == (ByteArray.toList x6)) && true))))
                    (R (Mir.AV.n (Mir.D.bool false)))
                    (sel (x3 != x7)
                     (R (Mir.AV.n (Mir.D.bool false)))
                     (∃ x12 : Bool,
                      ((Runs Fs 11 [] [] (Mir.AV.n (Mir.D.bool x12)) []) ∧
                       (sel (Bool.not x12)
                        (R (Mir.AV.n (Mir.D.bool false)))
                        (sel (x7 != 0)
                         (sel (x11 == x7)
                          (R (Mir.AV.n (Mir.D.bool ((x8 == 0) && ((x9 == 0) && (((ByteArray.toList x10) == (ByteArray.toList (ByteArray.mk (List.toArray [])))) && true))))))
                          (R (Mir.AV.n (Mir.D.bool false))))
                         (∃ x13 : ((PUnit) → ((PUnit) → (Int → ((List Mir.D) → (Int → (Int → ((Int × (Int × (ByteArray × (PUnit)))) → ((Int × (Int × (ByteArray × (PUnit)))) → Prop)))))))),
                          (∃ x14 : ((PUnit) → ((PUnit) → (Int → ((List Mir.D) → (Int → (Int → ((Int × (Int × (ByteArray × (PUnit)))) → ((Int × (Int × (ByteArray × (PUnit)))) → Nat)))))))),
                           (((@Eq (List (Nat × Mir.Ob)) [(700305, (.box [(Mir.AV.n (Mir.D.int .i64 x4)), (Mir.AV.n (Mir.D.int .i64 x5)), (Mir.AV.n (Mir.D.str x6))])), (700406, (.box [(Mir.AV.n (Mir.D.int .i64 x8)), (Mir.AV.n (Mir.D.int .i64 x9)), (Mir.AV.n (Mir.D.str x10))]))] [(700305, (.box [(Mir.AV.n (Mir.D.int .i64 x4)), (Mir.AV.n (Mir.D.int .i64 x5)), (Mir.AV.n (Mir.D.str x6))])), (700406, (.box [(Mir.AV.n (Mir.D.int .i64 x8)), (Mir.AV.n (Mir.D.int .i64 x9)), (Mir.AV.n (Mir.D.str x10))]))]) ∧
                             (x13 () () x11 (List.drop 0 (List.take (Int.toNat (Go.Mir.mmI false (((List.length a1) : Nat) : Int) 10)) a1)) (((List.length (List.drop 0 (List.take (Int.toNat (Go.Mir.mmI false (((List.length a1) : Nat) : Int) 10)) a1))) : Nat) : Int) 0 (x4, (x5, (x6, Unit.unit))) (x8, (x9, (x10, Unit.unit))))) ∧
                            (∀ x15 : (PUnit),
                             (∀ x16 : (PUnit),
                              (∀ x17 : Int,
                               (∀ x18 : (List Mir.D),
                                (∀ x19 : Int,
                                 (∀ x20 : Int,
                                  (∀ x21 : (Int × (Int × (ByteArray × (PUnit)))),
                                   (∀ x22 : (Int × (Int × (ByteArray × (PUnit)))),
                                    ((x13 x15 x16 x17 x18 x19 x20 x21 x22) →
                                     (∀ x23 : (Nat → Mir.AV),
                                      (sel (decide (x20 < x19))
                                       (((1 : Nat) = 1) ∧
                                        (((0 : Int) ≤ x20) ∧
                                         (∃ x24 : Mir.D,
                                          ((((GetElem?.getElem? x18 (Int.toNat x20)) : (Option Mir.D)) = (some x24)) ∧
                                           (∃ x25 : Int,
                                            ((((GetElem?.getElem? (Go.Mir.D.cells x24) 0) : (Option Mir.D)) = (some (Mir.D.int .i64 x25))) ∧
                                             (sel (x25 == x21.1)
                                              (sel (x17 == 0)
                                               (R (Mir.AV.n (Mir.D.bool ((x22.1 == x21.1) && ((x22.2.1 == x21.2.1) && (((ByteArray.toList x22.2.2.1) == (ByteArray.toList x21.2.2.1)) && true))))))
                                               (R (Mir.AV.n (Mir.D.bool false))))
                                              ((@Eq (List (Nat × Mir.Ob)) [(700305, (.box [(Mir.AV.n (Mir.D.int .i64 x21.1)), (Mir.AV.n (Mir.D.int .i64 x21.2.1)), (Mir.AV.n (Mir.D.str x21.2.2.1))])), (700406, (.box [(Mir.AV.n (Mir.D.int .i64 x22.1)), (Mir.AV.n (Mir.D.int .i64 x22.2.1)), (Mir.AV.n (Mir.D.str x22.2.2.1))]))] [(700305, (.box [(Mir.AV.n (Mir.D.int .i64 x21.1)), (Mir.AV.n (Mir.D.int .i64 x21.2.1)), (Mir.AV.n (Mir.D.str x21.2.2.1))])), (700406, (.box [(Mir.AV.n (Mir.D.int .i64 x22.1)), (Mir.AV.n (Mir.D.int .i64 x22.2.1)), (Mir.AV.n (Mir.D.str x22.2.2.1))]))]) ∧
                                               ((x13 () () x17 x18 x19 (Go.IntKind.wrap .i64 (x20 + 1)) (x21.1, (x21.2.1, (x21.2.2.1, Unit.unit))) (x22.1, (x22.2.1, (x22.2.2.1, Unit.unit)))) ∧
                                                (((x14 Unit.unit Unit.unit x17 x18 x19 (Go.IntKind.wrap .i64 (x20 + 1)) (x21.1, (x21.2.1, (x21.2.2.1, Unit.unit))) (x22.1, (x22.2.1, (x22.2.2.1, Unit.unit)))) : Nat) < (x14 x15 x16 x17 x18 x19 x20 x21 x22)))))))))))
                                       (sel (x17 == 40)
                                        (R (Mir.AV.n (Mir.D.bool ((x22.1 == 0) && ((x22.2.1 == 0) && (((ByteArray.toList x22.2.2.1) == (ByteArray.toList (ByteArray.mk (List.toArray [])))) && true))))))
                                        (R (Mir.AV.n (Mir.D.bool false))))))))))))))))))))))))))))))))))))))))))
theorem vc7 (a0 : ByteArray) (a1 : List Mir.D) (R : Mir.AV → Prop) : Vc Fs c7.body (argsQ c7 [(.n (.str a0)), (.o (.sl 1 a1))]) [] (endQ c7 R) = V7 a0 a1 R := by kernel_rfl
def V8 (a0_0 : Int) (a0_1 : Int) (a0_2 : ByteArray) (a1 : Int) (R : Mir.AV → Prop) : Prop :=
 (∃ x0 : ByteArray,
  (∃ x1 : Int,
   ((Runs Fs 9 [(Mir.AV.agg [(Mir.AV.n (Mir.D.int .i64 a0_0)), (Mir.AV.n (Mir.D.int .i64 a0_1)), (Mir.AV.n (Mir.D.str a0_2))])] [] (Mir.AV.tup [(Mir.AV.n (Mir.D.str x0)), (Mir.AV.n (Mir.D.int .i64 x1))]) []) ∧
    (sel (x1 != 0)
     (∃ x2 : Bool,
      ((Runs Fs 11 [] [] (Mir.AV.n (Mir.D.bool x2)) []) ∧
       (sel x2
        (sel ((ByteArray.toList x0) == (ByteArray.toList (ByteArray.mk (List.toArray []))))
         (∃ x3 : Bool,
          ((Runs Fs 12 [(Mir.AV.agg [(Mir.AV.n (Mir.D.int .i64 a0_0)), (Mir.AV.n (Mir.D.int .i64 a0_1)), (Mir.AV.n (Mir.D.str a0_2))])] [] (Mir.AV.n (Mir.D.bool x3)) []) ∧
           (R (Mir.AV.n (Mir.D.bool (Bool.not x3))))))
         (R (Mir.AV.n (Mir.D.bool false))))
        (R (Mir.AV.n (Mir.D.bool false))))))
     (((0 : Int) ≤ (Go.Mir.mmI false (Go.Mir.mmI true a1 0) (Go.Mir.mmI true (Go.IntKind.wrap .i64 (4096 - (((ByteArray.size x0) : Nat) : Int))) 0))) ∧
      (((((Int.toNat (Go.Mir.mmI false (Go.Mir.mmI true a1 0) (Go.Mir.mmI true (Go.IntKind.wrap .i64 (4096 - (((ByteArray.size x0) : Nat) : Int))) 0))) * 1) : Nat) ≤ 140737488355328) ∧
       (((0 : Nat) = 0) ∧
        ((((1 : Nat) = 1) ∨ (@Eq (List Mir.D) (List.replicate (Int.toNat (Go.Mir.mmI false (Go.Mir.mmI true a1 0) (Go.Mir.mmI true (Go.IntKind.wrap .i64 (4096 - (((ByteArray.size x0) : Nat) : Int))) 0))) (Mir.D.int .u8 0)) [])) ∧
         ((((List.all (List.replicate (Int.toNat (Go.Mir.mmI false (Go.Mir.mmI true a1 0) (Go.Mir.mmI true (Go.IntKind.wrap .i64 (4096 - (((ByteArray.size x0) : Nat) : Int))) 0))) (Mir.D.int .u8 0)) Go.Mir.D.isU8) : Bool) = true) ∧
          (((((((ByteArray.size x0) + (ByteArray.size (ByteArray.mk (List.toArray (List.map Go.Mir.byteOf (List.replicate (Int.toNat (Go.Mir.mmI false (Go.Mir.mmI true a1 0) (Go.Mir.mmI true (Go.IntKind.wrap .i64 (4096 - (((ByteArray.size x0) : Nat) : Int))) 0))) (Mir.D.int .u8 0))))))) : Nat) : Int) : Int) ≤ 9223372036854775807) ∧
           (∃ x4 : Int,
            (∃ x5 : Int,
             (∃ x6 : ByteArray,
              (∃ x7 : Int,
               ((Runs Fs 21 [(Mir.AV.n (Mir.D.str (x0 ++ (ByteArray.mk (List.toArray (List.map Go.Mir.byteOf (List.replicate (Int.toNat (Go.Mir.mmI false (Go.Mir.mmI true a1 0) (Go.Mir.mmI true (Go.IntKind.wrap .i64 (4096 - (((ByteArray.size x0) : Nat) : Int))) 0))) (Mir.D.int .u8 0))))))))] [] (Mir.AV.tup [(Mir.AV.agg [(Mir.AV.n (Mir.D.int .i64 x4)), (Mir.AV.n (Mir.D.int .i64 x5)), (Mir.AV.n (Mir.D.str x6))]), (Mir.AV.n (Mir.D.int .i64 x7))]) []) ∧
                ((0 = 0) ∧
                 (∃ x8 : Int,
                  (∃ x9 : Int,
                   (∃ x10 : ByteArray,
                    (∃ x11 : Int,
                     ((Runs Fs 23 [(Mir.AV.n (Mir.D.str x0)), (Mir.AV.o (Mir.D.sl 1 [(Mir.D.int .i64 1), (Mir.D.int .i64 2), (Mir.D.int .i64 3), (Mir.D.int .i64 4), (Mir.D.int .i64 5)]))] [] (Mir.AV.tup [(Mir.AV.agg [(Mir.AV.n (Mir.D.int .i64 x8)), (Mir.AV.n (Mir.D.int .i64 x9)), (Mir.AV.n (Mir.D.str x10))]), (Mir.AV.n (Mir.D.int .i64 x11))]) []) ∧
                      (∃ x12 : Bool,
                       ((Runs Fs 11 [] [] (Mir.AV.n (Mir.D.bool x12)) []) ∧
                        (sel x12
                         (sel (x7 == 0)
                          (sel (x11 == 0)
                           (sel ((x4 == a0_0) && ((x5 == a0_1) && (((ByteArray.toList x6) == (ByteArray.toList a0_2)) && true)))
                            (sel ((x8 == a0_0) && ((x9 == a0_1) && (((ByteArray.toList x10) == (ByteArray.toList a0_2)) && true)))
                             (∃ x13 : Bool,
                              ((Runs Fs 12 [(Mir.AV.agg [(Mir.AV.n (Mir.D.int .i64 a0_0)), (Mir.AV.n (Mir.D.int .i64 a0_1)), (Mir.AV.n (Mir.D.str a0_2))])] [] (Mir.AV.n (Mir.D.bool x13)) []) ∧
                               (sel x13
                                (R (Mir.AV.n (Mir.D.bool (decide ((((ByteArray.size x0) : Nat) : Int) ≤ 4096)))))
                                (R (Mir.AV.n (Mir.D.bool false))))))
                             (R (Mir.AV.n (Mir.D.bool false))))
                            (R (Mir.AV.n (Mir.D.bool false))))
                           (R (Mir.AV.n (Mir.D.bool false))))
                          (R (Mir.AV.n (Mir.D.bool false))))
                         (R (Mir.AV.n (Mir.D.bool false)))))))))))))))))))))))))))
theorem vc8 (a0_0 : Int) (a0_1 : Int) (a0_2 : ByteArray) (a1 : Int) (R : Mir.AV → Prop) : Vc Fs c8.body (argsQ c8 [(.agg [(.n (.int .i64 a0_0)), (.n (.int .i64 a0_1)), (.n (.str a0_2))]), (.n (.int .i64 a1))]) [] (endQ c8 R) = V8 a0_0 a0_1 a0_2 a1 R := by kernel_rfl

end Go.Proofs.YtjmfgemjabaohaaDoor.M
