import Derived.Test.YtjmfgemjabaohaaMPilot
namespace Go.Proofs.Ytjmfgemjabaohaa.M
set_option linter.unusedVariables false
set_option linter.unusedSimpArgs false
open Go Go.Mir
set_option linter.unusedVariables false
def V18 (a0 : Int) (R : Mir.AV → Prop) : Prop :=
 (∃ x0 : (Int → (Int → (Int → Prop))),
  (∃ x1 : (Int → (Int → (Int → Nat))),
   (((@Eq (List (Nat × Mir.Ob)) [] []) ∧
     (x0 a0 1 0)) ∧
    (∀ x2 : Int,
     (∀ x3 : Int,
      (∀ x4 : Int,
       ((x0 x2 x3 x4) →
        (∀ x5 : (Nat → Mir.AV),
         (sel (decide (x4 < x2))
          ((@Eq (List (Nat × Mir.Ob)) [] []) ∧
           ((x0 x2 (Go.IntKind.wrap .i64 (x3 * 256)) (Go.IntKind.wrap .i64 (x4 + 1))) ∧
            (((x1 x2 (Go.IntKind.wrap .i64 (x3 * 256)) (Go.IntKind.wrap .i64 (x4 + 1))) : Nat) < (x1 x2 x3 x4))))
          (R (Mir.AV.n (Mir.D.int .i64 x3))))))))))))
theorem vc18 (a0 : Int) (R : Mir.AV → Prop) : Vc Fs c18.body (argsQ c18 [(.n (.int .i64 a0))]) [] (endQ c18 R) = V18 a0 R := by kernel_rfl
def V9 (a0 : Int) (a1 : Int) (R : Mir.AV → Prop) : Prop :=
 (sel (decide (a1 < 1))
  (R (Mir.AV.tup [(Mir.AV.n (Mir.D.str (ByteArray.mk (List.toArray [])))), (Mir.AV.n (Mir.D.int .i64 1))]))
  (sel (decide (a1 > 6))
   (R (Mir.AV.tup [(Mir.AV.n (Mir.D.str (ByteArray.mk (List.toArray [])))), (Mir.AV.n (Mir.D.int .i64 1))]))
   (sel (decide (a0 < 0))
    (R (Mir.AV.tup [(Mir.AV.n (Mir.D.str (ByteArray.mk (List.toArray [])))), (Mir.AV.n (Mir.D.int .i64 1))]))
    (((0 : Int) ≤ (Go.IntKind.wrap .i64 (8 * a1))) ∧
     (sel ((Int.fdiv a0 (2 ^ (Min.min (Int.toNat (Go.IntKind.wrap .i64 (8 * a1))) (Go.IntKind.bits .i64)))) != 0)
      (R (Mir.AV.tup [(Mir.AV.n (Mir.D.str (ByteArray.mk (List.toArray [])))), (Mir.AV.n (Mir.D.int .i64 1))]))
      (((0 : Int) ≤ a1) ∧
       (((((Int.toNat a1) * 1) : Nat) ≤ 140737488355328) ∧
        (((0 : Nat) = 0) ∧
         (∃ x0 : (Int → (Int → (Nat → (Int → (Int → ((Nat × (List Mir.D)) → Prop)))))),
          (∃ x1 : (Int → (Int → (Nat → (Int → (Int → ((Nat × (List Mir.D)) → Nat)))))),
           (((@Eq (List (Nat × Mir.Ob)) [(900301, (.row false true 0 5 1 (List.replicate (Int.toNat a1) (Mir.D.int .u8 0))))] [(900301, (.row false true 0 5 1 (List.replicate (Int.toNat a1) (Mir.D.int .u8 0))))]) ∧
             (x0 a0 a1 0 (((List.length (List.replicate (Int.toNat a1) (Mir.D.int .u8 0))) : Nat) : Int) 0 (0, (List.replicate (Int.toNat a1) (Mir.D.int .u8 0))))) ∧
            (∀ x2 : Int,
             (∀ x3 : Int,
              (∀ x4 : Nat,
               (∀ x5 : Int,
                (∀ x6 : Int,
                 (∀ x7 : (Nat × (List Mir.D)),
                  ((x0 x2 x3 x4 x5 x6 x7) →
                   (∀ x8 : (Nat → Mir.AV),
                    (sel (decide (x6 < x5))
                     (((0 : Int) ≤ (Go.IntKind.wrap .i64 (8 * x6))) ∧
                      (((((Prod.fst x7) : Nat) = x4) ∧
                        ((1 : Nat) = 1)) ∧
                       (((0 : Int) ≤ (Go.IntKind.wrap .i64 ((Go.IntKind.wrap .i64 (x3 - 1)) - x6))) ∧
                        ((((Go.IntKind.wrap .i64 ((Go.IntKind.wrap .i64 (x3 - 1)) - x6)) : Int) < (((List.length (Prod.snd x7)) : Nat) : Int)) ∧
                         ((((((x4 : Nat) = (Prod.fst x7)) ∧
                             ((0 : Nat) = 0)) ∧
                            ((1 : Nat) = 1)) ∧
                           ((1 : Nat) = 1)) ∧
                          ((((Int.toNat (Go.IntKind.wrap .i64 ((Go.IntKind.wrap .i64 (x3 - 1)) - x6))) : Nat) < (List.length (Prod.snd x7))) ∧
                           ((@Eq (List (Nat × Mir.Ob)) [(900301, (.row false true (Prod.fst x7) 5 1 (List.set (Prod.snd x7) (Int.toNat (Go.IntKind.wrap .i64 ((Go.IntKind.wrap .i64 (x3 - 1)) - x6))) (Mir.D.int .u8 (Go.IntKind.wrap .u8 (Int.fdiv x2 (2 ^ (Min.min (Int.toNat (Go.IntKind.wrap .i64 (8 * x6))) (Go.IntKind.bits .i64)))))))))] [(900301, (.row false true (Prod.fst x7) 5 1 (List.set (Prod.snd x7) (Int.toNat (Go.IntKind.wrap .i64 ((Go.IntKind.wrap .i64 (x3 - 1)) - x6))) (Mir.D.int .u8 (Go.IntKind.wrap .u8 (Int.fdiv x2 (2 ^ (Min.min (Int.toNat (Go.IntKind.wrap .i64 (8 * x6))) (Go.IntKind.bits .i64)))))))))]) ∧
                            ((x0 x2 x3 x4 x5 (Go.IntKind.wrap .i64 (x6 + 1)) ((Prod.fst x7), (List.set (Prod.snd x7) (Int.toNat (Go.IntKind.wrap .i64 ((Go.IntKind.wrap .i64 (x3 - 1)) - x6))) (Mir.D.int .u8 (Go.IntKind.wrap .u8 (Int.fdiv x2 (2 ^ (Min.min (Int.toNat (Go.IntKind.wrap .i64 (8 * x6))) (Go.IntKind.bits .i64))))))))) ∧
                             (((x1 x2 x3 x4 x5 (Go.IntKind.wrap .i64 (x6 + 1)) ((Prod.fst x7), (List.set (Prod.snd x7) (Int.toNat (Go.IntKind.wrap .i64 ((Go.IntKind.wrap .i64 (x3 - 1)) - x6))) (Mir.D.int .u8 (Go.IntKind.wrap .u8 (Int.fdiv x2 (2 ^ (Min.min (Int.toNat (Go.IntKind.wrap .i64 (8 * x6))) (Go.IntKind.bits .i64))))))))) : Nat) < (x1 x2 x3 x4 x5 x6 x7))))))))))
                     ((((Prod.fst x7) : Nat) = x4) ∧
                      ((((1 : Nat) = 1) ∨ (@Eq (List Mir.D) (Prod.snd x7) [])) ∧
                       ((((List.all (Prod.snd x7) Go.Mir.D.isU8) : Bool) = true) ∧
                        (R (Mir.AV.tup [(Mir.AV.n (Mir.D.str (ByteArray.mk (List.toArray (List.map Go.Mir.byteOf (Prod.snd x7)))))), (Mir.AV.n (Mir.D.int .i64 0))])))))))))))))))))))))))))
theorem vc9 (a0 : Int) (a1 : Int) (R : Mir.AV → Prop) : Vc Fs c9.body (argsQ c9 [(.n (.int .i64 a0)), (.n (.int .i64 a1))]) [] (endQ c9 R) = V9 a0 a1 R := by kernel_rfl
def V10 (a0 : Int) (a1 : Int) (R : Mir.AV → Prop) : Prop :=
 (sel (decide (a1 < 1))
  (R (Mir.AV.tup [(Mir.AV.n (Mir.D.str (ByteArray.mk (List.toArray [])))), (Mir.AV.n (Mir.D.int .i64 1))]))
  (sel (decide (a1 > 6))
   (R (Mir.AV.tup [(Mir.AV.n (Mir.D.str (ByteArray.mk (List.toArray [])))), (Mir.AV.n (Mir.D.int .i64 1))]))
   (sel (decide (a0 < 0))
    (R (Mir.AV.tup [(Mir.AV.n (Mir.D.str (ByteArray.mk (List.toArray [])))), (Mir.AV.n (Mir.D.int .i64 1))]))
    (∃ x0 : Int,
     ((Runs Fs 18 [(Mir.AV.n (Mir.D.int .i64 a1))] [] (Mir.AV.n (Mir.D.int .i64 x0)) []) ∧
      (sel (decide (a0 ≥ x0))
       (R (Mir.AV.tup [(Mir.AV.n (Mir.D.str (ByteArray.mk (List.toArray [])))), (Mir.AV.n (Mir.D.int .i64 1))]))
       (∃ x1 : (Int → (Nat → (Int → ((Nat × (List Mir.D)) → Prop)))),
        (∃ x2 : (Int → (Nat → (Int → ((Nat × (List Mir.D)) → Nat)))),
         (((@Eq (List (Nat × Mir.Ob)) [(1000300, (.row false true 0 5 1 []))] [(1000300, (.row false true 0 5 1 []))]) ∧
           (x1 a0 0 (Go.IntKind.wrap .i64 (a1 - 1)) (0, []))) ∧
          (∀ x3 : Int,
           (∀ x4 : Nat,
            (∀ x5 : Int,
             (∀ x6 : (Nat × (List Mir.D)),
              ((x1 x3 x4 x5 x6) →
               (∀ x7 : (Nat → Mir.AV),
                (sel (decide (x5 ≥ 0))
                 (∃ x8 : Int,
                  ((Runs Fs 18 [(Mir.AV.n (Mir.D.int .i64 x5))] [] (Mir.AV.n (Mir.D.int .i64 x8)) []) ∧
                   (((x8 : Int) ≠ 0) ∧
                    (((256 : Int) ≠ 0) ∧
                     (((0 : Nat) = 0) ∧
                      ((((1 : Nat) = 1) ∨ (@Eq (List Mir.D) [(Mir.D.int .u8 (Go.IntKind.wrap .u8 (Int.tmod (Go.IntKind.wrap .i64 (Int.tdiv x3 x8)) 256)))] [])) ∧
                       ((((((Prod.fst x6) : Nat) = x4) ∧
                          ((5 : Nat) = 5)) ∧
                         ((1 : Nat) = 1)) ∧
                        ((((((List.length (Prod.snd x6)) + (List.length [(Mir.D.int .u8 (Go.IntKind.wrap .u8 (Int.tmod (Go.IntKind.wrap .i64 (Int.tdiv x3 x8)) 256)))])) * 1) : Nat) ≤ 140737488355328) ∧
                         ((@Eq (List (Nat × Mir.Ob)) [(1000300, (.row false true (x4 + 1) 5 1 ((Prod.snd x6) ++ [(Mir.D.int .u8 (Go.IntKind.wrap .u8 (Int.tmod (Go.IntKind.wrap .i64 (Int.tdiv x3 x8)) 256)))])))] [(1000300, (.row false true (x4 + 1) 5 1 ((Prod.snd x6) ++ [(Mir.D.int .u8 (Go.IntKind.wrap .u8 (Int.tmod (Go.IntKind.wrap .i64 (Int.tdiv x3 x8)) 256)))])))]) ∧
                          ((x1 x3 (x4 + 1) (Go.IntKind.wrap .i64 (x5 - 1)) ((x4 + 1), ((Prod.snd x6) ++ [(Mir.D.int .u8 (Go.IntKind.wrap .u8 (Int.tmod (Go.IntKind.wrap .i64 (Int.tdiv x3 x8)) 256)))]))) ∧
                           (((x2 x3 (x4 + 1) (Go.IntKind.wrap .i64 (x5 - 1)) ((x4 + 1), ((Prod.snd x6) ++ [(Mir.D.int .u8 (Go.IntKind.wrap .u8 (Int.tmod (Go.IntKind.wrap .i64 (Int.tdiv x3 x8)) 256)))]))) : Nat) < (x2 x3 x4 x5 x6))))))))))))
                 ((((Prod.fst x6) : Nat) = x4) ∧
                  ((((1 : Nat) = 1) ∨ (@Eq (List Mir.D) (Prod.snd x6) [])) ∧
                   ((((List.all (Prod.snd x6) Go.Mir.D.isU8) : Bool) = true) ∧
                    (R (Mir.AV.tup [(Mir.AV.n (Mir.D.str (ByteArray.mk (List.toArray (List.map Go.Mir.byteOf (Prod.snd x6)))))), (Mir.AV.n (Mir.D.int .i64 0))])))))))))))))))))))))
theorem vc10 (a0 : Int) (a1 : Int) (R : Mir.AV → Prop) : Vc Fs c10.body (argsQ c10 [(.n (.int .i64 a0)), (.n (.int .i64 a1))]) [] (endQ c10 R) = V10 a0 a1 R := by kernel_rfl
def V11  (R : Mir.AV → Prop) : Prop :=
 (∃ x0 : ByteArray,
  (∃ x1 : Int,
   ((Runs Fs 9 [(Mir.AV.n (Mir.D.int .i64 7)), (Mir.AV.n (Mir.D.int .i64 1))] [] (Mir.AV.tup [(Mir.AV.n (Mir.D.str x0)), (Mir.AV.n (Mir.D.int .i64 x1))]) []) ∧
    (sel (x1 == 0)
     (R (Mir.AV.n (Mir.D.bool ((ByteArray.toList x0) == (ByteArray.toList (ByteArray.mk (List.toArray [7])))))))
     (R (Mir.AV.n (Mir.D.bool false)))))))
theorem vc11  (R : Mir.AV → Prop) : Vc Fs c11.body (argsQ c11 []) [] (endQ c11 R) = V11  R := by kernel_rfl
def V3 (a0 : Int) (a1 : Int) (R : Mir.AV → Prop) : Prop :=
 (∃ x0 : ByteArray,
  (∃ x1 : Int,
   ((Runs Fs 9 [(Mir.AV.n (Mir.D.int .i64 a0)), (Mir.AV.n (Mir.D.int .i64 a1))] [] (Mir.AV.tup [(Mir.AV.n (Mir.D.str x0)), (Mir.AV.n (Mir.D.int .i64 x1))]) []) ∧
    (∃ x2 : ByteArray,
     (∃ x3 : Int,
      ((Runs Fs 10 [(Mir.AV.n (Mir.D.int .i64 a0)), (Mir.AV.n (Mir.D.int .i64 a1))] [] (Mir.AV.tup [(Mir.AV.n (Mir.D.str x2)), (Mir.AV.n (Mir.D.int .i64 x3))]) []) ∧
       (∃ x4 : Bool,
        ((Runs Fs 11 [] [] (Mir.AV.n (Mir.D.bool x4)) []) ∧
         (sel x4
          (sel ((ByteArray.toList x0) == (ByteArray.toList x2))
           (R (Mir.AV.n (Mir.D.bool (x1 == x3))))
           (R (Mir.AV.n (Mir.D.bool false))))
          (R (Mir.AV.n (Mir.D.bool false))))))))))))
theorem vc3 (a0 : Int) (a1 : Int) (R : Mir.AV → Prop) : Vc Fs c3.body (argsQ c3 [(.n (.int .i64 a0)), (.n (.int .i64 a1))]) [] (endQ c3 R) = V3 a0 a1 R := by kernel_rfl
def V4 (a0 : Int) (a1 : Int) (a2 : Int) (R : Mir.AV → Prop) : Prop :=
 (∃ x0 : ByteArray,
  (∃ x1 : Int,
   ((Runs Fs 9 [(Mir.AV.n (Mir.D.int .i64 a0)), (Mir.AV.n (Mir.D.int .i64 a2))] [] (Mir.AV.tup [(Mir.AV.n (Mir.D.str x0)), (Mir.AV.n (Mir.D.int .i64 x1))]) []) ∧
    (∃ x2 : ByteArray,
     (∃ x3 : Int,
      ((Runs Fs 9 [(Mir.AV.n (Mir.D.int .i64 a1)), (Mir.AV.n (Mir.D.int .i64 a2))] [] (Mir.AV.tup [(Mir.AV.n (Mir.D.str x2)), (Mir.AV.n (Mir.D.int .i64 x3))]) []) ∧
       (sel (x1 != 0)
        (∃ x4 : Bool,
         ((Runs Fs 11 [] [] (Mir.AV.n (Mir.D.bool x4)) []) ∧
          (R (Mir.AV.n (Mir.D.bool x4)))))
        (sel (x3 != 0)
         (∃ x5 : Bool,
          ((Runs Fs 11 [] [] (Mir.AV.n (Mir.D.bool x5)) []) ∧
           (R (Mir.AV.n (Mir.D.bool x5)))))
         (∃ x6 : Bool,
          ((Runs Fs 11 [] [] (Mir.AV.n (Mir.D.bool x6)) []) ∧
           (sel x6
            (sel ((Go.Op.bytesLess (ByteArray.toList x0) (ByteArray.toList x2)) == (decide (a0 < a1)))
             (sel (((ByteArray.toList x0) == (ByteArray.toList x2)) == (a0 == a1))
              (R (Mir.AV.n (Mir.D.bool ((((ByteArray.size x0) : Nat) : Int) == a2))))
              (R (Mir.AV.n (Mir.D.bool false))))
             (R (Mir.AV.n (Mir.D.bool false))))
            (R (Mir.AV.n (Mir.D.bool false))))))))))))))
theorem vc4 (a0 : Int) (a1 : Int) (a2 : Int) (R : Mir.AV → Prop) : Vc Fs c4.body (argsQ c4 [(.n (.int .i64 a0)), (.n (.int .i64 a1)), (.n (.int .i64 a2))]) [] (endQ c4 R) = V4 a0 a1 a2 R := by kernel_rfl
def V12 (a0 : ByteArray) (a1 : Int) (a2 : Int) (R : Mir.AV → Prop) : Prop :=
 (sel (decide (a2 < 1))
  (R (Mir.AV.tup [(Mir.AV.n (Mir.D.int .i64 0)), (Mir.AV.n (Mir.D.int .i64 0)), (Mir.AV.n (Mir.D.int .i64 1))]))
  (sel (decide (a2 > 6))
   (R (Mir.AV.tup [(Mir.AV.n (Mir.D.int .i64 0)), (Mir.AV.n (Mir.D.int .i64 0)), (Mir.AV.n (Mir.D.int .i64 1))]))
   (sel (decide (a1 < 0))
    (R (Mir.AV.tup [(Mir.AV.n (Mir.D.int .i64 0)), (Mir.AV.n (Mir.D.int .i64 0)), (Mir.AV.n (Mir.D.int .i64 1))]))
    (sel (decide (a1 > (((ByteArray.size a0) : Nat) : Int)))
     (R (Mir.AV.tup [(Mir.AV.n (Mir.D.int .i64 0)), (Mir.AV.n (Mir.D.int .i64 0)), (Mir.AV.n (Mir.D.int .i64 1))]))
     (sel (decide ((Go.IntKind.wrap .i64 ((((ByteArray.size a0) : Nat) : Int) - a1)) < a2))
      (R (Mir.AV.tup [(Mir.AV.n (Mir.D.int .i64 0)), (Mir.AV.n (Mir.D.int .i64 0)), (Mir.AV.n (Mir.D.int .i64 3))]))
      (((0 : Int) ≤ (Go.IntKind.wrap .i64 (a1 + a2))) ∧
       ((((Go.IntKind.wrap .i64 (a1 + a2)) : Int) ≤ (((ByteArray.size a0) : Nat) : Int)) ∧
        (((0 : Int) ≤ a1) ∧
         (((a1 : Int) ≤ (((Int.toNat (Go.IntKind.wrap .i64 (a1 + a2))) : Nat) : Int)) ∧
          (∃ x0 : (Int → (Int → (Int → ((List Mir.D) → (Int → (Int → Prop)))))),
           (∃ x1 : (Int → (Int → (Int → ((List Mir.D) → (Int → (Int → Nat)))))),
            (((@Eq (List (Nat × Mir.Ob)) [] []) ∧
              (x0 a1 a2 0 (Go.Mir.bytesD (ByteArray.extract a0 (Int.toNat a1) (Int.toNat (Go.IntKind.wrap .i64 (a1 + a2))))) (((List.length (Go.Mir.bytesD (ByteArray.extract a0 (Int.toNat a1) (Int.toNat (Go.IntKind.wrap .i64 (a1 + a2)))))) : Nat) : Int) 0)) ∧
             (∀ x2 : Int,
              (∀ x3 : Int,
               (∀ x4 : Int,
                (∀ x5 : (List Mir.D),
                 (∀ x6 : Int,
                  (∀ x7 : Int,
                   ((x0 x2 x3 x4 x5 x6 x7) →
                    (∀ x8 : (Nat → Mir.AV),
                     (sel (decide (x7 < x6))
                      (((1 : Nat) = 1) ∧
                       (((0 : Int) ≤ x7) ∧
                        (∃ x9 : Mir.D,
                         ((((GetElem?.getElem? x5 (Int.toNat x7)) : (Option Mir.D)) = (some x9)) ∧
                          (∃ x10 : Int,
                           ((((GetElem?.getElem? (Go.Mir.D.cells x9) 0) : (Option Mir.D)) = (some (Mir.D.int .u8 x10))) ∧
                            (((0 : Int) ≤ 8) ∧
                             ((@Eq (List (Nat × Mir.Ob)) [] []) ∧
                              ((x0 x2 x3 (Go.IntKind.wrap .i64 (((BitVec.toNat (HOr.hOr (BitVec.ofInt (Go.IntKind.bits .i64) (Go.IntKind.wrap .i64 (x4 * (2 ^ (Min.min (Int.toNat 8) (Go.IntKind.bits .i64)))))) (BitVec.ofInt (Go.IntKind.bits .i64) (Go.IntKind.wrap .i64 x10)))) : Nat) : Int)) x5 x6 (Go.IntKind.wrap .i64 (x7 + 1))) ∧
                               (((x1 x2 x3 (Go.IntKind.wrap .i64 (((BitVec.toNat (HOr.hOr (BitVec.ofInt (Go.IntKind.bits .i64) (Go.IntKind.wrap .i64 (x4 * (2 ^ (Min.min (Int.toNat 8) (Go.IntKind.bits .i64)))))) (BitVec.ofInt (Go.IntKind.bits .i64) (Go.IntKind.wrap .i64 x10)))) : Nat) : Int)) x5 x6 (Go.IntKind.wrap .i64 (x7 + 1))) : Nat) < (x1 x2 x3 x4 x5 x6 x7)))))))))))
                      (R (Mir.AV.tup [(Mir.AV.n (Mir.D.int .i64 x4)), (Mir.AV.n (Mir.D.int .i64 (Go.IntKind.wrap .i64 (x2 + x3)))), (Mir.AV.n (Mir.D.int .i64 0))])))))))))))))))))))))))
theorem vc12 (a0 : ByteArray) (a1 : Int) (a2 : Int) (R : Mir.AV → Prop) : Vc Fs c12.body (argsQ c12 [(.n (.str a0)), (.n (.int .i64 a1)), (.n (.int .i64 a2))]) [] (endQ c12 R) = V12 a0 a1 a2 R := by kernel_rfl
def V13 (a0 : ByteArray) (a1 : Int) (a2 : Int) (R : Mir.AV → Prop) : Prop :=
 (sel (decide (a2 < 1))
  (R (Mir.AV.tup [(Mir.AV.n (Mir.D.int .i64 0)), (Mir.AV.n (Mir.D.int .i64 0)), (Mir.AV.n (Mir.D.int .i64 1))]))
  (sel (decide (a2 > 6))
   (R (Mir.AV.tup [(Mir.AV.n (Mir.D.int .i64 0)), (Mir.AV.n (Mir.D.int .i64 0)), (Mir.AV.n (Mir.D.int .i64 1))]))
   (sel (decide (a1 < 0))
    (R (Mir.AV.tup [(Mir.AV.n (Mir.D.int .i64 0)), (Mir.AV.n (Mir.D.int .i64 0)), (Mir.AV.n (Mir.D.int .i64 1))]))
    (sel (decide (a1 > (((ByteArray.size a0) : Nat) : Int)))
     (R (Mir.AV.tup [(Mir.AV.n (Mir.D.int .i64 0)), (Mir.AV.n (Mir.D.int .i64 0)), (Mir.AV.n (Mir.D.int .i64 1))]))
     (sel (decide ((Go.IntKind.wrap .i64 ((((ByteArray.size a0) : Nat) : Int) - a1)) < a2))
      (R (Mir.AV.tup [(Mir.AV.n (Mir.D.int .i64 0)), (Mir.AV.n (Mir.D.int .i64 0)), (Mir.AV.n (Mir.D.int .i64 3))]))
      (∃ x0 : (ByteArray → (Int → (Int → (Int → (Int → Prop))))),
       (∃ x1 : (ByteArray → (Int → (Int → (Int → (Int → Nat))))),
        (((@Eq (List (Nat × Mir.Ob)) [] []) ∧
          (x0 a0 a1 a2 0 0)) ∧
         (∀ x2 : ByteArray,
          (∀ x3 : Int,
           (∀ x4 : Int,
            (∀ x5 : Int,
             (∀ x6 : Int,
              ((x0 x2 x3 x4 x5 x6) →
               (∀ x7 : (Nat → Mir.AV),
                (sel (decide (x6 < x4))
                 (((0 : Int) ≤ (Go.IntKind.wrap .i64 (x3 + x6))) ∧
                  (∃ x8 : UInt8,
                   ((((GetElem?.getElem? (Array.toList (ByteArray.data x2)) (Int.toNat (Go.IntKind.wrap .i64 (x3 + x6)))) : (Option UInt8)) = (some x8)) ∧
                    ((@Eq (List (Nat × Mir.Ob)) [] []) ∧
                     ((x0 x2 x3 x4 (Go.IntKind.wrap .i64 ((Go.IntKind.wrap .i64 (x5 * 256)) + (Go.IntKind.wrap .i64 (((UInt8.toNat x8) : Nat) : Int)))) (Go.IntKind.wrap .i64 (x6 + 1))) ∧
                      (((x1 x2 x3 x4 (Go.IntKind.wrap .i64 ((Go.IntKind.wrap .i64 (x5 * 256)) + (Go.IntKind.wrap .i64 (((UInt8.toNat x8) : Nat) : Int)))) (Go.IntKind.wrap .i64 (x6 + 1))) : Nat) < (x1 x2 x3 x4 x5 x6)))))))
                 (R (Mir.AV.tup [(Mir.AV.n (Mir.D.int .i64 x5)), (Mir.AV.n (Mir.D.int .i64 (Go.IntKind.wrap .i64 (x3 + x4)))), (Mir.AV.n (Mir.D.int .i64 0))]))))))))))))))))))
theorem vc13 (a0 : ByteArray) (a1 : Int) (a2 : Int) (R : Mir.AV → Prop) : Vc Fs c13.body (argsQ c13 [(.n (.str a0)), (.n (.int .i64 a1)), (.n (.int .i64 a2))]) [] (endQ c13 R) = V13 a0 a1 a2 R := by kernel_rfl
def V14 (a0 : ByteArray) (a1 : Int) (R : Mir.AV → Prop) : Prop :=
 (∃ x0 : Int,
  (∃ x1 : Int,
   (∃ x2 : Int,
    ((Runs Fs 12 [(Mir.AV.n (Mir.D.str a0)), (Mir.AV.n (Mir.D.int .i64 a1)), (Mir.AV.n (Mir.D.int .i64 2))] [] (Mir.AV.tup [(Mir.AV.n (Mir.D.int .i64 x0)), (Mir.AV.n (Mir.D.int .i64 x1)), (Mir.AV.n (Mir.D.int .i64 x2))]) []) ∧
     (sel (x2 != 0)
      (R (Mir.AV.tup [(Mir.AV.n (Mir.D.str (ByteArray.mk (List.toArray [])))), (Mir.AV.n (Mir.D.int .i64 0)), (Mir.AV.n (Mir.D.int .i64 x2))]))
      (sel (decide ((Go.IntKind.wrap .i64 ((((ByteArray.size a0) : Nat) : Int) - x1)) < x0))
       (R (Mir.AV.tup [(Mir.AV.n (Mir.D.str (ByteArray.mk (List.toArray [])))), (Mir.AV.n (Mir.D.int .i64 0)), (Mir.AV.n (Mir.D.int .i64 3))]))
       (((0 : Int) ≤ (Go.IntKind.wrap .i64 (x1 + x0))) ∧
        ((((Go.IntKind.wrap .i64 (x1 + x0)) : Int) ≤ (((ByteArray.size a0) : Nat) : Int)) ∧
         (((0 : Int) ≤ x1) ∧
          (((x1 : Int) ≤ (((Int.toNat (Go.IntKind.wrap .i64 (x1 + x0))) : Nat) : Int)) ∧
           (R (Mir.AV.tup [(Mir.AV.n (Mir.D.str (ByteArray.extract a0 (Int.toNat x1) (Int.toNat (Go.IntKind.wrap .i64 (x1 + x0)))))), (Mir.AV.n (Mir.D.int .i64 (Go.IntKind.wrap .i64 (x1 + x0)))), (Mir.AV.n (Mir.D.int .i64 0))]))))))))))))
theorem vc14 (a0 : ByteArray) (a1 : Int) (R : Mir.AV → Prop) : Vc Fs c14.body (argsQ c14 [(.n (.str a0)), (.n (.int .i64 a1))]) [] (endQ c14 R) = V14 a0 a1 R := by kernel_rfl
def V15 (a0 : ByteArray) (a1 : Int) (R : Mir.AV → Prop) : Prop :=
 (∃ x0 : Int,
  (∃ x1 : Int,
   (∃ x2 : Int,
    ((Runs Fs 13 [(Mir.AV.n (Mir.D.str a0)), (Mir.AV.n (Mir.D.int .i64 a1)), (Mir.AV.n (Mir.D.int .i64 2))] [] (Mir.AV.tup [(Mir.AV.n (Mir.D.int .i64 x0)), (Mir.AV.n (Mir.D.int .i64 x1)), (Mir.AV.n (Mir.D.int .i64 x2))]) []) ∧
     (sel (x2 != 0)
      (R (Mir.AV.tup [(Mir.AV.n (Mir.D.str (ByteArray.mk (List.toArray [])))), (Mir.AV.n (Mir.D.int .i64 0)), (Mir.AV.n (Mir.D.int .i64 x2))]))
      (sel (decide ((Go.IntKind.wrap .i64 ((((ByteArray.size a0) : Nat) : Int) - x1)) < x0))
       (R (Mir.AV.tup [(Mir.AV.n (Mir.D.str (ByteArray.mk (List.toArray [])))), (Mir.AV.n (Mir.D.int .i64 0)), (Mir.AV.n (Mir.D.int .i64 3))]))
       (((0 : Int) ≤ (Go.IntKind.wrap .i64 (x1 + x0))) ∧
        ((((Go.IntKind.wrap .i64 (x1 + x0)) : Int) ≤ (((ByteArray.size a0) : Nat) : Int)) ∧
         (((0 : Int) ≤ x1) ∧
          (((x1 : Int) ≤ (((Int.toNat (Go.IntKind.wrap .i64 (x1 + x0))) : Nat) : Int)) ∧
           (R (Mir.AV.tup [(Mir.AV.n (Mir.D.str (ByteArray.extract a0 (Int.toNat x1) (Int.toNat (Go.IntKind.wrap .i64 (x1 + x0)))))), (Mir.AV.n (Mir.D.int .i64 (Go.IntKind.wrap .i64 (x1 + x0)))), (Mir.AV.n (Mir.D.int .i64 0))]))))))))))))
theorem vc15 (a0 : ByteArray) (a1 : Int) (R : Mir.AV → Prop) : Vc Fs c15.body (argsQ c15 [(.n (.str a0)), (.n (.int .i64 a1))]) [] (endQ c15 R) = V15 a0 a1 R := by kernel_rfl
def V5 (a0 : ByteArray) (a1 : Int) (a2 : Int) (R : Mir.AV → Prop) : Prop :=
 (∃ x0 : Int,
  (∃ x1 : Int,
   (∃ x2 : Int,
    ((Runs Fs 12 [(Mir.AV.n (Mir.D.str a0)), (Mir.AV.n (Mir.D.int .i64 a1)), (Mir.AV.n (Mir.D.int .i64 a2))] [] (Mir.AV.tup [(Mir.AV.n (Mir.D.int .i64 x0)), (Mir.AV.n (Mir.D.int .i64 x1)), (Mir.AV.n (Mir.D.int .i64 x2))]) []) ∧
     (∃ x3 : Int,
      (∃ x4 : Int,
       (∃ x5 : Int,
        ((Runs Fs 13 [(Mir.AV.n (Mir.D.str a0)), (Mir.AV.n (Mir.D.int .i64 a1)), (Mir.AV.n (Mir.D.int .i64 a2))] [] (Mir.AV.tup [(Mir.AV.n (Mir.D.int .i64 x3)), (Mir.AV.n (Mir.D.int .i64 x4)), (Mir.AV.n (Mir.D.int .i64 x5))]) []) ∧
         (∃ x6 : ByteArray,
          (∃ x7 : Int,
           (∃ x8 : Int,
            ((Runs Fs 14 [(Mir.AV.n (Mir.D.str a0)), (Mir.AV.n (Mir.D.int .i64 a1))] [] (Mir.AV.tup [(Mir.AV.n (Mir.D.str x6)), (Mir.AV.n (Mir.D.int .i64 x7)), (Mir.AV.n (Mir.D.int .i64 x8))]) []) ∧
             (∃ x9 : ByteArray,
              (∃ x10 : Int,
               (∃ x11 : Int,
                ((Runs Fs 15 [(Mir.AV.n (Mir.D.str a0)), (Mir.AV.n (Mir.D.int .i64 a1))] [] (Mir.AV.tup [(Mir.AV.n (Mir.D.str x9)), (Mir.AV.n (Mir.D.int .i64 x10)), (Mir.AV.n (Mir.D.int .i64 x11))]) []) ∧
                 (∃ x12 : Bool,
                  ((Runs Fs 11 [] [] (Mir.AV.n (Mir.D.bool x12)) []) ∧
                   (sel x12
                    (sel (x0 == x3)
                     (sel (x1 == x4)
                      (sel (x2 == x5)
                       (sel ((ByteArray.toList x6) == (ByteArray.toList x9))
                        (sel (x7 == x10)
                         (R (Mir.AV.n (Mir.D.bool (x8 == x11))))
                         (R (Mir.AV.n (Mir.D.bool false))))
                        (R (Mir.AV.n (Mir.D.bool false))))
                       (R (Mir.AV.n (Mir.D.bool false))))
                      (R (Mir.AV.n (Mir.D.bool false))))
                     (R (Mir.AV.n (Mir.D.bool false))))
                    (R (Mir.AV.n (Mir.D.bool false))))))))))))))))))))))
theorem vc5 (a0 : ByteArray) (a1 : Int) (a2 : Int) (R : Mir.AV → Prop) : Vc Fs c5.body (argsQ c5 [(.n (.str a0)), (.n (.int .i64 a1)), (.n (.int .i64 a2))]) [] (endQ c5 R) = V5 a0 a1 a2 R := by kernel_rfl
def V16 (a0 : List Mir.D) (R : Mir.AV → Prop) : Prop :=
 (∃ x0 : ByteArray,
  ((Runs Fs 19 [(Mir.AV.o (Mir.D.sl 1 a0)), (Mir.AV.n (Mir.D.str (ByteArray.mk (List.toArray []))))] [] (Mir.AV.n (Mir.D.str x0)) []) ∧
   (R (Mir.AV.n (Mir.D.str x0)))))
theorem vc16 (a0 : List Mir.D) (R : Mir.AV → Prop) : Vc Fs c16.body (argsQ c16 [(.o (.sl 1 a0))]) [] (endQ c16 R) = V16 a0 R := by kernel_rfl
def V17 (a0 : ByteArray) (R : Mir.AV → Prop) : Prop :=
 (sel (decide ((((ByteArray.size a0) : Nat) : Int) > 65535))
  (R (Mir.AV.tup [(Mir.AV.n (Mir.D.str (ByteArray.mk (List.toArray [])))), (Mir.AV.n (Mir.D.int .i64 2))]))
  (∃ x0 : ByteArray,
   (∃ x1 : Int,
    ((Runs Fs 9 [(Mir.AV.n (Mir.D.int .i64 (((ByteArray.size a0) : Nat) : Int))), (Mir.AV.n (Mir.D.int .i64 2))] [] (Mir.AV.tup [(Mir.AV.n (Mir.D.str x0)), (Mir.AV.n (Mir.D.int .i64 x1))]) []) ∧
     ((0 = 0) ∧
      (∃ x2 : ByteArray,
       ((Runs Fs 16 [(Mir.AV.o (Mir.D.sl 1 [(Mir.D.str x0), (Mir.D.str a0)]))] [] (Mir.AV.n (Mir.D.str x2)) []) ∧
        (R (Mir.AV.tup [(Mir.AV.n (Mir.D.str x2)), (Mir.AV.n (Mir.D.int .i64 x1))])))))))))
theorem vc17 (a0 : ByteArray) (R : Mir.AV → Prop) : Vc Fs c17.body (argsQ c17 [(.n (.str a0))]) [] (endQ c17 R) = V17 a0 R := by kernel_rfl
def V8 (a0 : ByteArray) (a1 : Int) (R : Mir.AV → Prop) : Prop :=
 (∃ x0 : ByteArray,
  (∃ x1 : Int,
   ((Runs Fs 17 [(Mir.AV.n (Mir.D.str a0))] [] (Mir.AV.tup [(Mir.AV.n (Mir.D.str x0)), (Mir.AV.n (Mir.D.int .i64 x1))]) []) ∧
    (sel (x1 != 0)
     (∃ x2 : Bool,
      ((Runs Fs 11 [] [] (Mir.AV.n (Mir.D.bool x2)) []) ∧
       (sel x2
        (R (Mir.AV.n (Mir.D.bool (decide ((((ByteArray.size a0) : Nat) : Int) > 65535)))))
        (R (Mir.AV.n (Mir.D.bool false))))))
     (sel (decide ((((ByteArray.size x0) : Nat) : Int) < 2))
      (R (Mir.AV.n (Mir.D.bool false)))
      ((((((ByteArray.size x0) : Nat) : Int) : Int) ≠ 0) ∧
       ((((((ByteArray.size x0) : Nat) : Int) : Int) ≠ 0) ∧
        (((0 : Int) ≤ (Int.tmod (Go.IntKind.wrap .i64 ((Int.tmod a1 (((ByteArray.size x0) : Nat) : Int)) + (((ByteArray.size x0) : Nat) : Int))) (((ByteArray.size x0) : Nat) : Int))) ∧
         ((((Int.tmod (Go.IntKind.wrap .i64 ((Int.tmod a1 (((ByteArray.size x0) : Nat) : Int)) + (((ByteArray.size x0) : Nat) : Int))) (((ByteArray.size x0) : Nat) : Int)) : Int) ≤ (((ByteArray.size x0) : Nat) : Int)) ∧
          (∃ x3 : ByteArray,
           (∃ x4 : Int,
            (∃ x5 : Int,
             ((Runs Fs 14 [(Mir.AV.n (Mir.D.str (ByteArray.extract x0 0 (Int.toNat (Int.tmod (Go.IntKind.wrap .i64 ((Int.tmod a1 (((ByteArray.size x0) : Nat) : Int)) + (((ByteArray.size x0) : Nat) : Int))) (((ByteArray.size x0) : Nat) : Int)))))), (Mir.AV.n (Mir.D.int .i64 0))] [] (Mir.AV.tup [(Mir.AV.n (Mir.D.str x3)), (Mir.AV.n (Mir.D.int .i64 x4)), (Mir.AV.n (Mir.D.int .i64 x5))]) []) ∧
              (∃ x6 : Bool,
               ((Runs Fs 11 [] [] (Mir.AV.n (Mir.D.bool x6)) []) ∧
                (sel x6
                 (sel (x5 == 3)
                  (sel ((ByteArray.toList x3) == (ByteArray.toList (ByteArray.mk (List.toArray []))))
                   (R (Mir.AV.n (Mir.D.bool (x4 == 0))))
                   (R (Mir.AV.n (Mir.D.bool false))))
                  (R (Mir.AV.n (Mir.D.bool false))))
                 (R (Mir.AV.n (Mir.D.bool false)))))))))))))))))))
theorem vc8 (a0 : ByteArray) (a1 : Int) (R : Mir.AV → Prop) : Vc Fs c8.body (argsQ c8 [(.n (.str a0)), (.n (.int .i64 a1))]) [] (endQ c8 R) = V8 a0 a1 R := by kernel_rfl
def V7 (a0 : Int) (a1 : Int) (a2 : ByteArray) (a3 : ByteArray) (a4 : ByteArray) (R : Mir.AV → Prop) : Prop :=
 (∃ x0 : ByteArray,
  (∃ x1 : Int,
   ((Runs Fs 9 [(Mir.AV.n (Mir.D.int .i64 a0)), (Mir.AV.n (Mir.D.int .i64 a1))] [] (Mir.AV.tup [(Mir.AV.n (Mir.D.str x0)), (Mir.AV.n (Mir.D.int .i64 x1))]) []) ∧
    (sel (x1 == 0)
     ((0 = 0) ∧
      (∃ x2 : ByteArray,
       ((Runs Fs 16 [(Mir.AV.o (Mir.D.sl 1 [(Mir.D.str a3), (Mir.D.str x0), (Mir.D.str a4)]))] [] (Mir.AV.n (Mir.D.str x2)) []) ∧
        (∃ x3 : Int,
         (∃ x4 : Int,
          (∃ x5 : Int,
           ((Runs Fs 12 [(Mir.AV.n (Mir.D.str x2)), (Mir.AV.n (Mir.D.int .i64 (((ByteArray.size a3) : Nat) : Int))), (Mir.AV.n (Mir.D.int .i64 a1))] [] (Mir.AV.tup [(Mir.AV.n (Mir.D.int .i64 x3)), (Mir.AV.n (Mir.D.int .i64 x4)), (Mir.AV.n (Mir.D.int .i64 x5))]) []) ∧
            (sel (x5 != 0)
             (R (Mir.AV.n (Mir.D.bool false)))
             (sel (x3 != a0)
              (R (Mir.AV.n (Mir.D.bool false)))
              (sel (x4 != (Go.IntKind.wrap .i64 ((((ByteArray.size a3) : Nat) : Int) + a1)))
               (R (Mir.AV.n (Mir.D.bool false)))
               (∃ x6 : ByteArray,
                (∃ x7 : Int,
                 ((Runs Fs 17 [(Mir.AV.n (Mir.D.str a2))] [] (Mir.AV.tup [(Mir.AV.n (Mir.D.str x6)), (Mir.AV.n (Mir.D.int .i64 x7))]) []) ∧
                  (sel (x7 != 0)
                   (∃ x8 : Bool,
                    ((Runs Fs 11 [] [] (Mir.AV.n (Mir.D.bool x8)) []) ∧
                     (sel x8
                      (R (Mir.AV.n (Mir.D.bool (decide ((((ByteArray.size a2) : Nat) : Int) > 65535)))))
                      (R (Mir.AV.n (Mir.D.bool false))))))
                   ((0 = 0) ∧
                    (∃ x9 : ByteArray,
                     ((Runs Fs 16 [(Mir.AV.o (Mir.D.sl 1 [(Mir.D.str a3), (Mir.D.str x6), (Mir.D.str a4)]))] [] (Mir.AV.n (Mir.D.str x9)) []) ∧
                      (∃ x10 : ByteArray,
                       (∃ x11 : Int,
                        (∃ x12 : Int,
                         ((Runs Fs 14 [(Mir.AV.n (Mir.D.str x9)), (Mir.AV.n (Mir.D.int .i64 (((ByteArray.size a3) : Nat) : Int)))] [] (Mir.AV.tup [(Mir.AV.n (Mir.D.str x10)), (Mir.AV.n (Mir.D.int .i64 x11)), (Mir.AV.n (Mir.D.int .i64 x12))]) []) ∧
                          (∃ x13 : Bool,
                           ((Runs Fs 11 [] [] (Mir.AV.n (Mir.D.bool x13)) []) ∧
                            (sel x13
                             (sel (x12 == 0)
                              (sel ((ByteArray.toList x10) == (ByteArray.toList a2))
                               (R (Mir.AV.n (Mir.D.bool (x11 == (Go.IntKind.wrap .i64 ((Go.IntKind.wrap .i64 ((((ByteArray.size a3) : Nat) : Int) + 2)) + (((ByteArray.size a2) : Nat) : Int)))))))
                               (R (Mir.AV.n (Mir.D.bool false))))
                              (R (Mir.AV.n (Mir.D.bool false))))
                             (R (Mir.AV.n (Mir.D.bool false)))))))))))))))))))))))))))
     (∃ x14 : ByteArray,
      (∃ x15 : Int,
       ((Runs Fs 17 [(Mir.AV.n (Mir.D.str a2))] [] (Mir.AV.tup [(Mir.AV.n (Mir.D.str x14)), (Mir.AV.n (Mir.D.int .i64 x15))]) []) ∧
        (sel (x15 != 0)
         (∃ x16 : Bool,
          ((Runs Fs 11 [] [] (Mir.AV.n (Mir.D.bool x16)) []) ∧
           (sel x16
            (R (Mir.AV.n (Mir.D.bool (decide ((((ByteArray.size a2) : Nat) : Int) > 65535)))))
            (R (Mir.AV.n (Mir.D.bool false))))))
         ((0 = 0) ∧
          (∃ x17 : ByteArray,
           ((Runs Fs 16 [(Mir.AV.o (Mir.D.sl 1 [(Mir.D.str a3), (Mir.D.str x14), (Mir.D.str a4)]))] [] (Mir.AV.n (Mir.D.str x17)) []) ∧
            (∃ x18 : ByteArray,
             (∃ x19 : Int,
              (∃ x20 : Int,
               ((Runs Fs 14 [(Mir.AV.n (Mir.D.str x17)), (Mir.AV.n (Mir.D.int .i64 (((ByteArray.size a3) : Nat) : Int)))] [] (Mir.AV.tup [(Mir.AV.n (Mir.D.str x18)), (Mir.AV.n (Mir.D.int .i64 x19)), (Mir.AV.n (Mir.D.int .i64 x20))]) []) ∧
                (∃ x21 : Bool,
                 ((Runs Fs 11 [] [] (Mir.AV.n (Mir.D.bool x21)) []) ∧
                  (sel x21
                   (sel (x20 == 0)
                    (sel ((ByteArray.toList x18) == (ByteArray.toList a2))
                     (R (Mir.AV.n (Mir.D.bool (x19 == (Go.IntKind.wrap .i64 ((Go.IntKind.wrap .i64 ((((ByteArray.size a3) : Nat) : Int) + 2)) + (((ByteArray.size a2) : Nat) : Int)))))))
                     (R (Mir.AV.n (Mir.D.bool false))))
                    (R (Mir.AV.n (Mir.D.bool false))))
                   (R (Mir.AV.n (Mir.D.bool false)))))))))))))))))))))
theorem vc7 (a0 : Int) (a1 : Int) (a2 : ByteArray) (a3 : ByteArray) (a4 : ByteArray) (R : Mir.AV → Prop) : Vc Fs c7.body (argsQ c7 [(.n (.int .i64 a0)), (.n (.int .i64 a1)), (.n (.str a2)), (.n (.str a3)), (.n (.str a4))]) [] (endQ c7 R) = V7 a0 a1 a2 a3 a4 R := by kernel_rfl
def V6 (a0 : List Mir.D) (a1 : Int) (R : Mir.AV → Prop) : Prop :=
 (∃ x0 : ((List Mir.D) → (Int → (ByteArray → ((List Mir.D) → (Int → (Int → Prop)))))),
  (∃ x1 : ((List Mir.D) → (Int → (ByteArray → ((List Mir.D) → (Int → (Int → Nat)))))),
   (((@Eq (List (Nat × Mir.Ob)) [] []) ∧
     (x0 a0 a1 (ByteArray.mk (List.toArray [])) a0 (((List.length a0) : Nat) : Int) 0)) ∧
    (∀ x2 : (List Mir.D),
     (∀ x3 : Int,
      (∀ x4 : ByteArray,
       (∀ x5 : (List Mir.D),
        (∀ x6 : Int,
         (∀ x7 : Int,
          ((x0 x2 x3 x4 x5 x6 x7) →
           (∀ x8 : (Nat → Mir.AV),
            (sel (decide (x7 < x6))
             (((1 : Nat) = 1) ∧
              (((0 : Int) ≤ x7) ∧
               (∃ x9 : Mir.D,
                ((((GetElem?.getElem? x5 (Int.toNat x7)) : (Option Mir.D)) = (some x9)) ∧
                 (∃ x10 : ByteArray,
                  ((((GetElem?.getElem? (Go.Mir.D.cells x9) 0) : (Option Mir.D)) = (some (Mir.D.str x10))) ∧
                   (sel (decide (x7 ≥ 50))
                    (((1 : Nat) = 1) ∧
                     (((0 : Int) ≤ 50) ∧
                      (((50 : Int) ≤ (((List.length x2) : Nat) : Int)) ∧
                       ((((Go.IntKind.wrap .i64 ((((List.length (List.drop 0 (List.take (Int.toNat 50) x2))) : Nat) : Int) + 1)) : Int) ≠ 0) ∧
                        ((((Go.IntKind.wrap .i64 ((((List.length (List.drop 0 (List.take (Int.toNat 50) x2))) : Nat) : Int) + 1)) : Int) ≠ 0) ∧
                         (∃ x11 : Bool,
                          ((Runs Fs 11 [] [] (Mir.AV.n (Mir.D.bool x11)) []) ∧
                           (sel x11
                            (∃ x12 : ByteArray,
                             ((Runs Fs 16 [(Mir.AV.o (Mir.D.sl 1 (List.drop 0 (List.take (Int.toNat 50) x2))))] [] (Mir.AV.n (Mir.D.str x12)) []) ∧
                              (sel ((ByteArray.toList x12) == (ByteArray.toList x4))
                               (((1 : Nat) = 1) ∧
                                (((0 : Int) ≤ (Int.tmod (Go.IntKind.wrap .i64 ((Go.IntKind.wrap .i64 ((Int.tmod x3 (Go.IntKind.wrap .i64 ((((List.length (List.drop 0 (List.take (Int.toNat 50) x2))) : Nat) : Int) + 1))) + (((List.length (List.drop 0 (List.take (Int.toNat 50) x2))) : Nat) : Int))) + 1)) (Go.IntKind.wrap .i64 ((((List.length (List.drop 0 (List.take (Int.toNat 50) x2))) : Nat) : Int) + 1)))) ∧
                                 ((((Int.tmod (Go.IntKind.wrap .i64 ((Go.IntKind.wrap .i64 ((Int.tmod x3 (Go.IntKind.wrap .i64 ((((List.length (List.drop 0 (List.take (Int.toNat 50) x2))) : Nat) : Int) + 1))) + (((List.length (List.drop 0 (List.take (Int.toNat 50) x2))) : Nat) : Int))) + 1)) (Go.IntKind.wrap .i64 ((((List.length (List.drop 0 (List.take (Int.toNat 50) x2))) : Nat) : Int) + 1))) : Int) ≤ (((List.length (List.drop 0 (List.take (Int.toNat 50) x2))) : Nat) : Int)) ∧
                                  (∃ x13 : ByteArray,
                                   ((Runs Fs 16 [(Mir.AV.o (Mir.D.sl 1 (List.drop 0 (List.take (Int.toNat (Int.tmod (Go.IntKind.wrap .i64 ((Go.IntKind.wrap .i64 ((Int.tmod x3 (Go.IntKind.wrap .i64 ((((List.length (List.drop 0 (List.take (Int.toNat 50) x2))) : Nat) : Int) + 1))) + (((List.length (List.drop 0 (List.take (Int.toNat 50) x2))) : Nat) : Int))) + 1)) (Go.IntKind.wrap .i64 ((((List.length (List.drop 0 (List.take (Int.toNat 50) x2))) : Nat) : Int) + 1)))) (List.drop 0 (List.take (Int.toNat 50) x2))))))] [] (Mir.AV.n (Mir.D.str x13)) []) ∧
                                    (((1 : Nat) = 1) ∧
                                     (((0 : Int) ≤ (Int.tmod (Go.IntKind.wrap .i64 ((Go.IntKind.wrap .i64 ((Int.tmod x3 (Go.IntKind.wrap .i64 ((((List.length (List.drop 0 (List.take (Int.toNat 50) x2))) : Nat) : Int) + 1))) + (((List.length (List.drop 0 (List.take (Int.toNat 50) x2))) : Nat) : Int))) + 1)) (Go.IntKind.wrap .i64 ((((List.length (List.drop 0 (List.take (Int.toNat 50) x2))) : Nat) : Int) + 1)))) ∧
                                      ((((Int.tmod (Go.IntKind.wrap .i64 ((Go.IntKind.wrap .i64 ((Int.tmod x3 (Go.IntKind.wrap .i64 ((((List.length (List.drop 0 (List.take (Int.toNat 50) x2))) : Nat) : Int) + 1))) + (((List.length (List.drop 0 (List.take (Int.toNat 50) x2))) : Nat) : Int))) + 1)) (Go.IntKind.wrap .i64 ((((List.length (List.drop 0 (List.take (Int.toNat 50) x2))) : Nat) : Int) + 1))) : Int) ≤ (((List.length (List.drop 0 (List.take (Int.toNat 50) x2))) : Nat) : Int)) ∧
                                       (∃ x14 : ByteArray,
                                        ((Runs Fs 16 [(Mir.AV.o (Mir.D.sl 1 (List.drop (Int.toNat (Int.tmod (Go.IntKind.wrap .i64 ((Go.IntKind.wrap .i64 ((Int.tmod x3 (Go.IntKind.wrap .i64 ((((List.length (List.drop 0 (List.take (Int.toNat 50) x2))) : Nat) : Int) + 1))) + (((List.length (List.drop 0 (List.take (Int.toNat 50) x2))) : Nat) : Int))) + 1)) (Go.IntKind.wrap .i64 ((((List.length (List.drop 0 (List.take (Int.toNat 50) x2))) : Nat) : Int) + 1)))) (List.take (List.length (List.drop 0 (List.take (Int.toNat 50) x2))) (List.drop 0 (List.take (Int.toNat 50) x2))))))] [] (Mir.AV.n (Mir.D.str x14)) []) ∧
                                         ((0 = 0) ∧
                                          (∃ x15 : ByteArray,
                                           ((Runs Fs 16 [(Mir.AV.o (Mir.D.sl 1 [(Mir.D.str x13), (Mir.D.str x14)]))] [] (Mir.AV.n (Mir.D.str x15)) []) ∧
                                            (sel ((ByteArray.toList x15) == (ByteArray.toList x4))
                                             (∃ x16 : ByteArray,
                                              ((Runs Fs 16 [(Mir.AV.o (Mir.D.sl 1 []))] [] (Mir.AV.n (Mir.D.str x16)) []) ∧
                                               (R (Mir.AV.n (Mir.D.bool ((ByteArray.toList x16) == (ByteArray.toList (ByteArray.mk (List.toArray [])))))))))
                                             (R (Mir.AV.n (Mir.D.bool false)))))))))))))))))
                               (R (Mir.AV.n (Mir.D.bool false))))))
                            (R (Mir.AV.n (Mir.D.bool false)))))))))))
                    (sel (decide ((((ByteArray.size x10) : Nat) : Int) > 1000))
                     (∃ x17 : Bool,
                      ((Runs Fs 11 [] [] (Mir.AV.n (Mir.D.bool x17)) []) ∧
                       (R (Mir.AV.n (Mir.D.bool x17)))))
                     (((((((ByteArray.size x4) + (ByteArray.size x10)) : Nat) : Int) : Int) ≤ 9223372036854775807) ∧
                      ((@Eq (List (Nat × Mir.Ob)) [] []) ∧
                       ((x0 x2 x3 (x4 ++ x10) x5 x6 (Go.IntKind.wrap .i64 (x7 + 1))) ∧
                        (((x1 x2 x3 (x4 ++ x10) x5 x6 (Go.IntKind.wrap .i64 (x7 + 1))) : Nat) < (x1 x2 x3 x4 x5 x6 x7)))))))))))))
             ((((Go.IntKind.wrap .i64 ((((List.length x2) : Nat) : Int) + 1)) : Int) ≠ 0) ∧
              ((((Go.IntKind.wrap .i64 ((((List.length x2) : Nat) : Int) + 1)) : Int) ≠ 0) ∧
               (∃ x18 : Bool,
                ((Runs Fs 11 [] [] (Mir.AV.n (Mir.D.bool x18)) []) ∧
                 (sel x18
                  (∃ x19 : ByteArray,
                   ((Runs Fs 16 [(Mir.AV.o (Mir.D.sl 1 x2))] [] (Mir.AV.n (Mir.D.str x19)) []) ∧
                    (sel ((ByteArray.toList x19) == (ByteArray.toList x4))
                     (((1 : Nat) = 1) ∧
                      (((0 : Int) ≤ (Int.tmod (Go.IntKind.wrap .i64 ((Go.IntKind.wrap .i64 ((Int.tmod x3 (Go.IntKind.wrap .i64 ((((List.length x2) : Nat) : Int) + 1))) + (((List.length x2) : Nat) : Int))) + 1)) (Go.IntKind.wrap .i64 ((((List.length x2) : Nat) : Int) + 1)))) ∧
                       ((((Int.tmod (Go.IntKind.wrap .i64 ((Go.IntKind.wrap .i64 ((Int.tmod x3 (Go.IntKind.wrap .i64 ((((List.length x2) : Nat) : Int) + 1))) + (((List.length x2) : Nat) : Int))) + 1)) (Go.IntKind.wrap .i64 ((((List.length x2) : Nat) : Int) + 1))) : Int) ≤ (((List.length x2) : Nat) : Int)) ∧
                        (∃ x20 : ByteArray,
                         ((Runs Fs 16 [(Mir.AV.o (Mir.D.sl 1 (List.drop 0 (List.take (Int.toNat (Int.tmod (Go.IntKind.wrap .i64 ((Go.IntKind.wrap .i64 ((Int.tmod x3 (Go.IntKind.wrap .i64 ((((List.length x2) : Nat) : Int) + 1))) + (((List.length x2) : Nat) : Int))) + 1)) (Go.IntKind.wrap .i64 ((((List.length x2) : Nat) : Int) + 1)))) x2))))] [] (Mir.AV.n (Mir.D.str x20)) []) ∧
                          (((1 : Nat) = 1) ∧
                           (((0 : Int) ≤ (Int.tmod (Go.IntKind.wrap .i64 ((Go.IntKind.wrap .i64 ((Int.tmod x3 (Go.IntKind.wrap .i64 ((((List.length x2) : Nat) : Int) + 1))) + (((List.length x2) : Nat) : Int))) + 1)) (Go.IntKind.wrap .i64 ((((List.length x2) : Nat) : Int) + 1)))) ∧
                            ((((Int.tmod (Go.IntKind.wrap .i64 ((Go.IntKind.wrap .i64 ((Int.tmod x3 (Go.IntKind.wrap .i64 ((((List.length x2) : Nat) : Int) + 1))) + (((List.length x2) : Nat) : Int))) + 1)) (Go.IntKind.wrap .i64 ((((List.length x2) : Nat) : Int) + 1))) : Int) ≤ (((List.length x2) : Nat) : Int)) ∧
                             (∃ x21 : ByteArray,
                              ((Runs Fs 16 [(Mir.AV.o (Mir.D.sl 1 (List.drop (Int.toNat (Int.tmod (Go.IntKind.wrap .i64 ((Go.IntKind.wrap .i64 ((Int.tmod x3 (Go.IntKind.wrap .i64 ((((List.length x2) : Nat) : Int) + 1))) + (((List.length x2) : Nat) : Int))) + 1)) (Go.IntKind.wrap .i64 ((((List.length x2) : Nat) : Int) + 1)))) (List.take (List.length x2) x2))))] [] (Mir.AV.n (Mir.D.str x21)) []) ∧
                               ((0 = 0) ∧
                                (∃ x22 : ByteArray,
                                 ((Runs Fs 16 [(Mir.AV.o (Mir.D.sl 1 [(Mir.D.str x20), (Mir.D.str x21)]))] [] (Mir.AV.n (Mir.D.str x22)) []) ∧
                                  (sel ((ByteArray.toList x22) == (ByteArray.toList x4))
                                   (∃ x23 : ByteArray,
                                    ((Runs Fs 16 [(Mir.AV.o (Mir.D.sl 1 []))] [] (Mir.AV.n (Mir.D.str x23)) []) ∧
                                     (R (Mir.AV.n (Mir.D.bool ((ByteArray.toList x23) == (ByteArray.toList (ByteArray.mk (List.toArray [])))))))))
                                   (R (Mir.AV.n (Mir.D.bool false)))))))))))))))))
                     (R (Mir.AV.n (Mir.D.bool false))))))
                  (R (Mir.AV.n (Mir.D.bool false))))))))))))))))))))
theorem vc6 (a0 : List Mir.D) (a1 : Int) (R : Mir.AV → Prop) : Vc Fs c6.body (argsQ c6 [(.o (.sl 1 a0)), (.n (.int .i64 a1))]) [] (endQ c6 R) = V6 a0 a1 R := by kernel_rfl

end Go.Proofs.Ytjmfgemjabaohaa.M
