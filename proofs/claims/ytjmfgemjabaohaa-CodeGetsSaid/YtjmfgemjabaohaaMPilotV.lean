import Derived.Test.YtjmfgemjabaohaaMPilot
namespace Go.Proofs.Ytjmfgemjabaohaa.M
set_option linter.unusedVariables false
set_option linter.unusedSimpArgs false
open Go Go.Mir
set_option linter.unusedVariables false
def V18 (a0 : Int) (R : Mir.AV → Prop) : Prop :=
 (∃ x0 : (Int → (Int → (Int → Prop))),
  (∃ x1 : (Int → (Int → (Int → Nat))),
   (((@Eq (List (Nat × Mir.Ob)) [] []) ∧
     (x0 a0 1 0)) ∧
    (∀ x2 : Int,
     (∀ x3 : Int,
      (∀ x4 : Int,
       ((x0 x2 x3 x4) →
        (∀ x5 : (Nat → Mir.AV),
         (sel (decide (x4 < x2))
          ((@Eq (List (Nat × Mir.Ob)) [] []) ∧
           ((x0 x2 (Go.IntKind.wrap .i64 (x3 * 256)) (Go.IntKind.wrap .i64 (x4 + 1))) ∧
            (((x1 x2 (Go.IntKind.wrap .i64 (x3 * 256)) (Go.IntKind.wrap .i64 (x4 + 1))) : Nat) < (x1 x2 x3 x4))))
          (R (Mir.AV.n (Mir.D.int .i64 x3))))))))))))
theorem vc18 (a0 : Int) (R : Mir.AV → Prop) : Vc Fs c18.body (argsQ c18 [(Mir.AV.n (Mir.D.int .i64 a0))]) [] (endQ c18 R) = V18 a0 R := by kernel_rfl
def V9 (a0 : Int) (a1 : Int) (R : Mir.AV → Prop) : Prop :=
 (sel (decide (a1 < 1))
  (R (Mir.AV.tup [(Mir.AV.n (Mir.D.str (ByteArray.mk (List.toArray [])))), (Mir.AV.n (Mir.D.int .i64 1))]))
  (sel (decide (a1 > 6))
   (R (Mir.AV.tup [(Mir.AV.n (Mir.D.str (ByteArray.mk (List.toArray [])))), (Mir.AV.n (Mir.D.int .i64 1))]))
   (sel (decide (a0 < 0))
    (R (Mir.AV.tup [(Mir.AV.n (Mir.D.str (ByteArray.mk (List.toArray [])))), (Mir.AV.n (Mir.D.int .i64 1))]))
    (((0 : Int) ≤ (Go.IntKind.wrap .i64 (8 * a1))) ∧
     (sel ((Int.fdiv a0 (2 ^ (Min.min (Int.toNat (Go.IntKind.wrap .i64 (8 * a1))) (Go.IntKind.bits .i64)))) != 0)
      (R (Mir.AV.tup [(Mir.AV.n (Mir.D.str (ByteArray.mk (List.toArray [])))), (Mir.AV.n (Mir.D.int .i64 1))]))
      (((0 : Int) ≤ a1) ∧
       (((((Int.toNat a1) * 1) : Nat) ≤ 140737488355328) ∧
        (((0 : Nat) = 0) ∧
         (∃ x0 : (Int → (Int → (Nat → (Int → (Int → ((Nat × (List Mir.D)) → Prop)))))),
          (∃ x1 : (Int → (Int → (Nat → (Int → (Int → ((Nat × (List Mir.D)) → Nat)))))),
           (((@Eq (List (Nat × Mir.Ob)) [(900301, (.row false true 0 5 1 (List.replicate (Int.toNat a1) (Mir.D.int .u8 0))))] [(900301, (.row false true 0 5 1 (List.replicate (Int.toNat a1) (Mir.D.int .u8 0))))]) ∧
             (x0 a0 a1 0 (((List.length (List.replicate (Int.toNat a1) (Mir.D.int .u8 0))) : Nat) : Int) 0 (0, (List.replicate (Int.toNat a1) (Mir.D.int .u8 0))))) ∧
            (∀ x2 : Int,
             (∀ x3 : Int,
              (∀ x4 : Nat,
               (∀ x5 : Int,
                (∀ x6 : Int,
                 (∀ x7 : (Nat × (List Mir.D)),
                  ((x0 x2 x3 x4 x5 x6 x7) →
                   (∀ x8 : (Nat → Mir.AV),
                    (sel (decide (x6 < x5))
                     (((0 : Int) ≤ (Go.IntKind.wrap .i64 (8 * x6))) ∧
                      (((((Prod.fst x7) : Nat) = x4) ∧
                        ((1 : Nat) = 1)) ∧
                       (((0 : Int) ≤ (Go.IntKind.wrap .i64 ((Go.IntKind.wrap .i64 (x3 - 1)) - x6))) ∧
                        ((((Go.IntKind.wrap .i64 ((Go.IntKind.wrap .i64 (x3 - 1)) - x6)) : Int) < (((List.length (Prod.snd x7)) : Nat) : Int)) ∧
                         ((((((x4 : Nat) = (Prod.fst x7)) ∧
                             ((0 : Nat) = 0)) ∧
                            ((1 : Nat) = 1)) ∧
                           ((1 : Nat) = 1)) ∧
                          ((((Int.toNat (Go.IntKind.wrap .i64 ((Go.IntKind.wrap .i64 (x3 - 1)) - x6))) : Nat) < (List.length (Prod.snd x7))) ∧
                           ((@Eq (List (Nat × Mir.Ob)) [(900301, (.row false true (Prod.fst x7) 5 1 (List.set (Prod.snd x7) (Int.toNat (Go.IntKind.wrap .i64 ((Go.IntKind.wrap .i64 (x3 - 1)) - x6))) (Mir.D.int .u8 (Go.IntKind.wrap .u8 (Int.fdiv x2 (2 ^ (Min.min (Int.toNat (Go.IntKind.wrap .i64 (8 * x6))) (Go.IntKind.bits .i64)))))))))] [(900301, (.row false true (Prod.fst x7) 5 1 (List.set (Prod.snd x7) (Int.toNat (Go.IntKind.wrap .i64 ((Go.IntKind.wrap .i64 (x3 - 1)) - x6))) (Mir.D.int .u8 (Go.IntKind.wrap .u8 (Int.fdiv x2 (2 ^ (Min.min (Int.toNat (Go.IntKind.wrap .i64 (8 * x6))) (Go.IntKind.bits .i64)))))))))]) ∧
                            ((x0 x2 x3 x4 x5 (Go.IntKind.wrap .i64 (x6 + 1)) ((Prod.fst x7), (List.set (Prod.snd x7) (Int.toNat (Go.IntKind.wrap .i64 ((Go.IntKind.wrap .i64 (x3 - 1)) - x6))) (Mir.D.int .u8 (Go.IntKind.wrap .u8 (Int.fdiv x2 (2 ^ (Min.min (Int.toNat (Go.IntKind.wrap .i64 (8 * x6))) (Go.IntKind.bits .i64))))))))) ∧
                             (((x1 x2 x3 x4 x5 (Go.IntKind.wrap .i64 (x6 + 1)) ((Prod.fst x7), (List.set (Prod.snd x7) (Int.toNat (Go.IntKind.wrap .i64 ((Go.IntKind.wrap .i64 (x3 - 1)) - x6))) (Mir.D.int .u8 (Go.IntKind.wrap .u8 (Int.fdiv x2 (2 ^ (Min.min (Int.toNat (Go.IntKind.wrap .i64 (8 * x6))) (Go.IntKind.bits .i64))))))))) : Nat) < (x1 x2 x3 x4 x5 x6 x7))))))))))
                     ((((Prod.fst x7) : Nat) = x4) ∧
                      ((((1 : Nat) = 1) ∨ (@Eq (List Mir.D) (Prod.snd x7) [])) ∧
                       ((((List.all (Prod.snd x7) Go.Mir.D.isU8) : Bool) = true) ∧
                        (R (Mir.AV.tup [(Mir.AV.n (Mir.D.str (ByteArray.mk (List.toArray (List.map Go.Mir.byteOf (Prod.snd x7)))))), (Mir.AV.n (Mir.D.int .i64 0))])))))))))))))))))))))))))
theorem vc9 (a0 : Int) (a1 : Int) (R : Mir.AV → Prop) : Vc Fs c9.body (argsQ c9 [(Mir.AV.n (Mir.D.int .i64 a0)), (Mir.AV.n (Mir.D.int .i64 a1))]) [] (endQ c9 R) = V9 a0 a1 R := by kernel_rfl
def V10 (a0 : Int) (a1 : Int) (R : Mir.AV → Prop) : Prop :=
 (sel (decide (a1 < 1))
  (R (Mir.AV.tup [(Mir.AV.n (Mir.D.str (ByteArray.mk (List.toArray [])))), (Mir.AV.n (Mir.D.int .i64 1))]))
  (sel (decide (a1 > 6))
   (R (Mir.AV.tup [(Mir.AV.n (Mir.D.str (ByteArray.mk (List.toArray [])))), (Mir.AV.n (Mir.D.int .i64 1))]))
   (sel (decide (a0 < 0))
    (R (Mir.AV.tup [(Mir.AV.n (Mir.D.str (ByteArray.mk (List.toArray [])))), (Mir.AV.n (Mir.D.int .i64 1))]))
    (∃ x0 : Int,
     ((CallD Fs false [] 18 [(Mir.AV.n (Mir.D.int .i64 a1))] (Mir.AV.n (Mir.D.int .i64 x0))) ∧
      (sel (decide (a0 ≥ x0))
       (R (Mir.AV.tup [(Mir.AV.n (Mir.D.str (ByteArray.mk (List.toArray [])))), (Mir.AV.n (Mir.D.int .i64 1))]))
       (∃ x1 : (Int → (Nat → (Int → ((Nat × (List Mir.D)) → Prop)))),
        (∃ x2 : (Int → (Nat → (Int → ((Nat × (List Mir.D)) → Nat)))),
         (((@Eq (List (Nat × Mir.Ob)) [(1000300, (.row false true 0 5 1 []))] [(1000300, (.row false true 0 5 1 []))]) ∧
           (x1 a0 0 (Go.IntKind.wrap .i64 (a1 - 1)) (0, []))) ∧
          (∀ x3 : Int,
           (∀ x4 : Nat,
            (∀ x5 : Int,
             (∀ x6 : (Nat × (List Mir.D)),
              ((x1 x3 x4 x5 x6) →
               (∀ x7 : (Nat → Mir.AV),
                (sel (decide (x5 ≥ 0))
                 (∃ x8 : Int,
                  ((CallD Fs false [(1000300, (.row false true (Prod.fst x6) 5 1 (Prod.snd x6)))] 18 [(Mir.AV.n (Mir.D.int .i64 x5))] (Mir.AV.n (Mir.D.int .i64 x8))) ∧
                   (((x8 : Int) ≠ 0) ∧
                    (((256 : Int) ≠ 0) ∧
                     (((0 : Nat) = 0) ∧
                      ((((1 : Nat) = 1) ∨ (@Eq (List Mir.D) [(Mir.D.int .u8 (Go.IntKind.wrap .u8 (Int.tmod (Go.IntKind.wrap .i64 (Int.tdiv x3 x8)) 256)))] [])) ∧
                       ((((((Prod.fst x6) : Nat) = x4) ∧
                          ((5 : Nat) = 5)) ∧
                         ((1 : Nat) = 1)) ∧
                        ((((((List.length (Prod.snd x6)) + (List.length [(Mir.D.int .u8 (Go.IntKind.wrap .u8 (Int.tmod (Go.IntKind.wrap .i64 (Int.tdiv x3 x8)) 256)))])) * 1) : Nat) ≤ 140737488355328) ∧
                         ((@Eq (List (Nat × Mir.Ob)) [(1000300, (.row false true (x4 + 1) 5 1 ((Prod.snd x6) ++ [(Mir.D.int .u8 (Go.IntKind.wrap .u8 (Int.tmod (Go.IntKind.wrap .i64 (Int.tdiv x3 x8)) 256)))])))] [(1000300, (.row false true (x4 + 1) 5 1 ((Prod.snd x6) ++ [(Mir.D.int .u8 (Go.IntKind.wrap .u8 (Int.tmod (Go.IntKind.wrap .i64 (Int.tdiv x3 x8)) 256)))])))]) ∧
                          ((x1 x3 (x4 + 1) (Go.IntKind.wrap .i64 (x5 - 1)) ((x4 + 1), ((Prod.snd x6) ++ [(Mir.D.int .u8 (Go.IntKind.wrap .u8 (Int.tmod (Go.IntKind.wrap .i64 (Int.tdiv x3 x8)) 256)))]))) ∧
                           (((x2 x3 (x4 + 1) (Go.IntKind.wrap .i64 (x5 - 1)) ((x4 + 1), ((Prod.snd x6) ++ [(Mir.D.int .u8 (Go.IntKind.wrap .u8 (Int.tmod (Go.IntKind.wrap .i64 (Int.tdiv x3 x8)) 256)))]))) : Nat) < (x2 x3 x4 x5 x6))))))))))))
                 ((((Prod.fst x6) : Nat) = x4) ∧
                  ((((1 : Nat) = 1) ∨ (@Eq (List Mir.D) (Prod.snd x6) [])) ∧
                   ((((List.all (Prod.snd x6) Go.Mir.D.isU8) : Bool) = true) ∧
                    (R (Mir.AV.tup [(Mir.AV.n (Mir.D.str (ByteArray.mk (List.toArray (List.map Go.Mir.byteOf (Prod.snd x6)))))), (Mir.AV.n (Mir.D.int .i64 0))])))))))))))))))))))))
theorem vc10 (a0 : Int) (a1 : Int) (R : Mir.AV → Prop) : Vc Fs c10.body (argsQ c10 [(Mir.AV.n (Mir.D.int .i64 a0)), (Mir.AV.n (Mir.D.int .i64 a1))]) [] (endQ c10 R) = V10 a0 a1 R := by kernel_rfl
def V11  (R : Mir.AV → Prop) : Prop :=
 (∃ x0 : ByteArray,
  (∃ x1 : Int,
   ((CallD Fs false [] 9 [(Mir.AV.n (Mir.D.int .i64 7)), (Mir.AV.n (Mir.D.int .i64 1))] (Mir.AV.tup [(Mir.AV.n (Mir.D.str x0)), (Mir.AV.n (Mir.D.int .i64 x1))])) ∧
    (sel (x1 == 0)
     (R (Mir.AV.n (Mir.D.bool ((ByteArray.toList x0) == (ByteArray.toList (ByteArray.mk (List.toArray [7])))))))
     (R (Mir.AV.n (Mir.D.bool false)))))))
theorem vc11  (R : Mir.AV → Prop) : Vc Fs c11.body (argsQ c11 []) [] (endQ c11 R) = V11  R := by kernel_rfl
def V3 (a0 : Int) (a1 : Int) (R : Mir.AV → Prop) : Prop :=
 (∃ x0 : ByteArray,
  (∃ x1 : Int,
   ((CallD Fs false [] 9 [(Mir.AV.n (Mir.D.int .i64 a0)), (Mir.AV.n (Mir.D.int .i64 a1))] (Mir.AV.tup [(Mir.AV.n (Mir.D.str x0)), (Mir.AV.n (Mir.D.int .i64 x1))])) ∧
    (∃ x2 : ByteArray,
     (∃ x3 : Int,
      ((CallD Fs false [] 10 [(Mir.AV.n (Mir.D.int .i64 a0)), (Mir.AV.n (Mir.D.int .i64 a1))] (Mir.AV.tup [(Mir.AV.n (Mir.D.str x2)), (Mir.AV.n (Mir.D.int .i64 x3))])) ∧
       (∃ x4 : Bool,
        ((CallD Fs false [] 11 [] (Mir.AV.n (Mir.D.bool x4))) ∧
         (sel x4
          (sel ((ByteArray.toList x0) == (ByteArray.toList x2))
           (R (Mir.AV.n (Mir.D.bool (x1 == x3))))
           (R (Mir.AV.n (Mir.D.bool false))))
          (R (Mir.AV.n (Mir.D.bool false))))))))))))
theorem vc3 (a0 : Int) (a1 : Int) (R : Mir.AV → Prop) : Vc Fs c3.body (argsQ c3 [(Mir.AV.n (Mir.D.int .i64 a0)), (Mir.AV.n (Mir.D.int .i64 a1))]) [] (endQ c3 R) = V3 a0 a1 R := by kernel_rfl
def V4 (a0 : Int) (a1 : Int) (a2 : Int) (R : Mir.AV → Prop) : Prop :=
 (∃ x0 : ByteArray,
  (∃ x1 : Int,
   ((CallD Fs false [] 9 [(Mir.AV.n (Mir.D.int .i64 a0)), (Mir.AV.n (Mir.D.int .i64 a2))] (Mir.AV.tup [(Mir.AV.n (Mir.D.str x0)), (Mir.AV.n (Mir.D.int .i64 x1))])) ∧
    (∃ x2 : ByteArray,
     (∃ x3 : Int,
      ((CallD Fs false [] 9 [(Mir.AV.n (Mir.D.int .i64 a1)), (Mir.AV.n (Mir.D.int .i64 a2))] (Mir.AV.tup [(Mir.AV.n (Mir.D.str x2)), (Mir.AV.n (Mir.D.int .i64 x3))])) ∧
       (sel (x1 != 0)
        (∃ x4 : Bool,
         ((CallD Fs false [] 11 [] (Mir.AV.n (Mir.D.bool x4))) ∧
          (R (Mir.AV.n (Mir.D.bool x4)))))
        (sel (x3 != 0)
         (∃ x5 : Bool,
          ((CallD Fs false [] 11 [] (Mir.AV.n (Mir.D.bool x5))) ∧
           (R (Mir.AV.n (Mir.D.bool x5)))))
         (∃ x6 : Bool,
          ((CallD Fs false [] 11 [] (Mir.AV.n (Mir.D.bool x6))) ∧
           (sel x6
            (sel ((Go.Op.bytesLess (ByteArray.toList x0) (ByteArray.toList x2)) == (decide (a0 < a1)))
             (sel (((ByteArray.toList x0) == (ByteArray.toList x2)) == (a0 == a1))
              (R (Mir.AV.n (Mir.D.bool ((((ByteArray.size x0) : Nat) : Int) == a2))))
              (R (Mir.AV.n (Mir.D.bool false))))
             (R (Mir.AV.n (Mir.D.bool false))))
            (R (Mir.AV.n (Mir.D.bool false))))))))))))))
theorem vc4 (a0 : Int) (a1 : Int) (a2 : Int) (R : Mir.AV → Prop) : Vc Fs c4.body (argsQ c4 [(Mir.AV.n (Mir.D.int .i64 a0)), (Mir.AV.n (Mir.D.int .i64 a1)), (Mir.AV.n (Mir.D.int .i64 a2))]) [] (endQ c4 R) = V4 a0 a1 a2 R := by kernel_rfl
def V12 (a0 : ByteArray) (a1 : Int) (a2 : Int) (R : Mir.AV → Prop) : Prop :=
 (sel (decide (a2 < 1))
  (R (Mir.AV.tup [(Mir.AV.n (Mir.D.int .i64 0)), (Mir.AV.n (Mir.D.int .i64 0)), (Mir.AV.n (Mir.D.int .i64 1))]))
  (sel (decide (a2 > 6))
   (R (Mir.AV.tup [(Mir.AV.n (Mir.D.int .i64 0)), (Mir.AV.n (Mir.D.int .i64 0)), (Mir.AV.n (Mir.D.int .i64 1))]))
   (sel (decide (a1 < 0))
    (R (Mir.AV.tup [(Mir.AV.n (Mir.D.int .i64 0)), (Mir.AV.n (Mir.D.int .i64 0)), (Mir.AV.n (Mir.D.int .i64 1))]))
    (sel (decide (a1 > (((ByteArray.size a0) : Nat) : Int)))
     (R (Mir.AV.tup [(Mir.AV.n (Mir.D.int .i64 0)), (Mir.AV.n (Mir.D.int .i64 0)), (Mir.AV.n (Mir.D.int .i64 1))]))
     (sel (decide ((Go.IntKind.wrap .i64 ((((ByteArray.size a0) : Nat) : Int) - a1)) < a2))
      (R (Mir.AV.tup [(Mir.AV.n (Mir.D.int .i64 0)), (Mir.AV.n (Mir.D.int .i64 0)), (Mir.AV.n (Mir.D.int .i64 3))]))
      (((0 : Int) ≤ (Go.IntKind.wrap .i64 (a1 + a2))) ∧
       ((((Go.IntKind.wrap .i64 (a1 + a2)) : Int) ≤ (((ByteArray.size a0) : Nat) : Int)) ∧
        (((0 : Int) ≤ a1) ∧
         (((a1 : Int) ≤ (((Int.toNat (Go.IntKind.wrap .i64 (a1 + a2))) : Nat) : Int)) ∧
          (∃ x0 : (Int → (Int → (Int → ((List Mir.D) → (Int → (Int → Prop)))))),
           (∃ x1 : (Int → (Int → (Int → ((List Mir.D) → (Int → (Int → Nat)))))),
            (((@Eq (List (Nat × Mir.Ob)) [] []) ∧
              (x0 a1 a2 0 (Go.Mir.bytesD (ByteArray.extract a0 (Int.toNat a1) (Int.toNat (Go.IntKind.wrap .i64 (a1 + a2))))) (((List.length (Go.Mir.bytesD (ByteArray.extract a0 (Int.toNat a1) (Int.toNat (Go.IntKind.wrap .i64 (a1 + a2)))))) : Nat) : Int) 0)) ∧
             (∀ x2 : Int,
              (∀ x3 : Int,
               (∀ x4 : Int,
                (∀ x5 : (List Mir.D),
                 (∀ x6 : Int,
                  (∀ x7 : Int,
                   ((x0 x2 x3 x4 x5 x6 x7) →
                    (∀ x8 : (Nat → Mir.AV),
                     (sel (decide (x7 < x6))
                      (((1 : Nat) = 1) ∧
                       (((0 : Int) ≤ x7) ∧
                        (∃ x9 : Mir.D,
                         ((((GetElem?.getElem? x5 (Int.toNat x7)) : (Option Mir.D)) = (some x9)) ∧
                          (∃ x10 : Int,
                           ((((GetElem?.getElem? (Go.Mir.D.cells x9) 0) : (Option Mir.D)) = (some (Mir.D.int .u8 x10))) ∧
                            (((0 : Int) ≤ 8) ∧
                             ((@Eq (List (Nat × Mir.Ob)) [] []) ∧
                              ((x0 x2 x3 (Go.IntKind.wrap .i64 (((BitVec.toNat (HOr.hOr (BitVec.ofInt (Go.IntKind.bits .i64) (Go.IntKind.wrap .i64 (x4 * (2 ^ (Min.min (Int.toNat 8) (Go.IntKind.bits .i64)))))) (BitVec.ofInt (Go.IntKind.bits .i64) (Go.IntKind.wrap .i64 x10)))) : Nat) : Int)) x5 x6 (Go.IntKind.wrap .i64 (x7 + 1))) ∧
                               (((x1 x2 x3 (Go.IntKind.wrap .i64 (((BitVec.toNat (HOr.hOr (BitVec.ofInt (Go.IntKind.bits .i64) (Go.IntKind.wrap .i64 (x4 * (2 ^ (Min.min (Int.toNat 8) (Go.IntKind.bits .i64)))))) (BitVec.ofInt (Go.IntKind.bits .i64) (Go.IntKind.wrap .i64 x10)))) : Nat) : Int)) x5 x6 (Go.IntKind.wrap .i64 (x7 + 1))) : Nat) < (x1 x2 x3 x4 x5 x6 x7)))))))))))
                      (R (Mir.AV.tup [(Mir.AV.n (Mir.D.int .i64 x4)), (Mir.AV.n (Mir.D.int .i64 (Go.IntKind.wrap .i64 (x2 + x3)))), (Mir.AV.n (Mir.D.int .i64 0))])))))))))))))))))))))))
theorem vc12 (a0 : ByteArray) (a1 : Int) (a2 : Int) (R : Mir.AV → Prop) : Vc Fs c12.body (argsQ c12 [(Mir.AV.n (Mir.D.str a0)), (Mir.AV.n (Mir.D.int .i64 a1)), (Mir.AV.n (Mir.D.int .i64 a2))]) [] (endQ c12 R) = V12 a0 a1 a2 R := by kernel_rfl
def V13 (a0 : ByteArray) (a1 : Int) (a2 : Int) (R : Mir.AV → Prop) : Prop :=
 (sel (decide (a2 < 1))
  (R (Mir.AV.tup [(Mir.AV.n (Mir.D.int .i64 0)), (Mir.AV.n (Mir.D.int .i64 0)), (Mir.AV.n (Mir.D.int .i64 1))]))
  (sel (decide (a2 > 6))
   (R (Mir.AV.tup [(Mir.AV.n (Mir.D.int .i64 0)), (Mir.AV.n (Mir.D.int .i64 0)), (Mir.AV.n (Mir.D.int .i64 1))]))
   (sel (decide (a1 < 0))
    (R (Mir.AV.tup [(Mir.AV.n (Mir.D.int .i64 0)), (Mir.AV.n (Mir.D.int .i64 0)), (Mir.AV.n (Mir.D.int .i64 1))]))
    (sel (decide (a1 > (((ByteArray.size a0) : Nat) : Int)))
     (R (Mir.AV.tup [(Mir.AV.n (Mir.D.int .i64 0)), (Mir.AV.n (Mir.D.int .i64 0)), (Mir.AV.n (Mir.D.int .i64 1))]))
     (sel (decide ((Go.IntKind.wrap .i64 ((((ByteArray.size a0) : Nat) : Int) - a1)) < a2))
      (R (Mir.AV.tup [(Mir.AV.n (Mir.D.int .i64 0)), (Mir.AV.n (Mir.D.int .i64 0)), (Mir.AV.n (Mir.D.int .i64 3))]))
      (∃ x0 : (ByteArray → (Int → (Int → (Int → (Int → Prop))))),
       (∃ x1 : (ByteArray → (Int → (Int → (Int → (Int → Nat))))),
        (((@Eq (List (Nat × Mir.Ob)) [] []) ∧
          (x0 a0 a1 a2 0 0)) ∧
         (∀ x2 : ByteArray,
          (∀ x3 : Int,
           (∀ x4 : Int,
            (∀ x5 : Int,
             (∀ x6 : Int,
              ((x0 x2 x3 x4 x5 x6) →
               (∀ x7 : (Nat → Mir.AV),
                (sel (decide (x6 < x4))
                 (((0 : Int) ≤ (Go.IntKind.wrap .i64 (x3 + x6))) ∧
                  (∃ x8 : UInt8,
                   ((((GetElem?.getElem? (Array.toList (ByteArray.data x2)) (Int.toNat (Go.IntKind.wrap .i64 (x3 + x6)))) : (Option UInt8)) = (some x8)) ∧
                    ((@Eq (List (Nat × Mir.Ob)) [] []) ∧
                     ((x0 x2 x3 x4 (Go.IntKind.wrap .i64 ((Go.IntKind.wrap .i64 (x5 * 256)) + (Go.IntKind.wrap .i64 (((UInt8.toNat x8) : Nat) : Int)))) (Go.IntKind.wrap .i64 (x6 + 1))) ∧
                      (((x1 x2 x3 x4 (Go.IntKind.wrap .i64 ((Go.IntKind.wrap .i64 (x5 * 256)) + (Go.IntKind.wrap .i64 (((UInt8.toNat x8) : Nat) : Int)))) (Go.IntKind.wrap .i64 (x6 + 1))) : Nat) < (x1 x2 x3 x4 x5 x6)))))))
                 (R (Mir.AV.tup [(Mir.AV.n (Mir.D.int .i64 x5)), (Mir.AV.n (Mir.D.int .i64 (Go.IntKind.wrap .i64 (x3 + x4)))), (Mir.AV.n (Mir.D.int .i64 0))]))))))))))))))))))
theorem vc13 (a0 : ByteArray) (a1 : Int) (a2 : Int) (R : Mir.AV → Prop) : Vc Fs c13.body (argsQ c13 [(Mir.AV.n (Mir.D.str a0)), (Mir.AV.n (Mir.D.int .i64 a1)), (Mir.AV.n (Mir.D.int .i64 a2))]) [] (endQ c13 R) = V13 a0 a1 a2 R := by kernel_rfl
def V14 (a0 : ByteArray) (a1 : Int) (R : Mir.AV → Prop) : Prop :=
 (∃ x0 : Int,
  (∃ x1 : Int,
   (∃ x2 : Int,
    ((CallD Fs false [] 12 [(Mir.AV.n (Mir.D.str a0)), (Mir.AV.n (Mir.D.int .i64 a1)), (Mir.AV.n (Mir.D.int .i64 2))] (Mir.AV.tup [(Mir.AV.n (Mir.D.int .i64 x0)), (Mir.AV.n (Mir.D.int .i64 x1)), (Mir.AV.n (Mir.D.int .i64 x2))])) ∧
     (sel (x2 != 0)
      (R (Mir.AV.tup [(Mir.AV.n (Mir.D.str (ByteArray.mk (List.toArray [])))), (Mir.AV.n (Mir.D.int .i64 0)), (Mir.AV.n (Mir.D.int .i64 x2))]))
      (sel (decide ((Go.IntKind.wrap .i64 ((((ByteArray.size a0) : Nat) : Int) - x1)) < x0))
       (R (Mir.AV.tup [(Mir.AV.n (Mir.D.str (ByteArray.mk (List.toArray [])))), (Mir.AV.n (Mir.D.int .i64 0)), (Mir.AV.n (Mir.D.int .i64 3))]))
       (((0 : Int) ≤ (Go.IntKind.wrap .i64 (x1 + x0))) ∧
        ((((Go.IntKind.wrap .i64 (x1 + x0)) : Int) ≤ (((ByteArray.size a0) : Nat) : Int)) ∧
         (((0 : Int) ≤ x1) ∧
          (((x1 : Int) ≤ (((Int.toNat (Go.IntKind.wrap .i64 (x1 + x0))) : Nat) : Int)) ∧
           (R (Mir.AV.tup [(Mir.AV.n (Mir.D.str (ByteArray.extract a0 (Int.toNat x1) (Int.toNat (Go.IntKind.wrap .i64 (x1 + x0)))))), (Mir.AV.n (Mir.D.int .i64 (Go.IntKind.wrap .i64 (x1 + x0)))), (Mir.AV.n (Mir.D.int .i64 0))]))))))))))))
theorem vc14 (a0 : ByteArray) (a1 : Int) (R : Mir.AV → Prop) : Vc Fs c14.body (argsQ c14 [(Mir.AV.n (Mir.D.str a0)), (Mir.AV.n (Mir.D.int .i64 a1))]) [] (endQ c14 R) = V14 a0 a1 R := by kernel_rfl
def V15 (a0 : ByteArray) (a1 : Int) (R : Mir.AV → Prop) : Prop :=
 (∃ x0 : Int,
  (∃ x1 : Int,
   (∃ x2 : Int,
    ((CallD Fs false [] 13 [(Mir.AV.n (Mir.D.str a0)), (Mir.AV.n (Mir.D.int .i64 a1)), (Mir.AV.n (Mir.D.int .i64 2))] (Mir.AV.tup [(Mir.AV.n (Mir.D.int .i64 x0)), (Mir.AV.n (Mir.D.int .i64 x1)), (Mir.AV.n (Mir.D.int .i64 x2))])) ∧
     (sel (x2 != 0)
      (R (Mir.AV.tup [(Mir.AV.n (Mir.D.str (ByteArray.mk (List.toArray [])))), (Mir.AV.n (Mir.D.int .i64 0)), (Mir.AV.n (Mir.D.int .i64 x2))]))
      (sel (decide ((Go.IntKind.wrap .i64 ((((ByteArray.size a0) : Nat) : Int) - x1)) < x0))
       (R (Mir.AV.tup [(Mir.AV.n (Mir.D.str (ByteArray.mk (List.toArray [])))), (Mir.AV.n (Mir.D.int .i64 0)), (Mir.AV.n (Mir.D.int .i64 3))]))
       (((0 : Int) ≤ (Go.IntKind.wrap .i64 (x1 + x0))) ∧
        ((((Go.IntKind.wrap .i64 (x1 + x0)) : Int) ≤ (((ByteArray.size a0) : Nat) : Int)) ∧
         (((0 : Int) ≤ x1) ∧
          (((x1 : Int) ≤ (((Int.toNat (Go.IntKind.wrap .i64 (x1 + x0))) : Nat) : Int)) ∧
           (R (Mir.AV.tup [(Mir.AV.n (Mir.D.str (ByteArray.extract a0 (Int.toNat x1) (Int.toNat (Go.IntKind.wrap .i64 (x1 + x0)))))), (Mir.AV.n (Mir.D.int .i64 (Go.IntKind.wrap .i64 (x1 + x0)))), (Mir.AV.n (Mir.D.int .i64 0))]))))))))))))
theorem vc15 (a0 : ByteArray) (a1 : Int) (R : Mir.AV → Prop) : Vc Fs c15.body (argsQ c15 [(Mir.AV.n (Mir.D.str a0)), (Mir.AV.n (Mir.D.int .i64 a1))]) [] (endQ c15 R) = V15 a0 a1 R := by kernel_rfl
def V5 (a0 : ByteArray) (a1 : Int) (a2 : Int) (R : Mir.AV → Prop) : Prop :=
 (∃ x0 : Int,
  (∃ x1 : Int,
   (∃ x2 : Int,
    ((CallD Fs false [] 12 [(Mir.AV.n (Mir.D.str a0)), (Mir.AV.n (Mir.D.int .i64 a1)), (Mir.AV.n (Mir.D.int .i64 a2))] (Mir.AV.tup [(Mir.AV.n (Mir.D.int .i64 x0)), (Mir.AV.n (Mir.D.int .i64 x1)), (Mir.AV.n (Mir.D.int .i64 x2))])) ∧
     (∃ x3 : Int,
      (∃ x4 : Int,
       (∃ x5 : Int,
        ((CallD Fs false [] 13 [(Mir.AV.n (Mir.D.str a0)), (Mir.AV.n (Mir.D.int .i64 a1)), (Mir.AV.n (Mir.D.int .i64 a2))] (Mir.AV.tup [(Mir.AV.n (Mir.D.int .i64 x3)), (Mir.AV.n (Mir.D.int .i64 x4)), (Mir.AV.n (Mir.D.int .i64 x5))])) ∧
         (∃ x6 : ByteArray,
          (∃ x7 : Int,
           (∃ x8 : Int,
            ((CallD Fs false [] 14 [(Mir.AV.n (Mir.D.str a0)), (Mir.AV.n (Mir.D.int .i64 a1))] (Mir.AV.tup [(Mir.AV.n (Mir.D.str x6)), (Mir.AV.n (Mir.D.int .i64 x7)), (Mir.AV.n (Mir.D.int .i64 x8))])) ∧
             (∃ x9 : ByteArray,
              (∃ x10 : Int,
               (∃ x11 : Int,
                ((CallD Fs false [] 15 [(Mir.AV.n (Mir.D.str a0)), (Mir.AV.n (Mir.D.int .i64 a1))] (Mir.AV.tup [(Mir.AV.n (Mir.D.str x9)), (Mir.AV.n (Mir.D.int .i64 x10)), (Mir.AV.n (Mir.D.int .i64 x11))])) ∧
                 (∃ x12 : Bool,
                  ((CallD Fs false [] 11 [] (Mir.AV.n (Mir.D.bool x12))) ∧
                   (sel x12
                    (sel (x0 == x3)
                     (sel (x1 == x4)
                      (sel (x2 == x5)
                       (sel ((ByteArray.toList x6) == (ByteArray.toList x9))
                        (sel (x7 == x10)
                         (R (Mir.AV.n (Mir.D.bool (x8 == x11))))
                         (R (Mir.AV.n (Mir.D.bool false))))
                        (R (Mir.AV.n (Mir.D.bool false))))
                       (R (Mir.AV.n (Mir.D.bool false))))
                      (R (Mir.AV.n (Mir.D.bool false))))
                     (R (Mir.AV.n (Mir.D.bool false))))
                    (R (Mir.AV.n (Mir.D.bool false))))))))))))))))))))))
theorem vc5 (a0 : ByteArray) (a1 : Int) (a2 : Int) (R : Mir.AV → Prop) : Vc Fs c5.body (argsQ c5 [(Mir.AV.n (Mir.D.str a0)), (Mir.AV.n (Mir.D.int .i64 a1)), (Mir.AV.n (Mir.D.int .i64 a2))]) [] (endQ c5 R) = V5 a0 a1 a2 R := by kernel_rfl
end Go.Proofs.Ytjmfgemjabaohaa.M
