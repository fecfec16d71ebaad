import Derived.Test.YtjmfgemjabaohaaDoorDFun
namespace Go.Proofs.YtjmfgemjabaohaaDoor.M
set_option linter.unusedVariables false
set_option linter.unusedSimpArgs false
open Go Go.Mir
set_option linter.unusedVariables false
def V50 (a0 : Int) (a1 : ByteArray) (R : Mir.AV → Prop) : Prop :=
 (∃ x0 : (Int → ((List Mir.D) → (Int → (Int → Prop)))),
  (∃ x1 : (Int → ((List Mir.D) → (Int → (Int → Nat)))),
   (((@Eq (List (Nat × Mir.Ob)) [] []) ∧
     (x0 (Go.IntKind.wrap .u32 (((BitVec.toNat (HXor.hXor (BitVec.ofInt (Go.IntKind.bits .u32) (Go.IntKind.max .u32)) (BitVec.ofInt (Go.IntKind.bits .u32) a0))) : Nat) : Int)) (Go.Mir.bytesD a1) (((List.length (Go.Mir.bytesD a1)) : Nat) : Int) 0)) ∧
    (∀ x2 : Int,
     (∀ x3 : (List Mir.D),
      (∀ x4 : Int,
       (∀ x5 : Int,
        ((x0 x2 x3 x4 x5) →
         (∀ x6 : (Nat → Mir.AV),
          (sel (decide (x5 < x4))
           (((1 : Nat) = 1) ∧
            (((0 : Int) ≤ x5) ∧
             (∃ x7 : Mir.D,
              ((((GetElem?.getElem? x3 (Int.toNat x5)) : (Option Mir.D)) = (some x7)) ∧
               (∃ x8 : Int,
                ((((GetElem?.getElem? (Go.Mir.D.cells x7) 0) : (Option Mir.D)) = (some (Mir.D.int .u8 x8))) ∧
                 (∃ x9 : (Int → ((List Mir.D) → (Int → (Int → (Int → Prop))))),
                  (∃ x10 : (Int → ((List Mir.D) → (Int → (Int → (Int → Nat))))),
                   (((@Eq (List (Nat × Mir.Ob)) [] []) ∧
                     (x9 (Go.IntKind.wrap .u32 (((BitVec.toNat (HXor.hXor (BitVec.ofInt (Go.IntKind.bits .u32) x2) (BitVec.ofInt (Go.IntKind.bits .u32) (Go.IntKind.wrap .u32 x8)))) : Nat) : Int)) x3 x4 x5 0)) ∧
                    (∀ x11 : Int,
                     (∀ x12 : (List Mir.D),
                      (∀ x13 : Int,
                       (∀ x14 : Int,
                        (∀ x15 : Int,
                         ((x9 x11 x12 x13 x14 x15) →
                          (∀ x16 : (Nat → Mir.AV),
                           (sel (decide (x15 < 8))
                            (((0 : Int) ≤ 1) ∧
                             ((@Eq (List (Nat × Mir.Ob)) [] []) ∧
                              ((x9 (Go.IntKind.wrap .u32 (((BitVec.toNat (HXor.hXor (BitVec.ofInt (Go.IntKind.bits .u32) (Int.fdiv x11 (2 ^ (Min.min (Int.toNat 1) (Go.IntKind.bits .u32))))) (BitVec.ofInt (Go.IntKind.bits .u32) (Go.IntKind.wrap .u32 (((BitVec.toNat (HAnd.hAnd (BitVec.ofInt (Go.IntKind.bits .u32) 2197175160) (BitVec.ofInt (Go.IntKind.bits .u32) (Go.IntKind.wrap .u32 (0 - (Go.IntKind.wrap .u32 (((BitVec.toNat (HAnd.hAnd (BitVec.ofInt (Go.IntKind.bits .u32) x11) (BitVec.ofInt (Go.IntKind.bits .u32) 1))) : Nat) : Int))))))) : Nat) : Int))))) : Nat) : Int)) x12 x13 x14 (Go.IntKind.wrap .i64 (x15 + 1))) ∧
                               (((x10 (Go.IntKind.wrap .u32 (((BitVec.toNat (HXor.hXor (BitVec.ofInt (Go.IntKind.bits .u32) (Int.fdiv x11 (2 ^ (Min.min (Int.toNat 1) (Go.IntKind.bits .u32))))) (BitVec.ofInt (Go.IntKind.bits .u32) (Go.IntKind.wrap .u32 (((BitVec.toNat (HAnd.hAnd (BitVec.ofInt (Go.IntKind.bits .u32) 2197175160) (BitVec.ofInt (Go.IntKind.bits .u32) (Go.IntKind.wrap .u32 (0 - (Go.IntKind.wrap .u32 (((BitVec.toNat (HAnd.hAnd (BitVec.ofInt (Go.IntKind.bits .u32) x11) (BitVec.ofInt (Go.IntKind.bits .u32) 1))) : Nat) : Int))))))) : Nat) : Int))))) : Nat) : Int)) x12 x13 x14 (Go.IntKind.wrap .i64 (x15 + 1))) : Nat) < (x10 x11 x12 x13 x14 x15)))))
                            ((@Eq (List (Nat × Mir.Ob)) [] []) ∧
                             ((x0 x11 x12 x13 (Go.IntKind.wrap .i64 (x14 + 1))) ∧
                              (((x1 x11 x12 x13 (Go.IntKind.wrap .i64 (x14 + 1))) : Nat) < (x1 x2 x3 x4 x5)))))))))))))))))))))
           (R (Mir.AV.n (Mir.D.int .u32 (Go.IntKind.wrap .u32 (((BitVec.toNat (HXor.hXor (BitVec.ofInt (Go.IntKind.bits .u32) (Go.IntKind.max .u32)) (BitVec.ofInt (Go.IntKind.bits .u32) x2))) : Nat) : Int)))))))))))))))
theorem vc50 (a0 : Int) (a1 : ByteArray) (R : Mir.AV → Prop) : Vc Fs c50.body (argsQ c50 [(.n (.int .u32 a0)), (.n (.str a1))]) [] (endQ c50 R) = V50 a0 a1 R := by kernel_rfl
def V51 (a0 : Int) (a1 : ByteArray) (R : Mir.AV → Prop) : Prop :=
 (∃ x0 : (ByteArray → (Int → (Int → Prop))),
  (∃ x1 : (ByteArray → (Int → (Int → Nat))),
   (((@Eq (List (Nat × Mir.Ob)) [] []) ∧
     (x0 a1 (Go.IntKind.wrap .u32 (4294967295 - a0)) 0)) ∧
    (∀ x2 : ByteArray,
     (∀ x3 : Int,
      (∀ x4 : Int,
       ((x0 x2 x3 x4) →
        (∀ x5 : (Nat → Mir.AV),
         (sel (decide (x4 < (((ByteArray.size x2) : Nat) : Int)))
          (∃ x6 : (ByteArray → (Int → (Int → (Int → Prop)))),
           (∃ x7 : (ByteArray → (Int → (Int → (Int → Nat)))),
            (((@Eq (List (Nat × Mir.Ob)) [] []) ∧
              (x6 x2 x3 x4 0)) ∧
             (∀ x8 : ByteArray,
              (∀ x9 : Int,
               (∀ x10 : Int,
                (∀ x11 : Int,
                 ((x6 x8 x9 x10 x11) →
                  (∀ x12 : (Nat → Mir.AV),
                   (sel (decide (x11 < 8))
                    (((0 : Int) ≤ x10) ∧
                     (∃ x13 : UInt8,
                      ((((GetElem?.getElem? (Array.toList (ByteArray.data x8)) (Int.toNat x10)) : (Option UInt8)) = (some x13)) ∧
                       (((0 : Int) ≤ (Go.IntKind.wrap .u64 x11)) ∧
                        (((2 : Int) ≠ 0) ∧
                         (((2 : Int) ≠ 0) ∧
                          (((2 : Int) ≠ 0) ∧
                           (sel ((Int.tmod x9 2) != (Int.tmod (Int.fdiv (Go.IntKind.wrap .u32 (((UInt8.toNat x13) : Nat) : Int)) (2 ^ (Min.min (Int.toNat (Go.IntKind.wrap .u64 x11)) (Go.IntKind.bits .u32)))) 2))
                            ((@Eq (List (Nat × Mir.Ob)) [] []) ∧
                             ((x6 x8 (Go.IntKind.wrap .u32 (((BitVec.toNat (HXor.hXor (BitVec.ofInt (Go.IntKind.bits .u32) (Go.IntKind.wrap .u32 (Int.tdiv x9 2))) (BitVec.ofInt (Go.IntKind.bits .u32) 2197175160))) : Nat) : Int)) x10 (Go.IntKind.wrap .i64 (x11 + 1))) ∧
                              (((x7 x8 (Go.IntKind.wrap .u32 (((BitVec.toNat (HXor.hXor (BitVec.ofInt (Go.IntKind.bits .u32) (Go.IntKind.wrap .u32 (Int.tdiv x9 2))) (BitVec.ofInt (Go.IntKind.bits .u32) 2197175160))) : Nat) : Int)) x10 (Go.IntKind.wrap .i64 (x11 + 1))) : Nat) < (x7 x8 x9 x10 x11))))
                            ((@Eq (List (Nat × Mir.Ob)) [] []) ∧
                             ((x6 x8 (Go.IntKind.wrap .u32 (Int.tdiv x9 2)) x10 (Go.IntKind.wrap .i64 (x11 + 1))) ∧
                              (((x7 x8 (Go.IntKind.wrap .u32 (Int.tdiv x9 2)) x10 (Go.IntKind.wrap .i64 (x11 + 1))) : Nat) < (x7 x8 x9 x10 x11))))))))))))
                    ((@Eq (List (Nat × Mir.Ob)) [] []) ∧
                     ((x0 x8 x9 (Go.IntKind.wrap .i64 (x10 + 1))) ∧
                      (((x1 x8 x9 (Go.IntKind.wrap .i64 (x10 + 1))) : Nat) < (x1 x2 x3 x4))))))))))))))
          (R (Mir.AV.n (Mir.D.int .u32 (Go.IntKind.wrap .u32 (4294967295 - x3))))))))))))))
theorem vc51 (a0 : Int) (a1 : ByteArray) (R : Mir.AV → Prop) : Vc Fs c51.body (argsQ c51 [(.n (.int .u32 a0)), (.n (.str a1))]) [] (endQ c51 R) = V51 a0 a1 R := by kernel_rfl
def V35 (a0 : List Mir.D) (R : Mir.AV → Prop) : Prop :=
 (∃ x0 : (Int → ((List Mir.D) → (Int → (Int → Prop)))),
  (∃ x1 : (Int → ((List Mir.D) → (Int → (Int → Nat)))),
   (((@Eq (List (Nat × Mir.Ob)) [] []) ∧
     (x0 0 a0 (((List.length a0) : Nat) : Int) 0)) ∧
    (∀ x2 : Int,
     (∀ x3 : (List Mir.D),
      (∀ x4 : Int,
       (∀ x5 : Int,
        ((x0 x2 x3 x4 x5) →
         (∀ x6 : (Nat → Mir.AV),
          (sel (decide (x5 < x4))
           (((1 : Nat) = 1) ∧
            (((0 : Int) ≤ x5) ∧
             (∃ x7 : Mir.D,
              ((((GetElem?.getElem? x3 (Int.toNat x5)) : (Option Mir.D)) = (some x7)) ∧
               (∃ x8 : ByteArray,
                ((((GetElem?.getElem? (Go.Mir.D.cells x7) 0) : (Option Mir.D)) = (some (Mir.D.str x8))) ∧
                 (∃ x9 : Int,
                  ((Runs Fs 50 [(Mir.AV.n (Mir.D.int .u32 x2)), (Mir.AV.n (Mir.D.str x8))] [] (Mir.AV.n (Mir.D.int .u32 x9)) []) ∧
                   ((@Eq (List (Nat × Mir.Ob)) [] []) ∧
                    ((x0 x9 x3 x4 (Go.IntKind.wrap .i64 (x5 + 1))) ∧
                     (((x1 x9 x3 x4 (Go.IntKind.wrap .i64 (x5 + 1))) : Nat) < (x1 x2 x3 x4 x5))))))))))))
           (R (Mir.AV.n (Mir.D.int .u32 x2)))))))))))))
theorem vc35 (a0 : List Mir.D) (R : Mir.AV → Prop) : Vc Fs c35.body (argsQ c35 [(.o (.sl 1 a0))]) [] (endQ c35 R) = V35 a0 R := by kernel_rfl
def V38 (a0 : ByteArray) (R : Mir.AV → Prop) : Prop :=
 (∃ x0 : Int,
  ((Runs Fs 51 [(Mir.AV.n (Mir.D.int .u32 0)), (Mir.AV.n (Mir.D.str a0))] [] (Mir.AV.n (Mir.D.int .u32 x0)) []) ∧
   (R (Mir.AV.n (Mir.D.int .u32 x0)))))
theorem vc38 (a0 : ByteArray) (R : Mir.AV → Prop) : Vc Fs c38.body (argsQ c38 [(.n (.str a0))]) [] (endQ c38 R) = V38 a0 R := by kernel_rfl
def V25 (a0 : ByteArray) (R : Mir.AV → Prop) : Prop :=
 ((0 = 0) ∧
  (∃ x0 : Int,
   ((Runs Fs 35 [(Mir.AV.o (Mir.D.sl 1 [(Mir.D.str a0)]))] [] (Mir.AV.n (Mir.D.int .u32 x0)) []) ∧
    (((0 : Int) ≤ 8) ∧
     (((0 : Int) ≤ 16) ∧
      (((0 : Int) ≤ 24) ∧
       (((0 : Nat) = 0) ∧
        ((((1 : Nat) = 1) ∨ (@Eq (List Mir.D) [(Mir.D.int .u8 (Go.IntKind.wrap .u8 x0)), (Mir.D.int .u8 (Go.IntKind.wrap .u8 (Int.fdiv x0 (2 ^ (Min.min (Int.toNat 8) (Go.IntKind.bits .u32)))))), (Mir.D.int .u8 (Go.IntKind.wrap .u8 (Int.fdiv x0 (2 ^ (Min.min (Int.toNat 16) (Go.IntKind.bits .u32)))))), (Mir.D.int .u8 (Go.IntKind.wrap .u8 (Int.fdiv x0 (2 ^ (Min.min (Int.toNat 24) (Go.IntKind.bits .u32))))))] [])) ∧
         ((((List.all [(Mir.D.int .u8 (Go.IntKind.wrap .u8 x0)), (Mir.D.int .u8 (Go.IntKind.wrap .u8 (Int.fdiv x0 (2 ^ (Min.min (Int.toNat 8) (Go.IntKind.bits .u32)))))), (Mir.D.int .u8 (Go.IntKind.wrap .u8 (Int.fdiv x0 (2 ^ (Min.min (Int.toNat 16) (Go.IntKind.bits .u32)))))), (Mir.D.int .u8 (Go.IntKind.wrap .u8 (Int.fdiv x0 (2 ^ (Min.min (Int.toNat 24) (Go.IntKind.bits .u32))))))] Go.Mir.D.isU8) : Bool) = true) ∧
          ((0 = 0) ∧
           (∃ x1 : ByteArray,
            ((Runs Fs 26 [(Mir.AV.o (Mir.D.sl 1 [(Mir.D.str a0), (Mir.D.str (ByteArray.mk (List.toArray (List.map Go.Mir.byteOf [(Mir.D.int .u8 (Go.IntKind.wrap .u8 x0)), (Mir.D.int .u8 (Go.IntKind.wrap .u8 (Int.fdiv x0 (2 ^ (Min.min (Int.toNat 8) (Go.IntKind.bits .u32)))))), (Mir.D.int .u8 (Go.IntKind.wrap .u8 (Int.fdiv x0 (2 ^ (Min.min (Int.toNat 16) (Go.IntKind.bits .u32)))))), (Mir.D.int .u8 (Go.IntKind.wrap .u8 (Int.fdiv x0 (2 ^ (Min.min (Int.toNat 24) (Go.IntKind.bits .u32))))))]))))]))] [] (Mir.AV.n (Mir.D.str x1)) []) ∧
             (R (Mir.AV.n (Mir.D.str x1)))))))))))))))
theorem vc25 (a0 : ByteArray) (R : Mir.AV → Prop) : Vc Fs c25.body (argsQ c25 [(.n (.str a0))]) [] (endQ c25 R) = V25 a0 R := by kernel_rfl
def V28 (a0 : ByteArray) (R : Mir.AV → Prop) : Prop :=
 (∃ x0 : Int,
  ((Runs Fs 38 [(Mir.AV.n (Mir.D.str a0))] [] (Mir.AV.n (Mir.D.int .u32 x0)) []) ∧
   (((256 : Int) ≠ 0) ∧
    (((256 : Int) ≠ 0) ∧
     (((256 : Int) ≠ 0) ∧
      (((65536 : Int) ≠ 0) ∧
       (((256 : Int) ≠ 0) ∧
        (((16777216 : Int) ≠ 0) ∧
         (((0 : Nat) = 0) ∧
          ((((1 : Nat) = 1) ∨ (@Eq (List Mir.D) [(Mir.D.int .u8 (Go.IntKind.wrap .u8 (Int.tmod x0 256))), (Mir.D.int .u8 (Go.IntKind.wrap .u8 (Int.tmod (Go.IntKind.wrap .u32 (Int.tdiv x0 256)) 256))), (Mir.D.int .u8 (Go.IntKind.wrap .u8 (Int.tmod (Go.IntKind.wrap .u32 (Int.tdiv x0 65536)) 256))), (Mir.D.int .u8 (Go.IntKind.wrap .u8 (Go.IntKind.wrap .u32 (Int.tdiv x0 16777216))))] [])) ∧
           ((((List.all [(Mir.D.int .u8 (Go.IntKind.wrap .u8 (Int.tmod x0 256))), (Mir.D.int .u8 (Go.IntKind.wrap .u8 (Int.tmod (Go.IntKind.wrap .u32 (Int.tdiv x0 256)) 256))), (Mir.D.int .u8 (Go.IntKind.wrap .u8 (Int.tmod (Go.IntKind.wrap .u32 (Int.tdiv x0 65536)) 256))), (Mir.D.int .u8 (Go.IntKind.wrap .u8 (Go.IntKind.wrap .u32 (Int.tdiv x0 16777216))))] Go.Mir.D.isU8) : Bool) = true) ∧
            (((((((ByteArray.size a0) + (ByteArray.size (ByteArray.mk (List.toArray (List.map Go.Mir.byteOf [(Mir.D.int .u8 (Go.IntKind.wrap .u8 (Int.tmod x0 256))), (Mir.D.int .u8 (Go.IntKind.wrap .u8 (Int.tmod (Go.IntKind.wrap .u32 (Int.tdiv x0 256)) 256))), (Mir.D.int .u8 (Go.IntKind.wrap .u8 (Int.tmod (Go.IntKind.wrap .u32 (Int.tdiv x0 65536)) 256))), (Mir.D.int .u8 (Go.IntKind.wrap .u8 (Go.IntKind.wrap .u32 (Int.tdiv x0 16777216))))]))))) : Nat) : Int) : Int) ≤ 9223372036854775807) ∧
             (R (Mir.AV.n (Mir.D.str (a0 ++ (ByteArray.mk (List.toArray (List.map Go.Mir.byteOf [(Mir.D.int .u8 (Go.IntKind.wrap .u8 (Int.tmod x0 256))), (Mir.D.int .u8 (Go.IntKind.wrap .u8 (Int.tmod (Go.IntKind.wrap .u32 (Int.tdiv x0 256)) 256))), (Mir.D.int .u8 (Go.IntKind.wrap .u8 (Int.tmod (Go.IntKind.wrap .u32 (Int.tdiv x0 65536)) 256))), (Mir.D.int .u8 (Go.IntKind.wrap .u8 (Go.IntKind.wrap .u32 (Int.tdiv x0 16777216))))])))))))))))))))))))
theorem vc28 (a0 : ByteArray) (R : Mir.AV → Prop) : Vc Fs c28.body (argsQ c28 [(.n (.str a0))]) [] (endQ c28 R) = V28 a0 R := by kernel_rfl
def V12 (a0_0 : Int) (a0_1 : Int) (a0_2 : ByteArray) (R : Mir.AV → Prop) : Prop :=
 (sel (decide (a0_0 ≥ 1))
  (sel (decide (a0_0 ≤ 5))
   (sel (decide (a0_1 ≥ 0))
    (sel (decide (a0_1 ≤ 1099511627776))
     (R (Mir.AV.n (Mir.D.bool (decide ((((ByteArray.size a0_2) : Nat) : Int) ≤ 4000)))))
     (R (Mir.AV.n (Mir.D.bool false))))
    (R (Mir.AV.n (Mir.D.bool false))))
   (R (Mir.AV.n (Mir.D.bool false))))
  (R (Mir.AV.n (Mir.D.bool false))))
theorem vc12 (a0_0 : Int) (a0_1 : Int) (a0_2 : ByteArray) (R : Mir.AV → Prop) : Vc Fs c12.body (argsQ c12 [(.agg [(.n (.int .i64 a0_0)), (.n (.int .i64 a0_1)), (.n (.str a0_2))])]) [] (endQ c12 R) = V12 a0_0 a0_1 a0_2 R := by kernel_rfl
def V10 (a0_0 : Int) (a0_1 : Int) (a0_2 : ByteArray) (R : Mir.AV → Prop) : Prop :=
 (sel (decide (a0_0 ≥ 1))
  (sel (decide (a0_0 ≤ 5))
   (sel (decide (a0_1 ≥ 0))
    (sel (decide (a0_1 ≤ 1099511627776))
     (R (Mir.AV.n (Mir.D.bool (decide ((((ByteArray.size a0_2) : Nat) : Int) ≤ 4000)))))
     (R (Mir.AV.n (Mir.D.bool false))))
    (R (Mir.AV.n (Mir.D.bool false))))
   (R (Mir.AV.n (Mir.D.bool false))))
  (R (Mir.AV.n (Mir.D.bool false))))
theorem vc10 (a0_0 : Int) (a0_1 : Int) (a0_2 : ByteArray) (R : Mir.AV → Prop) : Vc Fs c10.body (argsQ c10 [(.agg [(.n (.int .i64 a0_0)), (.n (.int .i64 a0_1)), (.n (.str a0_2))])]) [] (endQ c10 R) = V10 a0_0 a0_1 a0_2 R := by kernel_rfl
def V9 (a0_0 : Int) (a0_1 : Int) (a0_2 : ByteArray) (R : Mir.AV → Prop) : Prop :=
 (∃ x0 : Bool,
  ((Runs Fs 12 [(Mir.AV.agg [(Mir.AV.n (Mir.D.int .i64 a0_0)), (Mir.AV.n (Mir.D.int .i64 a0_1)), (Mir.AV.n (Mir.D.str a0_2))])] [] (Mir.AV.n (Mir.D.bool x0)) []) ∧
   (sel (Bool.not x0)
    (R (Mir.AV.tup [(Mir.AV.n (Mir.D.str (ByteArray.mk (List.toArray [])))), (Mir.AV.n (Mir.D.int .i64 1))]))
    (∃ x1 : ByteArray,
     (∃ x2 : Int,
      ((Runs Fs 24 [(Mir.AV.n (Mir.D.int .i64 a0_0)), (Mir.AV.n (Mir.D.int .i64 1))] [] (Mir.AV.tup [(Mir.AV.n (Mir.D.str x1)), (Mir.AV.n (Mir.D.int .i64 x2))]) []) ∧
       (∃ x3 : ByteArray,
        (∃ x4 : Int,
         ((Runs Fs 24 [(Mir.AV.n (Mir.D.int .i64 a0_1)), (Mir.AV.n (Mir.D.int .i64 6))] [] (Mir.AV.tup [(Mir.AV.n (Mir.D.str x3)), (Mir.AV.n (Mir.D.int .i64 x4))]) []) ∧
          (∃ x5 : ByteArray,
           (∃ x6 : Int,
            ((Runs Fs 17 [(Mir.AV.n (Mir.D.str a0_2))] [] (Mir.AV.tup [(Mir.AV.n (Mir.D.str x5)), (Mir.AV.n (Mir.D.int .i64 x6))]) []) ∧
             ((0 = 0) ∧
              (∃ x7 : ByteArray,
               ((Runs Fs 26 [(Mir.AV.o (Mir.D.sl 1 [(Mir.D.str x1), (Mir.D.str x3), (Mir.D.str x5)]))] [] (Mir.AV.n (Mir.D.str x7)) []) ∧
                (∃ x8 : ByteArray,
                 ((Runs Fs 25 [(Mir.AV.n (Mir.D.str x7))] [] (Mir.AV.n (Mir.D.str x8)) []) ∧
                  (∃ x9 : ByteArray,
                   ((Runs Fs 15 [(Mir.AV.n (Mir.D.str x8))] [] (Mir.AV.n (Mir.D.str x9)) []) ∧
                    (R (Mir.AV.tup [(Mir.AV.n (Mir.D.str x9)), (Mir.AV.n (Mir.D.int .i64 0))])))))))))))))))))))))
theorem vc9 (a0_0 : Int) (a0_1 : Int) (a0_2 : ByteArray) (R : Mir.AV → Prop) : Vc Fs c9.body (argsQ c9 [(.agg [(.n (.int .i64 a0_0)), (.n (.int .i64 a0_1)), (.n (.str a0_2))])]) [] (endQ c9 R) = V9 a0_0 a0_1 a0_2 R := by kernel_rfl
def V13 (a0_0 : Int) (a0_1 : Int) (a0_2 : ByteArray) (R : Mir.AV → Prop) : Prop :=
 (∃ x0 : ByteArray,
  (∃ x1 : Int,
   ((Runs Fs 27 [(Mir.AV.n (Mir.D.int .i64 a0_0)), (Mir.AV.n (Mir.D.int .i64 1))] [] (Mir.AV.tup [(Mir.AV.n (Mir.D.str x0)), (Mir.AV.n (Mir.D.int .i64 x1))]) []) ∧
    (∃ x2 : ByteArray,
     (∃ x3 : Int,
      ((Runs Fs 27 [(Mir.AV.n (Mir.D.int .i64 a0_1)), (Mir.AV.n (Mir.D.int .i64 6))] [] (Mir.AV.tup [(Mir.AV.n (Mir.D.str x2)), (Mir.AV.n (Mir.D.int .i64 x3))]) []) ∧
       (∃ x4 : ByteArray,
        (∃ x5 : Int,
         ((Runs Fs 18 [(Mir.AV.n (Mir.D.str a0_2))] [] (Mir.AV.tup [(Mir.AV.n (Mir.D.str x4)), (Mir.AV.n (Mir.D.int .i64 x5))]) []) ∧
          (((((((ByteArray.size x0) + (ByteArray.size x2)) : Nat) : Int) : Int) ≤ 9223372036854775807) ∧
           (((((((ByteArray.size (x0 ++ x2)) + (ByteArray.size x4)) : Nat) : Int) : Int) ≤ 9223372036854775807) ∧
            (∃ x6 : ByteArray,
             ((Runs Fs 28 [(Mir.AV.n (Mir.D.str ((x0 ++ x2) ++ x4)))] [] (Mir.AV.n (Mir.D.str x6)) []) ∧
              (∃ x7 : ByteArray,
               ((Runs Fs 20 [(Mir.AV.n (Mir.D.str x6))] [] (Mir.AV.n (Mir.D.str x7)) []) ∧
                (R (Mir.AV.n (Mir.D.str x7))))))))))))))))))
theorem vc13 (a0_0 : Int) (a0_1 : Int) (a0_2 : ByteArray) (R : Mir.AV → Prop) : Vc Fs c13.body (argsQ c13 [(.agg [(.n (.int .i64 a0_0)), (.n (.int .i64 a0_1)), (.n (.str a0_2))])]) [] (endQ c13 R) = V13 a0_0 a0_1 a0_2 R := by kernel_rfl
def V11  (R : Mir.AV → Prop) : Prop :=
 (∃ x0 : ByteArray,
  (∃ x1 : Int,
   ((Runs Fs 9 [(Mir.AV.agg [(Mir.AV.n (Mir.D.int .i64 1)), (Mir.AV.n (Mir.D.int .i64 0)), (Mir.AV.n (Mir.D.str (ByteArray.mk (List.toArray []))))])] [] (Mir.AV.tup [(Mir.AV.n (Mir.D.str x0)), (Mir.AV.n (Mir.D.int .i64 x1))]) []) ∧
    (sel (x1 == 0)
     (R (Mir.AV.n (Mir.D.bool (decide ((((ByteArray.size x0) : Nat) : Int) ≥ 9)))))
     (R (Mir.AV.n (Mir.D.bool false)))))))
theorem vc11  (R : Mir.AV → Prop) : Vc Fs c11.body (argsQ c11 []) [] (endQ c11 R) = V11  R := by kernel_rfl
def V3 (a0_0 : Int) (a0_1 : Int) (a0_2 : ByteArray) (R : Mir.AV → Prop) : Prop :=
 (∃ x0 : ByteArray,
  (∃ x1 : Int,
   ((Runs Fs 9 [(Mir.AV.agg [(Mir.AV.n (Mir.D.int .i64 a0_0)), (Mir.AV.n (Mir.D.int .i64 a0_1)), (Mir.AV.n (Mir.D.str a0_2))])] [] (Mir.AV.tup [(Mir.AV.n (Mir.D.str x0)), (Mir.AV.n (Mir.D.int .i64 x1))]) []) ∧
    (∃ x2 : Bool,
     ((Runs Fs 10 [(Mir.AV.agg [(Mir.AV.n (Mir.D.int .i64 a0_0)), (Mir.AV.n (Mir.D.int .i64 a0_1)), (Mir.AV.n (Mir.D.str a0_2))])] [] (Mir.AV.n (Mir.D.bool x2)) []) ∧
      (sel (Bool.not x2)
       (∃ x3 : Bool,
        ((Runs Fs 11 [] [] (Mir.AV.n (Mir.D.bool x3)) []) ∧
         (sel x3
          (∃ x4 : Bool,
           ((Runs Fs 12 [(Mir.AV.agg [(Mir.AV.n (Mir.D.int .i64 a0_0)), (Mir.AV.n (Mir.D.int .i64 a0_1)), (Mir.AV.n (Mir.D.str a0_2))])] [] (Mir.AV.n (Mir.D.bool x4)) []) ∧
            (sel (Bool.not x4)
             (sel (x1 == 1)
              (R (Mir.AV.n (Mir.D.bool ((ByteArray.toList x0) == (ByteArray.toList (ByteArray.mk (List.toArray [])))))))
              (R (Mir.AV.n (Mir.D.bool false))))
             (R (Mir.AV.n (Mir.D.bool false))))))
          (R (Mir.AV.n (Mir.D.bool false))))))
       (∃ x5 : Bool,
        ((Runs Fs 11 [] [] (Mir.AV.n (Mir.D.bool x5)) []) ∧
         (sel x5
          (∃ x6 : Bool,
           ((Runs Fs 12 [(Mir.AV.agg [(Mir.AV.n (Mir.D.int .i64 a0_0)), (Mir.AV.n (Mir.D.int .i64 a0_1)), (Mir.AV.n (Mir.D.str a0_2))])] [] (Mir.AV.n (Mir.D.bool x6)) []) ∧
            (sel x6
             (sel (x1 == 0)
              (∃ x7 : ByteArray,
               ((Runs Fs 13 [(Mir.AV.agg [(Mir.AV.n (Mir.D.int .i64 a0_0)), (Mir.AV.n (Mir.D.int .i64 a0_1)), (Mir.AV.n (Mir.D.str a0_2))])] [] (Mir.AV.n (Mir.D.str x7)) []) ∧
                (R (Mir.AV.n (Mir.D.bool ((ByteArray.toList x0) == (ByteArray.toList x7)))))))
              (R (Mir.AV.n (Mir.D.bool false))))
             (R (Mir.AV.n (Mir.D.bool false))))))
          (R (Mir.AV.n (Mir.D.bool false))))))))))))
theorem vc3 (a0_0 : Int) (a0_1 : Int) (a0_2 : ByteArray) (R : Mir.AV → Prop) : Vc Fs c3.body (argsQ c3 [(.agg [(.n (.int .i64 a0_0)), (.n (.int .i64 a0_1)), (.n (.str a0_2))])]) [] (endQ c3 R) = V3 a0_0 a0_1 a0_2 R := by kernel_rfl
def V32 (a0 : ByteArray) (R : Mir.AV → Prop) : Prop :=
 (sel (decide ((Go.IntKind.wrap .i64 ((((ByteArray.size a0) : Nat) : Int) - 4)) < 0))
  (R (Mir.AV.tup [(Mir.AV.n (Mir.D.str (ByteArray.mk (List.toArray [])))), (Mir.AV.n (Mir.D.int .i64 3))]))
  (((0 : Int) ≤ (Go.IntKind.wrap .i64 ((((ByteArray.size a0) : Nat) : Int) - 4))) ∧
   ((((Go.IntKind.wrap .i64 ((((ByteArray.size a0) : Nat) : Int) - 4)) : Int) ≤ (((ByteArray.size a0) : Nat) : Int)) ∧
    (∃ x0 : ByteArray,
     ((Runs Fs 25 [(Mir.AV.n (Mir.D.str (ByteArray.extract a0 0 (Int.toNat (Go.IntKind.wrap .i64 ((((ByteArray.size a0) : Nat) : Int) - 4))))))] [] (Mir.AV.n (Mir.D.str x0)) []) ∧
      (sel (Bool.not ((ByteArray.toList x0) == (ByteArray.toList a0)))
       (R (Mir.AV.tup [(Mir.AV.n (Mir.D.str (ByteArray.mk (List.toArray [])))), (Mir.AV.n (Mir.D.int .i64 41))]))
       (((0 : Int) ≤ (Go.IntKind.wrap .i64 ((((ByteArray.size a0) : Nat) : Int) - 4))) ∧
        ((((Go.IntKind.wrap .i64 ((((ByteArray.size a0) : Nat) : Int) - 4)) : Int) ≤ (((ByteArray.size a0) : Nat) : Int)) ∧
         (R (Mir.AV.tup [(Mir.AV.n (Mir.D.str (ByteArray.extract a0 0 (Int.toNat (Go.IntKind.wrap .i64 ((((ByteArray.size a0) : Nat) : Int) - 4)))))), (Mir.AV.n (Mir.D.int .i64 0))]))))))))))
theorem vc32 (a0 : ByteArray) (R : Mir.AV → Prop) : Vc Fs c32.body (argsQ c32 [(.n (.str a0))]) [] (endQ c32 R) = V32 a0 R := by kernel_rfl

end Go.Proofs.YtjmfgemjabaohaaDoor.M
