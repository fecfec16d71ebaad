import Derived.Test.YtcakphhnilklnaaR2Fun
namespace Go.Proofs.Ytcakphhnilklnaa.M
set_option linter.unusedVariables false
set_option linter.unusedSimpArgs false
open Go Go.Mir
set_option linter.unusedVariables false
def V14 (a0 : Int) (a1 : Int) (R : Mir.AV → Prop) : Prop :=
 (sel (decide (a1 < 1))
 (R (Mir.AV.tup [(Mir.AV.n (Mir.D.str (ByteArray.mk (List.toArray [])))), (Mir.AV.n (Mir.D.int .i64 1))]))
 (sel (decide (a1 > 6))
 (R (Mir.AV.tup [(Mir.AV.n (Mir.D.str (ByteArray.mk (List.toArray [])))), (Mir.AV.n (Mir.D.int .i64 1))]))
 (sel (decide (a0 < 0))
 (R (Mir.AV.tup [(Mir.AV.n (Mir.D.str (ByteArray.mk (List.toArray [])))), (Mir.AV.n (Mir.D.int .i64 1))]))
 (((0 : Int) ≤ (Go.IntKind.wrap .i64 (8 * a1))) ∧
 (sel ((Int.fdiv a0 (2 ^ (Min.min (Int.toNat (Go.IntKind.wrap .i64 (8 * a1))) (Go.IntKind.bits .i64)))) != 0)
 (R (Mir.AV.tup [(Mir.AV.n (Mir.D.str (ByteArray.mk (List.toArray [])))), (Mir.AV.n (Mir.D.int .i64 1))]))
 (((0 : Int) ≤ a1) ∧
 (((((Int.toNat a1) * 1) : Nat) ≤ 140737488355328) ∧
 (((0 : Nat) = 0) ∧
 (∃ x0 : (Int → (Int → (Nat → (Int → (Int → ((Nat × (List Mir.D)) → Prop)))))),
 (∃ x1 : (Int → (Int → (Nat → (Int → (Int → ((Nat × (List Mir.D)) → Nat)))))),
 (((@Eq (List (Nat × Mir.Ob)) [(1400301, (.row false true 0 5 1 (List.replicate (Int.toNat a1) (Mir.D.int .u8 0))))] [(1400301, (.row false true 0 5 1 (List.replicate (Int.toNat a1) (Mir.D.int .u8 0))))]) ∧
 (x0 a0 a1 0 (((List.length (List.replicate (Int.toNat a1) (Mir.D.int .u8 0))) : Nat) : Int) 0 (0, (List.replicate (Int.toNat a1) (Mir.D.int .u8 0))))) ∧
 (∀ x2 : Int,
 (∀ x3 : Int,
 (∀ x4 : Nat,
 (∀ x5 : Int,
 (∀ x6 : Int,
 (∀ x7 : (Nat × (List Mir.D)),
 ((x0 x2 x3 x4 x5 x6 x7) →
 (∀ x8 : (Nat → Mir.AV),
 (sel (decide (x6 < x5))
 (((0 : Int) ≤ (Go.IntKind.wrap .i64 (8 * x6))) ∧
 (((((Prod.fst x7) : Nat) = x4) ∧
 ((1 : Nat) = 1)) ∧
 (((0 : Int) ≤ (Go.IntKind.wrap .i64 ((Go.IntKind.wrap .i64 (x3 - 1)) - x6))) ∧
 ((((Go.IntKind.wrap .i64 ((Go.IntKind.wrap .i64 (x3 - 1)) - x6)) : Int) < (((List.length (Prod.snd x7)) : Nat) : Int)) ∧
 ((((((x4 : Nat) = (Prod.fst x7)) ∧
 ((0 : Nat) = 0)) ∧
 ((1 : Nat) = 1)) ∧
 ((1 : Nat) = 1)) ∧
 ((((Int.toNat (Go.IntKind.wrap .i64 ((Go.IntKind.wrap .i64 (x3 - 1)) - x6))) : Nat) < (List.length (Prod.snd x7))) ∧
 ((@Eq (List (Nat × Mir.Ob)) [(1400301, (.row false true (Prod.fst x7) 5 1 (List.set (Prod.snd x7) (Int.toNat (Go.IntKind.wrap .i64 ((Go.IntKind.wrap .i64 (x3 - 1)) - x6))) (Mir.D.int .u8 (Go.IntKind.wrap .u8 (Int.fdiv x2 (2 ^ (Min.min (Int.toNat (Go.IntKind.wrap .i64 (8 * x6))) (Go.IntKind.bits .i64)))))))))] [(1400301, (.row false true (Prod.fst x7) 5 1 (List.set (Prod.snd x7) (Int.toNat (Go.IntKind.wrap .i64 ((Go.IntKind.wrap .i64 (x3 - 1)) - x6))) (Mir.D.int .u8 (Go.IntKind.wrap .u8 (Int.fdiv x2 (2 ^ (Min.min (Int.toNat (Go.IntKind.wrap .i64 (8 * x6))) (Go.IntKind.bits .i64)))))))))]) ∧
 ((x0 x2 x3 x4 x5 (Go.IntKind.wrap .i64 (x6 + 1)) ((Prod.fst x7), (List.set (Prod.snd x7) (Int.toNat (Go.IntKind.wrap .i64 ((Go.IntKind.wrap .i64 (x3 - 1)) - x6))) (Mir.D.int .u8 (Go.IntKind.wrap .u8 (Int.fdiv x2 (2 ^ (Min.min (Int.toNat (Go.IntKind.wrap .i64 (8 * x6))) (Go.IntKind.bits .i64))))))))) ∧
 (((x1 x2 x3 x4 x5 (Go.IntKind.wrap .i64 (x6 + 1)) ((Prod.fst x7), (List.set (Prod.snd x7) (Int.toNat (Go.IntKind.wrap .i64 ((Go.IntKind.wrap .i64 (x3 - 1)) - x6))) (Mir.D.int .u8 (Go.IntKind.wrap .u8 (Int.fdiv x2 (2 ^ (Min.min (Int.toNat (Go.IntKind.wrap .i64 (8 * x6))) (Go.IntKind.bits .i64))))))))) : Nat) < (x1 x2 x3 x4 x5 x6 x7))))))))))
 ((((Prod.fst x7) : Nat) = x4) ∧
 ((((1 : Nat) = 1) ∨ (@Eq (List Mir.D) (Prod.snd x7) [])) ∧
 ((((List.all (Prod.snd x7) Go.Mir.D.isU8) : Bool) = true) ∧
 (R (Mir.AV.tup [(Mir.AV.n (Mir.D.str (ByteArray.mk (List.toArray (List.map Go.Mir.byteOf (Prod.snd x7)))))), (Mir.AV.n (Mir.D.int .i64 0))])))))))))))))))))))))))))
theorem vc14 (a0 : Int) (a1 : Int) (R : Mir.AV → Prop) : Vc Fs c14.body (argsQ c14 [(.n (.int .i64 a0)), (.n (.int .i64 a1))]) [] (endQ c14 R) = V14 a0 a1 R := by kernel_rfl
def V15 (a0 : ByteArray) (R : Mir.AV → Prop) : Prop :=
 (sel (decide ((((ByteArray.size a0) : Nat) : Int) > 65535))
 (R (Mir.AV.tup [(Mir.AV.n (Mir.D.str (ByteArray.mk (List.toArray [])))), (Mir.AV.n (Mir.D.int .i64 2))]))
 (∃ x0 : ByteArray,
 (∃ x1 : Int,
 ((Runs Fs 14 [(Mir.AV.n (Mir.D.int .i64 (((ByteArray.size a0) : Nat) : Int))), (Mir.AV.n (Mir.D.int .i64 2))] [] (Mir.AV.tup [(Mir.AV.n (Mir.D.str x0)), (Mir.AV.n (Mir.D.int .i64 x1))]) []) ∧
 ((0 = 0) ∧
 (∃ x2 : ByteArray,
 ((Runs Fs 16 [(Mir.AV.o (Mir.D.sl 1 [(Mir.D.str x0), (Mir.D.str a0)]))] [] (Mir.AV.n (Mir.D.str x2)) []) ∧
 (R (Mir.AV.tup [(Mir.AV.n (Mir.D.str x2)), (Mir.AV.n (Mir.D.int .i64 x1))])))))))))
theorem vc15 (a0 : ByteArray) (R : Mir.AV → Prop) : Vc Fs c15.body (argsQ c15 [(.n (.str a0))]) [] (endQ c15 R) = V15 a0 R := by kernel_rfl
def V16 (a0 : List Mir.D) (R : Mir.AV → Prop) : Prop :=
 (∃ x0 : ByteArray,
 ((Runs Fs 27 [(Mir.AV.o (Mir.D.sl 1 a0)), (Mir.AV.n (Mir.D.str (ByteArray.mk (List.toArray []))))] [] (Mir.AV.n (Mir.D.str x0)) []) ∧
 (R (Mir.AV.n (Mir.D.str x0)))))
theorem vc16 (a0 : List Mir.D) (R : Mir.AV → Prop) : Vc Fs c16.body (argsQ c16 [(.o (.sl 1 a0))]) [] (endQ c16 R) = V16 a0 R := by kernel_rfl
def V20 (a0 : ByteArray) (a1 : Int) (a2 : Int) (R : Mir.AV → Prop) : Prop :=
 (sel (decide (a2 < 1))
 (R (Mir.AV.tup [(Mir.AV.n (Mir.D.int .i64 0)), (Mir.AV.n (Mir.D.int .i64 0)), (Mir.AV.n (Mir.D.int .i64 1))]))
 (sel (decide (a2 > 6))
 (R (Mir.AV.tup [(Mir.AV.n (Mir.D.int .i64 0)), (Mir.AV.n (Mir.D.int .i64 0)), (Mir.AV.n (Mir.D.int .i64 1))]))
 (sel (decide (a1 < 0))
 (R (Mir.AV.tup [(Mir.AV.n (Mir.D.int .i64 0)), (Mir.AV.n (Mir.D.int .i64 0)), (Mir.AV.n (Mir.D.int .i64 1))]))
 (sel (decide (a1 > (((ByteArray.size a0) : Nat) : Int)))
 (R (Mir.AV.tup [(Mir.AV.n (Mir.D.int .i64 0)), (Mir.AV.n (Mir.D.int .i64 0)), (Mir.AV.n (Mir.D.int .i64 1))]))
 (sel (decide ((Go.IntKind.wrap .i64 ((((ByteArray.size a0) : Nat) : Int) - a1)) < a2))
 (R (Mir.AV.tup [(Mir.AV.n (Mir.D.int .i64 0)), (Mir.AV.n (Mir.D.int .i64 0)), (Mir.AV.n (Mir.D.int .i64 3))]))
 (((0 : Int) ≤ (Go.IntKind.wrap .i64 (a1 + a2))) ∧
 ((((Go.IntKind.wrap .i64 (a1 + a2)) : Int) ≤ (((ByteArray.size a0) : Nat) : Int)) ∧
 (((0 : Int) ≤ a1) ∧
 (((a1 : Int) ≤ (((Int.toNat (Go.IntKind.wrap .i64 (a1 + a2))) : Nat) : Int)) ∧
 (∃ x0 : (Int → (Int → (Int → ((List Mir.D) → (Int → (Int → Prop)))))),
 (∃ x1 : (Int → (Int → (Int → ((List Mir.D) → (Int → (Int → Nat)))))),
 (((@Eq (List (Nat × Mir.Ob)) [] []) ∧
 (x0 a1 a2 0 (Go.Mir.bytesD (ByteArray.extract a0 (Int.toNat a1) (Int.toNat (Go.IntKind.wrap .i64 (a1 + a2))))) (((List.length (Go.Mir.bytesD (ByteArray.extract a0 (Int.toNat a1) (Int.toNat (Go.IntKind.wrap .i64 (a1 + a2)))))) : Nat) : Int) 0)) ∧
 (∀ x2 : Int,
 (∀ x3 : Int,
 (∀ x4 : Int,
 (∀ x5 : (List Mir.D),
 (∀ x6 : Int,
 (∀ x7 : Int,
 ((x0 x2 x3 x4 x5 x6 x7) →
 (∀ x8 : (Nat → Mir.AV),
 (sel (decide (x7 < x6))
 (((1 : Nat) = 1) ∧
 (((0 : Int) ≤ x7) ∧
 (∃ x9 : Mir.D,
 ((((GetElem?.getElem? x5 (Int.toNat x7)) : (Option Mir.D)) = (some x9)) ∧
 (∃ x10 : Int,
 ((((GetElem?.getElem? (Go.Mir.D.cells x9) 0) : (Option Mir.D)) = (some (Mir.D.int .u8 x10))) ∧
 (((0 : Int) ≤ 8) ∧
 ((@Eq (List (Nat × Mir.Ob)) [] []) ∧
 ((x0 x2 x3 (Go.IntKind.wrap .i64 (((BitVec.toNat (HOr.hOr (BitVec.ofInt (Go.IntKind.bits .i64) (Go.IntKind.wrap .i64 (x4 * (2 ^ (Min.min (Int.toNat 8) (Go.IntKind.bits .i64)))))) (BitVec.ofInt (Go.IntKind.bits .i64) (Go.IntKind.wrap .i64 x10)))) : Nat) : Int)) x5 x6 (Go.IntKind.wrap .i64 (x7 + 1))) ∧
 (((x1 x2 x3 (Go.IntKind.wrap .i64 (((BitVec.toNat (HOr.hOr (BitVec.ofInt (Go.IntKind.bits .i64) (Go.IntKind.wrap .i64 (x4 * (2 ^ (Min.min (Int.toNat 8) (Go.IntKind.bits .i64)))))) (BitVec.ofInt (Go.IntKind.bits .i64) (Go.IntKind.wrap .i64 x10)))) : Nat) : Int)) x5 x6 (Go.IntKind.wrap .i64 (x7 + 1))) : Nat) < (x1 x2 x3 x4 x5 x6 x7)))))))))))
 (R (Mir.AV.tup [(Mir.AV.n (Mir.D.int .i64 x4)), (Mir.AV.n (Mir.D.int .i64 (Go.IntKind.wrap .i64 (x2 + x3)))), (Mir.AV.n (Mir.D.int .i64 0))])))))))))))))))))))))))
theorem vc20 (a0 : ByteArray) (a1 : Int) (a2 : Int) (R : Mir.AV → Prop) : Vc Fs c20.body (argsQ c20 [(.n (.str a0)), (.n (.int .i64 a1)), (.n (.int .i64 a2))]) [] (endQ c20 R) = V20 a0 a1 a2 R := by kernel_rfl
def V22 (a0 : ByteArray) (a1 : Int) (R : Mir.AV → Prop) : Prop :=
 (∃ x0 : Int,
 (∃ x1 : Int,
 (∃ x2 : Int,
 ((Runs Fs 20 [(Mir.AV.n (Mir.D.str a0)), (Mir.AV.n (Mir.D.int .i64 a1)), (Mir.AV.n (Mir.D.int .i64 2))] [] (Mir.AV.tup [(Mir.AV.n (Mir.D.int .i64 x0)), (Mir.AV.n (Mir.D.int .i64 x1)), (Mir.AV.n (Mir.D.int .i64 x2))]) []) ∧
 (sel (x2 != 0)
 (R (Mir.AV.tup [(Mir.AV.n (Mir.D.str (ByteArray.mk (List.toArray [])))), (Mir.AV.n (Mir.D.int .i64 0)), (Mir.AV.n (Mir.D.int .i64 x2))]))
 (sel (decide ((Go.IntKind.wrap .i64 ((((ByteArray.size a0) : Nat) : Int) - x1)) < x0))
 (R (Mir.AV.tup [(Mir.AV.n (Mir.D.str (ByteArray.mk (List.toArray [])))), (Mir.AV.n (Mir.D.int .i64 0)), (Mir.AV.n (Mir.D.int .i64 3))]))
 (((0 : Int) ≤ (Go.IntKind.wrap .i64 (x1 + x0))) ∧
 ((((Go.IntKind.wrap .i64 (x1 + x0)) : Int) ≤ (((ByteArray.size a0) : Nat) : Int)) ∧
 (((0 : Int) ≤ x1) ∧
 (((x1 : Int) ≤ (((Int.toNat (Go.IntKind.wrap .i64 (x1 + x0))) : Nat) : Int)) ∧
 (R (Mir.AV.tup [(Mir.AV.n (Mir.D.str (ByteArray.extract a0 (Int.toNat x1) (Int.toNat (Go.IntKind.wrap .i64 (x1 + x0)))))), (Mir.AV.n (Mir.D.int .i64 (Go.IntKind.wrap .i64 (x1 + x0)))), (Mir.AV.n (Mir.D.int .i64 0))]))))))))))))
theorem vc22 (a0 : ByteArray) (a1 : Int) (R : Mir.AV → Prop) : Vc Fs c22.body (argsQ c22 [(.n (.str a0)), (.n (.int .i64 a1))]) [] (endQ c22 R) = V22 a0 a1 R := by kernel_rfl
def V24 (a0 : ByteArray) (a1 : Int) (a2 : Int) (R : Mir.AV → Prop) : Prop :=
 (sel (decide (a2 < 1))
 (R (Mir.AV.tup [(Mir.AV.n (Mir.D.int .i64 0)), (Mir.AV.n (Mir.D.int .i64 0)), (Mir.AV.n (Mir.D.int .i64 1))]))
 (sel (decide (a2 > 6))
 (R (Mir.AV.tup [(Mir.AV.n (Mir.D.int .i64 0)), (Mir.AV.n (Mir.D.int .i64 0)), (Mir.AV.n (Mir.D.int .i64 1))]))
 (sel (decide (a1 < 0))
 (R (Mir.AV.tup [(Mir.AV.n (Mir.D.int .i64 0)), (Mir.AV.n (Mir.D.int .i64 0)), (Mir.AV.n (Mir.D.int .i64 1))]))
 (sel (decide (a1 > (((ByteArray.size a0) : Nat) : Int)))
 (R (Mir.AV.tup [(Mir.AV.n (Mir.D.int .i64 0)), (Mir.AV.n (Mir.D.int .i64 0)), (Mir.AV.n (Mir.D.int .i64 1))]))
 (sel (decide ((Go.IntKind.wrap .i64 ((((ByteArray.size a0) : Nat) : Int) - a1)) < a2))
 (R (Mir.AV.tup [(Mir.AV.n (Mir.D.int .i64 0)), (Mir.AV.n (Mir.D.int .i64 0)), (Mir.AV.n (Mir.D.int .i64 3))]))
 (∃ x0 : (ByteArray → (Int → (Int → (Int → (Int → Prop))))),
 (∃ x1 : (ByteArray → (Int → (Int → (Int → (Int → Nat))))),
 (((@Eq (List (Nat × Mir.Ob)) [] []) ∧
 (x0 a0 a1 a2 0 0)) ∧
 (∀ x2 : ByteArray,
 (∀ x3 : Int,
 (∀ x4 : Int,
 (∀ x5 : Int,
 (∀ x6 : Int,
 ((x0 x2 x3 x4 x5 x6) →
 (∀ x7 : (Nat → Mir.AV),
 (sel (decide (x6 < x4))
 (((0 : Int) ≤ (Go.IntKind.wrap .i64 (x3 + x6))) ∧
 (∃ x8 : UInt8,
 ((((GetElem?.getElem? (Array.toList (ByteArray.data x2)) (Int.toNat (Go.IntKind.wrap .i64 (x3 + x6)))) : (Option UInt8)) = (some x8)) ∧
 ((@Eq (List (Nat × Mir.Ob)) [] []) ∧
 ((x0 x2 x3 x4 (Go.IntKind.wrap .i64 ((Go.IntKind.wrap .i64 (x5 * 256)) + (Go.IntKind.wrap .i64 (((UInt8.toNat x8) : Nat) : Int)))) (Go.IntKind.wrap .i64 (x6 + 1))) ∧
 (((x1 x2 x3 x4 (Go.IntKind.wrap .i64 ((Go.IntKind.wrap .i64 (x5 * 256)) + (Go.IntKind.wrap .i64 (((UInt8.toNat x8) : Nat) : Int)))) (Go.IntKind.wrap .i64 (x6 + 1))) : Nat) < (x1 x2 x3 x4 x5 x6)))))))
 (R (Mir.AV.tup [(Mir.AV.n (Mir.D.int .i64 x5)), (Mir.AV.n (Mir.D.int .i64 (Go.IntKind.wrap .i64 (x3 + x4)))), (Mir.AV.n (Mir.D.int .i64 0))]))))))))))))))))))
theorem vc24 (a0 : ByteArray) (a1 : Int) (a2 : Int) (R : Mir.AV → Prop) : Vc Fs c24.body (argsQ c24 [(.n (.str a0)), (.n (.int .i64 a1)), (.n (.int .i64 a2))]) [] (endQ c24 R) = V24 a0 a1 a2 R := by kernel_rfl
def V25 (a0 : ByteArray) (a1 : Int) (R : Mir.AV → Prop) : Prop :=
 (∃ x0 : Int,
 (∃ x1 : Int,
 (∃ x2 : Int,
 ((Runs Fs 24 [(Mir.AV.n (Mir.D.str a0)), (Mir.AV.n (Mir.D.int .i64 a1)), (Mir.AV.n (Mir.D.int .i64 2))] [] (Mir.AV.tup [(Mir.AV.n (Mir.D.int .i64 x0)), (Mir.AV.n (Mir.D.int .i64 x1)), (Mir.AV.n (Mir.D.int .i64 x2))]) []) ∧
 (sel (x2 != 0)
 (R (Mir.AV.tup [(Mir.AV.n (Mir.D.str (ByteArray.mk (List.toArray [])))), (Mir.AV.n (Mir.D.int .i64 0)), (Mir.AV.n (Mir.D.int .i64 x2))]))
 (sel (decide ((Go.IntKind.wrap .i64 ((((ByteArray.size a0) : Nat) : Int) - x1)) < x0))
 (R (Mir.AV.tup [(Mir.AV.n (Mir.D.str (ByteArray.mk (List.toArray [])))), (Mir.AV.n (Mir.D.int .i64 0)), (Mir.AV.n (Mir.D.int .i64 3))]))
 (((0 : Int) ≤ (Go.IntKind.wrap .i64 (x1 + x0))) ∧
 ((((Go.IntKind.wrap .i64 (x1 + x0)) : Int) ≤ (((ByteArray.size a0) : Nat) : Int)) ∧
 (((0 : Int) ≤ x1) ∧
 (((x1 : Int) ≤ (((Int.toNat (Go.IntKind.wrap .i64 (x1 + x0))) : Nat) : Int)) ∧
 (R (Mir.AV.tup [(Mir.AV.n (Mir.D.str (ByteArray.extract a0 (Int.toNat x1) (Int.toNat (Go.IntKind.wrap .i64 (x1 + x0)))))), (Mir.AV.n (Mir.D.int .i64 (Go.IntKind.wrap .i64 (x1 + x0)))), (Mir.AV.n (Mir.D.int .i64 0))]))))))))))))
theorem vc25 (a0 : ByteArray) (a1 : Int) (R : Mir.AV → Prop) : Vc Fs c25.body (argsQ c25 [(.n (.str a0)), (.n (.int .i64 a1))]) [] (endQ c25 R) = V25 a0 a1 R := by kernel_rfl
def V28 (a0 : ByteArray) (R : Mir.AV → Prop) : Prop :=
 (sel (decide ((((ByteArray.size a0) : Nat) : Int) > 65535))
 (R (Mir.AV.tup [(Mir.AV.n (Mir.D.str (ByteArray.mk (List.toArray [])))), (Mir.AV.n (Mir.D.int .i64 2))]))
 (((256 : Int) ≠ 0) ∧
 (((256 : Int) ≠ 0) ∧
 (((0 : Nat) = 0) ∧
 ((((1 : Nat) = 1) ∨ (@Eq (List Mir.D) [(Mir.D.int .u8 (Go.IntKind.wrap .u8 (Go.IntKind.wrap .i64 (Int.tdiv (((ByteArray.size a0) : Nat) : Int) 256)))), (Mir.D.int .u8 (Go.IntKind.wrap .u8 (Int.tmod (((ByteArray.size a0) : Nat) : Int) 256)))] [])) ∧
 ((((List.all [(Mir.D.int .u8 (Go.IntKind.wrap .u8 (Go.IntKind.wrap .i64 (Int.tdiv (((ByteArray.size a0) : Nat) : Int) 256)))), (Mir.D.int .u8 (Go.IntKind.wrap .u8 (Int.tmod (((ByteArray.size a0) : Nat) : Int) 256)))] Go.Mir.D.isU8) : Bool) = true) ∧
 (((((((ByteArray.size (ByteArray.mk (List.toArray (List.map Go.Mir.byteOf [(Mir.D.int .u8 (Go.IntKind.wrap .u8 (Go.IntKind.wrap .i64 (Int.tdiv (((ByteArray.size a0) : Nat) : Int) 256)))), (Mir.D.int .u8 (Go.IntKind.wrap .u8 (Int.tmod (((ByteArray.size a0) : Nat) : Int) 256)))])))) + (ByteArray.size a0)) : Nat) : Int) : Int) ≤ 9223372036854775807) ∧
 (R (Mir.AV.tup [(Mir.AV.n (Mir.D.str ((ByteArray.mk (List.toArray (List.map Go.Mir.byteOf [(Mir.D.int .u8 (Go.IntKind.wrap .u8 (Go.IntKind.wrap .i64 (Int.tdiv (((ByteArray.size a0) : Nat) : Int) 256)))), (Mir.D.int .u8 (Go.IntKind.wrap .u8 (Int.tmod (((ByteArray.size a0) : Nat) : Int) 256)))]))) ++ a0))), (Mir.AV.n (Mir.D.int .i64 0))])))))))))
theorem vc28 (a0 : ByteArray) (R : Mir.AV → Prop) : Vc Fs c28.body (argsQ c28 [(.n (.str a0))]) [] (endQ c28 R) = V28 a0 R := by kernel_rfl

end Go.Proofs.Ytcakphhnilklnaa.M
