import Derived.Test.YtmmnobdpccdeoaaGreatDoorZ3Fun
namespace Go.Proofs.YtmmnobdpccdeoaaGreatDoor.M
set_option linter.unusedVariables false
set_option linter.unusedSimpArgs false
open Go Go.Mir
set_option linter.unusedVariables false
def V80 (a0 : LD) (R : Mir.AV → Prop) : Prop :=
 (∃ x0 : ByteArray,((Runs Fs 85 [(aL a0),(aS (ByteArray.mk (List.toArray [])))] [] (aS x0) []) ∧ (R (.n (.str x0)))))
theorem vc80 (a0 : LD) (R : Mir.AV → Prop) : Vc Fs c80.body (argsQ c80 [(.o (.sl 1 a0))]) [] (endQ c80 R) = V80 a0 R := by kernel_rfl
def V74 (a0 : ByteArray) (R : Mir.AV → Prop) : Prop :=
 (∃ x0 : ByteArray,((Runs Fs 83 [(aS a0),(aS (ByteArray.mk (List.toArray [0])))] [] (aS x0) []) ∧ (R (.n (.str x0)))))
theorem vc74 (a0 : ByteArray) (R : Mir.AV → Prop) : Vc Fs c74.body (argsQ c74 [(.n (.str a0))]) [] (endQ c74 R) = V74 a0 R := by kernel_rfl
def V67 (a0 : ByteArray) (R : Mir.AV → Prop) : Prop :=
 (∃ x0 : (ByteArray → (Int → Prop)),(∃ x1 : (ByteArray → (Int → Nat)),(((rh []) ∧ (x0 a0 (((ByteArray.size a0) : Nat) : Int))) ∧ (∀ x2 : ByteArray,(∀ x3 : Int,((x0 x2 x3) → (∀ x4 :
 (Nat → Mir.AV),(sel (decide (x3 > 0)) (((0 : Int) ≤ (IntKind.wrap .i64 (x3 - 1))) ∧ (∃ x5 : UInt8,((((GetElem?.getElem? (Array.toList (ByteArray.data x2)) (Int.toNat (IntKind.wrap
 .i64 (x3 - 1)))) : (Option UInt8)) = (some x5)) ∧ (sel ((((UInt8.toNat x5) : Nat) : Int) == 0) ((rh []) ∧ (x0 x2 (IntKind.wrap .i64 (x3 - 1))) ∧ (((x1 x2 (IntKind.wrap .i64 (x3 -
 1))) : Nat) < (x1 x2 x3))) (((0 : Int) ≤ x3) ∧ ((x3 : Int) ≤ (((ByteArray.size x2) : Nat) : Int)) ∧ (R (.n (.str (ByteArray.extract x2 0 (Int.toNat x3)))))))))) (((0 : Int) ≤ x3) ∧
 ((x3 : Int) ≤ (((ByteArray.size x2) : Nat) : Int)) ∧ (R (.n (.str (ByteArray.extract x2 0 (Int.toNat x3))))))))))))))
theorem vc67 (a0 : ByteArray) (R : Mir.AV → Prop) : Vc Fs c67.body (argsQ c67 [(.n (.str a0))]) [] (endQ c67 R) = V67 a0 R := by kernel_rfl
def V70 (a0 : ByteArray) (a1 : Int) (R : Mir.AV → Prop) : Prop :=
 (sel (decide (a1 < 0)) (R (.tup [(.n (.str (ByteArray.mk (List.toArray [])))),(.n (.int .i64 1))])) (sel (decide (a1 > 4096)) (R (.tup [(.n (.str (ByteArray.mk (List.toArray
 [])))),(.n (.int .i64 1))])) (sel (decide ((((ByteArray.size a0) : Nat) : Int) > a1)) (R (.tup [(.n (.str (ByteArray.mk (List.toArray [])))),(.n (.int .i64 2))])) (∃ x0 :
 ByteArray,((Runs Fs 81 [(aS (ByteArray.mk (List.toArray [0]))),(aI (IntKind.wrap .i64 (a1 - (((ByteArray.size a0) : Nat) : Int))))] [] (aS x0) []) ∧ (0 = 0) ∧ (∃ x1 :
 ByteArray,((Runs Fs 80 [(aL [(Mir.D.str a0),(Mir.D.str x0)])] [] (aS x1) []) ∧ (R (.tup [(.n (.str x1)),(.n (.int .i64 0))])))))))))
theorem vc70 (a0 : ByteArray) (a1 : Int) (R : Mir.AV → Prop) : Vc Fs c70.body (argsQ c70 [(.n (.str a0)), (.n (.int .i64 a1))]) [] (endQ c70 R) = V70 a0 a1 R := by kernel_rfl
def V63 (a0 : ByteArray) (a1 : Int) (R : Mir.AV → Prop) : Prop :=
 (sel (decide (a1 < 0)) (R (.tup [(.n (.str (ByteArray.mk (List.toArray [])))),(.n (.int .i64 1))])) (sel (decide (a1 > 4096)) (R (.tup [(.n (.str (ByteArray.mk (List.toArray
 [])))),(.n (.int .i64 1))])) (sel (decide ((((ByteArray.size a0) : Nat) : Int) > a1)) (R (.tup [(.n (.str (ByteArray.mk (List.toArray [])))),(.n (.int .i64 2))])) (((0 : Int) ≤
 (IntKind.wrap .i64 (a1 - (((ByteArray.size a0) : Nat) : Int)))) ∧ ((((Int.toNat (IntKind.wrap .i64 (a1 - (((ByteArray.size a0) : Nat) : Int)))) * 1) : Nat) ≤ 140737488355328) ∧ (rn
 0) ∧ ((rn 1) ∨ (@Eq LD (List.replicate (Int.toNat (IntKind.wrap .i64 (a1 - (((ByteArray.size a0) : Nat) : Int)))) (Mir.D.int .u8 0)) [])) ∧ (((List.all (List.replicate (Int.toNat
 (IntKind.wrap .i64 (a1 - (((ByteArray.size a0) : Nat) : Int)))) (Mir.D.int .u8 0)) Go.Mir.D.isU8) : Bool) = true) ∧ ((((((ByteArray.size a0) + (ByteArray.size (ByteArray.mk
 (List.toArray (List.map Go.Mir.byteOf (List.replicate (Int.toNat (IntKind.wrap .i64 (a1 - (((ByteArray.size a0) : Nat) : Int)))) (Mir.D.int .u8 0))))))) : Nat) : Int) : Int) ≤
 9223372036854775807) ∧ (R (.tup [(.n (.str (a0 ++ (ByteArray.mk (List.toArray (List.map Go.Mir.byteOf (List.replicate (Int.toNat (IntKind.wrap .i64 (a1 - (((ByteArray.size a0) :
 Nat) : Int)))) (Mir.D.int .u8 0)))))))),(.n (.int .i64 0))]))))))
theorem vc63 (a0 : ByteArray) (a1 : Int) (R : Mir.AV → Prop) : Vc Fs c63.body (argsQ c63 [(.n (.str a0)), (.n (.int .i64 a1))]) [] (endQ c63 R) = V63 a0 a1 R := by kernel_rfl
def V71 (a0 : ByteArray) (a1 : Int) (a2 : Int) (R : Mir.AV → Prop) : Prop :=
 (sel (decide (a2 < 1)) (R (.tup [(.n (.int .i64 0)),(.n (.int .i64 0)),(.n (.int .i64 1))])) (sel (decide (a2 > 6)) (R (.tup [(.n (.int .i64 0)),(.n (.int .i64 0)),(.n (.int .i64
 1))])) (sel (decide (a1 < 0)) (R (.tup [(.n (.int .i64 0)),(.n (.int .i64 0)),(.n (.int .i64 1))])) (sel (decide (a1 > (((ByteArray.size a0) : Nat) : Int))) (R (.tup [(.n (.int
 .i64 0)),(.n (.int .i64 0)),(.n (.int .i64 1))])) (sel (decide ((IntKind.wrap .i64 ((((ByteArray.size a0) : Nat) : Int) - a1)) < a2)) (R (.tup [(.n (.int .i64 0)),(.n (.int .i64
 0)),(.n (.int .i64 3))])) (((0 : Int) ≤ (IntKind.wrap .i64 (a1 + a2))) ∧ (((IntKind.wrap .i64 (a1 + a2)) : Int) ≤ (((ByteArray.size a0) : Nat) : Int)) ∧ ((0 : Int) ≤ a1) ∧ ((a1 :
 Int) ≤ (((Int.toNat (IntKind.wrap .i64 (a1 + a2))) : Nat) : Int)) ∧ (∃ x0 : (Int → (Int → (Int → (LD → (Int → (Int → Prop)))))),(∃ x1 : (Int → (Int → (Int → (LD → (Int → (Int →
 Nat)))))),(((rh []) ∧ (x0 a1 a2 0 (Go.Mir.bytesD (ByteArray.extract a0 (Int.toNat a1) (Int.toNat (IntKind.wrap .i64 (a1 + a2))))) ((Go.Mir.bytesD (ByteArray.extract a0 (Int.toNat
 a1) (Int.toNat (IntKind.wrap .i64 (a1 + a2))))).length : Int) 0)) ∧ (∀ x2 : Int,(∀ x3 : Int,(∀ x4 : Int,(∀ x5 : LD,(∀ x6 : Int,(∀ x7 : Int,((x0 x2 x3 x4 x5 x6 x7) → (∀ x8 : (Nat →
 Mir.AV),(sel (decide (x7 < x6)) ((rn 1) ∧ ((0 : Int) ≤ x7) ∧ (∃ x9 : Mir.D,((x5[Int.toNat x7]? = some x9) ∧ (∃ x10 : Int,(((D.cells x9)[0]? = some (Mir.D.int .u8 x10)) ∧ ((0 : Int)
 ≤ 8) ∧ (rh []) ∧ (x0 x2 x3 (IntKind.wrap .i64 (((BitVec.toNat (HOr.hOr (BitVec.ofInt (Go.IntKind.bits .i64) (IntKind.wrap .i64 (x4 * (2 ^ (Min.min (Int.toNat 8) (Go.IntKind.bits
 .i64)))))) (BitVec.ofInt (Go.IntKind.bits .i64) (IntKind.wrap .i64 x10)))) : Nat) : Int)) x5 x6 (IntKind.wrap .i64 (x7 + 1))) ∧ (((x1 x2 x3 (IntKind.wrap .i64 (((BitVec.toNat
 (HOr.hOr (BitVec.ofInt (Go.IntKind.bits .i64) (IntKind.wrap .i64 (x4 * (2 ^ (Min.min (Int.toNat 8) (Go.IntKind.bits .i64)))))) (BitVec.ofInt (Go.IntKind.bits .i64) (IntKind.wrap
 .i64 x10)))) : Nat) : Int)) x5 x6 (IntKind.wrap .i64 (x7 + 1))) : Nat) < (x1 x2 x3 x4 x5 x6 x7))))))) (R (.tup [(.n (.int .i64 x4)),(.n (.int .i64 (IntKind.wrap .i64 (x2 +
 x3)))),(.n (.int .i64 0))]))))))))))))))))))))
theorem vc71 (a0 : ByteArray) (a1 : Int) (a2 : Int) (R : Mir.AV → Prop) : Vc Fs c71.body (argsQ c71 [(.n (.str a0)), (.n (.int .i64 a1)), (.n (.int .i64 a2))]) [] (endQ c71 R) = V71 a0 a1 a2 R := by kernel_rfl
def V65 (a0 : ByteArray) (a1 : Int) (a2 : Int) (R : Mir.AV → Prop) : Prop :=
 (sel (decide (a2 < 1)) (R (.tup [(.n (.int .i64 0)),(.n (.int .i64 0)),(.n (.int .i64 1))])) (sel (decide (a2 > 6)) (R (.tup [(.n (.int .i64 0)),(.n (.int .i64 0)),(.n (.int .i64
 1))])) (sel (decide (a1 < 0)) (R (.tup [(.n (.int .i64 0)),(.n (.int .i64 0)),(.n (.int .i64 1))])) (sel (decide (a1 > (((ByteArray.size a0) : Nat) : Int))) (R (.tup [(.n (.int
 .i64 0)),(.n (.int .i64 0)),(.n (.int .i64 1))])) (sel (decide ((IntKind.wrap .i64 ((((ByteArray.size a0) : Nat) : Int) - a1)) < a2)) (R (.tup [(.n (.int .i64 0)),(.n (.int .i64
 0)),(.n (.int .i64 3))])) (∃ x0 : (ByteArray → (Int → (Int → (Int → (Int → Prop))))),(∃ x1 : (ByteArray → (Int → (Int → (Int → (Int → Nat))))),(((rh []) ∧ (x0 a0 a1 a2 0 0)) ∧ (∀
 x2 : ByteArray,(∀ x3 : Int,(∀ x4 : Int,(∀ x5 : Int,(∀ x6 : Int,((x0 x2 x3 x4 x5 x6) → (∀ x7 : (Nat → Mir.AV),(sel (decide (x6 < x4)) (((0 : Int) ≤ (IntKind.wrap .i64 (x3 + x6))) ∧
 (∃ x8 : UInt8,((((GetElem?.getElem? (Array.toList (ByteArray.data x2)) (Int.toNat (IntKind.wrap .i64 (x3 + x6)))) : (Option UInt8)) = (some x8)) ∧ (rh []) ∧ (x0 x2 x3 x4
 (IntKind.wrap .i64 ((IntKind.wrap .i64 (x5 * 256)) + (IntKind.wrap .i64 (((UInt8.toNat x8) : Nat) : Int)))) (IntKind.wrap .i64 (x6 + 1))) ∧ (((x1 x2 x3 x4 (IntKind.wrap .i64
 ((IntKind.wrap .i64 (x5 * 256)) + (IntKind.wrap .i64 (((UInt8.toNat x8) : Nat) : Int)))) (IntKind.wrap .i64 (x6 + 1))) : Nat) < (x1 x2 x3 x4 x5 x6))))) (R (.tup [(.n (.int .i64
 x5)),(.n (.int .i64 (IntKind.wrap .i64 (x3 + x4)))),(.n (.int .i64 0))]))))))))))))))))))
theorem vc65 (a0 : ByteArray) (a1 : Int) (a2 : Int) (R : Mir.AV → Prop) : Vc Fs c65.body (argsQ c65 [(.n (.str a0)), (.n (.int .i64 a1)), (.n (.int .i64 a2))]) [] (endQ c65 R) = V65 a0 a1 a2 R := by kernel_rfl
def V102 (a0 : Int) (a1 : ByteArray) (R : Mir.AV → Prop) : Prop :=
 (∃ x0 : (Int → (LD → (Int → (Int → Prop)))),(∃ x1 : (Int → (LD → (Int → (Int → Nat)))),(((rh []) ∧ (x0 (IntKind.wrap .u32 (((BitVec.toNat (HXor.hXor (BitVec.ofInt (Go.IntKind.bits
 .u32) (Go.IntKind.max .u32)) (BitVec.ofInt (Go.IntKind.bits .u32) a0))) : Nat) : Int)) (Go.Mir.bytesD a1) ((Go.Mir.bytesD a1).length : Int) 0)) ∧ (∀ x2 : Int,(∀ x3 : LD,(∀ x4 :
 Int,(∀ x5 : Int,((x0 x2 x3 x4 x5) → (∀ x6 : (Nat → Mir.AV),(sel (decide (x5 < x4)) ((rn 1) ∧ ((0 : Int) ≤ x5) ∧ (∃ x7 : Mir.D,((x3[Int.toNat x5]? = some x7) ∧ (∃ x8 :
 Int,(((D.cells x7)[0]? = some (Mir.D.int .u8 x8)) ∧ (∃ x9 : (Int → (LD → (Int → (Int → (Int → Prop))))),(∃ x10 : (Int → (LD → (Int → (Int → (Int → Nat))))),(((rh []) ∧ (x9
 (IntKind.wrap .u32 (((BitVec.toNat (HXor.hXor (BitVec.ofInt (Go.IntKind.bits .u32) x2) (BitVec.ofInt (Go.IntKind.bits .u32) (IntKind.wrap .u32 x8)))) : Nat) : Int)) x3 x4 x5 0)) ∧
 (∀ x11 : Int,(∀ x12 : LD,(∀ x13 : Int,(∀ x14 : Int,(∀ x15 : Int,((x9 x11 x12 x13 x14 x15) → (∀ x16 : (Nat → Mir.AV),(sel (decide (x15 < 8)) (((0 : Int) ≤ 1) ∧ (rh []) ∧ (x9
 (IntKind.wrap .u32 (((BitVec.toNat (HXor.hXor (BitVec.ofInt (Go.IntKind.bits .u32) (Int.fdiv x11 (2 ^ (Min.min (Int.toNat 1) (Go.IntKind.bits .u32))))) (BitVec.ofInt
 (Go.IntKind.bits .u32) (IntKind.wrap .u32 (((BitVec.toNat (HAnd.hAnd (BitVec.ofInt (Go.IntKind.bits .u32) 2197175160) (BitVec.ofInt (Go.IntKind.bits .u32) (IntKind.wrap .u32 (0 -
 (IntKind.wrap .u32 (((BitVec.toNat (HAnd.hAnd (BitVec.ofInt (Go.IntKind.bits .u32) x11) (BitVec.ofInt (Go.IntKind.bits .u32) 1))) : Nat) : Int))))))) : Nat) : Int))))) : Nat) :
 Int)) x12 x13 x14 (IntKind.wrap .i64 (x15 + 1))) ∧ (((x10 (IntKind.wrap .u32 (((BitVec.toNat (HXor.hXor (BitVec.ofInt (Go.IntKind.bits .u32) (Int.fdiv x11 (2 ^ (Min.min (Int.toNat
 1) (Go.IntKind.bits .u32))))) (BitVec.ofInt (Go.IntKind.bits .u32) (IntKind.wrap .u32 (((BitVec.toNat (HAnd.hAnd (BitVec.ofInt (Go.IntKind.bits .u32) 2197175160) (BitVec.ofInt
 (Go.IntKind.bits .u32) (IntKind.wrap .u32 (0 - (IntKind.wrap .u32 (((BitVec.toNat (HAnd.hAnd (BitVec.ofInt (Go.IntKind.bits .u32) x11) (BitVec.ofInt (Go.IntKind.bits .u32) 1))) :
 Nat) : Int))))))) : Nat) : Int))))) : Nat) : Int)) x12 x13 x14 (IntKind.wrap .i64 (x15 + 1))) : Nat) < (x10 x11 x12 x13 x14 x15))) ((rh []) ∧ (x0 x11 x12 x13 (IntKind.wrap .i64
 (x14 + 1))) ∧ (((x1 x11 x12 x13 (IntKind.wrap .i64 (x14 + 1))) : Nat) < (x1 x2 x3 x4 x5))))))))))))))))))) (R (.n (Mir.D.int .u32 (IntKind.wrap .u32 (((BitVec.toNat (HXor.hXor
 (BitVec.ofInt (Go.IntKind.bits .u32) (Go.IntKind.max .u32)) (BitVec.ofInt (Go.IntKind.bits .u32) x2))) : Nat) : Int)))))))))))))))
theorem vc102 (a0 : Int) (a1 : ByteArray) (R : Mir.AV → Prop) : Vc Fs c102.body (argsQ c102 [(.n (.int .u32 a0)), (.n (.str a1))]) [] (endQ c102 R) = V102 a0 a1 R := by kernel_rfl
def V84 (a0 : Int) (a1 : ByteArray) (R : Mir.AV → Prop) : Prop :=
 (∃ x0 : (ByteArray → (Int → (Int → Prop))),(∃ x1 : (ByteArray → (Int → (Int → Nat))),(((rh []) ∧ (x0 a1 (IntKind.wrap .u32 (4294967295 - a0)) 0)) ∧ (∀ x2 : ByteArray,(∀ x3 : Int,(∀
 x4 : Int,((x0 x2 x3 x4) → (∀ x5 : (Nat → Mir.AV),(sel (decide (x4 < (((ByteArray.size x2) : Nat) : Int))) (∃ x6 : (ByteArray → (Int → (Int → (Int → Prop)))),(∃ x7 : (ByteArray →
 (Int → (Int → (Int → Nat)))),(((rh []) ∧ (x6 x2 x3 x4 0)) ∧ (∀ x8 : ByteArray,(∀ x9 : Int,(∀ x10 : Int,(∀ x11 : Int,((x6 x8 x9 x10 x11) → (∀ x12 : (Nat → Mir.AV),(sel (decide (x11
 < 8)) (((0 : Int) ≤ x10) ∧ (∃ x13 : UInt8,((((GetElem?.getElem? (Array.toList (ByteArray.data x8)) (Int.toNat x10)) : (Option UInt8)) = (some x13)) ∧ ((0 : Int) ≤ (IntKind.wrap
 .u64 x11)) ∧ ((2 : Int) ≠ 0) ∧ ((2 : Int) ≠ 0) ∧ ((2 : Int) ≠ 0) ∧ (sel ((Int.tmod x9 2) != (Int.tmod (Int.fdiv (IntKind.wrap .u32 (((UInt8.toNat x13) : Nat) : Int)) (2 ^ (Min.min
 (Int.toNat (IntKind.wrap .u64 x11)) (Go.IntKind.bits .u32)))) 2)) ((rh []) ∧ (x6 x8 (IntKind.wrap .u32 (((BitVec.toNat (HXor.hXor (BitVec.ofInt (Go.IntKind.bits .u32) (IntKind.wrap
 .u32 (Int.tdiv x9 2))) (BitVec.ofInt (Go.IntKind.bits .u32) 2197175160))) : Nat) : Int)) x10 (IntKind.wrap .i64 (x11 + 1))) ∧ (((x7 x8 (IntKind.wrap .u32 (((BitVec.toNat (HXor.hXor
 (BitVec.ofInt (Go.IntKind.bits .u32) (IntKind.wrap .u32 (Int.tdiv x9 2))) (BitVec.ofInt (Go.IntKind.bits .u32) 2197175160))) : Nat) : Int)) x10 (IntKind.wrap .i64 (x11 + 1))) :
 Nat) < (x7 x8 x9 x10 x11))) ((rh []) ∧ (x6 x8 (IntKind.wrap .u32 (Int.tdiv x9 2)) x10 (IntKind.wrap .i64 (x11 + 1))) ∧ (((x7 x8 (IntKind.wrap .u32 (Int.tdiv x9 2)) x10
 (IntKind.wrap .i64 (x11 + 1))) : Nat) < (x7 x8 x9 x10 x11))))))) ((rh []) ∧ (x0 x8 x9 (IntKind.wrap .i64 (x10 + 1))) ∧ (((x1 x8 x9 (IntKind.wrap .i64 (x10 + 1))) : Nat) < (x1 x2 x3
 x4))))))))))))) (R (.n (Mir.D.int .u32 (IntKind.wrap .u32 (4294967295 - x3))))))))))))))
theorem vc84 (a0 : Int) (a1 : ByteArray) (R : Mir.AV → Prop) : Vc Fs c84.body (argsQ c84 [(.n (.int .u32 a0)), (.n (.str a1))]) [] (endQ c84 R) = V84 a0 a1 R := by kernel_rfl
def V92 (a0 : LD) (R : Mir.AV → Prop) : Prop :=
 (∃ x0 : (Int → (LD → (Int → (Int → Prop)))),(∃ x1 : (Int → (LD → (Int → (Int → Nat)))),(((rh []) ∧ (x0 0 a0 (a0.length : Int) 0)) ∧ (∀ x2 : Int,(∀ x3 : LD,(∀ x4 : Int,(∀ x5 :
 Int,((x0 x2 x3 x4 x5) → (∀ x6 : (Nat → Mir.AV),(sel (decide (x5 < x4)) ((rn 1) ∧ ((0 : Int) ≤ x5) ∧ (∃ x7 : Mir.D,((x3[Int.toNat x5]? = some x7) ∧ (∃ x8 : ByteArray,(((D.cells
 x7)[0]? = some (Mir.D.str x8)) ∧ (∃ x9 : Int,((Runs Fs 102 [(.n (Mir.D.int .u32 x2)),(aS x8)] [] (.n (Mir.D.int .u32 x9)) []) ∧ (rh []) ∧ (x0 x9 x3 x4 (IntKind.wrap .i64 (x5 + 1)))
 ∧ (((x1 x9 x3 x4 (IntKind.wrap .i64 (x5 + 1))) : Nat) < (x1 x2 x3 x4 x5))))))))) (R (.n (Mir.D.int .u32 x2)))))))))))))
theorem vc92 (a0 : LD) (R : Mir.AV → Prop) : Vc Fs c92.body (argsQ c92 [(.o (.sl 1 a0))]) [] (endQ c92 R) = V92 a0 R := by kernel_rfl
def V79 (a0 : ByteArray) (R : Mir.AV → Prop) : Prop :=
 (∃ x0 : Int,((Runs Fs 84 [(.n (Mir.D.int .u32 0)),(aS a0)] [] (.n (Mir.D.int .u32 x0)) []) ∧ (R (.n (Mir.D.int .u32 x0)))))
theorem vc79 (a0 : ByteArray) (R : Mir.AV → Prop) : Vc Fs c79.body (argsQ c79 [(.n (.str a0))]) [] (endQ c79 R) = V79 a0 R := by kernel_rfl
def V82 (a0 : ByteArray) (R : Mir.AV → Prop) : Prop :=
 ((0 = 0) ∧ (∃ x0 : Int,((Runs Fs 92 [(aL [(Mir.D.str a0)])] [] (.n (Mir.D.int .u32 x0)) []) ∧ ((0 : Int) ≤ 8) ∧ ((0 : Int) ≤ 16) ∧ ((0 : Int) ≤ 24) ∧ (rn 0) ∧ ((rn 1) ∨ (@Eq LD
 [(Mir.D.int .u8 (IntKind.wrap .u8 x0)),(Mir.D.int .u8 (IntKind.wrap .u8 (Int.fdiv x0 (2 ^ (Min.min (Int.toNat 8) (Go.IntKind.bits .u32)))))),(Mir.D.int .u8 (IntKind.wrap .u8
 (Int.fdiv x0 (2 ^ (Min.min (Int.toNat 16) (Go.IntKind.bits .u32)))))),(Mir.D.int .u8 (IntKind.wrap .u8 (Int.fdiv x0 (2 ^ (Min.min (Int.toNat 24) (Go.IntKind.bits .u32))))))] [])) ∧
 (((List.all [(Mir.D.int .u8 (IntKind.wrap .u8 x0)),(Mir.D.int .u8 (IntKind.wrap .u8 (Int.fdiv x0 (2 ^ (Min.min (Int.toNat 8) (Go.IntKind.bits .u32)))))),(Mir.D.int .u8
 (IntKind.wrap .u8 (Int.fdiv x0 (2 ^ (Min.min (Int.toNat 16) (Go.IntKind.bits .u32)))))),(Mir.D.int .u8 (IntKind.wrap .u8 (Int.fdiv x0 (2 ^ (Min.min (Int.toNat 24) (Go.IntKind.bits
 .u32))))))] Go.Mir.D.isU8) : Bool) = true) ∧ (0 = 0) ∧ (∃ x1 : ByteArray,((Runs Fs 80 [(aL [(Mir.D.str a0),(Mir.D.str (ByteArray.mk (List.toArray (List.map Go.Mir.byteOf
 [(Mir.D.int .u8 (IntKind.wrap .u8 x0)),(Mir.D.int .u8 (IntKind.wrap .u8 (Int.fdiv x0 (2 ^ (Min.min (Int.toNat 8) (Go.IntKind.bits .u32)))))),(Mir.D.int .u8 (IntKind.wrap .u8
 (Int.fdiv x0 (2 ^ (Min.min (Int.toNat 16) (Go.IntKind.bits .u32)))))),(Mir.D.int .u8 (IntKind.wrap .u8 (Int.fdiv x0 (2 ^ (Min.min (Int.toNat 24) (Go.IntKind.bits .u32))))))]))))])]
 [] (aS x1) []) ∧ (R (.n (.str x1))))))))
theorem vc82 (a0 : ByteArray) (R : Mir.AV → Prop) : Vc Fs c82.body (argsQ c82 [(.n (.str a0))]) [] (endQ c82 R) = V82 a0 R := by kernel_rfl
def V64 (a0 : ByteArray) (R : Mir.AV → Prop) : Prop :=
 (∃ x0 : Int,((Runs Fs 79 [(aS a0)] [] (.n (Mir.D.int .u32 x0)) []) ∧ ((256 : Int) ≠ 0) ∧ ((256 : Int) ≠ 0) ∧ ((256 : Int) ≠ 0) ∧ ((65536 : Int) ≠ 0) ∧ ((256 : Int) ≠ 0) ∧
 ((16777216 : Int) ≠ 0) ∧ (rn 0) ∧ ((rn 1) ∨ (@Eq LD [(Mir.D.int .u8 (IntKind.wrap .u8 (Int.tmod x0 256))),(Mir.D.int .u8 (IntKind.wrap .u8 (Int.tmod (IntKind.wrap .u32 (Int.tdiv x0
 256)) 256))),(Mir.D.int .u8 (IntKind.wrap .u8 (Int.tmod (IntKind.wrap .u32 (Int.tdiv x0 65536)) 256))),(Mir.D.int .u8 (IntKind.wrap .u8 (IntKind.wrap .u32 (Int.tdiv x0
 16777216))))] [])) ∧ (((List.all [(Mir.D.int .u8 (IntKind.wrap .u8 (Int.tmod x0 256))),(Mir.D.int .u8 (IntKind.wrap .u8 (Int.tmod (IntKind.wrap .u32 (Int.tdiv x0 256))
 256))),(Mir.D.int .u8 (IntKind.wrap .u8 (Int.tmod (IntKind.wrap .u32 (Int.tdiv x0 65536)) 256))),(Mir.D.int .u8 (IntKind.wrap .u8 (IntKind.wrap .u32 (Int.tdiv x0 16777216))))]
 Go.Mir.D.isU8) : Bool) = true) ∧ ((((((ByteArray.size a0) + (ByteArray.size (ByteArray.mk (List.toArray (List.map Go.Mir.byteOf [(Mir.D.int .u8 (IntKind.wrap .u8 (Int.tmod x0
 256))),(Mir.D.int .u8 (IntKind.wrap .u8 (Int.tmod (IntKind.wrap .u32 (Int.tdiv x0 256)) 256))),(Mir.D.int .u8 (IntKind.wrap .u8 (Int.tmod (IntKind.wrap .u32 (Int.tdiv x0 65536))
 256))),(Mir.D.int .u8 (IntKind.wrap .u8 (IntKind.wrap .u32 (Int.tdiv x0 16777216))))]))))) : Nat) : Int) : Int) ≤ 9223372036854775807) ∧ (R (.n (.str (a0 ++ (ByteArray.mk
 (List.toArray (List.map Go.Mir.byteOf [(Mir.D.int .u8 (IntKind.wrap .u8 (Int.tmod x0 256))),(Mir.D.int .u8 (IntKind.wrap .u8 (Int.tmod (IntKind.wrap .u32 (Int.tdiv x0 256))
 256))),(Mir.D.int .u8 (IntKind.wrap .u8 (Int.tmod (IntKind.wrap .u32 (Int.tdiv x0 65536)) 256))),(Mir.D.int .u8 (IntKind.wrap .u8 (IntKind.wrap .u32 (Int.tdiv x0
 16777216))))])))))))))
theorem vc64 (a0 : ByteArray) (R : Mir.AV → Prop) : Vc Fs c64.body (argsQ c64 [(.n (.str a0))]) [] (endQ c64 R) = V64 a0 R := by kernel_rfl
def V73 (a0_0 : Int) (a0_1 : Int) (a0_2 : ByteArray) (R : Mir.AV → Prop) : Prop :=
 (sel (decide (a0_0 ≥ 1)) (sel (decide (a0_0 ≤ 5)) (sel (decide (a0_1 ≥ 0)) (sel (decide (a0_1 ≤ 1099511627776)) (R (.n (.bool (decide ((((ByteArray.size a0_2) : Nat) : Int) ≤
 4000))))) (R (.n (.bool false)))) (R (.n (.bool false)))) (R (.n (.bool false)))) (R (.n (.bool false))))
theorem vc73 (a0_0 : Int) (a0_1 : Int) (a0_2 : ByteArray) (R : Mir.AV → Prop) : Vc Fs c73.body (argsQ c73 [(.agg [(.n (.int .i64 a0_0)), (.n (.int .i64 a0_1)), (.n (.str a0_2))])]) [] (endQ c73 R) = V73 a0_0 a0_1 a0_2 R := by kernel_rfl
def V66 (a0_0 : Int) (a0_1 : Int) (a0_2 : ByteArray) (R : Mir.AV → Prop) : Prop :=
 (sel (decide (a0_0 ≥ 1)) (sel (decide (a0_0 ≤ 5)) (sel (decide (a0_1 ≥ 0)) (sel (decide (a0_1 ≤ 1099511627776)) (R (.n (.bool (decide ((((ByteArray.size a0_2) : Nat) : Int) ≤
 4000))))) (R (.n (.bool false)))) (R (.n (.bool false)))) (R (.n (.bool false)))) (R (.n (.bool false))))
theorem vc66 (a0_0 : Int) (a0_1 : Int) (a0_2 : ByteArray) (R : Mir.AV → Prop) : Vc Fs c66.body (argsQ c66 [(.agg [(.n (.int .i64 a0_0)), (.n (.int .i64 a0_1)), (.n (.str a0_2))])]) [] (endQ c66 R) = V66 a0_0 a0_1 a0_2 R := by kernel_rfl
def V72 (a0 : ByteArray) (R : Mir.AV → Prop) : Prop :=
 (sel (decide ((IntKind.wrap .i64 ((((ByteArray.size a0) : Nat) : Int) - 4)) < 0)) (R (.tup [(.n (.str (ByteArray.mk (List.toArray [])))),(.n (.int .i64 3))])) (((0 : Int) ≤
 (IntKind.wrap .i64 ((((ByteArray.size a0) : Nat) : Int) - 4))) ∧ (((IntKind.wrap .i64 ((((ByteArray.size a0) : Nat) : Int) - 4)) : Int) ≤ (((ByteArray.size a0) : Nat) : Int)) ∧ (∃
 x0 : ByteArray,((Runs Fs 82 [(aS (ByteArray.extract a0 0 (Int.toNat (IntKind.wrap .i64 ((((ByteArray.size a0) : Nat) : Int) - 4)))))] [] (aS x0) []) ∧ (sel (Bool.not
 ((ByteArray.toList x0) == (ByteArray.toList a0))) (R (.tup [(.n (.str (ByteArray.mk (List.toArray [])))),(.n (.int .i64 41))])) (((0 : Int) ≤ (IntKind.wrap .i64 ((((ByteArray.size
 a0) : Nat) : Int) - 4))) ∧ (((IntKind.wrap .i64 ((((ByteArray.size a0) : Nat) : Int) - 4)) : Int) ≤ (((ByteArray.size a0) : Nat) : Int)) ∧ (R (.tup [(.n (.str (ByteArray.extract a0
 0 (Int.toNat (IntKind.wrap .i64 ((((ByteArray.size a0) : Nat) : Int) - 4)))))),(.n (.int .i64 0))]))))))))
theorem vc72 (a0 : ByteArray) (R : Mir.AV → Prop) : Vc Fs c72.body (argsQ c72 [(.n (.str a0))]) [] (endQ c72 R) = V72 a0 R := by kernel_rfl
def V50 (a0 : ByteArray) (R : Mir.AV → Prop) : Prop :=
 (∃ x0 : ByteArray,(∃ x1 : Int,((Runs Fs 70 [(aS a0),(aI 4096)] [] (.tup [(aS x0),(aI x1)]) []) ∧ (sel (x1 != 0) (R (.tup [(.agg [(.n (.int .i64 0)),(.n (.int .i64 0)),(.n (.str
 (ByteArray.mk (List.toArray []))))]),(.n (.int .i64 1))])) (∃ x2 : Int,(∃ x3 : Int,(∃ x4 : Int,((Runs Fs 71 [(aS x0),(aI 7),(aI 2)] [] (.tup [(aI x2),(aI x3),(aI x4)]) []) ∧ (sel
 (decide (x2 > 4000)) (R (.tup [(.agg [(.n (.int .i64 0)),(.n (.int .i64 0)),(.n (.str (ByteArray.mk (List.toArray []))))]),(.n (.int .i64 4))])) (((0 : Int) ≤ (IntKind.wrap .i64
 ((IntKind.wrap .i64 (9 + x2)) + 4))) ∧ (((IntKind.wrap .i64 ((IntKind.wrap .i64 (9 + x2)) + 4)) : Int) ≤ (((ByteArray.size x0) : Nat) : Int)) ∧ (∃ x5 : ByteArray,(∃ x6 : Int,((Runs
 Fs 72 [(aS (ByteArray.extract x0 0 (Int.toNat (IntKind.wrap .i64 ((IntKind.wrap .i64 (9 + x2)) + 4)))))] [] (.tup [(aS x5),(aI x6)]) []) ∧ (sel (x6 != 0) (R (.tup [(.agg [(.n (.int
 .i64 0)),(.n (.int .i64 0)),(.n (.str (ByteArray.mk (List.toArray []))))]),(.n (.int .i64 x6))])) (∃ x7 : Int,(∃ x8 : Int,(∃ x9 : Int,((Runs Fs 71 [(aS x5),(aI 0),(aI 1)] [] (.tup
 [(aI x7),(aI x8),(aI x9)]) []) ∧ (∃ x10 : Int,(∃ x11 : Int,(∃ x12 : Int,((Runs Fs 71 [(aS x5),(aI x8),(aI 6)] [] (.tup [(aI x10),(aI x11),(aI x12)]) []) ∧ ((0 : Int) ≤ 9) ∧ ((9 :
 Int) ≤ (((ByteArray.size x5) : Nat) : Int)) ∧ (sel (decide (x7 < 1)) (R (.tup [(.agg [(.n (.int .i64 0)),(.n (.int .i64 0)),(.n (.str (ByteArray.mk (List.toArray []))))]),(.n (.int
 .i64 40))])) (sel (decide (x7 > 5)) (R (.tup [(.agg [(.n (.int .i64 0)),(.n (.int .i64 0)),(.n (.str (ByteArray.mk (List.toArray []))))]),(.n (.int .i64 40))])) (∃ x13 :
 Bool,((Runs Fs 73 [(.agg [(aI x7),(aI x10),(aS (ByteArray.extract x5 (Int.toNat 9) (ByteArray.size x5)))])] [] (aB x13) []) ∧ (sel (Bool.not x13) (R (.tup [(.agg [(.n (.int .i64
 0)),(.n (.int .i64 0)),(.n (.str (ByteArray.mk (List.toArray []))))]),(.n (.int .i64 4))])) (((0 : Int) ≤ (IntKind.wrap .i64 ((IntKind.wrap .i64 (9 + x2)) + 4))) ∧ (((IntKind.wrap
 .i64 ((IntKind.wrap .i64 (9 + x2)) + 4)) : Int) ≤ (((ByteArray.size x0) : Nat) : Int)) ∧ (∃ x14 : ByteArray,((Runs Fs 74 [(aS (ByteArray.extract x0 (Int.toNat (IntKind.wrap .i64
 ((IntKind.wrap .i64 (9 + x2)) + 4))) (ByteArray.size x0)))] [] (aS x14) []) ∧ (sel (Bool.not ((ByteArray.toList x14) == (ByteArray.toList (ByteArray.mk (List.toArray []))))) (R
 (.tup [(.agg [(.n (.int .i64 0)),(.n (.int .i64 0)),(.n (.str (ByteArray.mk (List.toArray []))))]),(.n (.int .i64 4))])) (R (.tup [(.agg [(.n (.int .i64 x7)),(.n (.int .i64
 x10)),(.n (.str (ByteArray.extract x5 (Int.toNat 9) (ByteArray.size x5))))]),(.n (.int .i64 0))])))))))))))))))))))))))))))))))))
theorem vc50 (a0 : ByteArray) (R : Mir.AV → Prop) : Vc Fs c50.body (argsQ c50 [(.n (.str a0))]) [] (endQ c50 R) = V50 a0 R := by kernel_rfl
def V47 (a0 : ByteArray) (R : Mir.AV → Prop) : Prop :=
 (sel (decide ((((ByteArray.size a0) : Nat) : Int) > 4096)) (R (.tup [(.agg [(.n (.int .i64 0)),(.n (.int .i64 0)),(.n (.str (ByteArray.mk (List.toArray []))))]),(.n (.int .i64
 1))])) (∃ x0 : ByteArray,(∃ x1 : Int,((Runs Fs 63 [(aS a0),(aI 4096)] [] (.tup [(aS x0),(aI x1)]) []) ∧ ((0 : Int) ≤ 7) ∧ (∃ x2 : UInt8,((((GetElem?.getElem? (Array.toList
 (ByteArray.data x0)) (Int.toNat 7)) : (Option UInt8)) = (some x2)) ∧ ((0 : Int) ≤ 8) ∧ (∃ x3 : UInt8,((((GetElem?.getElem? (Array.toList (ByteArray.data x0)) (Int.toNat 8)) :
 (Option UInt8)) = (some x3)) ∧ (sel (decide ((IntKind.wrap .i64 ((IntKind.wrap .i64 (256 * (IntKind.wrap .i64 (((UInt8.toNat x2) : Nat) : Int)))) + (IntKind.wrap .i64
 (((UInt8.toNat x3) : Nat) : Int)))) > 4000)) (R (.tup [(.agg [(.n (.int .i64 0)),(.n (.int .i64 0)),(.n (.str (ByteArray.mk (List.toArray []))))]),(.n (.int .i64 4))])) (((0 : Int)
 ≤ (IntKind.wrap .i64 (9 + (IntKind.wrap .i64 ((IntKind.wrap .i64 (256 * (IntKind.wrap .i64 (((UInt8.toNat x2) : Nat) : Int)))) + (IntKind.wrap .i64 (((UInt8.toNat x3) : Nat) :
 Int))))))) ∧ (((IntKind.wrap .i64 (9 + (IntKind.wrap .i64 ((IntKind.wrap .i64 (256 * (IntKind.wrap .i64 (((UInt8.toNat x2) : Nat) : Int)))) + (IntKind.wrap .i64 (((UInt8.toNat x3)
 : Nat) : Int)))))) : Int) ≤ (((ByteArray.size x0) : Nat) : Int)) ∧ (∃ x4 : ByteArray,((Runs Fs 64 [(aS (ByteArray.extract x0 0 (Int.toNat (IntKind.wrap .i64 (9 + (IntKind.wrap .i64
 ((IntKind.wrap .i64 (256 * (IntKind.wrap .i64 (((UInt8.toNat x2) : Nat) : Int)))) + (IntKind.wrap .i64 (((UInt8.toNat x3) : Nat) : Int)))))))))] [] (aS x4) []) ∧ ((0 : Int) ≤
 (IntKind.wrap .i64 (13 + (IntKind.wrap .i64 ((IntKind.wrap .i64 (256 * (IntKind.wrap .i64 (((UInt8.toNat x2) : Nat) : Int)))) + (IntKind.wrap .i64 (((UInt8.toNat x3) : Nat) :
 Int))))))) ∧ (((IntKind.wrap .i64 (13 + (IntKind.wrap .i64 ((IntKind.wrap .i64 (256 * (IntKind.wrap .i64 (((UInt8.toNat x2) : Nat) : Int)))) + (IntKind.wrap .i64 (((UInt8.toNat x3)
 : Nat) : Int)))))) : Int) ≤ (((ByteArray.size x0) : Nat) : Int)) ∧ (sel (Bool.not ((ByteArray.toList x4) == (ByteArray.toList (ByteArray.extract x0 0 (Int.toNat (IntKind.wrap .i64
 (13 + (IntKind.wrap .i64 ((IntKind.wrap .i64 (256 * (IntKind.wrap .i64 (((UInt8.toNat x2) : Nat) : Int)))) + (IntKind.wrap .i64 (((UInt8.toNat x3) : Nat) : Int))))))))))) (R (.tup
 [(.agg [(.n (.int .i64 0)),(.n (.int .i64 0)),(.n (.str (ByteArray.mk (List.toArray []))))]),(.n (.int .i64 41))])) (∃ x5 : Int,(∃ x6 : Int,(∃ x7 : Int,((Runs Fs 65 [(aS x0),(aI
 1),(aI 6)] [] (.tup [(aI x5),(aI x6),(aI x7)]) []) ∧ ((0 : Int) ≤ 0) ∧ (∃ x8 : UInt8,((((GetElem?.getElem? (Array.toList (ByteArray.data x0)) (Int.toNat 0)) : (Option UInt8)) =
 (some x8)) ∧ ((0 : Int) ≤ (IntKind.wrap .i64 (9 + (IntKind.wrap .i64 ((IntKind.wrap .i64 (256 * (IntKind.wrap .i64 (((UInt8.toNat x2) : Nat) : Int)))) + (IntKind.wrap .i64
 (((UInt8.toNat x3) : Nat) : Int))))))) ∧ (((IntKind.wrap .i64 (9 + (IntKind.wrap .i64 ((IntKind.wrap .i64 (256 * (IntKind.wrap .i64 (((UInt8.toNat x2) : Nat) : Int)))) +
 (IntKind.wrap .i64 (((UInt8.toNat x3) : Nat) : Int)))))) : Int) ≤ (((ByteArray.size x0) : Nat) : Int)) ∧ ((0 : Int) ≤ 9) ∧ ((9 : Int) ≤ (((Int.toNat (IntKind.wrap .i64 (9 +
 (IntKind.wrap .i64 ((IntKind.wrap .i64 (256 * (IntKind.wrap .i64 (((UInt8.toNat x2) : Nat) : Int)))) + (IntKind.wrap .i64 (((UInt8.toNat x3) : Nat) : Int))))))) : Nat) : Int)) ∧
 (sel (decide ((IntKind.wrap .i64 (((UInt8.toNat x8) : Nat) : Int)) < 1)) (R (.tup [(.agg [(.n (.int .i64 0)),(.n (.int .i64 0)),(.n (.str (ByteArray.mk (List.toArray []))))]),(.n
 (.int .i64 40))])) (sel (decide ((IntKind.wrap .i64 (((UInt8.toNat x8) : Nat) : Int)) > 5)) (R (.tup [(.agg [(.n (.int .i64 0)),(.n (.int .i64 0)),(.n (.str (ByteArray.mk
 (List.toArray []))))]),(.n (.int .i64 40))])) (∃ x9 : Bool,((Runs Fs 66 [(.agg [(aI (IntKind.wrap .i64 (((UInt8.toNat x8) : Nat) : Int))),(aI x5),(aS (ByteArray.extract x0
 (Int.toNat 9) (Int.toNat (IntKind.wrap .i64 (9 + (IntKind.wrap .i64 ((IntKind.wrap .i64 (256 * (IntKind.wrap .i64 (((UInt8.toNat x2) : Nat) : Int)))) + (IntKind.wrap .i64
 (((UInt8.toNat x3) : Nat) : Int)))))))))])] [] (aB x9) []) ∧ (sel (Bool.not x9) (R (.tup [(.agg [(.n (.int .i64 0)),(.n (.int .i64 0)),(.n (.str (ByteArray.mk (List.toArray
 []))))]),(.n (.int .i64 4))])) (((0 : Int) ≤ (IntKind.wrap .i64 (13 + (IntKind.wrap .i64 ((IntKind.wrap .i64 (256 * (IntKind.wrap .i64 (((UInt8.toNat x2) : Nat) : Int)))) +
 (IntKind.wrap .i64 (((UInt8.toNat x3) : Nat) : Int))))))) ∧ (((IntKind.wrap .i64 (13 + (IntKind.wrap .i64 ((IntKind.wrap .i64 (256 * (IntKind.wrap .i64 (((UInt8.toNat x2) : Nat) :
 Int)))) + (IntKind.wrap .i64 (((UInt8.toNat x3) : Nat) : Int)))))) : Int) ≤ (((ByteArray.size x0) : Nat) : Int)) ∧ (∃ x10 : ByteArray,((Runs Fs 67 [(aS (ByteArray.extract x0
 (Int.toNat (IntKind.wrap .i64 (13 + (IntKind.wrap .i64 ((IntKind.wrap .i64 (256 * (IntKind.wrap .i64 (((UInt8.toNat x2) : Nat) : Int)))) + (IntKind.wrap .i64 (((UInt8.toNat x3) :
 Nat) : Int))))))) (ByteArray.size x0)))] [] (aS x10) []) ∧ (sel (Bool.not ((ByteArray.toList x10) == (ByteArray.toList (ByteArray.mk (List.toArray []))))) (R (.tup [(.agg [(.n
 (.int .i64 0)),(.n (.int .i64 0)),(.n (.str (ByteArray.mk (List.toArray []))))]),(.n (.int .i64 4))])) (R (.tup [(.agg [(.n (.int .i64 (IntKind.wrap .i64 (((UInt8.toNat x8) : Nat)
 : Int)))),(.n (.int .i64 x5)),(.n (.str (ByteArray.extract x0 (Int.toNat 9) (Int.toNat (IntKind.wrap .i64 (9 + (IntKind.wrap .i64 ((IntKind.wrap .i64 (256 * (IntKind.wrap .i64
 (((UInt8.toNat x2) : Nat) : Int)))) + (IntKind.wrap .i64 (((UInt8.toNat x3) : Nat) : Int))))))))))]),(.n (.int .i64 0))]))))))))))))))))))))))))))))))
theorem vc47 (a0 : ByteArray) (R : Mir.AV → Prop) : Vc Fs c47.body (argsQ c47 [(.n (.str a0))]) [] (endQ c47 R) = V47 a0 R := by kernel_rfl
def V75 (a0 : LD) (a1 : Int) (R : Mir.AV → Prop) : Prop :=
 (∃ x0 : (LD → (Int → (Int → (Int → Prop)))),(∃ x1 : (LD → (Int → (Int → (Int → Nat)))),(((rh []) ∧ (x0 a0 a1 (a0.length : Int) 0)) ∧ (∀ x2 : LD,(∀ x3 : Int,(∀ x4 : Int,(∀ x5 :
 Int,((x0 x2 x3 x4 x5) → (∀ x6 : (Nat → Mir.AV),(sel (decide (x5 < x4)) ((rn 1) ∧ ((0 : Int) ≤ x5) ∧ (∃ x7 : Mir.D,((x2[Int.toNat x5]? = some x7) ∧ (∃ x8 : Int,(((D.cells x7)[0]? =
 some (Mir.D.int .i64 x8)) ∧ (sel (x3 == x8) (R (.n (.int .i64 x5))) ((rh []) ∧ (x0 x2 x3 x4 (IntKind.wrap .i64 (x5 + 1))) ∧ (((x1 x2 x3 x4 (IntKind.wrap .i64 (x5 + 1))) : Nat) <
 (x1 x2 x3 x4 x5))))))))) (R (.n (.int .i64 (-1))))))))))))))
theorem vc75 (a0 : LD) (a1 : Int) (R : Mir.AV → Prop) : Vc Fs c75.body (argsQ c75 [(.o (.sl 1 a0)), (.n (.int .i64 a1))]) [] (endQ c75 R) = V75 a0 a1 R := by kernel_rfl
def V51 (a0 : LD) (a1 : Int) (R : Mir.AV → Prop) : Prop :=
 (∃ x0 : Int,((Runs Fs 75 [(aL a0),(aI a1)] [] (aI x0) []) ∧ (R (.n (.bool (decide (x0 ≥ 0)))))))
theorem vc51 (a0 : LD) (a1 : Int) (R : Mir.AV → Prop) : Vc Fs c51.body (argsQ c51 [(.o (.sl 1 a0)), (.n (.int .i64 a1))]) [] (endQ c51 R) = V51 a0 a1 R := by kernel_rfl
def V38 (a0 : ByteArray) (a1 : LD) (R : Mir.AV → Prop) : Prop :=
 (∃ x0 : Int,(∃ x1 : Int,(∃ x2 : ByteArray,(∃ x3 : Int,((Runs Fs 50 [(aS a0)] [] (.tup [(.agg [(aI x0),(aI x1),(aS x2)]),(aI x3)]) []) ∧ (sel (x3 != 0) (R (.tup [(.agg [(.n (.int
 .i64 0)),(.n (.int .i64 0)),(.n (.str (ByteArray.mk (List.toArray []))))]),(.n (.int .i64 x3))])) (∃ x4 : Bool,((Runs Fs 51 [(aL a1),(aI x0)] [] (aB x4) []) ∧ (sel (Bool.not x4) (R
 (.tup [(.agg [(.n (.int .i64 0)),(.n (.int .i64 0)),(.n (.str (ByteArray.mk (List.toArray []))))]),(.n (.int .i64 40))])) (R (.tup [(.agg [(.n (.int .i64 x0)),(.n (.int .i64
 x1)),(.n (.str x2))]),(.n (.int .i64 0))])))))))))))
theorem vc38 (a0 : ByteArray) (a1 : LD) (R : Mir.AV → Prop) : Vc Fs c38.body (argsQ c38 [(.n (.str a0)), (.o (.sl 1 a1))]) [] (endQ c38 R) = V38 a0 a1 R := by kernel_rfl
def V76 (a0 : ByteArray) (a1 : Int) (R : Mir.AV → Prop) : Prop :=
 (∃ x0 : Int,(∃ x1 : Int,(∃ x2 : Int,((Runs Fs 71 [(aS a0),(aI a1),(aI 2)] [] (.tup [(aI x0),(aI x1),(aI x2)]) []) ∧ (sel (x2 != 0) (R (.tup [(.n (.str (ByteArray.mk (List.toArray
 [])))),(.n (.int .i64 0)),(.n (.int .i64 x2))])) (sel (decide ((IntKind.wrap .i64 ((((ByteArray.size a0) : Nat) : Int) - x1)) < x0)) (R (.tup [(.n (.str (ByteArray.mk (List.toArray
 [])))),(.n (.int .i64 0)),(.n (.int .i64 3))])) (((0 : Int) ≤ (IntKind.wrap .i64 (x1 + x0))) ∧ (((IntKind.wrap .i64 (x1 + x0)) : Int) ≤ (((ByteArray.size a0) : Nat) : Int)) ∧ ((0 :
 Int) ≤ x1) ∧ ((x1 : Int) ≤ (((Int.toNat (IntKind.wrap .i64 (x1 + x0))) : Nat) : Int)) ∧ (R (.tup [(.n (.str (ByteArray.extract a0 (Int.toNat x1) (Int.toNat (IntKind.wrap .i64 (x1 +
 x0)))))),(.n (.int .i64 (IntKind.wrap .i64 (x1 + x0)))),(.n (.int .i64 0))])))))))))
theorem vc76 (a0 : ByteArray) (a1 : Int) (R : Mir.AV → Prop) : Vc Fs c76.body (argsQ c76 [(.n (.str a0)), (.n (.int .i64 a1))]) [] (endQ c76 R) = V76 a0 a1 R := by kernel_rfl
def V68 (a0 : ByteArray) (a1 : Int) (R : Mir.AV → Prop) : Prop :=
 (∃ x0 : Int,(∃ x1 : Int,(∃ x2 : Int,((Runs Fs 65 [(aS a0),(aI a1),(aI 2)] [] (.tup [(aI x0),(aI x1),(aI x2)]) []) ∧ (sel (x2 != 0) (R (.tup [(.n (.str (ByteArray.mk (List.toArray
 [])))),(.n (.int .i64 0)),(.n (.int .i64 x2))])) (sel (decide ((IntKind.wrap .i64 ((((ByteArray.size a0) : Nat) : Int) - x1)) < x0)) (R (.tup [(.n (.str (ByteArray.mk (List.toArray
 [])))),(.n (.int .i64 0)),(.n (.int .i64 3))])) (((0 : Int) ≤ (IntKind.wrap .i64 (x1 + x0))) ∧ (((IntKind.wrap .i64 (x1 + x0)) : Int) ≤ (((ByteArray.size a0) : Nat) : Int)) ∧ ((0 :
 Int) ≤ x1) ∧ ((x1 : Int) ≤ (((Int.toNat (IntKind.wrap .i64 (x1 + x0))) : Nat) : Int)) ∧ (R (.tup [(.n (.str (ByteArray.extract a0 (Int.toNat x1) (Int.toNat (IntKind.wrap .i64 (x1 +
 x0)))))),(.n (.int .i64 (IntKind.wrap .i64 (x1 + x0)))),(.n (.int .i64 0))])))))))))
theorem vc68 (a0 : ByteArray) (a1 : Int) (R : Mir.AV → Prop) : Vc Fs c68.body (argsQ c68 [(.n (.str a0)), (.n (.int .i64 a1))]) [] (endQ c68 R) = V68 a0 a1 R := by kernel_rfl

end Go.Proofs.YtmmnobdpccdeoaaGreatDoor.M
