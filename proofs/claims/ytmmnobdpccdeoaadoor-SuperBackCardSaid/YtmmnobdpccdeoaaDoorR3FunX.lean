import Derived.Test.YtmmnobdpccdeoaaDoorR3Fun
namespace Go.Proofs.YtmmnobdpccdeoaaDoor.M
set_option linter.unusedVariables false
set_option linter.unusedSimpArgs false
open Go Go.Mir
set_option linter.unusedVariables false
def V3 (a0 : List Mir.D) (R : Mir.AV → Prop) : Prop :=
 (((1 : Nat) = 1) ∧
 (((0 : Int) ≤ (Go.Mir.mmI false (((List.length a0) : Nat) : Int) 6)) ∧
 ((((Go.Mir.mmI false (((List.length a0) : Nat) : Int) 6) : Int) ≤ (((List.length a0) : Nat) : Int)) ∧
 (∃ x0 : (Int → Prop),
 (∃ x1 : (Int → Nat),
 (((@Eq (List (Nat × Mir.Ob)) [] []) ∧
 (x0 0)) ∧
 (∀ x2 : Int,
 ((x0 x2) →
 (∀ x3 : (Nat → Mir.AV),
 (sel (decide (x2 < (((List.length (List.drop 0 (List.take (Int.toNat (Go.Mir.mmI false (((List.length a0) : Nat) : Int) 6)) a0))) : Nat) : Int)))
 (((1 : Nat) = 1) ∧
 (((0 : Int) ≤ x2) ∧
 (∃ x4 : Mir.D,
 ((((GetElem?.getElem? (List.drop 0 (List.take (Int.toNat (Go.Mir.mmI false (((List.length a0) : Nat) : Int) 6)) a0)) (Int.toNat x2)) : (Option Mir.D)) = (some x4)) ∧
 (∃ x5 : ByteArray,
 ((((GetElem?.getElem? (Go.Mir.D.cells x4) 0) : (Option Mir.D)) = (some (Mir.D.str x5))) ∧
 (∃ x6 : Int,
 (∃ x7 : Int,
 (∃ x8 : Int,
 (∃ x9 : Int,
 (∃ x10 : Int,
 ((Runs Fs 14 [(Mir.AV.n (Mir.D.str x5))] [] (Mir.AV.tup [(Mir.AV.agg [(Mir.AV.n (Mir.D.int .i64 x6)), (Mir.AV.n (Mir.D.int .i64 x7)), (Mir.AV.n (Mir.D.int .i64 x8)), (Mir.AV.n (Mir.D.int .i64 x9))]), (Mir.AV.n (Mir.D.int .i64 x10))]) []) ∧
 (∃ x11 : Int,
 (∃ x12 : Int,
 (∃ x13 : Int,
 (∃ x14 : Int,
 (∃ x15 : Int,
 ((Runs Fs 15 [(Mir.AV.n (Mir.D.str x5))] [] (Mir.AV.tup [(Mir.AV.agg [(Mir.AV.n (Mir.D.int .i64 x11)), (Mir.AV.n (Mir.D.int .i64 x12)), (Mir.AV.n (Mir.D.int .i64 x13)), (Mir.AV.n (Mir.D.int .i64 x14))]), (Mir.AV.n (Mir.D.int .i64 x15))]) []) ∧
 (sel (Bool.not ((x6 == x11) && ((x7 == x12) && ((x8 == x13) && ((x9 == x14) && true)))))
 (R (Mir.AV.n (Mir.D.bool false)))
 (sel (x10 != x15)
 (R (Mir.AV.n (Mir.D.bool false)))
 ((((Mir.AV.o (Mir.D.sl 1 (List.drop 0 (List.take (Int.toNat (Go.Mir.mmI false (((List.length a0) : Nat) : Int) 6)) a0)))) : Mir.AV) = (Mir.AV.o (Mir.D.sl 1 (List.drop 0 (List.take (Int.toNat (Go.Mir.mmI false (((List.length a0) : Nat) : Int) 6)) a0))))) ∧
 ((((Mir.AV.o (Mir.D.sl 1 (List.drop 0 (List.take (Int.toNat (Go.Mir.mmI false (((List.length a0) : Nat) : Int) 6)) a0)))) : Mir.AV) = (Mir.AV.o (Mir.D.sl 1 (List.drop 0 (List.take (Int.toNat (Go.Mir.mmI false (((List.length a0) : Nat) : Int) 6)) a0))))) ∧
 ((((Mir.AV.n (Mir.D.int .i64 (((List.length (List.drop 0 (List.take (Int.toNat (Go.Mir.mmI false (((List.length a0) : Nat) : Int) 6)) a0))) : Nat) : Int))) : Mir.AV) = (Mir.AV.n (Mir.D.int .i64 (((List.length (List.drop 0 (List.take (Int.toNat (Go.Mir.mmI false (((List.length a0) : Nat) : Int) 6)) a0))) : Nat) : Int)))) ∧
 ((@Eq (List (Nat × Mir.Ob)) [] []) ∧
 ((x0 (Go.IntKind.wrap .i64 (x2 + 1))) ∧
 (((x1 (Go.IntKind.wrap .i64 (x2 + 1))) : Nat) < (x1 x2)))))))))))))))))))))))))))
 (∃ x16 : Int,
 (∃ x17 : Int,
 (∃ x18 : Int,
 (∃ x19 : Int,
 (∃ x20 : Int,
 (∃ x21 : Int,
 ((Runs Fs 16 [(Mir.AV.o (Mir.D.sl 1 (List.drop 0 (List.take (Int.toNat (Go.Mir.mmI false (((List.length a0) : Nat) : Int) 6)) a0))))] [] (Mir.AV.tup [(Mir.AV.agg [(Mir.AV.n (Mir.D.int .i64 x16)), (Mir.AV.n (Mir.D.int .i64 x17)), (Mir.AV.n (Mir.D.int .i64 x18)), (Mir.AV.n (Mir.D.int .i64 x19))]), (Mir.AV.n (Mir.D.int .i64 x20)), (Mir.AV.n (Mir.D.int .i64 x21))]) []) ∧
 (∃ x22 : Int,
 (∃ x23 : Int,
 (∃ x24 : Int,
 (∃ x25 : Int,
 (∃ x26 : Int,
 (∃ x27 : Int,
 ((Runs Fs 17 [(Mir.AV.o (Mir.D.sl 1 (List.drop 0 (List.take (Int.toNat (Go.Mir.mmI false (((List.length a0) : Nat) : Int) 6)) a0))))] [] (Mir.AV.tup [(Mir.AV.agg [(Mir.AV.n (Mir.D.int .i64 x22)), (Mir.AV.n (Mir.D.int .i64 x23)), (Mir.AV.n (Mir.D.int .i64 x24)), (Mir.AV.n (Mir.D.int .i64 x25))]), (Mir.AV.n (Mir.D.int .i64 x26)), (Mir.AV.n (Mir.D.int .i64 x27))]) []) ∧
 (∃ x28 : Bool,
 ((Runs Fs 18 [] [] (Mir.AV.n (Mir.D.bool x28)) []) ∧
 (sel x28
 (sel ((x16 == x22) && ((x17 == x23) && ((x18 == x24) && ((x19 == x25) && true))))
 (sel (x20 == x26)
 (R (Mir.AV.n (Mir.D.bool (x21 == x27))))
 (R (Mir.AV.n (Mir.D.bool false))))
 (R (Mir.AV.n (Mir.D.bool false))))
 (R (Mir.AV.n (Mir.D.bool false))))))))))))))))))))))))))))))
theorem vc3 (a0 : List Mir.D) (R : Mir.AV → Prop) : Vc Fs c3.body (argsQ c3 [(.o (.sl 1 a0))]) [] (endQ c3 R) = V3 a0 R := by kernel_rfl
def V4 (a0 : Int) (a1 : Int) (a2 : ByteArray) (a3 : ByteArray) (a4 : Int) (R : Mir.AV → Prop) : Prop :=
 (∃ x0 : ByteArray,
 (∃ x1 : Int,
 ((Runs Fs 19 [(Mir.AV.n (Mir.D.int .i64 a0)), (Mir.AV.n (Mir.D.int .i64 a1)), (Mir.AV.n (Mir.D.str a2))] [] (Mir.AV.tup [(Mir.AV.n (Mir.D.str x0)), (Mir.AV.n (Mir.D.int .i64 x1))]) []) ∧
 (((0 : Int) ≤ (Go.Mir.mmI false (((ByteArray.size a3) : Nat) : Int) 480)) ∧
 ((((Go.Mir.mmI false (((ByteArray.size a3) : Nat) : Int) 480) : Int) ≤ (((ByteArray.size a3) : Nat) : Int)) ∧
 (∃ x2 : ByteArray,
 (∃ x3 : Int,
 ((Runs Fs 19 [(Mir.AV.n (Mir.D.int .i64 (Go.Mir.mmI true (Go.IntKind.wrap .i64 (a0 - 1)) 1))), (Mir.AV.n (Mir.D.int .i64 a1)), (Mir.AV.n (Mir.D.str (ByteArray.extract a3 0 (Int.toNat (Go.Mir.mmI false (((ByteArray.size a3) : Nat) : Int) 480)))))] [] (Mir.AV.tup [(Mir.AV.n (Mir.D.str x2)), (Mir.AV.n (Mir.D.int .i64 x3))]) []) ∧
 (sel (x1 != 0)
 (∃ x4 : Bool,
 ((Runs Fs 20 [] [] (Mir.AV.n (Mir.D.bool x4)) []) ∧
 (R (Mir.AV.n (Mir.D.bool x4)))))
 (sel (x3 != 0)
 (∃ x5 : Bool,
 ((Runs Fs 20 [] [] (Mir.AV.n (Mir.D.bool x5)) []) ∧
 (R (Mir.AV.n (Mir.D.bool x5)))))
 ((0 = 0) ∧
 ((0 = 0) ∧
 ((0 = 0) ∧
 (∃ x6 : (List Mir.D),
 (∃ x7 : (List Mir.D),
 (∃ x8 : Int,
 ((Runs Fs 21 [(Mir.AV.agg [(Mir.AV.o (Mir.D.sl 1 [(Mir.D.str x2)])), (Mir.AV.o (Mir.D.sl 2 [(Mir.D.rcd [(Mir.D.int .i64 0), (Mir.D.str x0)])]))]), (Mir.AV.o (Mir.D.sl 1 [(Mir.D.int .i64 a4)]))] [] (Mir.AV.tup [(Mir.AV.agg [(Mir.AV.o (Mir.D.sl 1 x6)), (Mir.AV.o (Mir.D.sl 2 x7))]), (Mir.AV.n (Mir.D.int .i64 x8))]) []) ∧
 (sel (x8 != 0)
 (R (Mir.AV.n (Mir.D.bool false)))
 (sel ((((List.length x6) : Nat) : Int) != 1)
 (R (Mir.AV.n (Mir.D.bool false)))
 (sel ((Go.IntKind.wrap .i64 (((BitVec.toNat (HAnd.hAnd (BitVec.ofInt (Go.IntKind.bits .i64) a4) (BitVec.ofInt (Go.IntKind.bits .i64) 1))) : Nat) : Int)) == 1)
 (∃ x9 : Bool,
 ((Runs Fs 20 [] [] (Mir.AV.n (Mir.D.bool x9)) []) ∧
 (sel x9
 (((1 : Nat) = 1) ∧
 (((0 : Int) ≤ 0) ∧
 (∃ x10 : Mir.D,
 ((((GetElem?.getElem? x6 (Int.toNat 0)) : (Option Mir.D)) = (some x10)) ∧
 (∃ x11 : ByteArray,
 ((((GetElem?.getElem? (Go.Mir.D.cells x10) 0) : (Option Mir.D)) = (some (Mir.D.str x11))) ∧
 (R (Mir.AV.n (Mir.D.bool ((ByteArray.toList x11) == (ByteArray.toList x0)))))))))))
 (R (Mir.AV.n (Mir.D.bool false))))))
 (∃ x12 : Bool,
 ((Runs Fs 20 [] [] (Mir.AV.n (Mir.D.bool x12)) []) ∧
 (sel x12
 (((1 : Nat) = 1) ∧
 (((0 : Int) ≤ 0) ∧
 (∃ x13 : Mir.D,
 ((((GetElem?.getElem? x6 (Int.toNat 0)) : (Option Mir.D)) = (some x13)) ∧
 (∃ x14 : ByteArray,
 ((((GetElem?.getElem? (Go.Mir.D.cells x13) 0) : (Option Mir.D)) = (some (Mir.D.str x14))) ∧
 (R (Mir.AV.n (Mir.D.bool ((ByteArray.toList x14) == (ByteArray.toList x2)))))))))))
 (R (Mir.AV.n (Mir.D.bool false))))))))))))))))))))))))))
theorem vc4 (a0 : Int) (a1 : Int) (a2 : ByteArray) (a3 : ByteArray) (a4 : Int) (R : Mir.AV → Prop) : Vc Fs c4.body (argsQ c4 [(.n (.int .i64 a0)), (.n (.int .i64 a1)), (.n (.str a2)), (.n (.str a3)), (.n (.int .i64 a4))]) [] (endQ c4 R) = V4 a0 a1 a2 a3 a4 R := by kernel_rfl
def V5 (a0_0 : Int) (a0_1 : Int) (a0_2 : Int) (a0_3 : Int) (R : Mir.AV → Prop) : Prop :=
 (∃ x0 : ByteArray,
 (∃ x1 : Int,
 ((Runs Fs 22 [(Mir.AV.agg [(Mir.AV.n (Mir.D.int .i64 a0_0)), (Mir.AV.n (Mir.D.int .i64 a0_1)), (Mir.AV.n (Mir.D.int .i64 a0_2)), (Mir.AV.n (Mir.D.int .i64 a0_3))])] [] (Mir.AV.tup [(Mir.AV.n (Mir.D.str x0)), (Mir.AV.n (Mir.D.int .i64 x1))]) []) ∧
 (∃ x2 : Bool,
 ((Runs Fs 23 [(Mir.AV.agg [(Mir.AV.n (Mir.D.int .i64 a0_0)), (Mir.AV.n (Mir.D.int .i64 a0_1)), (Mir.AV.n (Mir.D.int .i64 a0_2)), (Mir.AV.n (Mir.D.int .i64 a0_3))])] [] (Mir.AV.n (Mir.D.bool x2)) []) ∧
 (sel (Bool.not x2)
 (∃ x3 : Bool,
 ((Runs Fs 18 [] [] (Mir.AV.n (Mir.D.bool x3)) []) ∧
 (sel x3
 (∃ x4 : Bool,
 ((Runs Fs 24 [(Mir.AV.agg [(Mir.AV.n (Mir.D.int .i64 a0_0)), (Mir.AV.n (Mir.D.int .i64 a0_1)), (Mir.AV.n (Mir.D.int .i64 a0_2)), (Mir.AV.n (Mir.D.int .i64 a0_3))])] [] (Mir.AV.n (Mir.D.bool x4)) []) ∧
 (sel (Bool.not x4)
 (sel (x1 == 1)
 (R (Mir.AV.n (Mir.D.bool ((ByteArray.toList x0) == (ByteArray.toList (ByteArray.mk (List.toArray [])))))))
 (R (Mir.AV.n (Mir.D.bool false))))
 (R (Mir.AV.n (Mir.D.bool false))))))
 (R (Mir.AV.n (Mir.D.bool false))))))
 (∃ x5 : Bool,
 ((Runs Fs 18 [] [] (Mir.AV.n (Mir.D.bool x5)) []) ∧
 (sel x5
 (∃ x6 : Bool,
 ((Runs Fs 24 [(Mir.AV.agg [(Mir.AV.n (Mir.D.int .i64 a0_0)), (Mir.AV.n (Mir.D.int .i64 a0_1)), (Mir.AV.n (Mir.D.int .i64 a0_2)), (Mir.AV.n (Mir.D.int .i64 a0_3))])] [] (Mir.AV.n (Mir.D.bool x6)) []) ∧
 (sel x6
 (sel (x1 == 0)
 (∃ x7 : ByteArray,
 ((Runs Fs 25 [(Mir.AV.agg [(Mir.AV.n (Mir.D.int .i64 a0_0)), (Mir.AV.n (Mir.D.int .i64 a0_1)), (Mir.AV.n (Mir.D.int .i64 a0_2)), (Mir.AV.n (Mir.D.int .i64 a0_3))])] [] (Mir.AV.n (Mir.D.str x7)) []) ∧
 (R (Mir.AV.n (Mir.D.bool ((ByteArray.toList x0) == (ByteArray.toList x7)))))))
 (R (Mir.AV.n (Mir.D.bool false))))
 (R (Mir.AV.n (Mir.D.bool false))))))
 (R (Mir.AV.n (Mir.D.bool false))))))))))))
theorem vc5 (a0_0 : Int) (a0_1 : Int) (a0_2 : Int) (a0_3 : Int) (R : Mir.AV → Prop) : Vc Fs c5.body (argsQ c5 [(.agg [(.n (.int .i64 a0_0)), (.n (.int .i64 a0_1)), (.n (.int .i64 a0_2)), (.n (.int .i64 a0_3))])]) [] (endQ c5 R) = V5 a0_0 a0_1 a0_2 a0_3 R := by kernel_rfl
def V6 (a0_0 : Int) (a0_1 : Int) (a0_2 : Int) (a0_3 : Int) (a1 : ByteArray) (R : Mir.AV → Prop) : Prop :=
 (∃ x0 : ByteArray,
 (∃ x1 : Int,
 ((Runs Fs 22 [(Mir.AV.agg [(Mir.AV.n (Mir.D.int .i64 a0_0)), (Mir.AV.n (Mir.D.int .i64 a0_1)), (Mir.AV.n (Mir.D.int .i64 a0_2)), (Mir.AV.n (Mir.D.int .i64 a0_3))])] [] (Mir.AV.tup [(Mir.AV.n (Mir.D.str x0)), (Mir.AV.n (Mir.D.int .i64 x1))]) []) ∧
 (sel (x1 == 0)
 (∃ x2 : Int,
 (∃ x3 : Int,
 (∃ x4 : Int,
 (∃ x5 : Int,
 (∃ x6 : Int,
 ((Runs Fs 14 [(Mir.AV.n (Mir.D.str x0))] [] (Mir.AV.tup [(Mir.AV.agg [(Mir.AV.n (Mir.D.int .i64 x2)), (Mir.AV.n (Mir.D.int .i64 x3)), (Mir.AV.n (Mir.D.int .i64 x4)), (Mir.AV.n (Mir.D.int .i64 x5))]), (Mir.AV.n (Mir.D.int .i64 x6))]) []) ∧
 (sel (x6 != 0)
 (R (Mir.AV.n (Mir.D.bool false)))
 (sel (Bool.not ((x2 == a0_0) && ((x3 == a0_1) && ((x4 == a0_2) && ((x5 == a0_3) && true)))))
 (R (Mir.AV.n (Mir.D.bool false)))
 (sel (decide ((((ByteArray.size x0) : Nat) : Int) > 512))
 (R (Mir.AV.n (Mir.D.bool false)))
 (∃ x7 : Int,
 (∃ x8 : Int,
 (∃ x9 : Int,
 (∃ x10 : Int,
 (∃ x11 : Int,
 ((Runs Fs 14 [(Mir.AV.n (Mir.D.str a1))] [] (Mir.AV.tup [(Mir.AV.agg [(Mir.AV.n (Mir.D.int .i64 x7)), (Mir.AV.n (Mir.D.int .i64 x8)), (Mir.AV.n (Mir.D.int .i64 x9)), (Mir.AV.n (Mir.D.int .i64 x10))]), (Mir.AV.n (Mir.D.int .i64 x11))]) []) ∧
 (sel (x11 != 0)
 (∃ x12 : Bool,
 ((Runs Fs 18 [] [] (Mir.AV.n (Mir.D.bool x12)) []) ∧
 (sel x12
 (R (Mir.AV.n (Mir.D.bool ((x7 == 0) && ((x8 == 0) && ((x9 == 0) && ((x10 == 0) && true)))))))
 (R (Mir.AV.n (Mir.D.bool false))))))
 (∃ x13 : ByteArray,
 (∃ x14 : Int,
 ((Runs Fs 22 [(Mir.AV.agg [(Mir.AV.n (Mir.D.int .i64 x7)), (Mir.AV.n (Mir.D.int .i64 x8)), (Mir.AV.n (Mir.D.int .i64 x9)), (Mir.AV.n (Mir.D.int .i64 x10))])] [] (Mir.AV.tup [(Mir.AV.n (Mir.D.str x13)), (Mir.AV.n (Mir.D.int .i64 x14))]) []) ∧
 (∃ x15 : Bool,
 ((Runs Fs 18 [] [] (Mir.AV.n (Mir.D.bool x15)) []) ∧
 (sel x15
 (sel (x14 == 0)
 (sel (decide ((((ByteArray.size x13) : Nat) : Int) ≤ (((ByteArray.size a1) : Nat) : Int)))
 (((0 : Int) ≤ (((ByteArray.size x13) : Nat) : Int)) ∧
 ((((((ByteArray.size x13) : Nat) : Int) : Int) ≤ (((ByteArray.size a1) : Nat) : Int)) ∧
 (sel ((ByteArray.toList x13) == (ByteArray.toList (ByteArray.extract a1 0 (Int.toNat (((ByteArray.size x13) : Nat) : Int)))))
 (∃ x16 : Bool,
 ((Runs Fs 24 [(Mir.AV.agg [(Mir.AV.n (Mir.D.int .i64 x7)), (Mir.AV.n (Mir.D.int .i64 x8)), (Mir.AV.n (Mir.D.int .i64 x9)), (Mir.AV.n (Mir.D.int .i64 x10))])] [] (Mir.AV.n (Mir.D.bool x16)) []) ∧
 (R (Mir.AV.n (Mir.D.bool x16)))))
 (R (Mir.AV.n (Mir.D.bool false))))))
 (R (Mir.AV.n (Mir.D.bool false))))
 (R (Mir.AV.n (Mir.D.bool false))))
 (R (Mir.AV.n (Mir.D.bool false)))))))))))))))))))))))))
 (∃ x17 : Int,
 (∃ x18 : Int,
 (∃ x19 : Int,
 (∃ x20 : Int,
 (∃ x21 : Int,
 ((Runs Fs 14 [(Mir.AV.n (Mir.D.str a1))] [] (Mir.AV.tup [(Mir.AV.agg [(Mir.AV.n (Mir.D.int .i64 x17)), (Mir.AV.n (Mir.D.int .i64 x18)), (Mir.AV.n (Mir.D.int .i64 x19)), (Mir.AV.n (Mir.D.int .i64 x20))]), (Mir.AV.n (Mir.D.int .i64 x21))]) []) ∧
 (sel (x21 != 0)
 (∃ x22 : Bool,
 ((Runs Fs 18 [] [] (Mir.AV.n (Mir.D.bool x22)) []) ∧
 (sel x22
 (R (Mir.AV.n (Mir.D.bool ((x17 == 0) && ((x18 == 0) && ((x19 == 0) && ((x20 == 0) && true)))))))
 (R (Mir.AV.n (Mir.D.bool false))))))
 (∃ x23 : ByteArray,
 (∃ x24 : Int,
 ((Runs Fs 22 [(Mir.AV.agg [(Mir.AV.n (Mir.D.int .i64 x17)), (Mir.AV.n (Mir.D.int .i64 x18)), (Mir.AV.n (Mir.D.int .i64 x19)), (Mir.AV.n (Mir.D.int .i64 x20))])] [] (Mir.AV.tup [(Mir.AV.n (Mir.D.str x23)), (Mir.AV.n (Mir.D.int .i64 x24))]) []) ∧
 (∃ x25 : Bool,
 ((Runs Fs 18 [] [] (Mir.AV.n (Mir.D.bool x25)) []) ∧
 (sel x25
 (sel (x24 == 0)
 (sel (decide ((((ByteArray.size x23) : Nat) : Int) ≤ (((ByteArray.size a1) : Nat) : Int)))
 (((0 : Int) ≤ (((ByteArray.size x23) : Nat) : Int)) ∧
 ((((((ByteArray.size x23) : Nat) : Int) : Int) ≤ (((ByteArray.size a1) : Nat) : Int)) ∧
 (sel ((ByteArray.toList x23) == (ByteArray.toList (ByteArray.extract a1 0 (Int.toNat (((ByteArray.size x23) : Nat) : Int)))))
 (∃ x26 : Bool,
 ((Runs Fs 24 [(Mir.AV.agg [(Mir.AV.n (Mir.D.int .i64 x17)), (Mir.AV.n (Mir.D.int .i64 x18)), (Mir.AV.n (Mir.D.int .i64 x19)), (Mir.AV.n (Mir.D.int .i64 x20))])] [] (Mir.AV.n (Mir.D.bool x26)) []) ∧
 (R (Mir.AV.n (Mir.D.bool x26)))))
 (R (Mir.AV.n (Mir.D.bool false))))))
 (R (Mir.AV.n (Mir.D.bool false))))
 (R (Mir.AV.n (Mir.D.bool false))))
 (R (Mir.AV.n (Mir.D.bool false))))))))))))))))))))
theorem vc6 (a0_0 : Int) (a0_1 : Int) (a0_2 : Int) (a0_3 : Int) (a1 : ByteArray) (R : Mir.AV → Prop) : Vc Fs c6.body (argsQ c6 [(.agg [(.n (.int .i64 a0_0)), (.n (.int .i64 a0_1)), (.n (.int .i64 a0_2)), (.n (.int .i64 a0_3))]), (.n (.str a1))]) [] (endQ c6 R) = V6 a0_0 a0_1 a0_2 a0_3 a1 R := by kernel_rfl
def V8 (a0 : Int) (a1 : List Mir.D) (R : Mir.AV → Prop) : Prop :=
 (((1 : Nat) = 1) ∧
 (((0 : Int) ≤ (Go.Mir.mmI false (((List.length a1) : Nat) : Int) 12)) ∧
 ((((Go.Mir.mmI false (((List.length a1) : Nat) : Int) 12) : Int) ≤ (((List.length a1) : Nat) : Int)) ∧
 (∃ x0 : Bool,
 ((Runs Fs 20 [] [] (Mir.AV.n (Mir.D.bool x0)) []) ∧
 (sel x0
 (∃ x1 : (List Mir.D),
 ((Runs Fs 27 [(Mir.AV.n (Mir.D.int .i64 a0)), (Mir.AV.o (Mir.D.sl 1 (List.drop 0 (List.take (Int.toNat (Go.Mir.mmI false (((List.length a1) : Nat) : Int) 12)) a1))))] [] (Mir.AV.o (Mir.D.sl 1 x1)) []) ∧
 (∃ x2 : (List Mir.D),
 ((Runs Fs 28 [(Mir.AV.n (Mir.D.int .i64 a0)), (Mir.AV.o (Mir.D.sl 1 (List.drop 0 (List.take (Int.toNat (Go.Mir.mmI false (((List.length a1) : Nat) : Int) 12)) a1))))] [] (Mir.AV.o (Mir.D.sl 1 x2)) []) ∧
 (∃ x3 : Bool,
 ((Runs Fs 26 [(Mir.AV.o (Mir.D.sl 1 x1)), (Mir.AV.o (Mir.D.sl 1 x2))] [] (Mir.AV.n (Mir.D.bool x3)) []) ∧
 (R (Mir.AV.n (Mir.D.bool x3)))))))))
 (R (Mir.AV.n (Mir.D.bool false)))))))))
theorem vc8 (a0 : Int) (a1 : List Mir.D) (R : Mir.AV → Prop) : Vc Fs c8.body (argsQ c8 [(.n (.int .i64 a0)), (.o (.sl 1 a1))]) [] (endQ c8 R) = V8 a0 a1 R := by kernel_rfl
def V9 (a0 : Int) (a1 : List Mir.D) (a2 : List Mir.D) (R : Mir.AV → Prop) : Prop :=
 (((1 : Nat) = 1) ∧
 (((0 : Int) ≤ (Go.Mir.mmI false (((List.length a1) : Nat) : Int) 8)) ∧
 ((((Go.Mir.mmI false (((List.length a1) : Nat) : Int) 8) : Int) ≤ (((List.length a1) : Nat) : Int)) ∧
 (∃ x0 : (Nat → (Nat → (Int → ((Nat × (List Mir.D)) → ((Nat × (List Mir.D)) → Prop))))),
 (∃ x1 : (Nat → (Nat → (Int → ((Nat × (List Mir.D)) → ((Nat × (List Mir.D)) → Nat))))),
 (((@Eq (List (Nat × Mir.Ob)) [(901103, (.row false true 0 9 1 [])), (901107, (.row false true 0 9 1 []))] [(901103, (.row false true 0 9 1 [])), (901107, (.row false true 0 9 1 []))]) ∧
 (x0 0 0 0 (0, []) (0, []))) ∧
 (∀ x2 : Nat,
 (∀ x3 : Nat,
 (∀ x4 : Int,
 (∀ x5 : (Nat × (List Mir.D)),
 (∀ x6 : (Nat × (List Mir.D)),
 ((x0 x2 x3 x4 x5 x6) →
 (∀ x7 : (Nat → Mir.AV),
 (sel (decide (x4 < (((List.length (List.drop 0 (List.take (Int.toNat (Go.Mir.mmI false (((List.length a1) : Nat) : Int) 8)) a1))) : Nat) : Int)))
 (((1 : Nat) = 1) ∧
 (((0 : Int) ≤ x4) ∧
 (∃ x8 : Mir.D,
 ((((GetElem?.getElem? (List.drop 0 (List.take (Int.toNat (Go.Mir.mmI false (((List.length a1) : Nat) : Int) 8)) a1)) (Int.toNat x4)) : (Option Mir.D)) = (some x8)) ∧
 (∃ x9 : ByteArray,
 ((((GetElem?.getElem? (Go.Mir.D.cells x8) 0) : (Option Mir.D)) = (some (Mir.D.str x9))) ∧
 (((0 : Int) ≤ (Go.Mir.mmI false (((ByteArray.size x9) : Nat) : Int) 480)) ∧
 ((((Go.Mir.mmI false (((ByteArray.size x9) : Nat) : Int) 480) : Int) ≤ (((ByteArray.size x9) : Nat) : Int)) ∧
 (∃ x10 : ByteArray,
 (∃ x11 : Int,
 ((Runs Fs 19 [(Mir.AV.n (Mir.D.int .i64 (Go.Mir.mmI false (Go.Mir.mmI true a0 2) 1099511627776))), (Mir.AV.n (Mir.D.int .i64 x4)), (Mir.AV.n (Mir.D.str (ByteArray.extract x9 0 (Int.toNat (Go.Mir.mmI false (((ByteArray.size x9) : Nat) : Int) 480)))))] [] (Mir.AV.tup [(Mir.AV.n (Mir.D.str x10)), (Mir.AV.n (Mir.D.int .i64 x11))]) []) ∧
 (sel (x11 != 0)
 (R (Mir.AV.n (Mir.D.bool false)))
 (((0 : Nat) = 0) ∧
 ((((1 : Nat) = 1) ∨ (@Eq (List Mir.D) [(Mir.D.str x10)] [])) ∧
 ((((((Prod.fst x5) : Nat) = x2) ∧
 ((9 : Nat) = 9)) ∧
 ((1 : Nat) = 1)) ∧
 ((((((List.length (Prod.snd x5)) + (List.length [(Mir.D.str x10)])) * 16) : Nat) ≤ 140737488355328) ∧
 (((0 : Nat) = 0) ∧
 ((((1 : Nat) = 1) ∨ (@Eq (List Mir.D) [(Mir.D.str (ByteArray.extract x9 0 (Int.toNat (Go.Mir.mmI false (((ByteArray.size x9) : Nat) : Int) 480))))] [])) ∧
 ((((((Prod.fst x6) : Nat) = x3) ∧
 ((9 : Nat) = 9)) ∧
 ((1 : Nat) = 1)) ∧
 ((((((List.length (Prod.snd x6)) + (List.length [(Mir.D.str (ByteArray.extract x9 0 (Int.toNat (Go.Mir.mmI false (((ByteArray.size x9) : Nat) : Int) 480))))])) * 16) : Nat) ≤ 140737488355328) ∧
 ((((Mir.AV.n (Mir.D.int .i64 (Go.Mir.mmI false (Go.Mir.mmI true a0 2) 1099511627776))) : Mir.AV) = (Mir.AV.n (Mir.D.int .i64 (Go.Mir.mmI false (Go.Mir.mmI true a0 2) 1099511627776)))) ∧
 ((((Mir.AV.o (Mir.D.sl 1 a2)) : Mir.AV) = (Mir.AV.o (Mir.D.sl 1 a2))) ∧
 ((((Mir.AV.o (Mir.D.sl 1 (List.drop 0 (List.take (Int.toNat (Go.Mir.mmI false (((List.length a1) : Nat) : Int) 8)) a1)))) : Mir.AV) = (Mir.AV.o (Mir.D.sl 1 (List.drop 0 (List.take (Int.toNat (Go.Mir.mmI false (((List.length a1) : Nat) : Int) 8)) a1))))) ∧
 ((((Mir.AV.n (Mir.D.int .i64 (((List.length (List.drop 0 (List.take (Int.toNat (Go.Mir.mmI false (((List.length a1) : Nat) : Int) 8)) a1))) : Nat) : Int))) : Mir.AV) = (Mir.AV.n (Mir.D.int .i64 (((List.length (List.drop 0 (List.take (Int.toNat (Go.Mir.mmI false (((List.length a1) : Nat) : Int) 8)) a1))) : Nat) : Int)))) ∧
 ((@Eq (List (Nat × Mir.Ob)) [(901103, (.row false true (x2 + 1) 9 1 ((Prod.snd x5) ++ [(Mir.D.str x10)]))), (901107, (.row false true (x3 + 1) 9 1 ((Prod.snd x6) ++ [(Mir.D.str (ByteArray.extract x9 0 (Int.toNat (Go.Mir.mmI false (((ByteArray.size x9) : Nat) : Int) 480))))])))] [(901103, (.row false true (x2 + 1) 9 1 ((Prod.snd x5) ++ [(Mir.D.str x10)]))), (901107, (.row false true (x3 + 1) 9 1 ((Prod.snd x6) ++ [(Mir.D.str (ByteArray.extract x9 0 (Int.toNat (Go.Mir.mmI false (((ByteArray.size x9) : Nat) : Int) 480))))])))]) ∧
 ((x0 (x2 + 1) (x3 + 1) (Go.IntKind.wrap .i64 (x4 + 1)) ((x2 + 1), ((Prod.snd x5) ++ [(Mir.D.str x10)])) ((x3 + 1), ((Prod.snd x6) ++ [(Mir.D.str (ByteArray.extract x9 0 (Int.toNat (Go.Mir.mmI false (((ByteArray.size x9) : Nat) : Int) 480))))]))) ∧
 (((x1 (x2 + 1) (x3 + 1) (Go.IntKind.wrap .i64 (x4 + 1)) ((x2 + 1), ((Prod.snd x5) ++ [(Mir.D.str x10)])) ((x3 + 1), ((Prod.snd x6) ++ [(Mir.D.str (ByteArray.extract x9 0 (Int.toNat (Go.Mir.mmI false (((ByteArray.size x9) : Nat) : Int) 480))))]))) : Nat) < (x1 x2 x3 x4 x5 x6))))))))))))))))))))))))))))
 (∃ x12 : (Nat → (Nat → (Int → ((Nat × (List Mir.D)) → Prop)))),
 (∃ x13 : (Nat → (Nat → (Int → ((Nat × (List Mir.D)) → Nat)))),
 (((@Eq (List (Nat × Mir.Ob)) [(901103, (.row false true (Prod.fst x5) 9 1 (Prod.snd x5))), (901107, (.row false true (Prod.fst x6) 9 1 (Prod.snd x6)))] [(901103, (.row false true (Prod.fst x5) 9 1 (Prod.snd x5))), (901107, (.row false true (Prod.fst x6) 9 1 (Prod.snd x6)))]) ∧
 (x12 x2 x3 0 ((Prod.fst x5), (Prod.snd x5)))) ∧
 (∀ x14 : Nat,
 (∀ x15 : Nat,
 (∀ x16 : Int,
 (∀ x17 : (Nat × (List Mir.D)),
 ((x12 x14 x15 x16 x17) →
 (∀ x18 : (Nat → Mir.AV),
 (sel (decide (x16 < (((List.length a2) : Nat) : Int)))
 (((1 : Nat) = 1) ∧
 (((0 : Int) ≤ x16) ∧
 (∃ x19 : Mir.D,
 ((((GetElem?.getElem? a2 (Int.toNat x16)) : (Option Mir.D)) = (some x19)) ∧
 (∃ x20 : ByteArray,
 ((((GetElem?.getElem? (Go.Mir.D.cells x19) 0) : (Option Mir.D)) = (some (Mir.D.str x20))) ∧
 (sel (decide (x16 ≥ 5))
 (∃ x21 : Bool,
 ((Runs Fs 20 [] [] (Mir.AV.n (Mir.D.bool x21)) []) ∧
 (sel x21
 (((Prod.fst x17) = x14) ∧
 (∃ x22 : (List Mir.D),
 ((Runs Fs 27 [(Mir.AV.n (Mir.D.int .i64 (Go.Mir.mmI false (Go.Mir.mmI true a0 2) 1099511627776))), (Mir.AV.o (Mir.D.sl 1 (Prod.snd x17)))] [] (Mir.AV.o (Mir.D.sl 1 x22)) []) ∧
 (((Prod.fst x6) = x15) ∧
 (∃ x23 : Bool,
 ((Runs Fs 26 [(Mir.AV.o (Mir.D.sl 1 x22)), (Mir.AV.o (Mir.D.sl 1 (Prod.snd x6)))] [] (Mir.AV.n (Mir.D.bool x23)) []) ∧
 (sel x23
 ((((Prod.fst x6) : Nat) = x15) ∧
 (sel ((((List.length (Prod.snd x6)) : Nat) : Int) == 0)
 (R (Mir.AV.n (Mir.D.bool true)))
 (((Prod.fst x17) = x14) ∧
 (∃ x24 : (List Mir.D),
 ((Runs Fs 27 [(Mir.AV.n (Mir.D.int .i64 (Go.IntKind.wrap .i64 ((Go.Mir.mmI false (Go.Mir.mmI true a0 2) 1099511627776) - 1)))), (Mir.AV.o (Mir.D.sl 1 (Prod.snd x17)))] [] (Mir.AV.o (Mir.D.sl 1 x24)) []) ∧
 (R (Mir.AV.n (Mir.D.bool ((((List.length x24) : Nat) : Int) == 0)))))))))
 (R (Mir.AV.n (Mir.D.bool false))))))))))
 (R (Mir.AV.n (Mir.D.bool false))))))
 ((((Prod.fst x17) : Nat) = x14) ∧
 (sel (decide ((((List.length (Prod.snd x17)) : Nat) : Int) ≥ 8))
 (∃ x25 : Bool,
 ((Runs Fs 20 [] [] (Mir.AV.n (Mir.D.bool x25)) []) ∧
 (sel x25
 (((Prod.fst x17) = x14) ∧
 (∃ x26 : (List Mir.D),
 ((Runs Fs 27 [(Mir.AV.n (Mir.D.int .i64 (Go.Mir.mmI false (Go.Mir.mmI true a0 2) 1099511627776))), (Mir.AV.o (Mir.D.sl 1 (Prod.snd x17)))] [] (Mir.AV.o (Mir.D.sl 1 x26)) []) ∧
 (((Prod.fst x6) = x15) ∧
 (∃ x27 : Bool,
 ((Runs Fs 26 [(Mir.AV.o (Mir.D.sl 1 x26)), (Mir.AV.o (Mir.D.sl 1 (Prod.snd x6)))] [] (Mir.AV.n (Mir.D.bool x27)) []) ∧
 (sel x27
 ((((Prod.fst x6) : Nat) = x15) ∧
 (sel ((((List.length (Prod.snd x6)) : Nat) : Int) == 0)
 (R (Mir.AV.n (Mir.D.bool true)))
 (((Prod.fst x17) = x14) ∧
 (∃ x28 : (List Mir.D),
 ((Runs Fs 27 [(Mir.AV.n (Mir.D.int .i64 (Go.IntKind.wrap .i64 ((Go.Mir.mmI false (Go.Mir.mmI true a0 2) 1099511627776) - 1)))), (Mir.AV.o (Mir.D.sl 1 (Prod.snd x17)))] [] (Mir.AV.o (Mir.D.sl 1 x28)) []) ∧
 (R (Mir.AV.n (Mir.D.bool ((((List.length x28) : Nat) : Int) == 0)))))))))
 (R (Mir.AV.n (Mir.D.bool false))))))))))
 (R (Mir.AV.n (Mir.D.bool false))))))
 ((((Prod.fst x17) : Nat) = x14) ∧
 (((0 : Int) ≤ (Go.Mir.mmI false (((ByteArray.size x20) : Nat) : Int) 480)) ∧
 ((((Go.Mir.mmI false (((ByteArray.size x20) : Nat) : Int) 480) : Int) ≤ (((ByteArray.size x20) : Nat) : Int)) ∧
 (∃ x29 : ByteArray,
 (∃ x30 : Int,
 ((Runs Fs 19 [(Mir.AV.n (Mir.D.int .i64 (Go.IntKind.wrap .i64 ((Go.Mir.mmI false (Go.Mir.mmI true a0 2) 1099511627776) - 1)))), (Mir.AV.n (Mir.D.int .i64 (((List.length (Prod.snd x17)) : Nat) : Int))), (Mir.AV.n (Mir.D.str (ByteArray.extract x20 0 (Int.toNat (Go.Mir.mmI false (((ByteArray.size x20) : Nat) : Int) 480)))))] [] (Mir.AV.tup [(Mir.AV.n (Mir.D.str x29)), (Mir.AV.n (Mir.D.int .i64 x30))]) []) ∧
 (sel (x30 != 0)
 (R (Mir.AV.n (Mir.D.bool false)))
 (((0 : Nat) = 0) ∧
 ((((1 : Nat) = 1) ∨ (@Eq (List Mir.D) [(Mir.D.str x29)] [])) ∧
 ((((((Prod.fst x17) : Nat) = x14) ∧
 ((9 : Nat) = 9)) ∧
 ((1 : Nat) = 1)) ∧
 ((((((List.length (Prod.snd x17)) + (List.length [(Mir.D.str x29)])) * 16) : Nat) ≤ 140737488355328) ∧
 ((((Mir.AV.n (Mir.D.int .i64 (Go.Mir.mmI false (Go.Mir.mmI true a0 2) 1099511627776))) : Mir.AV) = (Mir.AV.n (Mir.D.int .i64 (Go.Mir.mmI false (Go.Mir.mmI true a0 2) 1099511627776)))) ∧
 ((((Mir.AV.o (Mir.D.sl 1 a2)) : Mir.AV) = (Mir.AV.o (Mir.D.sl 1 a2))) ∧
 ((((Mir.AV.n (Mir.D.int .i64 (((List.length a2) : Nat) : Int))) : Mir.AV) = (Mir.AV.n (Mir.D.int .i64 (((List.length a2) : Nat) : Int)))) ∧
 ((@Eq (List (Nat × Mir.Ob)) [(901103, (.row false true (x14 + 1) 9 1 ((Prod.snd x17) ++ [(Mir.D.str x29)]))), (901107, (.row false true (Prod.fst x6) 9 1 (Prod.snd x6)))] [(901103, (.row false true (x14 + 1) 9 1 ((Prod.snd x17) ++ [(Mir.D.str x29)]))), (901107, (.row false true (Prod.fst x6) 9 1 (Prod.snd x6)))]) ∧
 ((x12 (x14 + 1) x15 (Go.IntKind.wrap .i64 (x16 + 1)) ((x14 + 1), ((Prod.snd x17) ++ [(Mir.D.str x29)]))) ∧
 (((x13 (x14 + 1) x15 (Go.IntKind.wrap .i64 (x16 + 1)) ((x14 + 1), ((Prod.snd x17) ++ [(Mir.D.str x29)]))) : Nat) < (x13 x14 x15 x16 x17)))))))))))))))))))))))))))
 (∃ x31 : Bool,
 ((Runs Fs 20 [] [] (Mir.AV.n (Mir.D.bool x31)) []) ∧
 (sel x31
 (((Prod.fst x17) = x14) ∧
 (∃ x32 : (List Mir.D),
 ((Runs Fs 27 [(Mir.AV.n (Mir.D.int .i64 (Go.Mir.mmI false (Go.Mir.mmI true a0 2) 1099511627776))), (Mir.AV.o (Mir.D.sl 1 (Prod.snd x17)))] [] (Mir.AV.o (Mir.D.sl 1 x32)) []) ∧
 (((Prod.fst x6) = x15) ∧
 (∃ x33 : Bool,
 ((Runs Fs 26 [(Mir.AV.o (Mir.D.sl 1 x32)), (Mir.AV.o (Mir.D.sl 1 (Prod.snd x6)))] [] (Mir.AV.n (Mir.D.bool x33)) []) ∧
 (sel x33
 ((((Prod.fst x6) : Nat) = x15) ∧
 (sel ((((List.length (Prod.snd x6)) : Nat) : Int) == 0)
 (R (Mir.AV.n (Mir.D.bool true)))
 (((Prod.fst x17) = x14) ∧
 (∃ x34 : (List Mir.D),
 ((Runs Fs 27 [(Mir.AV.n (Mir.D.int .i64 (Go.IntKind.wrap .i64 ((Go.Mir.mmI false (Go.Mir.mmI true a0 2) 1099511627776) - 1)))), (Mir.AV.o (Mir.D.sl 1 (Prod.snd x17)))] [] (Mir.AV.o (Mir.D.sl 1 x34)) []) ∧
 (R (Mir.AV.n (Mir.D.bool ((((List.length x34) : Nat) : Int) == 0)))))))))
 (R (Mir.AV.n (Mir.D.bool false))))))))))
 (R (Mir.AV.n (Mir.D.bool false))))))))))))))))))))))))))))))
theorem vc9 (a0 : Int) (a1 : List Mir.D) (a2 : List Mir.D) (R : Mir.AV → Prop) : Vc Fs c9.body (argsQ c9 [(.n (.int .i64 a0)), (.o (.sl 1 a1)), (.o (.sl 1 a2))]) [] (endQ c9 R) = V9 a0 a1 a2 R := by kernel_rfl
def V10 (a0 : Int) (a1 : Int) (a2 : ByteArray) (a3 : List Mir.D) (R : Mir.AV → Prop) : Prop :=
 (∃ x0 : (List Mir.D),
 ((Runs Fs 29 [(Mir.AV.o (Mir.D.sl 3 a3))] [] (Mir.AV.o (Mir.D.sl 3 x0)) []) ∧
 (∃ x1 : ByteArray,
 (∃ x2 : Int,
 ((Runs Fs 19 [(Mir.AV.n (Mir.D.int .i64 a0)), (Mir.AV.n (Mir.D.int .i64 a1)), (Mir.AV.n (Mir.D.str a2))] [] (Mir.AV.tup [(Mir.AV.n (Mir.D.str x1)), (Mir.AV.n (Mir.D.int .i64 x2))]) []) ∧
 (sel (x2 == 0)
 (∃ x3 : Int,
 (∃ x4 : ByteArray,
 (∃ x5 : Int,
 ((Runs Fs 30 [(Mir.AV.n (Mir.D.str x1)), (Mir.AV.n (Mir.D.int .i64 a0))] [] (Mir.AV.tup [(Mir.AV.n (Mir.D.int .i64 x3)), (Mir.AV.n (Mir.D.str x4)), (Mir.AV.n (Mir.D.int .i64 x5))]) []) ∧
 (∃ x6 : Int,
 (∃ x7 : ByteArray,
 (∃ x8 : Int,
 ((Runs Fs 30 [(Mir.AV.n (Mir.D.str x1)), (Mir.AV.n (Mir.D.int .i64 (Go.IntKind.wrap .i64 (a0 + 1))))] [] (Mir.AV.tup [(Mir.AV.n (Mir.D.int .i64 x6)), (Mir.AV.n (Mir.D.str x7)), (Mir.AV.n (Mir.D.int .i64 x8))]) []) ∧
 (sel (x5 != 0)
 (R (Mir.AV.n (Mir.D.bool false)))
 (sel (x3 != a1)
 (R (Mir.AV.n (Mir.D.bool false)))
 (sel (Bool.not ((ByteArray.toList x4) == (ByteArray.toList a2)))
 (R (Mir.AV.n (Mir.D.bool false)))
 (sel (decide ((((ByteArray.size x1) : Nat) : Int) > 512))
 (R (Mir.AV.n (Mir.D.bool false)))
 (sel (x8 != 4)
 (R (Mir.AV.n (Mir.D.bool false)))
 (∃ x9 : ByteArray,
 (∃ x10 : Int,
 ((Runs Fs 31 [(Mir.AV.o (Mir.D.sl 3 x0))] [] (Mir.AV.tup [(Mir.AV.n (Mir.D.str x9)), (Mir.AV.n (Mir.D.int .i64 x10))]) []) ∧
 (sel (x10 == 0)
 (∃ x11 : (List Mir.D),
 (∃ x12 : Int,
 ((Runs Fs 32 [(Mir.AV.n (Mir.D.str x9))] [] (Mir.AV.tup [(Mir.AV.o (Mir.D.sl 3 x11)), (Mir.AV.n (Mir.D.int .i64 x12))]) []) ∧
 (sel (x12 != 0)
 (R (Mir.AV.n (Mir.D.bool false)))
 (∃ x13 : Bool,
 ((Runs Fs 33 [(Mir.AV.o (Mir.D.sl 3 x11)), (Mir.AV.o (Mir.D.sl 3 x0))] [] (Mir.AV.n (Mir.D.bool x13)) []) ∧
 (sel (Bool.not x13)
 (R (Mir.AV.n (Mir.D.bool false)))
 (sel (decide ((((ByteArray.size x9) : Nat) : Int) > 480))
 (R (Mir.AV.n (Mir.D.bool false)))
 (∃ x14 : (List Mir.D),
 (∃ x15 : Int,
 ((Runs Fs 32 [(Mir.AV.n (Mir.D.str a2))] [] (Mir.AV.tup [(Mir.AV.o (Mir.D.sl 3 x14)), (Mir.AV.n (Mir.D.int .i64 x15))]) []) ∧
 (sel (x15 != 0)
 (∃ x16 : Bool,
 ((Runs Fs 20 [] [] (Mir.AV.n (Mir.D.bool x16)) []) ∧
 (sel x16
 (R (Mir.AV.n (Mir.D.bool ((((List.length x14) : Nat) : Int) == 0))))
 (R (Mir.AV.n (Mir.D.bool false))))))
 (∃ x17 : ByteArray,
 (∃ x18 : Int,
 ((Runs Fs 31 [(Mir.AV.o (Mir.D.sl 3 x14))] [] (Mir.AV.tup [(Mir.AV.n (Mir.D.str x17)), (Mir.AV.n (Mir.D.int .i64 x18))]) []) ∧
 (∃ x19 : Bool,
 ((Runs Fs 20 [] [] (Mir.AV.n (Mir.D.bool x19)) []) ∧
 (sel x19
 (sel (x18 == 0)
 (R (Mir.AV.n (Mir.D.bool ((ByteArray.toList x17) == (ByteArray.toList a2)))))
 (R (Mir.AV.n (Mir.D.bool false))))
 (R (Mir.AV.n (Mir.D.bool false)))))))))))))))))))))
 (∃ x20 : (List Mir.D),
 (∃ x21 : Int,
 ((Runs Fs 32 [(Mir.AV.n (Mir.D.str a2))] [] (Mir.AV.tup [(Mir.AV.o (Mir.D.sl 3 x20)), (Mir.AV.n (Mir.D.int .i64 x21))]) []) ∧
 (sel (x21 != 0)
 (∃ x22 : Bool,
 ((Runs Fs 20 [] [] (Mir.AV.n (Mir.D.bool x22)) []) ∧
 (sel x22
 (R (Mir.AV.n (Mir.D.bool ((((List.length x20) : Nat) : Int) == 0))))
 (R (Mir.AV.n (Mir.D.bool false))))))
 (∃ x23 : ByteArray,
 (∃ x24 : Int,
 ((Runs Fs 31 [(Mir.AV.o (Mir.D.sl 3 x20))] [] (Mir.AV.tup [(Mir.AV.n (Mir.D.str x23)), (Mir.AV.n (Mir.D.int .i64 x24))]) []) ∧
 (∃ x25 : Bool,
 ((Runs Fs 20 [] [] (Mir.AV.n (Mir.D.bool x25)) []) ∧
 (sel x25
 (sel (x24 == 0)
 (R (Mir.AV.n (Mir.D.bool ((ByteArray.toList x23) == (ByteArray.toList a2)))))
 (R (Mir.AV.n (Mir.D.bool false))))
 (R (Mir.AV.n (Mir.D.bool false))))))))))))))))))))))))))))))
 (∃ x26 : ByteArray,
 (∃ x27 : Int,
 ((Runs Fs 31 [(Mir.AV.o (Mir.D.sl 3 x0))] [] (Mir.AV.tup [(Mir.AV.n (Mir.D.str x26)), (Mir.AV.n (Mir.D.int .i64 x27))]) []) ∧
 (sel (x27 == 0)
 (∃ x28 : (List Mir.D),
 (∃ x29 : Int,
 ((Runs Fs 32 [(Mir.AV.n (Mir.D.str x26))] [] (Mir.AV.tup [(Mir.AV.o (Mir.D.sl 3 x28)), (Mir.AV.n (Mir.D.int .i64 x29))]) []) ∧
 (sel (x29 != 0)
 (R (Mir.AV.n (Mir.D.bool false)))
 (∃ x30 : Bool,
 ((Runs Fs 33 [(Mir.AV.o (Mir.D.sl 3 x28)), (Mir.AV.o (Mir.D.sl 3 x0))] [] (Mir.AV.n (Mir.D.bool x30)) []) ∧
 (sel (Bool.not x30)
 (R (Mir.AV.n (Mir.D.bool false)))
 (sel (decide ((((ByteArray.size x26) : Nat) : Int) > 480))
 (R (Mir.AV.n (Mir.D.bool false)))
 (∃ x31 : (List Mir.D),
 (∃ x32 : Int,
 ((Runs Fs 32 [(Mir.AV.n (Mir.D.str a2))] [] (Mir.AV.tup [(Mir.AV.o (Mir.D.sl 3 x31)), (Mir.AV.n (Mir.D.int .i64 x32))]) []) ∧
 (sel (x32 != 0)
 (∃ x33 : Bool,
 ((Runs Fs 20 [] [] (Mir.AV.n (Mir.D.bool x33)) []) ∧
 (sel x33
 (R (Mir.AV.n (Mir.D.bool ((((List.length x31) : Nat) : Int) == 0))))
 (R (Mir.AV.n (Mir.D.bool false))))))
 (∃ x34 : ByteArray,
 (∃ x35 : Int,
 ((Runs Fs 31 [(Mir.AV.o (Mir.D.sl 3 x31))] [] (Mir.AV.tup [(Mir.AV.n (Mir.D.str x34)), (Mir.AV.n (Mir.D.int .i64 x35))]) []) ∧
 (∃ x36 : Bool,
 ((Runs Fs 20 [] [] (Mir.AV.n (Mir.D.bool x36)) []) ∧
 (sel x36
 (sel (x35 == 0)
 (R (Mir.AV.n (Mir.D.bool ((ByteArray.toList x34) == (ByteArray.toList a2)))))
 (R (Mir.AV.n (Mir.D.bool false))))
 (R (Mir.AV.n (Mir.D.bool false)))))))))))))))))))))
 (∃ x37 : (List Mir.D),
 (∃ x38 : Int,
 ((Runs Fs 32 [(Mir.AV.n (Mir.D.str a2))] [] (Mir.AV.tup [(Mir.AV.o (Mir.D.sl 3 x37)), (Mir.AV.n (Mir.D.int .i64 x38))]) []) ∧
 (sel (x38 != 0)
 (∃ x39 : Bool,
 ((Runs Fs 20 [] [] (Mir.AV.n (Mir.D.bool x39)) []) ∧
 (sel x39
 (R (Mir.AV.n (Mir.D.bool ((((List.length x37) : Nat) : Int) == 0))))
 (R (Mir.AV.n (Mir.D.bool false))))))
 (∃ x40 : ByteArray,
 (∃ x41 : Int,
 ((Runs Fs 31 [(Mir.AV.o (Mir.D.sl 3 x37))] [] (Mir.AV.tup [(Mir.AV.n (Mir.D.str x40)), (Mir.AV.n (Mir.D.int .i64 x41))]) []) ∧
 (∃ x42 : Bool,
 ((Runs Fs 20 [] [] (Mir.AV.n (Mir.D.bool x42)) []) ∧
 (sel x42
 (sel (x41 == 0)
 (R (Mir.AV.n (Mir.D.bool ((ByteArray.toList x40) == (ByteArray.toList a2)))))
 (R (Mir.AV.n (Mir.D.bool false))))
 (R (Mir.AV.n (Mir.D.bool false)))))))))))))))))))))))
theorem vc10 (a0 : Int) (a1 : Int) (a2 : ByteArray) (a3 : List Mir.D) (R : Mir.AV → Prop) : Vc Fs c10.body (argsQ c10 [(.n (.int .i64 a0)), (.n (.int .i64 a1)), (.n (.str a2)), (.o (.sl 3 a3))]) [] (endQ c10 R) = V10 a0 a1 a2 a3 R := by kernel_rfl
def V14 (a0 : ByteArray) (R : Mir.AV → Prop) : Prop :=
 ((0 = 0) ∧
 (∃ x0 : Int,
 (∃ x1 : Int,
 (∃ x2 : ByteArray,
 (∃ x3 : Int,
 ((Runs Fs 47 [(Mir.AV.n (Mir.D.str a0)), (Mir.AV.o (Mir.D.sl 1 [(Mir.D.int .i64 4)]))] [] (Mir.AV.tup [(Mir.AV.agg [(Mir.AV.n (Mir.D.int .i64 x0)), (Mir.AV.n (Mir.D.int .i64 x1)), (Mir.AV.n (Mir.D.str x2))]), (Mir.AV.n (Mir.D.int .i64 x3))]) []) ∧
 (sel (x3 != 0)
 (R (Mir.AV.tup [(Mir.AV.agg [(Mir.AV.n (Mir.D.int .i64 0)), (Mir.AV.n (Mir.D.int .i64 0)), (Mir.AV.n (Mir.D.int .i64 0)), (Mir.AV.n (Mir.D.int .i64 0))]), (Mir.AV.n (Mir.D.int .i64 x3))]))
 (∃ x4 : (Int → (Int → ((Int × (Int × (Int × (Int × (PUnit))))) → ((Int × (Int × (ByteArray × (PUnit)))) → ((Int × (Int × (Int × (Int × (PUnit))))) → Prop))))),
 (∃ x5 : (Int → (Int → ((Int × (Int × (Int × (Int × (PUnit))))) → ((Int × (Int × (ByteArray × (PUnit)))) → ((Int × (Int × (Int × (Int × (PUnit))))) → Nat))))),
 (((@Eq (List (Nat × Mir.Ob)) [(1400000, (.box [(Mir.AV.n (Mir.D.int .i64 0)), (Mir.AV.n (Mir.D.int .i64 0)), (Mir.AV.n (Mir.D.int .i64 0)), (Mir.AV.n (Mir.D.int .i64 0))])), (1400101, (.row false true 0 3 1 [(Mir.D.int .i64 4)])), (1400106, (.box [(Mir.AV.n (Mir.D.int .i64 x0)), (Mir.AV.n (Mir.D.int .i64 x1)), (Mir.AV.n (Mir.D.str x2))])), (1400403, (.box [(Mir.AV.n (Mir.D.int .i64 x1)), (Mir.AV.n (Mir.D.int .i64 0)), (Mir.AV.n (Mir.D.int .i64 0)), (Mir.AV.n (Mir.D.int .i64 0))]))] [(1400000, (.box [(Mir.AV.n (Mir.D.int .i64 0)), (Mir.AV.n (Mir.D.int .i64 0)), (Mir.AV.n (Mir.D.int .i64 0)), (Mir.AV.n (Mir.D.int .i64 0))])), (1400101, (.row false true 0 3 1 [(Mir.D.int .i64 4)])), (1400106, (.box [(Mir.AV.n (Mir.D.int .i64 x0)), (Mir.AV.n (Mir.D.int .i64 x1)), (Mir.AV.n (Mir.D.str x2))])), (1400403, (.box [(Mir.AV.n (Mir.D.int .i64 x1)), (Mir.AV.n (Mir.D.int .i64 0)), (Mir.AV.n (Mir.D.int .i64 0)), (Mir.AV.n (Mir.D.int .i64 0))]))]) ∧
 (x4 0 0 (0, (0, (0, (0, Unit.unit)))) (x0, (x1, (x2, Unit.unit))) (x1, (0, (0, (0, Unit.unit)))))) ∧
 (∀ x6 : Int,
 (∀ x7 : Int,
 (∀ x8 : (Int × (Int × (Int × (Int × (PUnit))))),
 (∀ x9 : (Int × (Int × (ByteArray × (PUnit)))),
 (∀ x10 : (Int × (Int × (Int × (Int × (PUnit))))),
 ((x4 x6 x7 x8 x9 x10) →
 (∀ x11 : (Nat → Mir.AV),
 (sel (decide (x7 < 3))
 (((0 : Int) ≤ x7) ∧
 (((x7 : Int) < ((3 : Nat) : Int)) ∧
 (sel (x7 == ((0 : Nat) : Int))
 (∃ x12 : Int,
 (∃ x13 : Int,
 (∃ x14 : Int,
 ((Runs Fs 48 [(Mir.AV.n (Mir.D.str x9.2.2.1)), (Mir.AV.n (Mir.D.int .i64 x6)), (Mir.AV.n (Mir.D.int .i64 2))] [] (Mir.AV.tup [(Mir.AV.n (Mir.D.int .i64 x12)), (Mir.AV.n (Mir.D.int .i64 x13)), (Mir.AV.n (Mir.D.int .i64 x14))]) []) ∧
 (sel (x14 != 0)
 (R (Mir.AV.tup [(Mir.AV.agg [(Mir.AV.n (Mir.D.int .i64 0)), (Mir.AV.n (Mir.D.int .i64 0)), (Mir.AV.n (Mir.D.int .i64 0)), (Mir.AV.n (Mir.D.int .i64 0))]), (Mir.AV.n (Mir.D.int .i64 4))]))
 ((((Mir.AV.ptr 1400000 0) : Mir.AV) = (Mir.AV.ptr 1400000 0)) ∧
 ((((Mir.AV.ptr 1400106 0) : Mir.AV) = (Mir.AV.ptr 1400106 0)) ∧
 ((((Mir.AV.ptr 1400403 0) : Mir.AV) = (Mir.AV.ptr 1400403 0)) ∧
 ((((Mir.AV.agg [(Mir.AV.ptr 1400403 1), (Mir.AV.ptr 1400403 2), (Mir.AV.ptr 1400403 3)]) : Mir.AV) = (Mir.AV.agg [(Mir.AV.ptr 1400403 1), (Mir.AV.ptr 1400403 2), (Mir.AV.ptr 1400403 3)])) ∧
 ((@Eq (List (Nat × Mir.Ob)) [(1400000, (.box [(Mir.AV.n (Mir.D.int .i64 x8.1)), (Mir.AV.n (Mir.D.int .i64 x8.2.1)), (Mir.AV.n (Mir.D.int .i64 x8.2.2.1)), (Mir.AV.n (Mir.D.int .i64 x8.2.2.2.1))])), (1400101, (.row false true 0 3 1 [(Mir.D.int .i64 4)])), (1400106, (.box [(Mir.AV.n (Mir.D.int .i64 x9.1)), (Mir.AV.n (Mir.D.int .i64 x9.2.1)), (Mir.AV.n (Mir.D.str x9.2.2.1))])), (1400403, (.box [(Mir.AV.n (Mir.D.int .i64 x10.1)), (Mir.AV.n (Mir.D.int .i64 x12)), (Mir.AV.n (Mir.D.int .i64 x10.2.2.1)), (Mir.AV.n (Mir.D.int .i64 x10.2.2.2.1))]))] [(1400000, (.box [(Mir.AV.n (Mir.D.int .i64 x8.1)), (Mir.AV.n (Mir.D.int .i64 x8.2.1)), (Mir.AV.n (Mir.D.int .i64 x8.2.2.1)), (Mir.AV.n (Mir.D.int .i64 x8.2.2.2.1))])), (1400101, (.row false true 0 3 1 [(Mir.D.int .i64 4)])), (1400106, (.box [(Mir.AV.n (Mir.D.int .i64 x9.1)), (Mir.AV.n (Mir.D.int .i64 x9.2.1)), (Mir.AV.n (Mir.D.str x9.2.2.1))])), (1400403, (.box [(Mir.AV.n (Mir.D.int .i64 x10.1)), (Mir.AV.n (Mir.D.int .i64 x12)), (Mir.AV.n (Mir.D.int .i64 x10.2.2.1)), (Mir.AV.n (Mir.D.int .i64 x10.2.2.2.1))]))]) ∧
 ((x4 x13 (Go.IntKind.wrap .i64 (x7 + 1)) (x8.1, (x8.2.1, (x8.2.2.1, (x8.2.2.2.1, Unit.unit)))) (x9.1, (x9.2.1, (x9.2.2.1, Unit.unit))) (x10.1, (x12, (x10.2.2.1, (x10.2.2.2.1, Unit.unit))))) ∧
 (((x5 x13 (Go.IntKind.wrap .i64 (x7 + 1)) (x8.1, (x8.2.1, (x8.2.2.1, (x8.2.2.2.1, Unit.unit)))) (x9.1, (x9.2.1, (x9.2.2.1, Unit.unit))) (x10.1, (x12, (x10.2.2.1, (x10.2.2.2.1, Unit.unit))))) : Nat) < (x5 x6 x7 x8 x9 x10)))))))))))))
 (sel (x7 == (((0 + 1) : Nat) : Int))
 (∃ x15 : Int,
 (∃ x16 : Int,
 (∃ x17 : Int,
 ((Runs Fs 48 [(Mir.AV.n (Mir.D.str x9.2.2.1)), (Mir.AV.n (Mir.D.int .i64 x6)), (Mir.AV.n (Mir.D.int .i64 2))] [] (Mir.AV.tup [(Mir.AV.n (Mir.D.int .i64 x15)), (Mir.AV.n (Mir.D.int .i64 x16)), (Mir.AV.n (Mir.D.int .i64 x17))]) []) ∧
 (sel (x17 != 0)
 (R (Mir.AV.tup [(Mir.AV.agg [(Mir.AV.n (Mir.D.int .i64 0)), (Mir.AV.n (Mir.D.int .i64 0)), (Mir.AV.n (Mir.D.int .i64 0)), (Mir.AV.n (Mir.D.int .i64 0))]), (Mir.AV.n (Mir.D.int .i64 4))]))
 ((((Mir.AV.ptr 1400000 0) : Mir.AV) = (Mir.AV.ptr 1400000 0)) ∧
 ((((Mir.AV.ptr 1400106 0) : Mir.AV) = (Mir.AV.ptr 1400106 0)) ∧
 ((((Mir.AV.ptr 1400403 0) : Mir.AV) = (Mir.AV.ptr 1400403 0)) ∧
 ((((Mir.AV.agg [(Mir.AV.ptr 1400403 1), (Mir.AV.ptr 1400403 2), (Mir.AV.ptr 1400403 3)]) : Mir.AV) = (Mir.AV.agg [(Mir.AV.ptr 1400403 1), (Mir.AV.ptr 1400403 2), (Mir.AV.ptr 1400403 3)])) ∧
 ((@Eq (List (Nat × Mir.Ob)) [(1400000, (.box [(Mir.AV.n (Mir.D.int .i64 x8.1)), (Mir.AV.n (Mir.D.int .i64 x8.2.1)), (Mir.AV.n (Mir.D.int .i64 x8.2.2.1)), (Mir.AV.n (Mir.D.int .i64 x8.2.2.2.1))])), (1400101, (.row false true 0 3 1 [(Mir.D.int .i64 4)])), (1400106, (.box [(Mir.AV.n (Mir.D.int .i64 x9.1)), (Mir.AV.n (Mir.D.int .i64 x9.2.1)), (Mir.AV.n (Mir.D.str x9.2.2.1))])), (1400403, (.box [(Mir.AV.n (Mir.D.int .i64 x10.1)), (Mir.AV.n (Mir.D.int .i64 x10.2.1)), (Mir.AV.n (Mir.D.int .i64 x15)), (Mir.AV.n (Mir.D.int .i64 x10.2.2.2.1))]))] [(1400000, (.box [(Mir.AV.n (Mir.D.int .i64 x8.1)), (Mir.AV.n (Mir.D.int .i64 x8.2.1)), (Mir.AV.n (Mir.D.int .i64 x8.2.2.1)), (Mir.AV.n (Mir.D.int .i64 x8.2.2.2.1))])), (1400101, (.row false true 0 3 1 [(Mir.D.int .i64 4)])), (1400106, (.box [(Mir.AV.n (Mir.D.int .i64 x9.1)), (Mir.AV.n (Mir.D.int .i64 x9.2.1)), (Mir.AV.n (Mir.D.str x9.2.2.1))])), (1400403, (.box [(Mir.AV.n (Mir.D.int .i64 x10.1)), (Mir.AV.n (Mir.D.int .i64 x10.2.1)), (Mir.AV.n (Mir.D.int .i64 x15)), (Mir.AV.n (Mir.D.int .i64 x10.2.2.2.1))]))]) ∧
 ((x4 x16 (Go.IntKind.wrap .i64 (x7 + 1)) (x8.1, (x8.2.1, (x8.2.2.1, (x8.2.2.2.1, Unit.unit)))) (x9.1, (x9.2.1, (x9.2.2.1, Unit.unit))) (x10.1, (x10.2.1, (x15, (x10.2.2.2.1, Unit.unit))))) ∧
 (((x5 x16 (Go.IntKind.wrap .i64 (x7 + 1)) (x8.1, (x8.2.1, (x8.2.2.1, (x8.2.2.2.1, Unit.unit)))) (x9.1, (x9.2.1, (x9.2.2.1, Unit.unit))) (x10.1, (x10.2.1, (x15, (x10.2.2.2.1, Unit.unit))))) : Nat) < (x5 x6 x7 x8 x9 x10)))))))))))))
 (sel (x7 == ((((0 + 1) + 1) : Nat) : Int))
 (∃ x18 : Int,
 (∃ x19 : Int,
 (∃ x20 : Int,
 ((Runs Fs 48 [(Mir.AV.n (Mir.D.str x9.2.2.1)), (Mir.AV.n (Mir.D.int .i64 x6)), (Mir.AV.n (Mir.D.int .i64 2))] [] (Mir.AV.tup [(Mir.AV.n (Mir.D.int .i64 x18)), (Mir.AV.n (Mir.D.int .i64 x19)), (Mir.AV.n (Mir.D.int .i64 x20))]) []) ∧
 (sel (x20 != 0)
 (R (Mir.AV.tup [(Mir.AV.agg [(Mir.AV.n (Mir.D.int .i64 0)), (Mir.AV.n (Mir.D.int .i64 0)), (Mir.AV.n (Mir.D.int .i64 0)), (Mir.AV.n (Mir.D.int .i64 0))]), (Mir.AV.n (Mir.D.int .i64 4))]))
 ((((Mir.AV.ptr 1400000 0) : Mir.AV) = (Mir.AV.ptr 1400000 0)) ∧
 ((((Mir.AV.ptr 1400106 0) : Mir.AV) = (Mir.AV.ptr 1400106 0)) ∧
 ((((Mir.AV.ptr 1400403 0) : Mir.AV) = (Mir.AV.ptr 1400403 0)) ∧
 ((((Mir.AV.agg [(Mir.AV.ptr 1400403 1), (Mir.AV.ptr 1400403 2), (Mir.AV.ptr 1400403 3)]) : Mir.AV) = (Mir.AV.agg [(Mir.AV.ptr 1400403 1), (Mir.AV.ptr 1400403 2), (Mir.AV.ptr 1400403 3)])) ∧
 ((@Eq (List (Nat × Mir.Ob)) [(1400000, (.box [(Mir.AV.n (Mir.D.int .i64 x8.1)), (Mir.AV.n (Mir.D.int .i64 x8.2.1)), (Mir.AV.n (Mir.D.int .i64 x8.2.2.1)), (Mir.AV.n (Mir.D.int .i64 x8.2.2.2.1))])), (1400101, (.row false true 0 3 1 [(Mir.D.int .i64 4)])), (1400106, (.box [(Mir.AV.n (Mir.D.int .i64 x9.1)), (Mir.AV.n (Mir.D.int .i64 x9.2.1)), (Mir.AV.n (Mir.D.str x9.2.2.1))])), (1400403, (.box [(Mir.AV.n (Mir.D.int .i64 x10.1)), (Mir.AV.n (Mir.D.int .i64 x10.2.1)), (Mir.AV.n (Mir.D.int .i64 x10.2.2.1)), (Mir.AV.n (Mir.D.int .i64 x18))]))] [(1400000, (.box [(Mir.AV.n (Mir.D.int .i64 x8.1)), (Mir.AV.n (Mir.D.int .i64 x8.2.1)), (Mir.AV.n (Mir.D.int .i64 x8.2.2.1)), (Mir.AV.n (Mir.D.int .i64 x8.2.2.2.1))])), (1400101, (.row false true 0 3 1 [(Mir.D.int .i64 4)])), (1400106, (.box [(Mir.AV.n (Mir.D.int .i64 x9.1)), (Mir.AV.n (Mir.D.int .i64 x9.2.1)), (Mir.AV.n (Mir.D.str x9.2.2.1))])), (1400403, (.box [(Mir.AV.n (Mir.D.int .i64 x10.1)), (Mir.AV.n (Mir.D.int .i64 x10.2.1)), (Mir.AV.n (Mir.D.int .i64 x10.2.2.1)), (Mir.AV.n (Mir.D.int .i64 x18))]))]) ∧
 ((x4 x19 (Go.IntKind.wrap .i64 (x7 + 1)) (x8.1, (x8.2.1, (x8.2.2.1, (x8.2.2.2.1, Unit.unit)))) (x9.1, (x9.2.1, (x9.2.2.1, Unit.unit))) (x10.1, (x10.2.1, (x10.2.2.1, (x18, Unit.unit))))) ∧
 (((x5 x19 (Go.IntKind.wrap .i64 (x7 + 1)) (x8.1, (x8.2.1, (x8.2.2.1, (x8.2.2.2.1, Unit.unit)))) (x9.1, (x9.2.1, (x9.2.2.1, Unit.unit))) (x10.1, (x10.2.1, (x10.2.2.1, (x18, Unit.unit))))) : Nat) < (x5 x6 x7 x8 x9 x10)))))))))))))
 False)))))
 (sel (x6 != (((ByteArray.size x9.2.2.1) : Nat) : Int))
 (R (Mir.AV.tup [(Mir.AV.agg [(Mir.AV.n (Mir.D.int .i64 0)), (Mir.AV.n (Mir.D.int .i64 0)), (Mir.AV.n (Mir.D.int .i64 0)), (Mir.AV.n (Mir.D.int .i64 0))]), (Mir.AV.n (Mir.D.int .i64 4))]))
 (∃ x21 : Bool,
 ((Runs Fs 24 [(Mir.AV.agg [(Mir.AV.n (Mir.D.int .i64 x10.1)), (Mir.AV.n (Mir.D.int .i64 x10.2.1)), (Mir.AV.n (Mir.D.int .i64 x10.2.2.1)), (Mir.AV.n (Mir.D.int .i64 x10.2.2.2.1))])] [] (Mir.AV.n (Mir.D.bool x21)) []) ∧
 (sel (Bool.not x21)
 (R (Mir.AV.tup [(Mir.AV.agg [(Mir.AV.n (Mir.D.int .i64 0)), (Mir.AV.n (Mir.D.int .i64 0)), (Mir.AV.n (Mir.D.int .i64 0)), (Mir.AV.n (Mir.D.int .i64 0))]), (Mir.AV.n (Mir.D.int .i64 4))]))
 (R (Mir.AV.tup [(Mir.AV.agg [(Mir.AV.n (Mir.D.int .i64 x10.1)), (Mir.AV.n (Mir.D.int .i64 x10.2.1)), (Mir.AV.n (Mir.D.int .i64 x10.2.2.1)), (Mir.AV.n (Mir.D.int .i64 x10.2.2.2.1))]), (Mir.AV.n (Mir.D.int .i64 0))]))))))))))))))))))))))))
theorem vc14 (a0 : ByteArray) (R : Mir.AV → Prop) : Vc Fs c14.body (argsQ c14 [(.n (.str a0))]) [] (endQ c14 R) = V14 a0 R := by kernel_rfl
def V15 (a0 : ByteArray) (R : Mir.AV → Prop) : Prop :=
 (∃ x0 : Int,
 (∃ x1 : Int,
 (∃ x2 : ByteArray,
 (∃ x3 : Int,
 ((Runs Fs 49 [(Mir.AV.n (Mir.D.str a0))] [] (Mir.AV.tup [(Mir.AV.agg [(Mir.AV.n (Mir.D.int .i64 x0)), (Mir.AV.n (Mir.D.int .i64 x1)), (Mir.AV.n (Mir.D.str x2))]), (Mir.AV.n (Mir.D.int .i64 x3))]) []) ∧
 (sel (x3 != 0)
 (R (Mir.AV.tup [(Mir.AV.agg [(Mir.AV.n (Mir.D.int .i64 0)), (Mir.AV.n (Mir.D.int .i64 0)), (Mir.AV.n (Mir.D.int .i64 0)), (Mir.AV.n (Mir.D.int .i64 0))]), (Mir.AV.n (Mir.D.int .i64 x3))]))
 (sel (x0 != 4)
 (R (Mir.AV.tup [(Mir.AV.agg [(Mir.AV.n (Mir.D.int .i64 0)), (Mir.AV.n (Mir.D.int .i64 0)), (Mir.AV.n (Mir.D.int .i64 0)), (Mir.AV.n (Mir.D.int .i64 0))]), (Mir.AV.n (Mir.D.int .i64 40))]))
 (sel ((((ByteArray.size x2) : Nat) : Int) != 6)
 (R (Mir.AV.tup [(Mir.AV.agg [(Mir.AV.n (Mir.D.int .i64 0)), (Mir.AV.n (Mir.D.int .i64 0)), (Mir.AV.n (Mir.D.int .i64 0)), (Mir.AV.n (Mir.D.int .i64 0))]), (Mir.AV.n (Mir.D.int .i64 4))]))
 (((0 : Int) ≤ 0) ∧
 (∃ x4 : UInt8,
 ((((GetElem?.getElem? (Array.toList (ByteArray.data x2)) (Int.toNat 0)) : (Option UInt8)) = (some x4)) ∧
 (((0 : Int) ≤ 1) ∧
 (∃ x5 : UInt8,
 ((((GetElem?.getElem? (Array.toList (ByteArray.data x2)) (Int.toNat 1)) : (Option UInt8)) = (some x5)) ∧
 (((0 : Int) ≤ 2) ∧
 (∃ x6 : UInt8,
 ((((GetElem?.getElem? (Array.toList (ByteArray.data x2)) (Int.toNat 2)) : (Option UInt8)) = (some x6)) ∧
 (((0 : Int) ≤ 3) ∧
 (∃ x7 : UInt8,
 ((((GetElem?.getElem? (Array.toList (ByteArray.data x2)) (Int.toNat 3)) : (Option UInt8)) = (some x7)) ∧
 (((0 : Int) ≤ 4) ∧
 (∃ x8 : UInt8,
 ((((GetElem?.getElem? (Array.toList (ByteArray.data x2)) (Int.toNat 4)) : (Option UInt8)) = (some x8)) ∧
 (((0 : Int) ≤ 5) ∧
 (∃ x9 : UInt8,
 ((((GetElem?.getElem? (Array.toList (ByteArray.data x2)) (Int.toNat 5)) : (Option UInt8)) = (some x9)) ∧
 (∃ x10 : Bool,
 ((Runs Fs 23 [(Mir.AV.agg [(Mir.AV.n (Mir.D.int .i64 x1)), (Mir.AV.n (Mir.D.int .i64 (Go.IntKind.wrap .i64 ((Go.IntKind.wrap .i64 (256 * (Go.IntKind.wrap .i64 (((UInt8.toNat x4) : Nat) : Int)))) + (Go.IntKind.wrap .i64 (((UInt8.toNat x5) : Nat) : Int)))))), (Mir.AV.n (Mir.D.int .i64 (Go.IntKind.wrap .i64 ((Go.IntKind.wrap .i64 (256 * (Go.IntKind.wrap .i64 (((UInt8.toNat x6) : Nat) : Int)))) + (Go.IntKind.wrap .i64 (((UInt8.toNat x7) : Nat) : Int)))))), (Mir.AV.n (Mir.D.int .i64 (Go.IntKind.wrap .i64 ((Go.IntKind.wrap .i64 (256 * (Go.IntKind.wrap .i64 (((UInt8.toNat x8) : Nat) : Int)))) + (Go.IntKind.wrap .i64 (((UInt8.toNat x9) : Nat) : Int))))))])] [] (Mir.AV.n (Mir.D.bool x10)) []) ∧
 (sel (Bool.not x10)
 (R (Mir.AV.tup [(Mir.AV.agg [(Mir.AV.n (Mir.D.int .i64 0)), (Mir.AV.n (Mir.D.int .i64 0)), (Mir.AV.n (Mir.D.int .i64 0)), (Mir.AV.n (Mir.D.int .i64 0))]), (Mir.AV.n (Mir.D.int .i64 4))]))
 (R (Mir.AV.tup [(Mir.AV.agg [(Mir.AV.n (Mir.D.int .i64 x1)), (Mir.AV.n (Mir.D.int .i64 (Go.IntKind.wrap .i64 ((Go.IntKind.wrap .i64 (256 * (Go.IntKind.wrap .i64 (((UInt8.toNat x4) : Nat) : Int)))) + (Go.IntKind.wrap .i64 (((UInt8.toNat x5) : Nat) : Int)))))), (Mir.AV.n (Mir.D.int .i64 (Go.IntKind.wrap .i64 ((Go.IntKind.wrap .i64 (256 * (Go.IntKind.wrap .i64 (((UInt8.toNat x6) : Nat) : Int)))) + (Go.IntKind.wrap .i64 (((UInt8.toNat x7) : Nat) : Int)))))), (Mir.AV.n (Mir.D.int .i64 (Go.IntKind.wrap .i64 ((Go.IntKind.wrap .i64 (256 * (Go.IntKind.wrap .i64 (((UInt8.toNat x8) : Nat) : Int)))) + (Go.IntKind.wrap .i64 (((UInt8.toNat x9) : Nat) : Int))))))]), (Mir.AV.n (Mir.D.int .i64 0))])))))))))))))))))))))))))))))))
theorem vc15 (a0 : ByteArray) (R : Mir.AV → Prop) : Vc Fs c15.body (argsQ c15 [(.n (.str a0))]) [] (endQ c15 R) = V15 a0 R := by kernel_rfl
def V16 (a0 : List Mir.D) (R : Mir.AV → Prop) : Prop :=
 (∃ x0 : (Int → (Int → ((Int × (Int × (Int × (Int × (PUnit))))) → Prop))),
 (∃ x1 : (Int → (Int → ((Int × (Int × (Int × (Int × (PUnit))))) → Nat))),
 (((@Eq (List (Nat × Mir.Ob)) [(1600000, (.box [(Mir.AV.n (Mir.D.int .i64 0)), (Mir.AV.n (Mir.D.int .i64 0)), (Mir.AV.n (Mir.D.int .i64 0)), (Mir.AV.n (Mir.D.int .i64 0))])), (1600101, (.box [(Mir.AV.n (Mir.D.int .i64 0)), (Mir.AV.n (Mir.D.int .i64 0)), (Mir.AV.n (Mir.D.int .i64 0)), (Mir.AV.n (Mir.D.int .i64 0))]))] [(1600000, (.box [(Mir.AV.n (Mir.D.int .i64 0)), (Mir.AV.n (Mir.D.int .i64 0)), (Mir.AV.n (Mir.D.int .i64 0)), (Mir.AV.n (Mir.D.int .i64 0))])), (1600101, (.box [(Mir.AV.n (Mir.D.int .i64 0)), (Mir.AV.n (Mir.D.int .i64 0)), (Mir.AV.n (Mir.D.int .i64 0)), (Mir.AV.n (Mir.D.int .i64 0))]))]) ∧
 (x0 (-1) 0 (0, (0, (0, (0, Unit.unit)))))) ∧
 (∀ x2 : Int,
 (∀ x3 : Int,
 (∀ x4 : (Int × (Int × (Int × (Int × (PUnit))))),
 ((x0 x2 x3 x4) →
 (∀ x5 : (Nat → Mir.AV),
 (sel (decide (x3 < (((List.length a0) : Nat) : Int)))
 (((1 : Nat) = 1) ∧
 (((0 : Int) ≤ x3) ∧
 (∃ x6 : Mir.D,
 ((((GetElem?.getElem? a0 (Int.toNat x3)) : (Option Mir.D)) = (some x6)) ∧
 (∃ x7 : ByteArray,
 ((((GetElem?.getElem? (Go.Mir.D.cells x6) 0) : (Option Mir.D)) = (some (Mir.D.str x7))) ∧
 (∃ x8 : Int,
 (∃ x9 : Int,
 (∃ x10 : Int,
 (∃ x11 : Int,
 (∃ x12 : Int,
 ((Runs Fs 14 [(Mir.AV.n (Mir.D.str x7))] [] (Mir.AV.tup [(Mir.AV.agg [(Mir.AV.n (Mir.D.int .i64 x8)), (Mir.AV.n (Mir.D.int .i64 x9)), (Mir.AV.n (Mir.D.int .i64 x10)), (Mir.AV.n (Mir.D.int .i64 x11))]), (Mir.AV.n (Mir.D.int .i64 x12))]) []) ∧
 (sel (x12 == 0)
 (sel (decide (x8 > x4.1))
 ((((Mir.AV.ptr 1600000 0) : Mir.AV) = (Mir.AV.ptr 1600000 0)) ∧
 ((((Mir.AV.ptr 1600101 0) : Mir.AV) = (Mir.AV.ptr 1600101 0)) ∧
 ((((Mir.AV.o (Mir.D.sl 1 a0)) : Mir.AV) = (Mir.AV.o (Mir.D.sl 1 a0))) ∧
 ((((Mir.AV.n (Mir.D.int .i64 (((List.length a0) : Nat) : Int))) : Mir.AV) = (Mir.AV.n (Mir.D.int .i64 (((List.length a0) : Nat) : Int)))) ∧
 ((@Eq (List (Nat × Mir.Ob)) [(1600000, (.box [(Mir.AV.n (Mir.D.int .i64 0)), (Mir.AV.n (Mir.D.int .i64 0)), (Mir.AV.n (Mir.D.int .i64 0)), (Mir.AV.n (Mir.D.int .i64 0))])), (1600101, (.box [(Mir.AV.n (Mir.D.int .i64 x8)), (Mir.AV.n (Mir.D.int .i64 x9)), (Mir.AV.n (Mir.D.int .i64 x10)), (Mir.AV.n (Mir.D.int .i64 x11))]))] [(1600000, (.box [(Mir.AV.n (Mir.D.int .i64 0)), (Mir.AV.n (Mir.D.int .i64 0)), (Mir.AV.n (Mir.D.int .i64 0)), (Mir.AV.n (Mir.D.int .i64 0))])), (1600101, (.box [(Mir.AV.n (Mir.D.int .i64 x8)), (Mir.AV.n (Mir.D.int .i64 x9)), (Mir.AV.n (Mir.D.int .i64 x10)), (Mir.AV.n (Mir.D.int .i64 x11))]))]) ∧
 ((x0 x3 (Go.IntKind.wrap .i64 (x3 + 1)) (x8, (x9, (x10, (x11, Unit.unit))))) ∧
 (((x1 x3 (Go.IntKind.wrap .i64 (x3 + 1)) (x8, (x9, (x10, (x11, Unit.unit))))) : Nat) < (x1 x2 x3 x4))))))))
 ((((Mir.AV.ptr 1600000 0) : Mir.AV) = (Mir.AV.ptr 1600000 0)) ∧
 ((((Mir.AV.ptr 1600101 0) : Mir.AV) = (Mir.AV.ptr 1600101 0)) ∧
 ((((Mir.AV.o (Mir.D.sl 1 a0)) : Mir.AV) = (Mir.AV.o (Mir.D.sl 1 a0))) ∧
 ((((Mir.AV.n (Mir.D.int .i64 (((List.length a0) : Nat) : Int))) : Mir.AV) = (Mir.AV.n (Mir.D.int .i64 (((List.length a0) : Nat) : Int)))) ∧
 ((@Eq (List (Nat × Mir.Ob)) [(1600000, (.box [(Mir.AV.n (Mir.D.int .i64 0)), (Mir.AV.n (Mir.D.int .i64 0)), (Mir.AV.n (Mir.D.int .i64 0)), (Mir.AV.n (Mir.D.int .i64 0))])), (1600101, (.box [(Mir.AV.n (Mir.D.int .i64 x4.1)), (Mir.AV.n (Mir.D.int .i64 x4.2.1)), (Mir.AV.n (Mir.D.int .i64 x4.2.2.1)), (Mir.AV.n (Mir.D.int .i64 x4.2.2.2.1))]))] [(1600000, (.box [(Mir.AV.n (Mir.D.int .i64 0)), (Mir.AV.n (Mir.D.int .i64 0)), (Mir.AV.n (Mir.D.int .i64 0)), (Mir.AV.n (Mir.D.int .i64 0))])), (1600101, (.box [(Mir.AV.n (Mir.D.int .i64 x4.1)), (Mir.AV.n (Mir.D.int .i64 x4.2.1)), (Mir.AV.n (Mir.D.int .i64 x4.2.2.1)), (Mir.AV.n (Mir.D.int .i64 x4.2.2.2.1))]))]) ∧
 ((x0 x2 (Go.IntKind.wrap .i64 (x3 + 1)) (x4.1, (x4.2.1, (x4.2.2.1, (x4.2.2.2.1, Unit.unit))))) ∧
 (((x1 x2 (Go.IntKind.wrap .i64 (x3 + 1)) (x4.1, (x4.2.1, (x4.2.2.1, (x4.2.2.2.1, Unit.unit))))) : Nat) < (x1 x2 x3 x4)))))))))
 ((((Mir.AV.ptr 1600000 0) : Mir.AV) = (Mir.AV.ptr 1600000 0)) ∧
 ((((Mir.AV.ptr 1600101 0) : Mir.AV) = (Mir.AV.ptr 1600101 0)) ∧
 ((((Mir.AV.o (Mir.D.sl 1 a0)) : Mir.AV) = (Mir.AV.o (Mir.D.sl 1 a0))) ∧
 ((((Mir.AV.n (Mir.D.int .i64 (((List.length a0) : Nat) : Int))) : Mir.AV) = (Mir.AV.n (Mir.D.int .i64 (((List.length a0) : Nat) : Int)))) ∧
 ((@Eq (List (Nat × Mir.Ob)) [(1600000, (.box [(Mir.AV.n (Mir.D.int .i64 0)), (Mir.AV.n (Mir.D.int .i64 0)), (Mir.AV.n (Mir.D.int .i64 0)), (Mir.AV.n (Mir.D.int .i64 0))])), (1600101, (.box [(Mir.AV.n (Mir.D.int .i64 x4.1)), (Mir.AV.n (Mir.D.int .i64 x4.2.1)), (Mir.AV.n (Mir.D.int .i64 x4.2.2.1)), (Mir.AV.n (Mir.D.int .i64 x4.2.2.2.1))]))] [(1600000, (.box [(Mir.AV.n (Mir.D.int .i64 0)), (Mir.AV.n (Mir.D.int .i64 0)), (Mir.AV.n (Mir.D.int .i64 0)), (Mir.AV.n (Mir.D.int .i64 0))])), (1600101, (.box [(Mir.AV.n (Mir.D.int .i64 x4.1)), (Mir.AV.n (Mir.D.int .i64 x4.2.1)), (Mir.AV.n (Mir.D.int .i64 x4.2.2.1)), (Mir.AV.n (Mir.D.int .i64 x4.2.2.2.1))]))]) ∧
 ((x0 x2 (Go.IntKind.wrap .i64 (x3 + 1)) (x4.1, (x4.2.1, (x4.2.2.1, (x4.2.2.2.1, Unit.unit))))) ∧
 (((x1 x2 (Go.IntKind.wrap .i64 (x3 + 1)) (x4.1, (x4.2.1, (x4.2.2.1, (x4.2.2.2.1, Unit.unit))))) : Nat) < (x1 x2 x3 x4)))))))))))))))))))))
 (sel (decide (x2 < 0))
 (R (Mir.AV.tup [(Mir.AV.agg [(Mir.AV.n (Mir.D.int .i64 0)), (Mir.AV.n (Mir.D.int .i64 0)), (Mir.AV.n (Mir.D.int .i64 0)), (Mir.AV.n (Mir.D.int .i64 0))]), (Mir.AV.n (Mir.D.int .i64 0)), (Mir.AV.n (Mir.D.int .i64 120))]))
 (R (Mir.AV.tup [(Mir.AV.agg [(Mir.AV.n (Mir.D.int .i64 x4.1)), (Mir.AV.n (Mir.D.int .i64 x4.2.1)), (Mir.AV.n (Mir.D.int .i64 x4.2.2.1)), (Mir.AV.n (Mir.D.int .i64 x4.2.2.2.1))]), (Mir.AV.n (Mir.D.int .i64 x2)), (Mir.AV.n (Mir.D.int .i64 0))]))))))))))))
theorem vc16 (a0 : List Mir.D) (R : Mir.AV → Prop) : Vc Fs c16.body (argsQ c16 [(.o (.sl 1 a0))]) [] (endQ c16 R) = V16 a0 R := by kernel_rfl
def V17 (a0 : List Mir.D) (R : Mir.AV → Prop) : Prop :=
 (∃ x0 : (Int → (Int → ((Int × (Int × (Int × (Int × (PUnit))))) → Prop))),
 (∃ x1 : (Int → (Int → ((Int × (Int × (Int × (Int × (PUnit))))) → Nat))),
 (((@Eq (List (Nat × Mir.Ob)) [(1700000, (.box [(Mir.AV.n (Mir.D.int .i64 0)), (Mir.AV.n (Mir.D.int .i64 0)), (Mir.AV.n (Mir.D.int .i64 0)), (Mir.AV.n (Mir.D.int .i64 0))])), (1700201, (.box [(Mir.AV.n (Mir.D.int .i64 0)), (Mir.AV.n (Mir.D.int .i64 0)), (Mir.AV.n (Mir.D.int .i64 0)), (Mir.AV.n (Mir.D.int .i64 0))]))] [(1700000, (.box [(Mir.AV.n (Mir.D.int .i64 0)), (Mir.AV.n (Mir.D.int .i64 0)), (Mir.AV.n (Mir.D.int .i64 0)), (Mir.AV.n (Mir.D.int .i64 0))])), (1700201, (.box [(Mir.AV.n (Mir.D.int .i64 0)), (Mir.AV.n (Mir.D.int .i64 0)), (Mir.AV.n (Mir.D.int .i64 0)), (Mir.AV.n (Mir.D.int .i64 0))]))]) ∧
 (x0 (-1) (Go.IntKind.wrap .i64 ((((List.length a0) : Nat) : Int) - 1)) (0, (0, (0, (0, Unit.unit)))))) ∧
 (∀ x2 : Int,
 (∀ x3 : Int,
 (∀ x4 : (Int × (Int × (Int × (Int × (PUnit))))),
 ((x0 x2 x3 x4) →
 (∀ x5 : (Nat → Mir.AV),
 (sel (decide (x3 ≥ 0))
 (((1 : Nat) = 1) ∧
 (((0 : Int) ≤ x3) ∧
 (∃ x6 : Mir.D,
 ((((GetElem?.getElem? a0 (Int.toNat x3)) : (Option Mir.D)) = (some x6)) ∧
 (∃ x7 : ByteArray,
 ((((GetElem?.getElem? (Go.Mir.D.cells x6) 0) : (Option Mir.D)) = (some (Mir.D.str x7))) ∧
 (∃ x8 : Int,
 (∃ x9 : Int,
 (∃ x10 : Int,
 (∃ x11 : Int,
 (∃ x12 : Int,
 ((Runs Fs 15 [(Mir.AV.n (Mir.D.str x7))] [] (Mir.AV.tup [(Mir.AV.agg [(Mir.AV.n (Mir.D.int .i64 x8)), (Mir.AV.n (Mir.D.int .i64 x9)), (Mir.AV.n (Mir.D.int .i64 x10)), (Mir.AV.n (Mir.D.int .i64 x11))]), (Mir.AV.n (Mir.D.int .i64 x12))]) []) ∧
 (sel (x12 == 0)
 (sel (decide (x8 ≥ x4.1))
 ((((Mir.AV.o (Mir.D.sl 1 a0)) : Mir.AV) = (Mir.AV.o (Mir.D.sl 1 a0))) ∧
 ((((Mir.AV.ptr 1700000 0) : Mir.AV) = (Mir.AV.ptr 1700000 0)) ∧
 ((((Mir.AV.ptr 1700201 0) : Mir.AV) = (Mir.AV.ptr 1700201 0)) ∧
 ((@Eq (List (Nat × Mir.Ob)) [(1700000, (.box [(Mir.AV.n (Mir.D.int .i64 0)), (Mir.AV.n (Mir.D.int .i64 0)), (Mir.AV.n (Mir.D.int .i64 0)), (Mir.AV.n (Mir.D.int .i64 0))])), (1700201, (.box [(Mir.AV.n (Mir.D.int .i64 x8)), (Mir.AV.n (Mir.D.int .i64 x9)), (Mir.AV.n (Mir.D.int .i64 x10)), (Mir.AV.n (Mir.D.int .i64 x11))]))] [(1700000, (.box [(Mir.AV.n (Mir.D.int .i64 0)), (Mir.AV.n (Mir.D.int .i64 0)), (Mir.AV.n (Mir.D.int .i64 0)), (Mir.AV.n (Mir.D.int .i64 0))])), (1700201, (.box [(Mir.AV.n (Mir.D.int .i64 x8)), (Mir.AV.n (Mir.D.int .i64 x9)), (Mir.AV.n (Mir.D.int .i64 x10)), (Mir.AV.n (Mir.D.int .i64 x11))]))]) ∧
 ((x0 x3 (Go.IntKind.wrap .i64 (x3 - 1)) (x8, (x9, (x10, (x11, Unit.unit))))) ∧
 (((x1 x3 (Go.IntKind.wrap .i64 (x3 - 1)) (x8, (x9, (x10, (x11, Unit.unit))))) : Nat) < (x1 x2 x3 x4)))))))
 ((((Mir.AV.o (Mir.D.sl 1 a0)) : Mir.AV) = (Mir.AV.o (Mir.D.sl 1 a0))) ∧
 ((((Mir.AV.ptr 1700000 0) : Mir.AV) = (Mir.AV.ptr 1700000 0)) ∧
 ((((Mir.AV.ptr 1700201 0) : Mir.AV) = (Mir.AV.ptr 1700201 0)) ∧
 ((@Eq (List (Nat × Mir.Ob)) [(1700000, (.box [(Mir.AV.n (Mir.D.int .i64 0)), (Mir.AV.n (Mir.D.int .i64 0)), (Mir.AV.n (Mir.D.int .i64 0)), (Mir.AV.n (Mir.D.int .i64 0))])), (1700201, (.box [(Mir.AV.n (Mir.D.int .i64 x4.1)), (Mir.AV.n (Mir.D.int .i64 x4.2.1)), (Mir.AV.n (Mir.D.int .i64 x4.2.2.1)), (Mir.AV.n (Mir.D.int .i64 x4.2.2.2.1))]))] [(1700000, (.box [(Mir.AV.n (Mir.D.int .i64 0)), (Mir.AV.n (Mir.D.int .i64 0)), (Mir.AV.n (Mir.D.int .i64 0)), (Mir.AV.n (Mir.D.int .i64 0))])), (1700201, (.box [(Mir.AV.n (Mir.D.int .i64 x4.1)), (Mir.AV.n (Mir.D.int .i64 x4.2.1)), (Mir.AV.n (Mir.D.int .i64 x4.2.2.1)), (Mir.AV.n (Mir.D.int .i64 x4.2.2.2.1))]))]) ∧
 ((x0 x2 (Go.IntKind.wrap .i64 (x3 - 1)) (x4.1, (x4.2.1, (x4.2.2.1, (x4.2.2.2.1, Unit.unit))))) ∧
 (((x1 x2 (Go.IntKind.wrap .i64 (x3 - 1)) (x4.1, (x4.2.1, (x4.2.2.1, (x4.2.2.2.1, Unit.unit))))) : Nat) < (x1 x2 x3 x4))))))))
 ((((Mir.AV.o (Mir.D.sl 1 a0)) : Mir.AV) = (Mir.AV.o (Mir.D.sl 1 a0))) ∧
 ((((Mir.AV.ptr 1700000 0) : Mir.AV) = (Mir.AV.ptr 1700000 0)) ∧
 ((((Mir.AV.ptr 1700201 0) : Mir.AV) = (Mir.AV.ptr 1700201 0)) ∧
 ((@Eq (List (Nat × Mir.Ob)) [(1700000, (.box [(Mir.AV.n (Mir.D.int .i64 0)), (Mir.AV.n (Mir.D.int .i64 0)), (Mir.AV.n (Mir.D.int .i64 0)), (Mir.AV.n (Mir.D.int .i64 0))])), (1700201, (.box [(Mir.AV.n (Mir.D.int .i64 x4.1)), (Mir.AV.n (Mir.D.int .i64 x4.2.1)), (Mir.AV.n (Mir.D.int .i64 x4.2.2.1)), (Mir.AV.n (Mir.D.int .i64 x4.2.2.2.1))]))] [(1700000, (.box [(Mir.AV.n (Mir.D.int .i64 0)), (Mir.AV.n (Mir.D.int .i64 0)), (Mir.AV.n (Mir.D.int .i64 0)), (Mir.AV.n (Mir.D.int .i64 0))])), (1700201, (.box [(Mir.AV.n (Mir.D.int .i64 x4.1)), (Mir.AV.n (Mir.D.int .i64 x4.2.1)), (Mir.AV.n (Mir.D.int .i64 x4.2.2.1)), (Mir.AV.n (Mir.D.int .i64 x4.2.2.2.1))]))]) ∧
 ((x0 x2 (Go.IntKind.wrap .i64 (x3 - 1)) (x4.1, (x4.2.1, (x4.2.2.1, (x4.2.2.2.1, Unit.unit))))) ∧
 (((x1 x2 (Go.IntKind.wrap .i64 (x3 - 1)) (x4.1, (x4.2.1, (x4.2.2.1, (x4.2.2.2.1, Unit.unit))))) : Nat) < (x1 x2 x3 x4))))))))))))))))))))
 (sel (decide (x2 < 0))
 (R (Mir.AV.tup [(Mir.AV.agg [(Mir.AV.n (Mir.D.int .i64 0)), (Mir.AV.n (Mir.D.int .i64 0)), (Mir.AV.n (Mir.D.int .i64 0)), (Mir.AV.n (Mir.D.int .i64 0))]), (Mir.AV.n (Mir.D.int .i64 0)), (Mir.AV.n (Mir.D.int .i64 120))]))
 (R (Mir.AV.tup [(Mir.AV.agg [(Mir.AV.n (Mir.D.int .i64 x4.1)), (Mir.AV.n (Mir.D.int .i64 x4.2.1)), (Mir.AV.n (Mir.D.int .i64 x4.2.2.1)), (Mir.AV.n (Mir.D.int .i64 x4.2.2.2.1))]), (Mir.AV.n (Mir.D.int .i64 x2)), (Mir.AV.n (Mir.D.int .i64 0))]))))))))))))
theorem vc17 (a0 : List Mir.D) (R : Mir.AV → Prop) : Vc Fs c17.body (argsQ c17 [(.o (.sl 1 a0))]) [] (endQ c17 R) = V17 a0 R := by kernel_rfl
def V18  (R : Mir.AV → Prop) : Prop :=
 ((0 = 0) ∧
 (∃ x0 : Int,
 (∃ x1 : Int,
 (∃ x2 : Int,
 (∃ x3 : Int,
 (∃ x4 : Int,
 (∃ x5 : Int,
 ((Runs Fs 16 [(Mir.AV.o (Mir.D.sl 1 [(Mir.D.str (ByteArray.mk (List.toArray [])))]))] [] (Mir.AV.tup [(Mir.AV.agg [(Mir.AV.n (Mir.D.int .i64 x0)), (Mir.AV.n (Mir.D.int .i64 x1)), (Mir.AV.n (Mir.D.int .i64 x2)), (Mir.AV.n (Mir.D.int .i64 x3))]), (Mir.AV.n (Mir.D.int .i64 x4)), (Mir.AV.n (Mir.D.int .i64 x5))]) []) ∧
 (sel (x5 == 120)
 (∃ x6 : Bool,
 ((Runs Fs 24 [(Mir.AV.agg [(Mir.AV.n (Mir.D.int .i64 1)), (Mir.AV.n (Mir.D.int .i64 0)), (Mir.AV.n (Mir.D.int .i64 10)), (Mir.AV.n (Mir.D.int .i64 24))])] [] (Mir.AV.n (Mir.D.bool x6)) []) ∧
 (R (Mir.AV.n (Mir.D.bool x6)))))
 (R (Mir.AV.n (Mir.D.bool false))))))))))))
theorem vc18  (R : Mir.AV → Prop) : Vc Fs c18.body (argsQ c18 []) [] (endQ c18 R) = V18  R := by kernel_rfl
def V22 (a0_0 : Int) (a0_1 : Int) (a0_2 : Int) (a0_3 : Int) (R : Mir.AV → Prop) : Prop :=
 (∃ x0 : Bool,
 ((Runs Fs 24 [(Mir.AV.agg [(Mir.AV.n (Mir.D.int .i64 a0_0)), (Mir.AV.n (Mir.D.int .i64 a0_1)), (Mir.AV.n (Mir.D.int .i64 a0_2)), (Mir.AV.n (Mir.D.int .i64 a0_3))])] [] (Mir.AV.n (Mir.D.bool x0)) []) ∧
 (sel (Bool.not x0)
 (R (Mir.AV.tup [(Mir.AV.n (Mir.D.str (ByteArray.mk (List.toArray [])))), (Mir.AV.n (Mir.D.int .i64 1))]))
 (∃ x1 : ByteArray,
 (∃ x2 : Int,
 ((Runs Fs 50 [(Mir.AV.n (Mir.D.int .i64 a0_1)), (Mir.AV.n (Mir.D.int .i64 2))] [] (Mir.AV.tup [(Mir.AV.n (Mir.D.str x1)), (Mir.AV.n (Mir.D.int .i64 x2))]) []) ∧
 (∃ x3 : ByteArray,
 (∃ x4 : Int,
 ((Runs Fs 50 [(Mir.AV.n (Mir.D.int .i64 a0_2)), (Mir.AV.n (Mir.D.int .i64 2))] [] (Mir.AV.tup [(Mir.AV.n (Mir.D.str x3)), (Mir.AV.n (Mir.D.int .i64 x4))]) []) ∧
 (∃ x5 : ByteArray,
 (∃ x6 : Int,
 ((Runs Fs 50 [(Mir.AV.n (Mir.D.int .i64 a0_3)), (Mir.AV.n (Mir.D.int .i64 2))] [] (Mir.AV.tup [(Mir.AV.n (Mir.D.str x5)), (Mir.AV.n (Mir.D.int .i64 x6))]) []) ∧
 ((0 = 0) ∧
 (∃ x7 : ByteArray,
 ((Runs Fs 52 [(Mir.AV.o (Mir.D.sl 1 [(Mir.D.str x1), (Mir.D.str x3), (Mir.D.str x5)]))] [] (Mir.AV.n (Mir.D.str x7)) []) ∧
 (∃ x8 : ByteArray,
 (∃ x9 : Int,
 ((Runs Fs 51 [(Mir.AV.agg [(Mir.AV.n (Mir.D.int .i64 4)), (Mir.AV.n (Mir.D.int .i64 a0_0)), (Mir.AV.n (Mir.D.str x7))])] [] (Mir.AV.tup [(Mir.AV.n (Mir.D.str x8)), (Mir.AV.n (Mir.D.int .i64 x9))]) []) ∧
 (R (Mir.AV.tup [(Mir.AV.n (Mir.D.str x8)), (Mir.AV.n (Mir.D.int .i64 x9))]))))))))))))))))))))
theorem vc22 (a0_0 : Int) (a0_1 : Int) (a0_2 : Int) (a0_3 : Int) (R : Mir.AV → Prop) : Vc Fs c22.body (argsQ c22 [(.agg [(.n (.int .i64 a0_0)), (.n (.int .i64 a0_1)), (.n (.int .i64 a0_2)), (.n (.int .i64 a0_3))])]) [] (endQ c22 R) = V22 a0_0 a0_1 a0_2 a0_3 R := by kernel_rfl
def V23 (a0_0 : Int) (a0_1 : Int) (a0_2 : Int) (a0_3 : Int) (R : Mir.AV → Prop) : Prop :=
 (sel (decide (a0_0 < 1))
 (R (Mir.AV.n (Mir.D.bool false)))
 (sel (decide (a0_0 > 1099511627776))
 (R (Mir.AV.n (Mir.D.bool false)))
 (sel (decide (a0_3 < 24))
 (R (Mir.AV.n (Mir.D.bool false)))
 (sel (decide (a0_3 > 2048))
 (R (Mir.AV.n (Mir.D.bool false)))
 (sel (a0_1 != 0)
 (sel (decide (a0_1 < 10))
 (R (Mir.AV.n (Mir.D.bool false)))
 (sel (decide (a0_1 ≥ a0_3))
 (R (Mir.AV.n (Mir.D.bool false)))
 (sel (decide (a0_2 ≥ 10))
 (sel (decide (a0_2 < a0_3))
 (R (Mir.AV.n (Mir.D.bool (a0_2 != a0_1))))
 (R (Mir.AV.n (Mir.D.bool false))))
 (R (Mir.AV.n (Mir.D.bool false))))))
 (sel (decide (a0_2 ≥ 10))
 (sel (decide (a0_2 < a0_3))
 (R (Mir.AV.n (Mir.D.bool (a0_2 != a0_1))))
 (R (Mir.AV.n (Mir.D.bool false))))
 (R (Mir.AV.n (Mir.D.bool false)))))))))
theorem vc23 (a0_0 : Int) (a0_1 : Int) (a0_2 : Int) (a0_3 : Int) (R : Mir.AV → Prop) : Vc Fs c23.body (argsQ c23 [(.agg [(.n (.int .i64 a0_0)), (.n (.int .i64 a0_1)), (.n (.int .i64 a0_2)), (.n (.int .i64 a0_3))])]) [] (endQ c23 R) = V23 a0_0 a0_1 a0_2 a0_3 R := by kernel_rfl
def V24 (a0_0 : Int) (a0_1 : Int) (a0_2 : Int) (a0_3 : Int) (R : Mir.AV → Prop) : Prop :=
 (sel (decide (a0_0 ≥ 1))
 (sel (decide (a0_0 ≤ 1099511627776))
 (sel (decide (a0_3 ≥ 24))
 (sel (decide (a0_3 ≤ 2048))
 (sel (a0_1 == 0)
 (∃ x0 : Bool,
 ((Runs Fs 56 [(Mir.AV.n (Mir.D.int .i64 a0_2)), (Mir.AV.ptr 2400000 0)] [(2400000, (.box [(Mir.AV.n (Mir.D.int .i64 a0_0)), (Mir.AV.n (Mir.D.int .i64 a0_1)), (Mir.AV.n (Mir.D.int .i64 a0_2)), (Mir.AV.n (Mir.D.int .i64 a0_3))]))] (Mir.AV.n (Mir.D.bool x0)) [(2400000, (.box [(Mir.AV.n (Mir.D.int .i64 a0_0)), (Mir.AV.n (Mir.D.int .i64 a0_1)), (Mir.AV.n (Mir.D.int .i64 a0_2)), (Mir.AV.n (Mir.D.int .i64 a0_3))]))]) ∧
 (sel x0
 (R (Mir.AV.n (Mir.D.bool (a0_2 != a0_1))))
 (R (Mir.AV.n (Mir.D.bool false))))))
 (∃ x1 : Bool,
 ((Runs Fs 56 [(Mir.AV.n (Mir.D.int .i64 a0_1)), (Mir.AV.ptr 2400000 0)] [(2400000, (.box [(Mir.AV.n (Mir.D.int .i64 a0_0)), (Mir.AV.n (Mir.D.int .i64 a0_1)), (Mir.AV.n (Mir.D.int .i64 a0_2)), (Mir.AV.n (Mir.D.int .i64 a0_3))]))] (Mir.AV.n (Mir.D.bool x1)) [(2400000, (.box [(Mir.AV.n (Mir.D.int .i64 a0_0)), (Mir.AV.n (Mir.D.int .i64 a0_1)), (Mir.AV.n (Mir.D.int .i64 a0_2)), (Mir.AV.n (Mir.D.int .i64 a0_3))]))]) ∧
 (sel x1
 (∃ x2 : Bool,
 ((Runs Fs 56 [(Mir.AV.n (Mir.D.int .i64 a0_2)), (Mir.AV.ptr 2400000 0)] [(2400000, (.box [(Mir.AV.n (Mir.D.int .i64 a0_0)), (Mir.AV.n (Mir.D.int .i64 a0_1)), (Mir.AV.n (Mir.D.int .i64 a0_2)), (Mir.AV.n (Mir.D.int .i64 a0_3))]))] (Mir.AV.n (Mir.D.bool x2)) [(2400000, (.box [(Mir.AV.n (Mir.D.int .i64 a0_0)), (Mir.AV.n (Mir.D.int .i64 a0_1)), (Mir.AV.n (Mir.D.int .i64 a0_2)), (Mir.AV.n (Mir.D.int .i64 a0_3))]))]) ∧
 (sel x2
 (R (Mir.AV.n (Mir.D.bool (a0_2 != a0_1))))
 (R (Mir.AV.n (Mir.D.bool false))))))
 (R (Mir.AV.n (Mir.D.bool false)))))))
 (R (Mir.AV.n (Mir.D.bool false))))
 (R (Mir.AV.n (Mir.D.bool false))))
 (R (Mir.AV.n (Mir.D.bool false))))
 (R (Mir.AV.n (Mir.D.bool false))))
theorem vc24 (a0_0 : Int) (a0_1 : Int) (a0_2 : Int) (a0_3 : Int) (R : Mir.AV → Prop) : Vc Fs c24.body (argsQ c24 [(.agg [(.n (.int .i64 a0_0)), (.n (.int .i64 a0_1)), (.n (.int .i64 a0_2)), (.n (.int .i64 a0_3))])]) [] (endQ c24 R) = V24 a0_0 a0_1 a0_2 a0_3 R := by kernel_rfl
def V25 (a0_0 : Int) (a0_1 : Int) (a0_2 : Int) (a0_3 : Int) (R : Mir.AV → Prop) : Prop :=
 (((256 : Int) ≠ 0) ∧
 (((256 : Int) ≠ 0) ∧
 (((256 : Int) ≠ 0) ∧
 (((256 : Int) ≠ 0) ∧
 (((256 : Int) ≠ 0) ∧
 (((256 : Int) ≠ 0) ∧
 (((0 : Nat) = 0) ∧
 ((((1 : Nat) = 1) ∨ (@Eq (List Mir.D) [(Mir.D.int .u8 (Go.IntKind.wrap .u8 (Go.IntKind.wrap .i64 (Int.tdiv a0_1 256)))), (Mir.D.int .u8 (Go.IntKind.wrap .u8 (Int.tmod a0_1 256))), (Mir.D.int .u8 (Go.IntKind.wrap .u8 (Go.IntKind.wrap .i64 (Int.tdiv a0_2 256)))), (Mir.D.int .u8 (Go.IntKind.wrap .u8 (Int.tmod a0_2 256))), (Mir.D.int .u8 (Go.IntKind.wrap .u8 (Go.IntKind.wrap .i64 (Int.tdiv a0_3 256)))), (Mir.D.int .u8 (Go.IntKind.wrap .u8 (Int.tmod a0_3 256)))] [])) ∧
 ((((List.all [(Mir.D.int .u8 (Go.IntKind.wrap .u8 (Go.IntKind.wrap .i64 (Int.tdiv a0_1 256)))), (Mir.D.int .u8 (Go.IntKind.wrap .u8 (Int.tmod a0_1 256))), (Mir.D.int .u8 (Go.IntKind.wrap .u8 (Go.IntKind.wrap .i64 (Int.tdiv a0_2 256)))), (Mir.D.int .u8 (Go.IntKind.wrap .u8 (Int.tmod a0_2 256))), (Mir.D.int .u8 (Go.IntKind.wrap .u8 (Go.IntKind.wrap .i64 (Int.tdiv a0_3 256)))), (Mir.D.int .u8 (Go.IntKind.wrap .u8 (Int.tmod a0_3 256)))] Go.Mir.D.isU8) : Bool) = true) ∧
 (∃ x0 : ByteArray,
 ((Runs Fs 57 [(Mir.AV.agg [(Mir.AV.n (Mir.D.int .i64 4)), (Mir.AV.n (Mir.D.int .i64 a0_0)), (Mir.AV.n (Mir.D.str (ByteArray.mk (List.toArray (List.map Go.Mir.byteOf [(Mir.D.int .u8 (Go.IntKind.wrap .u8 (Go.IntKind.wrap .i64 (Int.tdiv a0_1 256)))), (Mir.D.int .u8 (Go.IntKind.wrap .u8 (Int.tmod a0_1 256))), (Mir.D.int .u8 (Go.IntKind.wrap .u8 (Go.IntKind.wrap .i64 (Int.tdiv a0_2 256)))), (Mir.D.int .u8 (Go.IntKind.wrap .u8 (Int.tmod a0_2 256))), (Mir.D.int .u8 (Go.IntKind.wrap .u8 (Go.IntKind.wrap .i64 (Int.tdiv a0_3 256)))), (Mir.D.int .u8 (Go.IntKind.wrap .u8 (Int.tmod a0_3 256)))])))))])] [] (Mir.AV.n (Mir.D.str x0)) []) ∧
 (R (Mir.AV.n (Mir.D.str x0))))))))))))))
theorem vc25 (a0_0 : Int) (a0_1 : Int) (a0_2 : Int) (a0_3 : Int) (R : Mir.AV → Prop) : Vc Fs c25.body (argsQ c25 [(.agg [(.n (.int .i64 a0_0)), (.n (.int .i64 a0_1)), (.n (.int .i64 a0_2)), (.n (.int .i64 a0_3))])]) [] (endQ c25 R) = V25 a0_0 a0_1 a0_2 a0_3 R := by kernel_rfl
def V26 (a0 : List Mir.D) (a1 : List Mir.D) (R : Mir.AV → Prop) : Prop :=
 (sel ((((List.length a0) : Nat) : Int) != (((List.length a1) : Nat) : Int))
 (R (Mir.AV.n (Mir.D.bool false)))
 (∃ x0 : (Int → Prop),
 (∃ x1 : (Int → Nat),
 (((@Eq (List (Nat × Mir.Ob)) [] []) ∧
 (x0 0)) ∧
 (∀ x2 : Int,
 ((x0 x2) →
 (∀ x3 : (Nat → Mir.AV),
 (sel (decide (x2 < (((List.length a0) : Nat) : Int)))
 (((1 : Nat) = 1) ∧
 (((0 : Int) ≤ x2) ∧
 (∃ x4 : Mir.D,
 ((((GetElem?.getElem? a0 (Int.toNat x2)) : (Option Mir.D)) = (some x4)) ∧
 (∃ x5 : ByteArray,
 ((((GetElem?.getElem? (Go.Mir.D.cells x4) 0) : (Option Mir.D)) = (some (Mir.D.str x5))) ∧
 (((1 : Nat) = 1) ∧
 (((0 : Int) ≤ x2) ∧
 (∃ x6 : Mir.D,
 ((((GetElem?.getElem? a1 (Int.toNat x2)) : (Option Mir.D)) = (some x6)) ∧
 (∃ x7 : ByteArray,
 ((((GetElem?.getElem? (Go.Mir.D.cells x6) 0) : (Option Mir.D)) = (some (Mir.D.str x7))) ∧
 (sel (Bool.not ((ByteArray.toList x5) == (ByteArray.toList x7)))
 (R (Mir.AV.n (Mir.D.bool false)))
 ((((Mir.AV.o (Mir.D.sl 1 a0)) : Mir.AV) = (Mir.AV.o (Mir.D.sl 1 a0))) ∧
 ((((Mir.AV.o (Mir.D.sl 1 a1)) : Mir.AV) = (Mir.AV.o (Mir.D.sl 1 a1))) ∧
 ((((Mir.AV.n (Mir.D.int .i64 (((List.length a0) : Nat) : Int))) : Mir.AV) = (Mir.AV.n (Mir.D.int .i64 (((List.length a0) : Nat) : Int)))) ∧
 ((@Eq (List (Nat × Mir.Ob)) [] []) ∧
 ((x0 (Go.IntKind.wrap .i64 (x2 + 1))) ∧
 (((x1 (Go.IntKind.wrap .i64 (x2 + 1))) : Nat) < (x1 x2))))))))))))))))))))
 (R (Mir.AV.n (Mir.D.bool true)))))))))))
theorem vc26 (a0 : List Mir.D) (a1 : List Mir.D) (R : Mir.AV → Prop) : Vc Fs c26.body (argsQ c26 [(.o (.sl 1 a0)), (.o (.sl 1 a1))]) [] (endQ c26 R) = V26 a0 a1 R := by kernel_rfl
def V27 (a0 : Int) (a1 : List Mir.D) (R : Mir.AV → Prop) : Prop :=
 (∃ x0 : (Nat → (Int → ((Nat × (List Mir.D)) → Prop))),
 (∃ x1 : (Nat → (Int → ((Nat × (List Mir.D)) → Nat))),
 (((@Eq (List (Nat × Mir.Ob)) [(2700803, (.row false true 0 9 1 []))] [(2700803, (.row false true 0 9 1 []))]) ∧
 (x0 0 0 (0, []))) ∧
 (∀ x2 : Nat,
 (∀ x3 : Int,
 (∀ x4 : (Nat × (List Mir.D)),
 ((x0 x2 x3 x4) →
 (∀ x5 : (Nat → Mir.AV),
 (sel (decide (x3 < (((List.length a1) : Nat) : Int)))
 (((1 : Nat) = 1) ∧
 (((0 : Int) ≤ x3) ∧
 (∃ x6 : Mir.D,
 ((((GetElem?.getElem? a1 (Int.toNat x3)) : (Option Mir.D)) = (some x6)) ∧
 (∃ x7 : ByteArray,
 ((((GetElem?.getElem? (Go.Mir.D.cells x6) 0) : (Option Mir.D)) = (some (Mir.D.str x7))) ∧
 (∃ x8 : Int,
 (∃ x9 : ByteArray,
 (∃ x10 : Int,
 ((Runs Fs 30 [(Mir.AV.n (Mir.D.str x7)), (Mir.AV.n (Mir.D.int .i64 a0))] [] (Mir.AV.tup [(Mir.AV.n (Mir.D.int .i64 x8)), (Mir.AV.n (Mir.D.str x9)), (Mir.AV.n (Mir.D.int .i64 x10))]) []) ∧
 (sel (x10 != 0)
 (((Prod.fst x4) = x2) ∧
 (R (Mir.AV.o (Mir.D.sl 1 (Prod.snd x4)))))
 (sel (x8 != x3)
 (((Prod.fst x4) = x2) ∧
 (R (Mir.AV.o (Mir.D.sl 1 (Prod.snd x4)))))
 (((0 : Nat) = 0) ∧
 ((((1 : Nat) = 1) ∨ (@Eq (List Mir.D) [(Mir.D.str x9)] [])) ∧
 ((((((Prod.fst x4) : Nat) = x2) ∧
 ((9 : Nat) = 9)) ∧
 ((1 : Nat) = 1)) ∧
 ((((((List.length (Prod.snd x4)) + (List.length [(Mir.D.str x9)])) * 16) : Nat) ≤ 140737488355328) ∧
 ((((Mir.AV.n (Mir.D.int .i64 a0)) : Mir.AV) = (Mir.AV.n (Mir.D.int .i64 a0))) ∧
 ((((Mir.AV.o (Mir.D.sl 1 a1)) : Mir.AV) = (Mir.AV.o (Mir.D.sl 1 a1))) ∧
 ((((Mir.AV.n (Mir.D.int .i64 (((List.length a1) : Nat) : Int))) : Mir.AV) = (Mir.AV.n (Mir.D.int .i64 (((List.length a1) : Nat) : Int)))) ∧
 ((@Eq (List (Nat × Mir.Ob)) [(2700803, (.row false true (x2 + 1) 9 1 ((Prod.snd x4) ++ [(Mir.D.str x9)])))] [(2700803, (.row false true (x2 + 1) 9 1 ((Prod.snd x4) ++ [(Mir.D.str x9)])))]) ∧
 ((x0 (x2 + 1) (Go.IntKind.wrap .i64 (x3 + 1)) ((x2 + 1), ((Prod.snd x4) ++ [(Mir.D.str x9)]))) ∧
 (((x1 (x2 + 1) (Go.IntKind.wrap .i64 (x3 + 1)) ((x2 + 1), ((Prod.snd x4) ++ [(Mir.D.str x9)]))) : Nat) < (x1 x2 x3 x4)))))))))))))))))))))))
 (((Prod.fst x4) = x2) ∧
 (R (Mir.AV.o (Mir.D.sl 1 (Prod.snd x4))))))))))))))
theorem vc27 (a0 : Int) (a1 : List Mir.D) (R : Mir.AV → Prop) : Vc Fs c27.body (argsQ c27 [(.n (.int .i64 a0)), (.o (.sl 1 a1))]) [] (endQ c27 R) = V27 a0 a1 R := by kernel_rfl
def V28 (a0 : Int) (a1 : List Mir.D) (R : Mir.AV → Prop) : Prop :=
 (∃ x0 : (Nat → (Int → ((Nat × (List Mir.D)) → Prop))),
 (∃ x1 : (Nat → (Int → ((Nat × (List Mir.D)) → Nat))),
 (((@Eq (List (Nat × Mir.Ob)) [(2800100, (.row false true 0 9 1 []))] [(2800100, (.row false true 0 9 1 []))]) ∧
 (x0 0 0 (0, []))) ∧
 (∀ x2 : Nat,
 (∀ x3 : Int,
 (∀ x4 : (Nat × (List Mir.D)),
 ((x0 x2 x3 x4) →
 (∀ x5 : (Nat → Mir.AV),
 (sel (decide (x3 < (((List.length a1) : Nat) : Int)))
 (((1 : Nat) = 1) ∧
 (((0 : Int) ≤ x3) ∧
 (∃ x6 : Mir.D,
 ((((GetElem?.getElem? a1 (Int.toNat x3)) : (Option Mir.D)) = (some x6)) ∧
 (∃ x7 : ByteArray,
 ((((GetElem?.getElem? (Go.Mir.D.cells x6) 0) : (Option Mir.D)) = (some (Mir.D.str x7))) ∧
 (∃ x8 : Int,
 (∃ x9 : ByteArray,
 (∃ x10 : Int,
 ((Runs Fs 58 [(Mir.AV.n (Mir.D.str x7)), (Mir.AV.n (Mir.D.int .i64 a0))] [] (Mir.AV.tup [(Mir.AV.n (Mir.D.int .i64 x8)), (Mir.AV.n (Mir.D.str x9)), (Mir.AV.n (Mir.D.int .i64 x10))]) []) ∧
 (sel (x10 != 0)
 (((Prod.fst x4) = x2) ∧
 (R (Mir.AV.o (Mir.D.sl 1 (Prod.snd x4)))))
 (sel (x8 != x3)
 (((Prod.fst x4) = x2) ∧
 (R (Mir.AV.o (Mir.D.sl 1 (Prod.snd x4)))))
 (((0 : Nat) = 0) ∧
 ((((1 : Nat) = 1) ∨ (@Eq (List Mir.D) [(Mir.D.str x9)] [])) ∧
 ((((((Prod.fst x4) : Nat) = x2) ∧
 ((9 : Nat) = 9)) ∧
 ((1 : Nat) = 1)) ∧
 ((((((List.length (Prod.snd x4)) + (List.length [(Mir.D.str x9)])) * 16) : Nat) ≤ 140737488355328) ∧
 ((((Mir.AV.n (Mir.D.int .i64 a0)) : Mir.AV) = (Mir.AV.n (Mir.D.int .i64 a0))) ∧
 ((((Mir.AV.o (Mir.D.sl 1 a1)) : Mir.AV) = (Mir.AV.o (Mir.D.sl 1 a1))) ∧
 ((((Mir.AV.n (Mir.D.int .i64 (((List.length a1) : Nat) : Int))) : Mir.AV) = (Mir.AV.n (Mir.D.int .i64 (((List.length a1) : Nat) : Int)))) ∧
 ((@Eq (List (Nat × Mir.Ob)) [(2800100, (.row false true (x2 + 1) 9 1 ((Prod.snd x4) ++ [(Mir.D.str x9)])))] [(2800100, (.row false true (x2 + 1) 9 1 ((Prod.snd x4) ++ [(Mir.D.str x9)])))]) ∧
 ((x0 (x2 + 1) (Go.IntKind.wrap .i64 (x3 + 1)) ((x2 + 1), ((Prod.snd x4) ++ [(Mir.D.str x9)]))) ∧
 (((x1 (x2 + 1) (Go.IntKind.wrap .i64 (x3 + 1)) ((x2 + 1), ((Prod.snd x4) ++ [(Mir.D.str x9)]))) : Nat) < (x1 x2 x3 x4)))))))))))))))))))))))
 (((Prod.fst x4) = x2) ∧
 (R (Mir.AV.o (Mir.D.sl 1 (Prod.snd x4))))))))))))))
theorem vc28 (a0 : Int) (a1 : List Mir.D) (R : Mir.AV → Prop) : Vc Fs c28.body (argsQ c28 [(.n (.int .i64 a0)), (.o (.sl 1 a1))]) [] (endQ c28 R) = V28 a0 a1 R := by kernel_rfl
def V29 (a0 : List Mir.D) (R : Mir.AV → Prop) : Prop :=
 (sel (decide ((((List.length a0) : Nat) : Int) > 30))
 (sel (decide ((((List.length a0) : Nat) : Int) < 256))
 (((3 : Nat) = 3) ∧
 (((0 : Int) ≤ 30) ∧
 (((30 : Int) ≤ (((List.length a0) : Nat) : Int)) ∧
 (R (Mir.AV.o (Mir.D.sl 3 (List.drop 0 (List.take (Int.toNat 30) a0))))))))
 (((3 : Nat) = 3) ∧
 (((0 : Int) ≤ (Go.Mir.mmI false (((List.length a0) : Nat) : Int) 300)) ∧
 ((((Go.Mir.mmI false (((List.length a0) : Nat) : Int) 300) : Int) ≤ (((List.length a0) : Nat) : Int)) ∧
 (R (Mir.AV.o (Mir.D.sl 3 (List.drop 0 (List.take (Int.toNat (Go.Mir.mmI false (((List.length a0) : Nat) : Int) 300)) a0)))))))))
 (((3 : Nat) = 3) ∧
 (((0 : Int) ≤ (Go.Mir.mmI false (((List.length a0) : Nat) : Int) 300)) ∧
 ((((Go.Mir.mmI false (((List.length a0) : Nat) : Int) 300) : Int) ≤ (((List.length a0) : Nat) : Int)) ∧
 (R (Mir.AV.o (Mir.D.sl 3 (List.drop 0 (List.take (Int.toNat (Go.Mir.mmI false (((List.length a0) : Nat) : Int) 300)) a0)))))))))
theorem vc29 (a0 : List Mir.D) (R : Mir.AV → Prop) : Vc Fs c29.body (argsQ c29 [(.o (.sl 3 a0))]) [] (endQ c29 R) = V29 a0 R := by kernel_rfl

end Go.Proofs.YtmmnobdpccdeoaaDoor.M
