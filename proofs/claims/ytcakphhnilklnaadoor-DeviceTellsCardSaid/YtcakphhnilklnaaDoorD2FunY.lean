import Derived.Test.YtcakphhnilklnaaDoorD2Fun2
namespace Go.Proofs.YtcakphhnilklnaaDoor.M
set_option linter.unusedVariables false
set_option linter.unusedSimpArgs false
open Go Go.Mir
set_option linter.unusedVariables false
def V8 (a0_0 : List Mir.D) (a0_1 : List Mir.D) (a1 : Int) (a2 : ByteArray) (R : Mir.AV → Prop) : Prop :=
 (∃ x0 : (List Mir.D),
 (∃ x1 : (List Mir.D),
 ((Runs Fs2 12 [(Mir.AV.agg [(Mir.AV.o (Mir.D.sl 1 a0_0)), (Mir.AV.o (Mir.D.sl 2 a0_1))])] [] (Mir.AV.agg [(Mir.AV.o (Mir.D.sl 1 x0)), (Mir.AV.o (Mir.D.sl 2 x1))]) []) ∧
 (∃ x2 : ByteArray,
 (∃ x3 : Int,
 ((Runs Fs2 24 [(Mir.AV.agg [(Mir.AV.o (Mir.D.sl 1 x0)), (Mir.AV.o (Mir.D.sl 2 x1))]), (Mir.AV.n (Mir.D.int .i64 a1))] [] (Mir.AV.tup [(Mir.AV.n (Mir.D.str x2)), (Mir.AV.n (Mir.D.int .i64 x3))]) []) ∧
 (∃ x4 : (List Mir.D),
 (∃ x5 : (List Mir.D),
 (∃ x6 : Int,
 ((Runs Fs2 25 [(Mir.AV.agg [(Mir.AV.o (Mir.D.sl 1 x0)), (Mir.AV.o (Mir.D.sl 2 x1))]), (Mir.AV.n (Mir.D.int .i64 a1)), (Mir.AV.n (Mir.D.str a2))] [] (Mir.AV.tup [(Mir.AV.agg [(Mir.AV.o (Mir.D.sl 1 x4)), (Mir.AV.o (Mir.D.sl 2 x5))]), (Mir.AV.n (Mir.D.int .i64 x6))]) []) ∧
 (∃ x7 : (List Mir.D),
 (∃ x8 : (List Mir.D),
 (∃ x9 : Int,
 ((Runs Fs2 26 [(Mir.AV.agg [(Mir.AV.o (Mir.D.sl 1 x0)), (Mir.AV.o (Mir.D.sl 2 x1))])] [] (Mir.AV.tup [(Mir.AV.agg [(Mir.AV.o (Mir.D.sl 1 x7)), (Mir.AV.o (Mir.D.sl 2 x8))]), (Mir.AV.n (Mir.D.int .i64 x9))]) []) ∧
 (∃ x10 : Bool,
 ((Runs Fs2 17 [(Mir.AV.agg [(Mir.AV.o (Mir.D.sl 1 x0)), (Mir.AV.o (Mir.D.sl 2 x1))])] [] (Mir.AV.n (Mir.D.bool x10)) []) ∧
 (sel (Bool.not x10)
 (∃ x11 : Bool,
 ((Runs Fs2 15 [] [] (Mir.AV.n (Mir.D.bool x11)) []) ∧
 (sel x11
 (sel (x3 == 1)
 (sel (x6 == 1)
 (sel (x9 == 1)
 (sel ((ByteArray.toList x2) == (ByteArray.toList (ByteArray.mk (List.toArray []))))
 (R (Mir.AV.n (Mir.D.bool ((Go.IntKind.wrap .i64 ((((List.length x4) : Nat) : Int) + (((List.length x7) : Nat) : Int))) == 0))))
 (R (Mir.AV.n (Mir.D.bool false))))
 (R (Mir.AV.n (Mir.D.bool false))))
 (R (Mir.AV.n (Mir.D.bool false))))
 (R (Mir.AV.n (Mir.D.bool false))))
 (R (Mir.AV.n (Mir.D.bool false))))))
 (sel (x9 != 0)
 (R (Mir.AV.n (Mir.D.bool false)))
 (∃ x12 : (List Mir.D),
 (∃ x13 : (List Mir.D),
 ((Runs Fs2 23 [(Mir.AV.agg [(Mir.AV.o (Mir.D.sl 1 x0)), (Mir.AV.o (Mir.D.sl 2 x1))]), (Mir.AV.n (Mir.D.bool true)), (Mir.AV.o (Mir.D.sl 1 []))] [] (Mir.AV.agg [(Mir.AV.o (Mir.D.sl 1 x12)), (Mir.AV.o (Mir.D.sl 2 x13))]) []) ∧
 (∃ x14 : Bool,
 ((Runs Fs2 14 [(Mir.AV.agg [(Mir.AV.o (Mir.D.sl 1 x7)), (Mir.AV.o (Mir.D.sl 2 x8))]), (Mir.AV.agg [(Mir.AV.o (Mir.D.sl 1 x12)), (Mir.AV.o (Mir.D.sl 2 x13))])] [] (Mir.AV.n (Mir.D.bool x14)) []) ∧
 (sel (Bool.not x14)
 (R (Mir.AV.n (Mir.D.bool false)))
 (sel (decide (a1 < 0))
 (∃ x15 : Bool,
 ((Runs Fs2 15 [] [] (Mir.AV.n (Mir.D.bool x15)) []) ∧
 (sel x15
 (sel (x3 == 30)
 (sel (x6 == 30)
 (sel ((ByteArray.toList x2) == (ByteArray.toList (ByteArray.mk (List.toArray []))))
 (R (Mir.AV.n (Mir.D.bool ((((List.length x4) : Nat) : Int) == 0))))
 (R (Mir.AV.n (Mir.D.bool false))))
 (R (Mir.AV.n (Mir.D.bool false))))
 (R (Mir.AV.n (Mir.D.bool false))))
 (R (Mir.AV.n (Mir.D.bool false))))))
 (sel (decide (a1 ≥ (((List.length x0) : Nat) : Int)))
 (∃ x16 : Bool,
 ((Runs Fs2 15 [] [] (Mir.AV.n (Mir.D.bool x16)) []) ∧
 (sel x16
 (sel (x3 == 30)
 (sel (x6 == 30)
 (sel ((ByteArray.toList x2) == (ByteArray.toList (ByteArray.mk (List.toArray []))))
 (R (Mir.AV.n (Mir.D.bool ((((List.length x4) : Nat) : Int) == 0))))
 (R (Mir.AV.n (Mir.D.bool false))))
 (R (Mir.AV.n (Mir.D.bool false))))
 (R (Mir.AV.n (Mir.D.bool false))))
 (R (Mir.AV.n (Mir.D.bool false))))))
 (sel (x3 != 0)
 (R (Mir.AV.n (Mir.D.bool false)))
 (∃ x17 : ByteArray,
 ((Runs Fs2 27 [(Mir.AV.agg [(Mir.AV.o (Mir.D.sl 1 x0)), (Mir.AV.o (Mir.D.sl 2 x1))]), (Mir.AV.n (Mir.D.int .i64 a1))] [] (Mir.AV.n (Mir.D.str x17)) []) ∧
 (sel (Bool.not ((ByteArray.toList x2) == (ByteArray.toList x17)))
 (R (Mir.AV.n (Mir.D.bool false)))
 (sel (decide ((((ByteArray.size a2) : Nat) : Int) > 4096))
 (∃ x18 : Bool,
 ((Runs Fs2 15 [] [] (Mir.AV.n (Mir.D.bool x18)) []) ∧
 (sel x18
 (sel (x6 == 2)
 (R (Mir.AV.n (Mir.D.bool ((((List.length x4) : Nat) : Int) == 0))))
 (R (Mir.AV.n (Mir.D.bool false))))
 (R (Mir.AV.n (Mir.D.bool false))))))
 (sel (decide ((((List.length x1) : Nat) : Int) ≥ 2048))
 (∃ x19 : Bool,
 ((Runs Fs2 15 [] [] (Mir.AV.n (Mir.D.bool x19)) []) ∧
 (sel x19
 (sel (x6 == 2)
 (R (Mir.AV.n (Mir.D.bool ((((List.length x4) : Nat) : Int) == 0))))
 (R (Mir.AV.n (Mir.D.bool false))))
 (R (Mir.AV.n (Mir.D.bool false))))))
 (∃ x20 : Bool,
 ((Runs Fs2 15 [] [] (Mir.AV.n (Mir.D.bool x20)) []) ∧
 (sel x20
 (sel (x6 == 0)
 (∃ x21 : (List Mir.D),
 (∃ x22 : (List Mir.D),
 ((Runs Fs2 28 [(Mir.AV.agg [(Mir.AV.o (Mir.D.sl 1 x0)), (Mir.AV.o (Mir.D.sl 2 x1))]), (Mir.AV.n (Mir.D.int .i64 a1)), (Mir.AV.n (Mir.D.str a2))] [] (Mir.AV.agg [(Mir.AV.o (Mir.D.sl 1 x21)), (Mir.AV.o (Mir.D.sl 2 x22))]) []) ∧
 (∃ x23 : Bool,
 ((Runs Fs2 14 [(Mir.AV.agg [(Mir.AV.o (Mir.D.sl 1 x4)), (Mir.AV.o (Mir.D.sl 2 x5))]), (Mir.AV.agg [(Mir.AV.o (Mir.D.sl 1 x21)), (Mir.AV.o (Mir.D.sl 2 x22))])] [] (Mir.AV.n (Mir.D.bool x23)) []) ∧
 (R (Mir.AV.n (Mir.D.bool x23))))))))
 (R (Mir.AV.n (Mir.D.bool false))))
 (R (Mir.AV.n (Mir.D.bool false))))))))))))))))))))))))))))))))))))))
theorem vc8 (a0_0 : List Mir.D) (a0_1 : List Mir.D) (a1 : Int) (a2 : ByteArray) (R : Mir.AV → Prop) : Vc Fs2 c8.body (argsQ c8 [(.agg [(.o (.sl 1 a0_0)), (.o (.sl 2 a0_1))]), (.n (.int .i64 a1)), (.n (.str a2))]) [] (endQ c8 R) = V8 a0_0 a0_1 a1 a2 R := by kernel_rfl
def V9 (a0_0 : List Mir.D) (a0_1 : List Mir.D) (R : Mir.AV → Prop) : Prop :=
 (∃ x0 : (List Mir.D),
 (∃ x1 : (List Mir.D),
 ((Runs Fs2 12 [(Mir.AV.agg [(Mir.AV.o (Mir.D.sl 1 a0_0)), (Mir.AV.o (Mir.D.sl 2 a0_1))])] [] (Mir.AV.agg [(Mir.AV.o (Mir.D.sl 1 x0)), (Mir.AV.o (Mir.D.sl 2 x1))]) []) ∧
 (∃ x2 : (List Mir.D),
 (∃ x3 : (List Mir.D),
 (∃ x4 : Int,
 ((Runs Fs2 26 [(Mir.AV.agg [(Mir.AV.o (Mir.D.sl 1 x0)), (Mir.AV.o (Mir.D.sl 2 x1))])] [] (Mir.AV.tup [(Mir.AV.agg [(Mir.AV.o (Mir.D.sl 1 x2)), (Mir.AV.o (Mir.D.sl 2 x3))]), (Mir.AV.n (Mir.D.int .i64 x4))]) []) ∧
 (sel (x4 != 0)
 (∃ x5 : Bool,
 ((Runs Fs2 15 [] [] (Mir.AV.n (Mir.D.bool x5)) []) ∧
 (sel x5
 (∃ x6 : Bool,
 ((Runs Fs2 16 [(Mir.AV.agg [(Mir.AV.o (Mir.D.sl 1 x0)), (Mir.AV.o (Mir.D.sl 2 x1))])] [] (Mir.AV.n (Mir.D.bool x6)) []) ∧
 (R (Mir.AV.n (Mir.D.bool (Bool.not x6))))))
 (R (Mir.AV.n (Mir.D.bool false))))))
 (((0 : Int) ≤ (((List.length x1) : Nat) : Int)) ∧
 (((((Int.toNat (((List.length x1) : Nat) : Int)) * 8) : Nat) ≤ 140737488355328) ∧
 (((0 : Nat) = 0) ∧
 (∃ x7 : (Int → ((Nat × (List Mir.D)) → Prop)),
 (∃ x8 : (Int → ((Nat × (List Mir.D)) → Nat)),
 (((@Eq (List (Nat × Mir.Ob)) [(900000, (.box [(Mir.AV.o (Mir.D.sl 1 x0)), (Mir.AV.o (Mir.D.sl 2 x1))])), (900205, (.box [(Mir.AV.o (Mir.D.sl 1 x2)), (Mir.AV.o (Mir.D.sl 2 x3))])), (900503, (.row false true 0 3 1 (List.replicate (Int.toNat (((List.length x1) : Nat) : Int)) (Mir.D.int .i64 0))))] [(900000, (.box [(Mir.AV.o (Mir.D.sl 1 x0)), (Mir.AV.o (Mir.D.sl 2 x1))])), (900205, (.box [(Mir.AV.o (Mir.D.sl 1 x2)), (Mir.AV.o (Mir.D.sl 2 x3))])), (900503, (.row false true 0 3 1 (List.replicate (Int.toNat (((List.length x1) : Nat) : Int)) (Mir.D.int .i64 0))))]) ∧
 (x7 0 (0, (List.replicate (Int.toNat (((List.length x1) : Nat) : Int)) (Mir.D.int .i64 0))))) ∧
 (∀ x9 : Int,
 (∀ x10 : (Nat × (List Mir.D)),
 ((x7 x9 x10) →
 (∀ x11 : (Nat → Mir.AV),
 (sel (decide (x9 < (((List.length (List.replicate (Int.toNat (((List.length x1) : Nat) : Int)) (Mir.D.int .i64 0))) : Nat) : Int)))
 (((((Prod.fst x10) : Nat) = 0) ∧
 ((1 : Nat) = 1)) ∧
 (((0 : Int) ≤ x9) ∧
 (((x9 : Int) < (((List.length (Prod.snd x10)) : Nat) : Int)) ∧
 ((((((0 : Nat) = (Prod.fst x10)) ∧
 ((0 : Nat) = 0)) ∧
 ((1 : Nat) = 1)) ∧
 ((1 : Nat) = 1)) ∧
 ((((Int.toNat x9) : Nat) < (List.length (Prod.snd x10))) ∧
 ((((Mir.AV.ptr 900000 0) : Mir.AV) = (Mir.AV.ptr 900000 0)) ∧
 ((((Mir.AV.ptr 900205 0) : Mir.AV) = (Mir.AV.ptr 900205 0)) ∧
 ((((Mir.AV.row 900503 0) : Mir.AV) = (Mir.AV.row 900503 0)) ∧
 ((((Mir.AV.n (Mir.D.int .i64 (((List.length (List.replicate (Int.toNat (((List.length x1) : Nat) : Int)) (Mir.D.int .i64 0))) : Nat) : Int))) : Mir.AV) = (Mir.AV.n (Mir.D.int .i64 (((List.length (List.replicate (Int.toNat (((List.length x1) : Nat) : Int)) (Mir.D.int .i64 0))) : Nat) : Int)))) ∧
 ((@Eq (List (Nat × Mir.Ob)) [(900000, (.box [(Mir.AV.o (Mir.D.sl 1 x0)), (Mir.AV.o (Mir.D.sl 2 x1))])), (900205, (.box [(Mir.AV.o (Mir.D.sl 1 x2)), (Mir.AV.o (Mir.D.sl 2 x3))])), (900503, (.row false true (Prod.fst x10) 3 1 (List.set (Prod.snd x10) (Int.toNat x9) (Mir.D.int .i64 255))))] [(900000, (.box [(Mir.AV.o (Mir.D.sl 1 x0)), (Mir.AV.o (Mir.D.sl 2 x1))])), (900205, (.box [(Mir.AV.o (Mir.D.sl 1 x2)), (Mir.AV.o (Mir.D.sl 2 x3))])), (900503, (.row false true (Prod.fst x10) 3 1 (List.set (Prod.snd x10) (Int.toNat x9) (Mir.D.int .i64 255))))]) ∧
 ((x7 (Go.IntKind.wrap .i64 (x9 + 1)) ((Prod.fst x10), (List.set (Prod.snd x10) (Int.toNat x9) (Mir.D.int .i64 255)))) ∧
 (((x8 (Go.IntKind.wrap .i64 (x9 + 1)) ((Prod.fst x10), (List.set (Prod.snd x10) (Int.toNat x9) (Mir.D.int .i64 255)))) : Nat) < (x8 x9 x10)))))))))))))
 (((Prod.fst x10) = 0) ∧
 (∃ x12 : (List Mir.D),
 (∃ x13 : (List Mir.D),
 (∃ x14 : Int,
 ((Runs Fs2 22 [(Mir.AV.agg [(Mir.AV.o (Mir.D.sl 1 x0)), (Mir.AV.o (Mir.D.sl 2 x1))]), (Mir.AV.o (Mir.D.sl 1 (Prod.snd x10)))] [] (Mir.AV.tup [(Mir.AV.agg [(Mir.AV.o (Mir.D.sl 1 x12)), (Mir.AV.o (Mir.D.sl 2 x13))]), (Mir.AV.n (Mir.D.int .i64 x14))]) []) ∧
 (∃ x15 : (List Mir.D),
 (∃ x16 : (List Mir.D),
 (∃ x17 : Int,
 ((Runs Fs2 26 [(Mir.AV.agg [(Mir.AV.o (Mir.D.sl 1 x2)), (Mir.AV.o (Mir.D.sl 2 x3))])] [] (Mir.AV.tup [(Mir.AV.agg [(Mir.AV.o (Mir.D.sl 1 x15)), (Mir.AV.o (Mir.D.sl 2 x16))]), (Mir.AV.n (Mir.D.int .i64 x17))]) []) ∧
 (sel (x14 != 0)
 (R (Mir.AV.n (Mir.D.bool false)))
 (sel (x17 != 0)
 (R (Mir.AV.n (Mir.D.bool false)))
 (∃ x18 : Bool,
 ((Runs Fs2 14 [(Mir.AV.agg [(Mir.AV.o (Mir.D.sl 1 x2)), (Mir.AV.o (Mir.D.sl 2 x3))]), (Mir.AV.agg [(Mir.AV.o (Mir.D.sl 1 x12)), (Mir.AV.o (Mir.D.sl 2 x13))])] [] (Mir.AV.n (Mir.D.bool x18)) []) ∧
 (sel (Bool.not x18)
 (R (Mir.AV.n (Mir.D.bool false)))
 (∃ x19 : Bool,
 ((Runs Fs2 14 [(Mir.AV.agg [(Mir.AV.o (Mir.D.sl 1 x2)), (Mir.AV.o (Mir.D.sl 2 x3))]), (Mir.AV.agg [(Mir.AV.o (Mir.D.sl 1 x15)), (Mir.AV.o (Mir.D.sl 2 x16))])] [] (Mir.AV.n (Mir.D.bool x19)) []) ∧
 (sel (Bool.not x19)
 (R (Mir.AV.n (Mir.D.bool false)))
 (sel ((((List.length x3) : Nat) : Int) != 0)
 (R (Mir.AV.n (Mir.D.bool false)))
 (∃ x20 : Bool,
 ((Runs Fs2 16 [(Mir.AV.agg [(Mir.AV.o (Mir.D.sl 1 x2)), (Mir.AV.o (Mir.D.sl 2 x3))])] [] (Mir.AV.n (Mir.D.bool x20)) []) ∧
 (sel (Bool.not x20)
 (R (Mir.AV.n (Mir.D.bool false)))
 (sel ((((List.length x2) : Nat) : Int) != (((List.length x0) : Nat) : Int))
 (R (Mir.AV.n (Mir.D.bool false)))
 (∃ x21 : (Int → Prop),
 (∃ x22 : (Int → Nat),
 (((@Eq (List (Nat × Mir.Ob)) [(900000, (.box [(Mir.AV.o (Mir.D.sl 1 x0)), (Mir.AV.o (Mir.D.sl 2 x1))])), (900205, (.box [(Mir.AV.o (Mir.D.sl 1 x2)), (Mir.AV.o (Mir.D.sl 2 x3))])), (900503, (.row true true (Prod.fst x10) 3 1 (Prod.snd x10))), (901106, (.box [(Mir.AV.o (Mir.D.sl 1 x12)), (Mir.AV.o (Mir.D.sl 2 x13))])), (901205, (.box [(Mir.AV.o (Mir.D.sl 1 x15)), (Mir.AV.o (Mir.D.sl 2 x16))]))] [(900000, (.box [(Mir.AV.o (Mir.D.sl 1 x0)), (Mir.AV.o (Mir.D.sl 2 x1))])), (900205, (.box [(Mir.AV.o (Mir.D.sl 1 x2)), (Mir.AV.o (Mir.D.sl 2 x3))])), (900503, (.row true true (Prod.fst x10) 3 1 (Prod.snd x10))), (901106, (.box [(Mir.AV.o (Mir.D.sl 1 x12)), (Mir.AV.o (Mir.D.sl 2 x13))])), (901205, (.box [(Mir.AV.o (Mir.D.sl 1 x15)), (Mir.AV.o (Mir.D.sl 2 x16))]))]) ∧
 (x21 0)) ∧
 (∀ x23 : Int,
 ((x21 x23) →
 (∀ x24 : (Nat → Mir.AV),
 (sel (decide (x23 < (((List.length x0) : Nat) : Int)))
 (∃ x25 : ByteArray,
 (∃ x26 : Int,
 ((Runs Fs2 24 [(Mir.AV.agg [(Mir.AV.o (Mir.D.sl 1 x0)), (Mir.AV.o (Mir.D.sl 2 x1))]), (Mir.AV.n (Mir.D.int .i64 x23))] [] (Mir.AV.tup [(Mir.AV.n (Mir.D.str x25)), (Mir.AV.n (Mir.D.int .i64 x26))]) []) ∧
 (sel (x26 != 0)
 (R (Mir.AV.n (Mir.D.bool false)))
 (((1 : Nat) = 1) ∧
 (((0 : Int) ≤ x23) ∧
 (∃ x27 : Mir.D,
 ((((GetElem?.getElem? x2 (Int.toNat x23)) : (Option Mir.D)) = (some x27)) ∧
 (∃ x28 : ByteArray,
 ((((GetElem?.getElem? (Go.Mir.D.cells x27) 0) : (Option Mir.D)) = (some (Mir.D.str x28))) ∧
 (sel (Bool.not ((ByteArray.toList x25) == (ByteArray.toList x28)))
 (R (Mir.AV.n (Mir.D.bool false)))
 ((((Mir.AV.ptr 900000 0) : Mir.AV) = (Mir.AV.ptr 900000 0)) ∧
 ((((Mir.AV.ptr 900205 0) : Mir.AV) = (Mir.AV.ptr 900205 0)) ∧
 ((((Mir.AV.n (Mir.D.int .i64 (((List.length x0) : Nat) : Int))) : Mir.AV) = (Mir.AV.n (Mir.D.int .i64 (((List.length x0) : Nat) : Int)))) ∧
 ((@Eq (List (Nat × Mir.Ob)) [(900000, (.box [(Mir.AV.o (Mir.D.sl 1 x0)), (Mir.AV.o (Mir.D.sl 2 x1))])), (900205, (.box [(Mir.AV.o (Mir.D.sl 1 x2)), (Mir.AV.o (Mir.D.sl 2 x3))])), (900503, (.row true true (Prod.fst x10) 3 1 (Prod.snd x10))), (901106, (.box [(Mir.AV.o (Mir.D.sl 1 x12)), (Mir.AV.o (Mir.D.sl 2 x13))])), (901205, (.box [(Mir.AV.o (Mir.D.sl 1 x15)), (Mir.AV.o (Mir.D.sl 2 x16))]))] [(900000, (.box [(Mir.AV.o (Mir.D.sl 1 x0)), (Mir.AV.o (Mir.D.sl 2 x1))])), (900205, (.box [(Mir.AV.o (Mir.D.sl 1 x2)), (Mir.AV.o (Mir.D.sl 2 x3))])), (900503, (.row true true (Prod.fst x10) 3 1 (Prod.snd x10))), (901106, (.box [(Mir.AV.o (Mir.D.sl 1 x12)), (Mir.AV.o (Mir.D.sl 2 x13))])), (901205, (.box [(Mir.AV.o (Mir.D.sl 1 x15)), (Mir.AV.o (Mir.D.sl 2 x16))]))]) ∧
 ((x21 (Go.IntKind.wrap .i64 (x23 + 1))) ∧
 (((x22 (Go.IntKind.wrap .i64 (x23 + 1))) : Nat) < (x22 x23))))))))))))))))))
 (∃ x29 : Bool,
 ((Runs Fs2 15 [] [] (Mir.AV.n (Mir.D.bool x29)) []) ∧
 (R (Mir.AV.n (Mir.D.bool x29)))))))))))))))))))))))))))))))))))))))))))))))))))))
theorem vc9 (a0_0 : List Mir.D) (a0_1 : List Mir.D) (R : Mir.AV → Prop) : Vc Fs2 c9.body (argsQ c9 [(.agg [(.o (.sl 1 a0_0)), (.o (.sl 2 a0_1))])]) [] (endQ c9 R) = V9 a0_0 a0_1 R := by kernel_rfl
def V10 (a0_0 : List Mir.D) (a0_1 : List Mir.D) (a1 : Int) (a2 : Int) (a3 : ByteArray) (a4 : List Mir.D) (R : Mir.AV → Prop) : Prop :=
 (∃ x0 : (List Mir.D),
 (∃ x1 : (List Mir.D),
 ((Runs Fs2 12 [(Mir.AV.agg [(Mir.AV.o (Mir.D.sl 1 a0_0)), (Mir.AV.o (Mir.D.sl 2 a0_1))])] [] (Mir.AV.agg [(Mir.AV.o (Mir.D.sl 1 x0)), (Mir.AV.o (Mir.D.sl 2 x1))]) []) ∧
 (∃ x2 : ByteArray,
 (∃ x3 : Int,
 ((Runs Fs2 24 [(Mir.AV.agg [(Mir.AV.o (Mir.D.sl 1 x0)), (Mir.AV.o (Mir.D.sl 2 x1))]), (Mir.AV.n (Mir.D.int .i64 a2))] [] (Mir.AV.tup [(Mir.AV.n (Mir.D.str x2)), (Mir.AV.n (Mir.D.int .i64 x3))]) []) ∧
 (∃ x4 : (List Mir.D),
 (∃ x5 : (List Mir.D),
 (∃ x6 : Int,
 ((Runs Fs2 25 [(Mir.AV.agg [(Mir.AV.o (Mir.D.sl 1 x0)), (Mir.AV.o (Mir.D.sl 2 x1))]), (Mir.AV.n (Mir.D.int .i64 a1)), (Mir.AV.n (Mir.D.str a3))] [] (Mir.AV.tup [(Mir.AV.agg [(Mir.AV.o (Mir.D.sl 1 x4)), (Mir.AV.o (Mir.D.sl 2 x5))]), (Mir.AV.n (Mir.D.int .i64 x6))]) []) ∧
 (sel (x3 != 0)
 (∃ x7 : Bool,
 ((Runs Fs2 15 [] [] (Mir.AV.n (Mir.D.bool x7)) []) ∧
 (sel x7
 (sel (x3 == 0)
 (R (Mir.AV.n (Mir.D.bool true)))
 (R (Mir.AV.n (Mir.D.bool ((ByteArray.toList x2) == (ByteArray.toList (ByteArray.mk (List.toArray []))))))))
 (R (Mir.AV.n (Mir.D.bool false))))))
 (sel (x6 != 0)
 (∃ x8 : Bool,
 ((Runs Fs2 15 [] [] (Mir.AV.n (Mir.D.bool x8)) []) ∧
 (sel x8
 (sel (x3 == 0)
 (R (Mir.AV.n (Mir.D.bool true)))
 (R (Mir.AV.n (Mir.D.bool ((ByteArray.toList x2) == (ByteArray.toList (ByteArray.mk (List.toArray []))))))))
 (R (Mir.AV.n (Mir.D.bool false))))))
 (∃ x9 : ByteArray,
 (∃ x10 : Int,
 ((Runs Fs2 24 [(Mir.AV.agg [(Mir.AV.o (Mir.D.sl 1 x4)), (Mir.AV.o (Mir.D.sl 2 x5))]), (Mir.AV.n (Mir.D.int .i64 a1))] [] (Mir.AV.tup [(Mir.AV.n (Mir.D.str x9)), (Mir.AV.n (Mir.D.int .i64 x10))]) []) ∧
 (∃ x11 : ByteArray,
 (∃ x12 : Int,
 ((Runs Fs2 24 [(Mir.AV.agg [(Mir.AV.o (Mir.D.sl 1 x4)), (Mir.AV.o (Mir.D.sl 2 x5))]), (Mir.AV.n (Mir.D.int .i64 a2))] [] (Mir.AV.tup [(Mir.AV.n (Mir.D.str x11)), (Mir.AV.n (Mir.D.int .i64 x12))]) []) ∧
 (∃ x13 : (List Mir.D),
 (∃ x14 : (List Mir.D),
 (∃ x15 : Int,
 ((Runs Fs2 26 [(Mir.AV.agg [(Mir.AV.o (Mir.D.sl 1 x4)), (Mir.AV.o (Mir.D.sl 2 x5))])] [] (Mir.AV.tup [(Mir.AV.agg [(Mir.AV.o (Mir.D.sl 1 x13)), (Mir.AV.o (Mir.D.sl 2 x14))]), (Mir.AV.n (Mir.D.int .i64 x15))]) []) ∧
 (∃ x16 : (List Mir.D),
 (∃ x17 : (List Mir.D),
 (∃ x18 : Int,
 ((Runs Fs2 22 [(Mir.AV.agg [(Mir.AV.o (Mir.D.sl 1 x13)), (Mir.AV.o (Mir.D.sl 2 x14))]), (Mir.AV.o (Mir.D.sl 1 a4))] [] (Mir.AV.tup [(Mir.AV.agg [(Mir.AV.o (Mir.D.sl 1 x16)), (Mir.AV.o (Mir.D.sl 2 x17))]), (Mir.AV.n (Mir.D.int .i64 x18))]) []) ∧
 (∃ x19 : ByteArray,
 (∃ x20 : Int,
 ((Runs Fs2 24 [(Mir.AV.agg [(Mir.AV.o (Mir.D.sl 1 x16)), (Mir.AV.o (Mir.D.sl 2 x17))]), (Mir.AV.n (Mir.D.int .i64 a1))] [] (Mir.AV.tup [(Mir.AV.n (Mir.D.str x19)), (Mir.AV.n (Mir.D.int .i64 x20))]) []) ∧
 (∃ x21 : ByteArray,
 (∃ x22 : Int,
 ((Runs Fs2 24 [(Mir.AV.agg [(Mir.AV.o (Mir.D.sl 1 x16)), (Mir.AV.o (Mir.D.sl 2 x17))]), (Mir.AV.n (Mir.D.int .i64 a2))] [] (Mir.AV.tup [(Mir.AV.n (Mir.D.str x21)), (Mir.AV.n (Mir.D.int .i64 x22))]) []) ∧
 (sel (x10 == 0)
 (sel (x12 == 0)
 (sel (x15 == 0)
 (sel (x18 == 0)
 (sel (x20 == 0)
 (∃ x23 : Bool,
 ((Runs Fs2 15 [] [] (Mir.AV.n (Mir.D.bool x23)) []) ∧
 (sel x23
 (sel (x22 == 0)
 (∃ x24 : ByteArray,
 ((Runs Fs2 18 [(Mir.AV.n (Mir.D.str (ByteArray.mk (List.toArray [])))), (Mir.AV.n (Mir.D.str a3)), (Mir.AV.n (Mir.D.int .i64 255))] [] (Mir.AV.n (Mir.D.str x24)) []) ∧
 (sel ((ByteArray.toList x9) == (ByteArray.toList x24))
 (sel (a1 == a2)
 (sel ((ByteArray.toList x19) == (ByteArray.toList x9))
 (sel ((ByteArray.toList x21) == (ByteArray.toList x11))
 (∃ x25 : Bool,
 ((Runs Fs2 14 [(Mir.AV.agg [(Mir.AV.o (Mir.D.sl 1 x13)), (Mir.AV.o (Mir.D.sl 2 x14))]), (Mir.AV.agg [(Mir.AV.o (Mir.D.sl 1 x16)), (Mir.AV.o (Mir.D.sl 2 x17))])] [] (Mir.AV.n (Mir.D.bool x25)) []) ∧
 (sel x25
 (∃ x26 : Bool,
 ((Runs Fs2 16 [(Mir.AV.agg [(Mir.AV.o (Mir.D.sl 1 x4)), (Mir.AV.o (Mir.D.sl 2 x5))])] [] (Mir.AV.n (Mir.D.bool x26)) []) ∧
 (sel x26
 (∃ x27 : Bool,
 ((Runs Fs2 16 [(Mir.AV.agg [(Mir.AV.o (Mir.D.sl 1 x16)), (Mir.AV.o (Mir.D.sl 2 x17))])] [] (Mir.AV.n (Mir.D.bool x27)) []) ∧
 (R (Mir.AV.n (Mir.D.bool x27)))))
 (R (Mir.AV.n (Mir.D.bool false))))))
 (R (Mir.AV.n (Mir.D.bool false))))))
 (R (Mir.AV.n (Mir.D.bool false))))
 (R (Mir.AV.n (Mir.D.bool false))))
 (sel ((ByteArray.toList x11) == (ByteArray.toList x2))
 (sel ((ByteArray.toList x19) == (ByteArray.toList x9))
 (sel ((ByteArray.toList x21) == (ByteArray.toList x11))
 (∃ x28 : Bool,
 ((Runs Fs2 14 [(Mir.AV.agg [(Mir.AV.o (Mir.D.sl 1 x13)), (Mir.AV.o (Mir.D.sl 2 x14))]), (Mir.AV.agg [(Mir.AV.o (Mir.D.sl 1 x16)), (Mir.AV.o (Mir.D.sl 2 x17))])] [] (Mir.AV.n (Mir.D.bool x28)) []) ∧
 (sel x28
 (∃ x29 : Bool,
 ((Runs Fs2 16 [(Mir.AV.agg [(Mir.AV.o (Mir.D.sl 1 x4)), (Mir.AV.o (Mir.D.sl 2 x5))])] [] (Mir.AV.n (Mir.D.bool x29)) []) ∧
 (sel x29
 (∃ x30 : Bool,
 ((Runs Fs2 16 [(Mir.AV.agg [(Mir.AV.o (Mir.D.sl 1 x16)), (Mir.AV.o (Mir.D.sl 2 x17))])] [] (Mir.AV.n (Mir.D.bool x30)) []) ∧
 (R (Mir.AV.n (Mir.D.bool x30)))))
 (R (Mir.AV.n (Mir.D.bool false))))))
 (R (Mir.AV.n (Mir.D.bool false))))))
 (R (Mir.AV.n (Mir.D.bool false))))
 (R (Mir.AV.n (Mir.D.bool false))))
 (R (Mir.AV.n (Mir.D.bool false)))))
 (R (Mir.AV.n (Mir.D.bool false))))))
 (R (Mir.AV.n (Mir.D.bool false))))
 (R (Mir.AV.n (Mir.D.bool false))))))
 (∃ x31 : Bool,
 ((Runs Fs2 15 [] [] (Mir.AV.n (Mir.D.bool x31)) []) ∧
 (sel x31
 (R (Mir.AV.n (Mir.D.bool false)))
 (R (Mir.AV.n (Mir.D.bool false)))))))
 (∃ x32 : Bool,
 ((Runs Fs2 15 [] [] (Mir.AV.n (Mir.D.bool x32)) []) ∧
 (sel x32
 (R (Mir.AV.n (Mir.D.bool false)))
 (R (Mir.AV.n (Mir.D.bool false)))))))
 (∃ x33 : Bool,
 ((Runs Fs2 15 [] [] (Mir.AV.n (Mir.D.bool x33)) []) ∧
 (sel x33
 (R (Mir.AV.n (Mir.D.bool false)))
 (R (Mir.AV.n (Mir.D.bool false)))))))
 (∃ x34 : Bool,
 ((Runs Fs2 15 [] [] (Mir.AV.n (Mir.D.bool x34)) []) ∧
 (sel x34
 (R (Mir.AV.n (Mir.D.bool false)))
 (R (Mir.AV.n (Mir.D.bool false)))))))
 (∃ x35 : Bool,
 ((Runs Fs2 15 [] [] (Mir.AV.n (Mir.D.bool x35)) []) ∧
 (sel x35
 (R (Mir.AV.n (Mir.D.bool false)))
 (R (Mir.AV.n (Mir.D.bool false)))))))))))))))))))))))))))))))))))))))
theorem vc10 (a0_0 : List Mir.D) (a0_1 : List Mir.D) (a1 : Int) (a2 : Int) (a3 : ByteArray) (a4 : List Mir.D) (R : Mir.AV → Prop) : Vc Fs2 c10.body (argsQ c10 [(.agg [(.o (.sl 1 a0_0)), (.o (.sl 2 a0_1))]), (.n (.int .i64 a1)), (.n (.int .i64 a2)), (.n (.str a3)), (.o (.sl 1 a4))]) [] (endQ c10 R) = V10 a0_0 a0_1 a1 a2 a3 a4 R := by kernel_rfl

end Go.Proofs.YtcakphhnilklnaaDoor.M
