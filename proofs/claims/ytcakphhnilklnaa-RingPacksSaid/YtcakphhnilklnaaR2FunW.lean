import Derived.Test.YtcakphhnilklnaaR2Fun
namespace Go.Proofs.Ytcakphhnilklnaa.M
set_option linter.unusedVariables false
set_option linter.unusedSimpArgs false
open Go Go.Mir
set_option linter.unusedVariables false
def V3 (a0 : List Mir.D) (a1 : ByteArray) (R : Mir.AV → Prop) : Prop :=
 (∃ x0 : (List Mir.D),
 ((Runs Fs 4 [(Mir.AV.o (Mir.D.sl 3 a0))] [] (Mir.AV.o (Mir.D.sl 3 x0)) []) ∧
 (∃ x1 : ByteArray,
 (∃ x2 : Int,
 ((Runs Fs 5 [(Mir.AV.o (Mir.D.sl 3 x0))] [] (Mir.AV.tup [(Mir.AV.n (Mir.D.str x1)), (Mir.AV.n (Mir.D.int .i64 x2))]) []) ∧
 (∃ x3 : ByteArray,
 (∃ x4 : Int,
 ((Runs Fs 6 [(Mir.AV.o (Mir.D.sl 3 x0))] [] (Mir.AV.tup [(Mir.AV.n (Mir.D.str x3)), (Mir.AV.n (Mir.D.int .i64 x4))]) []) ∧
 (∃ x5 : (List Mir.D),
 (∃ x6 : Int,
 ((Runs Fs 7 [(Mir.AV.n (Mir.D.str a1))] [] (Mir.AV.tup [(Mir.AV.o (Mir.D.sl 3 x5)), (Mir.AV.n (Mir.D.int .i64 x6))]) []) ∧
 (∃ x7 : (List Mir.D),
 (∃ x8 : Int,
 ((Runs Fs 8 [(Mir.AV.n (Mir.D.str a1))] [] (Mir.AV.tup [(Mir.AV.o (Mir.D.sl 3 x7)), (Mir.AV.n (Mir.D.int .i64 x8))]) []) ∧
 (∃ x9 : Bool,
 ((Runs Fs 9 [] [] (Mir.AV.n (Mir.D.bool x9)) []) ∧
 (sel x9
 (sel ((ByteArray.toList x1) == (ByteArray.toList x3))
 (sel (x2 == x4)
 (∃ x10 : Bool,
 ((Runs Fs 10 [(Mir.AV.o (Mir.D.sl 3 x5)), (Mir.AV.o (Mir.D.sl 3 x7))] [] (Mir.AV.n (Mir.D.bool x10)) []) ∧
 (sel x10
 (R (Mir.AV.n (Mir.D.bool (x6 == x8))))
 (R (Mir.AV.n (Mir.D.bool false))))))
 (R (Mir.AV.n (Mir.D.bool false))))
 (R (Mir.AV.n (Mir.D.bool false))))
 (R (Mir.AV.n (Mir.D.bool false))))))))))))))))))))
theorem vc3 (a0 : List Mir.D) (a1 : ByteArray) (R : Mir.AV → Prop) : Vc Fs c3.body (argsQ c3 [(.o (.sl 3 a0)), (.n (.str a1))]) [] (endQ c3 R) = V3 a0 a1 R := by kernel_rfl
def V4 (a0 : List Mir.D) (R : Mir.AV → Prop) : Prop :=
 (sel (decide ((((List.length a0) : Nat) : Int) > 30))
 (sel (decide ((((List.length a0) : Nat) : Int) < 256))
 (((3 : Nat) = 3) ∧
 (((0 : Int) ≤ 30) ∧
 (((30 : Int) ≤ (((List.length a0) : Nat) : Int)) ∧
 (R (Mir.AV.o (Mir.D.sl 3 (List.drop 0 (List.take (Int.toNat 30) a0))))))))
 (((3 : Nat) = 3) ∧
 (((0 : Int) ≤ (Go.Mir.mmI false (((List.length a0) : Nat) : Int) 300)) ∧
 ((((Go.Mir.mmI false (((List.length a0) : Nat) : Int) 300) : Int) ≤ (((List.length a0) : Nat) : Int)) ∧
 (R (Mir.AV.o (Mir.D.sl 3 (List.drop 0 (List.take (Int.toNat (Go.Mir.mmI false (((List.length a0) : Nat) : Int) 300)) a0)))))))))
 (((3 : Nat) = 3) ∧
 (((0 : Int) ≤ (Go.Mir.mmI false (((List.length a0) : Nat) : Int) 300)) ∧
 ((((Go.Mir.mmI false (((List.length a0) : Nat) : Int) 300) : Int) ≤ (((List.length a0) : Nat) : Int)) ∧
 (R (Mir.AV.o (Mir.D.sl 3 (List.drop 0 (List.take (Int.toNat (Go.Mir.mmI false (((List.length a0) : Nat) : Int) 300)) a0)))))))))
theorem vc4 (a0 : List Mir.D) (R : Mir.AV → Prop) : Vc Fs c4.body (argsQ c4 [(.o (.sl 3 a0))]) [] (endQ c4 R) = V4 a0 R := by kernel_rfl
def V5 (a0 : List Mir.D) (R : Mir.AV → Prop) : Prop :=
 (∃ x0 : Bool,
 ((Runs Fs 11 [(Mir.AV.o (Mir.D.sl 3 a0)), (Mir.AV.fn 12 [])] [] (Mir.AV.n (Mir.D.bool x0)) []) ∧
 (sel x0
 (R (Mir.AV.tup [(Mir.AV.n (Mir.D.str (ByteArray.mk (List.toArray [])))), (Mir.AV.n (Mir.D.int .i64 1))]))
 (∃ x1 : ByteArray,
 (∃ x2 : Int,
 ((Runs Fs 14 [(Mir.AV.n (Mir.D.int .i64 (((List.length a0) : Nat) : Int))), (Mir.AV.n (Mir.D.int .i64 1))] [] (Mir.AV.tup [(Mir.AV.n (Mir.D.str x1)), (Mir.AV.n (Mir.D.int .i64 x2))]) []) ∧
 (sel (x2 != 0)
 (R (Mir.AV.tup [(Mir.AV.n (Mir.D.str (ByteArray.mk (List.toArray [])))), (Mir.AV.n (Mir.D.int .i64 2))]))
 (∃ x3 : (ByteArray → (Int → Prop)),
 (∃ x4 : (ByteArray → (Int → Nat)),
 (((@Eq (List (Nat × Mir.Ob)) [] []) ∧
 (x3 x1 0)) ∧
 (∀ x5 : ByteArray,
 (∀ x6 : Int,
 ((x3 x5 x6) →
 (∀ x7 : (Nat → Mir.AV),
 (sel (decide (x6 < (((List.length a0) : Nat) : Int)))
 (((3 : Nat) = 3) ∧
 (((0 : Int) ≤ x6) ∧
 (∃ x8 : Mir.D,
 ((((GetElem?.getElem? a0 (Int.toNat x6)) : (Option Mir.D)) = (some x8)) ∧
 (∃ x9 : ByteArray,
 (∃ x10 : ByteArray,
 (∃ x11 : Bool,
 ((@Eq (List Mir.D) (List.take 3 (Go.Mir.D.cells x8)) [(Mir.D.str x9), (Mir.D.str x10), (Mir.D.bool x11)]) ∧
 (((3 : Nat) ≤ (List.length (Go.Mir.D.cells x8))) ∧
 (∃ x12 : ByteArray,
 (∃ x13 : Int,
 ((Runs Fs 15 [(Mir.AV.n (Mir.D.str x9))] [] (Mir.AV.tup [(Mir.AV.n (Mir.D.str x12)), (Mir.AV.n (Mir.D.int .i64 x13))]) []) ∧
 (sel x11
 (((0 : Nat) = 0) ∧
 ((((1 : Nat) = 1) ∨ (@Eq (List Mir.D) [(Mir.D.int .u8 1)] [])) ∧
 ((((List.all [(Mir.D.int .u8 1)] Go.Mir.D.isU8) : Bool) = true) ∧
 ((0 = 0) ∧
 (∃ x14 : ByteArray,
 ((Runs Fs 16 [(Mir.AV.o (Mir.D.sl 1 [(Mir.D.str x5), (Mir.D.str (ByteArray.mk (List.toArray (List.map Go.Mir.byteOf [(Mir.D.int .u8 1)])))), (Mir.D.str x12)]))] [] (Mir.AV.n (Mir.D.str x14)) []) ∧
 (sel (decide ((((ByteArray.size x14) : Nat) : Int) > 480))
 (R (Mir.AV.tup [(Mir.AV.n (Mir.D.str (ByteArray.mk (List.toArray [])))), (Mir.AV.n (Mir.D.int .i64 2))]))
 ((((Mir.AV.o (Mir.D.sl 3 a0)) : Mir.AV) = (Mir.AV.o (Mir.D.sl 3 a0))) ∧
 ((((Mir.AV.n (Mir.D.int .i64 (((List.length a0) : Nat) : Int))) : Mir.AV) = (Mir.AV.n (Mir.D.int .i64 (((List.length a0) : Nat) : Int)))) ∧
 ((@Eq (List (Nat × Mir.Ob)) [] []) ∧
 ((x3 x14 (Go.IntKind.wrap .i64 (x6 + 1))) ∧
 (((x4 x14 (Go.IntKind.wrap .i64 (x6 + 1))) : Nat) < (x4 x5 x6)))))))))))))
 (∃ x15 : ByteArray,
 (∃ x16 : Int,
 ((Runs Fs 15 [(Mir.AV.n (Mir.D.str x10))] [] (Mir.AV.tup [(Mir.AV.n (Mir.D.str x15)), (Mir.AV.n (Mir.D.int .i64 x16))]) []) ∧
 (((0 : Nat) = 0) ∧
 ((((1 : Nat) = 1) ∨ (@Eq (List Mir.D) [(Mir.D.int .u8 0)] [])) ∧
 ((((List.all [(Mir.D.int .u8 0)] Go.Mir.D.isU8) : Bool) = true) ∧
 ((0 = 0) ∧
 (∃ x17 : ByteArray,
 ((Runs Fs 16 [(Mir.AV.o (Mir.D.sl 1 [(Mir.D.str x5), (Mir.D.str (ByteArray.mk (List.toArray (List.map Go.Mir.byteOf [(Mir.D.int .u8 0)])))), (Mir.D.str x12), (Mir.D.str x15)]))] [] (Mir.AV.n (Mir.D.str x17)) []) ∧
 (sel (decide ((((ByteArray.size x17) : Nat) : Int) > 480))
 (R (Mir.AV.tup [(Mir.AV.n (Mir.D.str (ByteArray.mk (List.toArray [])))), (Mir.AV.n (Mir.D.int .i64 2))]))
 ((((Mir.AV.o (Mir.D.sl 3 a0)) : Mir.AV) = (Mir.AV.o (Mir.D.sl 3 a0))) ∧
 ((((Mir.AV.n (Mir.D.int .i64 (((List.length a0) : Nat) : Int))) : Mir.AV) = (Mir.AV.n (Mir.D.int .i64 (((List.length a0) : Nat) : Int)))) ∧
 ((@Eq (List (Nat × Mir.Ob)) [] []) ∧
 ((x3 x17 (Go.IntKind.wrap .i64 (x6 + 1))) ∧
 (((x4 x17 (Go.IntKind.wrap .i64 (x6 + 1))) : Nat) < (x4 x5 x6)))))))))))))))))))))))))))))
 (R (Mir.AV.tup [(Mir.AV.n (Mir.D.str x5)), (Mir.AV.n (Mir.D.int .i64 0))])))))))))))))))))
theorem vc5 (a0 : List Mir.D) (R : Mir.AV → Prop) : Vc Fs c5.body (argsQ c5 [(.o (.sl 3 a0))]) [] (endQ c5 R) = V5 a0 R := by kernel_rfl
def V6 (a0 : List Mir.D) (R : Mir.AV → Prop) : Prop :=
 (∃ x0 : (Int → Prop),
 (∃ x1 : (Int → Nat),
 (((@Eq (List (Nat × Mir.Ob)) [] []) ∧
 (x0 0)) ∧
 (∀ x2 : Int,
 ((x0 x2) →
 (∀ x3 : (Nat → Mir.AV),
 (sel (decide (x2 < (((List.length a0) : Nat) : Int)))
 (((3 : Nat) = 3) ∧
 (((0 : Int) ≤ x2) ∧
 (∃ x4 : Mir.D,
 ((((GetElem?.getElem? a0 (Int.toNat x2)) : (Option Mir.D)) = (some x4)) ∧
 (∃ x5 : ByteArray,
 (∃ x6 : ByteArray,
 (∃ x7 : Bool,
 ((@Eq (List Mir.D) (List.take 3 (Go.Mir.D.cells x4)) [(Mir.D.str x5), (Mir.D.str x6), (Mir.D.bool x7)]) ∧
 (((3 : Nat) ≤ (List.length (Go.Mir.D.cells x4))) ∧
 (∃ x8 : Bool,
 ((Runs Fs 17 [(Mir.AV.agg [(Mir.AV.n (Mir.D.str x5)), (Mir.AV.n (Mir.D.str x6)), (Mir.AV.n (Mir.D.bool x7))])] [] (Mir.AV.n (Mir.D.bool x8)) []) ∧
 (sel (Bool.not x8)
 (R (Mir.AV.tup [(Mir.AV.n (Mir.D.str (ByteArray.mk (List.toArray [])))), (Mir.AV.n (Mir.D.int .i64 1))]))
 ((((Mir.AV.o (Mir.D.sl 3 a0)) : Mir.AV) = (Mir.AV.o (Mir.D.sl 3 a0))) ∧
 ((((Mir.AV.o (Mir.D.sl 3 a0)) : Mir.AV) = (Mir.AV.o (Mir.D.sl 3 a0))) ∧
 ((((Mir.AV.n (Mir.D.int .i64 (((List.length a0) : Nat) : Int))) : Mir.AV) = (Mir.AV.n (Mir.D.int .i64 (((List.length a0) : Nat) : Int)))) ∧
 ((@Eq (List (Nat × Mir.Ob)) [] []) ∧
 ((x0 (Go.IntKind.wrap .i64 (x2 + 1))) ∧
 (((x1 (Go.IntKind.wrap .i64 (x2 + 1))) : Nat) < (x1 x2)))))))))))))))))))
 (sel (decide ((((List.length a0) : Nat) : Int) > 255))
 (R (Mir.AV.tup [(Mir.AV.n (Mir.D.str (ByteArray.mk (List.toArray [])))), (Mir.AV.n (Mir.D.int .i64 2))]))
 (((0 : Nat) = 0) ∧
 ((((1 : Nat) = 1) ∨ (@Eq (List Mir.D) [(Mir.D.int .u8 (Go.IntKind.wrap .u8 (((List.length a0) : Nat) : Int)))] [])) ∧
 ((((List.all [(Mir.D.int .u8 (Go.IntKind.wrap .u8 (((List.length a0) : Nat) : Int)))] Go.Mir.D.isU8) : Bool) = true) ∧
 (∃ x9 : (ByteArray → (Int → Prop)),
 (∃ x10 : (ByteArray → (Int → Nat)),
 (((@Eq (List (Nat × Mir.Ob)) [(600903, (.row false true 0 5 1 [(Mir.D.int .u8 (Go.IntKind.wrap .u8 (((List.length a0) : Nat) : Int)))]))] [(600903, (.row false true 0 5 1 [(Mir.D.int .u8 (Go.IntKind.wrap .u8 (((List.length a0) : Nat) : Int)))]))]) ∧
 (x9 (ByteArray.mk (List.toArray (List.map Go.Mir.byteOf [(Mir.D.int .u8 (Go.IntKind.wrap .u8 (((List.length a0) : Nat) : Int)))]))) 0)) ∧
 (∀ x11 : ByteArray,
 (∀ x12 : Int,
 ((x9 x11 x12) →
 (∀ x13 : (Nat → Mir.AV),
 (sel (decide (x12 < (((List.length a0) : Nat) : Int)))
 (((3 : Nat) = 3) ∧
 (((0 : Int) ≤ x12) ∧
 (∃ x14 : Mir.D,
 ((((GetElem?.getElem? a0 (Int.toNat x12)) : (Option Mir.D)) = (some x14)) ∧
 (∃ x15 : ByteArray,
 (∃ x16 : ByteArray,
 (∃ x17 : Bool,
 ((@Eq (List Mir.D) (List.take 3 (Go.Mir.D.cells x14)) [(Mir.D.str x15), (Mir.D.str x16), (Mir.D.bool x17)]) ∧
 (((3 : Nat) ≤ (List.length (Go.Mir.D.cells x14))) ∧
 (sel x17
 (((((((ByteArray.size x11) + (ByteArray.size (ByteArray.mk (List.toArray [1])))) : Nat) : Int) : Int) ≤ 9223372036854775807) ∧
 (∃ x18 : ByteArray,
 ((Runs Fs 18 [(Mir.AV.n (Mir.D.str x15))] [] (Mir.AV.n (Mir.D.str x18)) []) ∧
 (((((((ByteArray.size (x11 ++ (ByteArray.mk (List.toArray [1])))) + (ByteArray.size x18)) : Nat) : Int) : Int) ≤ 9223372036854775807) ∧
 ((((Mir.AV.o (Mir.D.sl 3 a0)) : Mir.AV) = (Mir.AV.o (Mir.D.sl 3 a0))) ∧
 ((((Mir.AV.n (Mir.D.int .i64 (((List.length a0) : Nat) : Int))) : Mir.AV) = (Mir.AV.n (Mir.D.int .i64 (((List.length a0) : Nat) : Int)))) ∧
 ((@Eq (List (Nat × Mir.Ob)) [(600903, (.row false true 0 5 1 [(Mir.D.int .u8 (Go.IntKind.wrap .u8 (((List.length a0) : Nat) : Int)))]))] [(600903, (.row false true 0 5 1 [(Mir.D.int .u8 (Go.IntKind.wrap .u8 (((List.length a0) : Nat) : Int)))]))]) ∧
 ((x9 ((x11 ++ (ByteArray.mk (List.toArray [1]))) ++ x18) (Go.IntKind.wrap .i64 (x12 + 1))) ∧
 (((x10 ((x11 ++ (ByteArray.mk (List.toArray [1]))) ++ x18) (Go.IntKind.wrap .i64 (x12 + 1))) : Nat) < (x10 x11 x12))))))))))
 (((((((ByteArray.size x11) + (ByteArray.size (ByteArray.mk (List.toArray [0])))) : Nat) : Int) : Int) ≤ 9223372036854775807) ∧
 (∃ x19 : ByteArray,
 ((Runs Fs 18 [(Mir.AV.n (Mir.D.str x15))] [] (Mir.AV.n (Mir.D.str x19)) []) ∧
 (((((((ByteArray.size (x11 ++ (ByteArray.mk (List.toArray [0])))) + (ByteArray.size x19)) : Nat) : Int) : Int) ≤ 9223372036854775807) ∧
 (∃ x20 : ByteArray,
 ((Runs Fs 18 [(Mir.AV.n (Mir.D.str x16))] [] (Mir.AV.n (Mir.D.str x20)) []) ∧
 (((((((ByteArray.size ((x11 ++ (ByteArray.mk (List.toArray [0]))) ++ x19)) + (ByteArray.size x20)) : Nat) : Int) : Int) ≤ 9223372036854775807) ∧
 ((((Mir.AV.o (Mir.D.sl 3 a0)) : Mir.AV) = (Mir.AV.o (Mir.D.sl 3 a0))) ∧
 ((((Mir.AV.n (Mir.D.int .i64 (((List.length a0) : Nat) : Int))) : Mir.AV) = (Mir.AV.n (Mir.D.int .i64 (((List.length a0) : Nat) : Int)))) ∧
 ((@Eq (List (Nat × Mir.Ob)) [(600903, (.row false true 0 5 1 [(Mir.D.int .u8 (Go.IntKind.wrap .u8 (((List.length a0) : Nat) : Int)))]))] [(600903, (.row false true 0 5 1 [(Mir.D.int .u8 (Go.IntKind.wrap .u8 (((List.length a0) : Nat) : Int)))]))]) ∧
 ((x9 (((x11 ++ (ByteArray.mk (List.toArray [0]))) ++ x19) ++ x20) (Go.IntKind.wrap .i64 (x12 + 1))) ∧
 (((x10 (((x11 ++ (ByteArray.mk (List.toArray [0]))) ++ x19) ++ x20) (Go.IntKind.wrap .i64 (x12 + 1))) : Nat) < (x10 x11 x12)))))))))))))))))))))))
 (sel (decide ((((ByteArray.size x11) : Nat) : Int) > 480))
 (R (Mir.AV.tup [(Mir.AV.n (Mir.D.str (ByteArray.mk (List.toArray [])))), (Mir.AV.n (Mir.D.int .i64 2))]))
 (R (Mir.AV.tup [(Mir.AV.n (Mir.D.str x11)), (Mir.AV.n (Mir.D.int .i64 0))]))))))))))))))))))))))
theorem vc6 (a0 : List Mir.D) (R : Mir.AV → Prop) : Vc Fs c6.body (argsQ c6 [(.o (.sl 3 a0))]) [] (endQ c6 R) = V6 a0 R := by kernel_rfl
def V7 (a0 : ByteArray) (R : Mir.AV → Prop) : Prop :=
 (sel (decide ((((ByteArray.size a0) : Nat) : Int) > 480))
 (R (Mir.AV.tup [(Mir.AV.o (Mir.D.sl 3 [])), (Mir.AV.n (Mir.D.int .i64 2))]))
 (∃ x0 : Int,
 (∃ x1 : ByteArray,
 (∃ x2 : Int,
 (∃ x3 : Int,
 ((Runs Fs 19 [(Mir.AV.ptr 700301 0), (Mir.AV.ptr 700000 0), (Mir.AV.ptr 700300 0)] [(700000, (.box [(Mir.AV.n (Mir.D.str a0))])), (700300, (.box [(Mir.AV.n (Mir.D.int .i64 0))])), (700301, (.box [(Mir.AV.n (Mir.D.int .i64 0))]))] (Mir.AV.n (Mir.D.int .i64 x0)) [(700000, (.box [(Mir.AV.n (Mir.D.str x1))])), (700300, (.box [(Mir.AV.n (Mir.D.int .i64 x2))])), (700301, (.box [(Mir.AV.n (Mir.D.int .i64 x3))]))]) ∧
 (∃ x4 : (Nat → (Int → ((ByteArray × (PUnit)) → ((Int × (PUnit)) → ((Int × (PUnit)) → ((Nat × (List Mir.D)) → Prop)))))),
 (∃ x5 : (Nat → (Int → ((ByteArray × (PUnit)) → ((Int × (PUnit)) → ((Int × (PUnit)) → ((Nat × (List Mir.D)) → Nat)))))),
 (((@Eq (List (Nat × Mir.Ob)) [(700000, (.box [(Mir.AV.n (Mir.D.str x1))])), (700300, (.box [(Mir.AV.n (Mir.D.int .i64 x2))])), (700301, (.box [(Mir.AV.n (Mir.D.int .i64 x3))])), (701603, (.row false true 0 35 3 []))] [(700000, (.box [(Mir.AV.n (Mir.D.str x1))])), (700300, (.box [(Mir.AV.n (Mir.D.int .i64 x2))])), (700301, (.box [(Mir.AV.n (Mir.D.int .i64 x3))])), (701603, (.row false true 0 35 3 []))]) ∧
 (x4 0 x0 (x1, Unit.unit) (x2, Unit.unit) (x3, Unit.unit) (0, []))) ∧
 (∀ x6 : Nat,
 (∀ x7 : Int,
 (∀ x8 : (ByteArray × (PUnit)),
 (∀ x9 : (Int × (PUnit)),
 (∀ x10 : (Int × (PUnit)),
 (∀ x11 : (Nat × (List Mir.D)),
 ((x4 x6 x7 x8 x9 x10 x11) →
 (∀ x12 : (Nat → Mir.AV),
 (sel (decide (x7 > 0))
 (sel (x10.1 == 0)
 (∃ x13 : Int,
 (∃ x14 : ByteArray,
 (∃ x15 : Int,
 (∃ x16 : Int,
 ((Runs Fs 19 [(Mir.AV.ptr 700301 0), (Mir.AV.ptr 700000 0), (Mir.AV.ptr 700300 0)] [(700000, (.box [(Mir.AV.n (Mir.D.str x8.1))])), (700300, (.box [(Mir.AV.n (Mir.D.int .i64 x9.1))])), (700301, (.box [(Mir.AV.n (Mir.D.int .i64 x10.1))]))] (Mir.AV.n (Mir.D.int .i64 x13)) [(700000, (.box [(Mir.AV.n (Mir.D.str x14))])), (700300, (.box [(Mir.AV.n (Mir.D.int .i64 x15))])), (700301, (.box [(Mir.AV.n (Mir.D.int .i64 x16))]))]) ∧
 (sel (x16 == 0)
 (sel (decide (x13 > 1))
 (R (Mir.AV.tup [(Mir.AV.o (Mir.D.sl 3 [])), (Mir.AV.n (Mir.D.int .i64 4))]))
 (∃ x17 : ByteArray,
 (∃ x18 : ByteArray,
 (∃ x19 : Int,
 (∃ x20 : Int,
 ((Runs Fs 21 [(Mir.AV.ptr 700301 0), (Mir.AV.ptr 700000 0), (Mir.AV.ptr 700300 0)] [(700000, (.box [(Mir.AV.n (Mir.D.str x14))])), (700300, (.box [(Mir.AV.n (Mir.D.int .i64 x15))])), (700301, (.box [(Mir.AV.n (Mir.D.int .i64 x16))]))] (Mir.AV.n (Mir.D.str x17)) [(700000, (.box [(Mir.AV.n (Mir.D.str x18))])), (700300, (.box [(Mir.AV.n (Mir.D.int .i64 x19))])), (700301, (.box [(Mir.AV.n (Mir.D.int .i64 x20))]))]) ∧
 (sel (Bool.not (x13 == 1))
 (∃ x21 : ByteArray,
 (∃ x22 : ByteArray,
 (∃ x23 : Int,
 (∃ x24 : Int,
 ((Runs Fs 21 [(Mir.AV.ptr 700301 0), (Mir.AV.ptr 700000 0), (Mir.AV.ptr 700300 0)] [(700000, (.box [(Mir.AV.n (Mir.D.str x18))])), (700300, (.box [(Mir.AV.n (Mir.D.int .i64 x19))])), (700301, (.box [(Mir.AV.n (Mir.D.int .i64 x20))]))] (Mir.AV.n (Mir.D.str x21)) [(700000, (.box [(Mir.AV.n (Mir.D.str x22))])), (700300, (.box [(Mir.AV.n (Mir.D.int .i64 x23))])), (700301, (.box [(Mir.AV.n (Mir.D.int .i64 x24))]))]) ∧
 (((0 : Nat) = 0) ∧
 ((((3 : Nat) = 3) ∨ (@Eq (List Mir.D) [(Mir.D.rcd [(Mir.D.str x17), (Mir.D.str x21), (Mir.D.bool (x13 == 1))])] [])) ∧
 ((((((Prod.fst x11) : Nat) = x6) ∧
 ((35 : Nat) = 35)) ∧
 ((3 : Nat) = 3)) ∧
 ((((((List.length (Prod.snd x11)) + (List.length [(Mir.D.rcd [(Mir.D.str x17), (Mir.D.str x21), (Mir.D.bool (x13 == 1))])])) * 40) : Nat) ≤ 140737488355328) ∧
 ((((Mir.AV.ptr 700000 0) : Mir.AV) = (Mir.AV.ptr 700000 0)) ∧
 ((((Mir.AV.ptr 700300 0) : Mir.AV) = (Mir.AV.ptr 700300 0)) ∧
 ((((Mir.AV.ptr 700301 0) : Mir.AV) = (Mir.AV.ptr 700301 0)) ∧
 ((((Mir.AV.fn 19 [(Mir.AV.ptr 700301 0), (Mir.AV.ptr 700000 0), (Mir.AV.ptr 700300 0)]) : Mir.AV) = (Mir.AV.fn 19 [(Mir.AV.ptr 700301 0), (Mir.AV.ptr 700000 0), (Mir.AV.ptr 700300 0)])) ∧
 ((((Mir.AV.fn 21 [(Mir.AV.ptr 700301 0), (Mir.AV.ptr 700000 0), (Mir.AV.ptr 700300 0)]) : Mir.AV) = (Mir.AV.fn 21 [(Mir.AV.ptr 700301 0), (Mir.AV.ptr 700000 0), (Mir.AV.ptr 700300 0)])) ∧
 ((@Eq (List (Nat × Mir.Ob)) [(700000, (.box [(Mir.AV.n (Mir.D.str x22))])), (700300, (.box [(Mir.AV.n (Mir.D.int .i64 x23))])), (700301, (.box [(Mir.AV.n (Mir.D.int .i64 x24))])), (701603, (.row false true (x6 + 1) 35 3 ((Prod.snd x11) ++ [(Mir.D.rcd [(Mir.D.str x17), (Mir.D.str x21), (Mir.D.bool (x13 == 1))])])))] [(700000, (.box [(Mir.AV.n (Mir.D.str x22))])), (700300, (.box [(Mir.AV.n (Mir.D.int .i64 x23))])), (700301, (.box [(Mir.AV.n (Mir.D.int .i64 x24))])), (701603, (.row false true (x6 + 1) 35 3 ((Prod.snd x11) ++ [(Mir.D.rcd [(Mir.D.str x17), (Mir.D.str x21), (Mir.D.bool (x13 == 1))])])))]) ∧
 ((x4 (x6 + 1) (Go.IntKind.wrap .i64 (x7 - 1)) (x22, Unit.unit) (x23, Unit.unit) (x24, Unit.unit) ((x6 + 1), ((Prod.snd x11) ++ [(Mir.D.rcd [(Mir.D.str x17), (Mir.D.str x21), (Mir.D.bool (x13 == 1))])]))) ∧
 (((x5 (x6 + 1) (Go.IntKind.wrap .i64 (x7 - 1)) (x22, Unit.unit) (x23, Unit.unit) (x24, Unit.unit) ((x6 + 1), ((Prod.snd x11) ++ [(Mir.D.rcd [(Mir.D.str x17), (Mir.D.str x21), (Mir.D.bool (x13 == 1))])]))) : Nat) < (x5 x6 x7 x8 x9 x10 x11))))))))))))))))))
 (((0 : Nat) = 0) ∧
 ((((3 : Nat) = 3) ∨ (@Eq (List Mir.D) [(Mir.D.rcd [(Mir.D.str x17), (Mir.D.str (ByteArray.mk (List.toArray []))), (Mir.D.bool (x13 == 1))])] [])) ∧
 ((((((Prod.fst x11) : Nat) = x6) ∧
 ((35 : Nat) = 35)) ∧
 ((3 : Nat) = 3)) ∧
 ((((((List.length (Prod.snd x11)) + (List.length [(Mir.D.rcd [(Mir.D.str x17), (Mir.D.str (ByteArray.mk (List.toArray []))), (Mir.D.bool (x13 == 1))])])) * 40) : Nat) ≤ 140737488355328) ∧
 ((((Mir.AV.ptr 700000 0) : Mir.AV) = (Mir.AV.ptr 700000 0)) ∧
 ((((Mir.AV.ptr 700300 0) : Mir.AV) = (Mir.AV.ptr 700300 0)) ∧
 ((((Mir.AV.ptr 700301 0) : Mir.AV) = (Mir.AV.ptr 700301 0)) ∧
 ((((Mir.AV.fn 19 [(Mir.AV.ptr 700301 0), (Mir.AV.ptr 700000 0), (Mir.AV.ptr 700300 0)]) : Mir.AV) = (Mir.AV.fn 19 [(Mir.AV.ptr 700301 0), (Mir.AV.ptr 700000 0), (Mir.AV.ptr 700300 0)])) ∧
 ((((Mir.AV.fn 21 [(Mir.AV.ptr 700301 0), (Mir.AV.ptr 700000 0), (Mir.AV.ptr 700300 0)]) : Mir.AV) = (Mir.AV.fn 21 [(Mir.AV.ptr 700301 0), (Mir.AV.ptr 700000 0), (Mir.AV.ptr 700300 0)])) ∧
 ((@Eq (List (Nat × Mir.Ob)) [(700000, (.box [(Mir.AV.n (Mir.D.str x18))])), (700300, (.box [(Mir.AV.n (Mir.D.int .i64 x19))])), (700301, (.box [(Mir.AV.n (Mir.D.int .i64 x20))])), (701603, (.row false true (x6 + 1) 35 3 ((Prod.snd x11) ++ [(Mir.D.rcd [(Mir.D.str x17), (Mir.D.str (ByteArray.mk (List.toArray []))), (Mir.D.bool (x13 == 1))])])))] [(700000, (.box [(Mir.AV.n (Mir.D.str x18))])), (700300, (.box [(Mir.AV.n (Mir.D.int .i64 x19))])), (700301, (.box [(Mir.AV.n (Mir.D.int .i64 x20))])), (701603, (.row false true (x6 + 1) 35 3 ((Prod.snd x11) ++ [(Mir.D.rcd [(Mir.D.str x17), (Mir.D.str (ByteArray.mk (List.toArray []))), (Mir.D.bool (x13 == 1))])])))]) ∧
 ((x4 (x6 + 1) (Go.IntKind.wrap .i64 (x7 - 1)) (x18, Unit.unit) (x19, Unit.unit) (x20, Unit.unit) ((x6 + 1), ((Prod.snd x11) ++ [(Mir.D.rcd [(Mir.D.str x17), (Mir.D.str (ByteArray.mk (List.toArray []))), (Mir.D.bool (x13 == 1))])]))) ∧
 (((x5 (x6 + 1) (Go.IntKind.wrap .i64 (x7 - 1)) (x18, Unit.unit) (x19, Unit.unit) (x20, Unit.unit) ((x6 + 1), ((Prod.snd x11) ++ [(Mir.D.rcd [(Mir.D.str x17), (Mir.D.str (ByteArray.mk (List.toArray []))), (Mir.D.bool (x13 == 1))])]))) : Nat) < (x5 x6 x7 x8 x9 x10 x11))))))))))))))))))))
 (∃ x25 : ByteArray,
 (∃ x26 : ByteArray,
 (∃ x27 : Int,
 (∃ x28 : Int,
 ((Runs Fs 21 [(Mir.AV.ptr 700301 0), (Mir.AV.ptr 700000 0), (Mir.AV.ptr 700300 0)] [(700000, (.box [(Mir.AV.n (Mir.D.str x14))])), (700300, (.box [(Mir.AV.n (Mir.D.int .i64 x15))])), (700301, (.box [(Mir.AV.n (Mir.D.int .i64 x16))]))] (Mir.AV.n (Mir.D.str x25)) [(700000, (.box [(Mir.AV.n (Mir.D.str x26))])), (700300, (.box [(Mir.AV.n (Mir.D.int .i64 x27))])), (700301, (.box [(Mir.AV.n (Mir.D.int .i64 x28))]))]) ∧
 (sel (Bool.not (x13 == 1))
 (∃ x29 : ByteArray,
 (∃ x30 : ByteArray,
 (∃ x31 : Int,
 (∃ x32 : Int,
 ((Runs Fs 21 [(Mir.AV.ptr 700301 0), (Mir.AV.ptr 700000 0), (Mir.AV.ptr 700300 0)] [(700000, (.box [(Mir.AV.n (Mir.D.str x26))])), (700300, (.box [(Mir.AV.n (Mir.D.int .i64 x27))])), (700301, (.box [(Mir.AV.n (Mir.D.int .i64 x28))]))] (Mir.AV.n (Mir.D.str x29)) [(700000, (.box [(Mir.AV.n (Mir.D.str x30))])), (700300, (.box [(Mir.AV.n (Mir.D.int .i64 x31))])), (700301, (.box [(Mir.AV.n (Mir.D.int .i64 x32))]))]) ∧
 (((0 : Nat) = 0) ∧
 ((((3 : Nat) = 3) ∨ (@Eq (List Mir.D) [(Mir.D.rcd [(Mir.D.str x25), (Mir.D.str x29), (Mir.D.bool (x13 == 1))])] [])) ∧
 ((((((Prod.fst x11) : Nat) = x6) ∧
 ((35 : Nat) = 35)) ∧
 ((3 : Nat) = 3)) ∧
 ((((((List.length (Prod.snd x11)) + (List.length [(Mir.D.rcd [(Mir.D.str x25), (Mir.D.str x29), (Mir.D.bool (x13 == 1))])])) * 40) : Nat) ≤ 140737488355328) ∧
 ((((Mir.AV.ptr 700000 0) : Mir.AV) = (Mir.AV.ptr 700000 0)) ∧
 ((((Mir.AV.ptr 700300 0) : Mir.AV) = (Mir.AV.ptr 700300 0)) ∧
 ((((Mir.AV.ptr 700301 0) : Mir.AV) = (Mir.AV.ptr 700301 0)) ∧
 ((((Mir.AV.fn 19 [(Mir.AV.ptr 700301 0), (Mir.AV.ptr 700000 0), (Mir.AV.ptr 700300 0)]) : Mir.AV) = (Mir.AV.fn 19 [(Mir.AV.ptr 700301 0), (Mir.AV.ptr 700000 0), (Mir.AV.ptr 700300 0)])) ∧
 ((((Mir.AV.fn 21 [(Mir.AV.ptr 700301 0), (Mir.AV.ptr 700000 0), (Mir.AV.ptr 700300 0)]) : Mir.AV) = (Mir.AV.fn 21 [(Mir.AV.ptr 700301 0), (Mir.AV.ptr 700000 0), (Mir.AV.ptr 700300 0)])) ∧
 ((@Eq (List (Nat × Mir.Ob)) [(700000, (.box [(Mir.AV.n (Mir.D.str x30))])), (700300, (.box [(Mir.AV.n (Mir.D.int .i64 x31))])), (700301, (.box [(Mir.AV.n (Mir.D.int .i64 x32))])), (701603, (.row false true (x6 + 1) 35 3 ((Prod.snd x11) ++ [(Mir.D.rcd [(Mir.D.str x25), (Mir.D.str x29), (Mir.D.bool (x13 == 1))])])))] [(700000, (.box [(Mir.AV.n (Mir.D.str x30))])), (700300, (.box [(Mir.AV.n (Mir.D.int .i64 x31))])), (700301, (.box [(Mir.AV.n (Mir.D.int .i64 x32))])), (701603, (.row false true (x6 + 1) 35 3 ((Prod.snd x11) ++ [(Mir.D.rcd [(Mir.D.str x25), (Mir.D.str x29), (Mir.D.bool (x13 == 1))])])))]) ∧
 ((x4 (x6 + 1) (Go.IntKind.wrap .i64 (x7 - 1)) (x30, Unit.unit) (x31, Unit.unit) (x32, Unit.unit) ((x6 + 1), ((Prod.snd x11) ++ [(Mir.D.rcd [(Mir.D.str x25), (Mir.D.str x29), (Mir.D.bool (x13 == 1))])]))) ∧
 (((x5 (x6 + 1) (Go.IntKind.wrap .i64 (x7 - 1)) (x30, Unit.unit) (x31, Unit.unit) (x32, Unit.unit) ((x6 + 1), ((Prod.snd x11) ++ [(Mir.D.rcd [(Mir.D.str x25), (Mir.D.str x29), (Mir.D.bool (x13 == 1))])]))) : Nat) < (x5 x6 x7 x8 x9 x10 x11))))))))))))))))))
 (((0 : Nat) = 0) ∧
 ((((3 : Nat) = 3) ∨ (@Eq (List Mir.D) [(Mir.D.rcd [(Mir.D.str x25), (Mir.D.str (ByteArray.mk (List.toArray []))), (Mir.D.bool (x13 == 1))])] [])) ∧
 ((((((Prod.fst x11) : Nat) = x6) ∧
 ((35 : Nat) = 35)) ∧
 ((3 : Nat) = 3)) ∧
 ((((((List.length (Prod.snd x11)) + (List.length [(Mir.D.rcd [(Mir.D.str x25), (Mir.D.str (ByteArray.mk (List.toArray []))), (Mir.D.bool (x13 == 1))])])) * 40) : Nat) ≤ 140737488355328) ∧
 ((((Mir.AV.ptr 700000 0) : Mir.AV) = (Mir.AV.ptr 700000 0)) ∧
 ((((Mir.AV.ptr 700300 0) : Mir.AV) = (Mir.AV.ptr 700300 0)) ∧
 ((((Mir.AV.ptr 700301 0) : Mir.AV) = (Mir.AV.ptr 700301 0)) ∧
 ((((Mir.AV.fn 19 [(Mir.AV.ptr 700301 0), (Mir.AV.ptr 700000 0), (Mir.AV.ptr 700300 0)]) : Mir.AV) = (Mir.AV.fn 19 [(Mir.AV.ptr 700301 0), (Mir.AV.ptr 700000 0), (Mir.AV.ptr 700300 0)])) ∧
 ((((Mir.AV.fn 21 [(Mir.AV.ptr 700301 0), (Mir.AV.ptr 700000 0), (Mir.AV.ptr 700300 0)]) : Mir.AV) = (Mir.AV.fn 21 [(Mir.AV.ptr 700301 0), (Mir.AV.ptr 700000 0), (Mir.AV.ptr 700300 0)])) ∧
 ((@Eq (List (Nat × Mir.Ob)) [(700000, (.box [(Mir.AV.n (Mir.D.str x26))])), (700300, (.box [(Mir.AV.n (Mir.D.int .i64 x27))])), (700301, (.box [(Mir.AV.n (Mir.D.int .i64 x28))])), (701603, (.row false true (x6 + 1) 35 3 ((Prod.snd x11) ++ [(Mir.D.rcd [(Mir.D.str x25), (Mir.D.str (ByteArray.mk (List.toArray []))), (Mir.D.bool (x13 == 1))])])))] [(700000, (.box [(Mir.AV.n (Mir.D.str x26))])), (700300, (.box [(Mir.AV.n (Mir.D.int .i64 x27))])), (700301, (.box [(Mir.AV.n (Mir.D.int .i64 x28))])), (701603, (.row false true (x6 + 1) 35 3 ((Prod.snd x11) ++ [(Mir.D.rcd [(Mir.D.str x25), (Mir.D.str (ByteArray.mk (List.toArray []))), (Mir.D.bool (x13 == 1))])])))]) ∧
 ((x4 (x6 + 1) (Go.IntKind.wrap .i64 (x7 - 1)) (x26, Unit.unit) (x27, Unit.unit) (x28, Unit.unit) ((x6 + 1), ((Prod.snd x11) ++ [(Mir.D.rcd [(Mir.D.str x25), (Mir.D.str (ByteArray.mk (List.toArray []))), (Mir.D.bool (x13 == 1))])]))) ∧
 (((x5 (x6 + 1) (Go.IntKind.wrap .i64 (x7 - 1)) (x26, Unit.unit) (x27, Unit.unit) (x28, Unit.unit) ((x6 + 1), ((Prod.snd x11) ++ [(Mir.D.rcd [(Mir.D.str x25), (Mir.D.str (ByteArray.mk (List.toArray []))), (Mir.D.bool (x13 == 1))])]))) : Nat) < (x5 x6 x7 x8 x9 x10 x11)))))))))))))))))))))))))
 (sel (x10.1 != 0)
 (R (Mir.AV.tup [(Mir.AV.o (Mir.D.sl 3 [])), (Mir.AV.n (Mir.D.int .i64 x10.1))]))
 (sel (x9.1 != (((ByteArray.size x8.1) : Nat) : Int))
 (R (Mir.AV.tup [(Mir.AV.o (Mir.D.sl 3 [])), (Mir.AV.n (Mir.D.int .i64 4))]))
 (((Prod.fst x11) = x6) ∧
 (∃ x33 : Bool,
 ((Runs Fs 11 [(Mir.AV.o (Mir.D.sl 3 (Prod.snd x11))), (Mir.AV.fn 23 [])] [] (Mir.AV.n (Mir.D.bool x33)) []) ∧
 (sel x33
 (R (Mir.AV.tup [(Mir.AV.o (Mir.D.sl 3 [])), (Mir.AV.n (Mir.D.int .i64 4))]))
 (((Prod.fst x11) = x6) ∧
 (R (Mir.AV.tup [(Mir.AV.o (Mir.D.sl 3 (Prod.snd x11))), (Mir.AV.n (Mir.D.int .i64 0))]))))))))))
 (sel (x10.1 != 0)
 (R (Mir.AV.tup [(Mir.AV.o (Mir.D.sl 3 [])), (Mir.AV.n (Mir.D.int .i64 x10.1))]))
 (sel (x9.1 != (((ByteArray.size x8.1) : Nat) : Int))
 (R (Mir.AV.tup [(Mir.AV.o (Mir.D.sl 3 [])), (Mir.AV.n (Mir.D.int .i64 4))]))
 (((Prod.fst x11) = x6) ∧
 (∃ x34 : Bool,
 ((Runs Fs 11 [(Mir.AV.o (Mir.D.sl 3 (Prod.snd x11))), (Mir.AV.fn 23 [])] [] (Mir.AV.n (Mir.D.bool x34)) []) ∧
 (sel x34
 (R (Mir.AV.tup [(Mir.AV.o (Mir.D.sl 3 [])), (Mir.AV.n (Mir.D.int .i64 4))]))
 (((Prod.fst x11) = x6) ∧
 (R (Mir.AV.tup [(Mir.AV.o (Mir.D.sl 3 (Prod.snd x11))), (Mir.AV.n (Mir.D.int .i64 0))])))))))))))))))))))))))))))
theorem vc7 (a0 : ByteArray) (R : Mir.AV → Prop) : Vc Fs c7.body (argsQ c7 [(.n (.str a0))]) [] (endQ c7 R) = V7 a0 R := by kernel_rfl
def V8 (a0 : ByteArray) (R : Mir.AV → Prop) : Prop :=
 (sel (decide ((((ByteArray.size a0) : Nat) : Int) > 480))
 (R (Mir.AV.tup [(Mir.AV.o (Mir.D.sl 3 [])), (Mir.AV.n (Mir.D.int .i64 2))]))
 (∃ x0 : Int,
 (∃ x1 : Int,
 (∃ x2 : Int,
 ((Runs Fs 24 [(Mir.AV.n (Mir.D.str a0)), (Mir.AV.n (Mir.D.int .i64 0)), (Mir.AV.n (Mir.D.int .i64 1))] [] (Mir.AV.tup [(Mir.AV.n (Mir.D.int .i64 x0)), (Mir.AV.n (Mir.D.int .i64 x1)), (Mir.AV.n (Mir.D.int .i64 x2))]) []) ∧
 (sel (x2 != 0)
 (R (Mir.AV.tup [(Mir.AV.o (Mir.D.sl 3 [])), (Mir.AV.n (Mir.D.int .i64 x2))]))
 (∃ x3 : (Nat → (Int → (Int → ((Nat × (List Mir.D)) → Prop)))),
 (∃ x4 : (Nat → (Int → (Int → ((Nat × (List Mir.D)) → Nat)))),
 (((@Eq (List (Nat × Mir.Ob)) [(800300, (.row false true 0 35 3 []))] [(800300, (.row false true 0 35 3 []))]) ∧
 (x3 0 x1 0 (0, []))) ∧
 (∀ x5 : Nat,
 (∀ x6 : Int,
 (∀ x7 : Int,
 (∀ x8 : (Nat × (List Mir.D)),
 ((x3 x5 x6 x7 x8) →
 (∀ x9 : (Nat → Mir.AV),
 (sel (decide (x7 < x0))
 (∃ x10 : Int,
 (∃ x11 : Int,
 (∃ x12 : Int,
 ((Runs Fs 24 [(Mir.AV.n (Mir.D.str a0)), (Mir.AV.n (Mir.D.int .i64 x6)), (Mir.AV.n (Mir.D.int .i64 1))] [] (Mir.AV.tup [(Mir.AV.n (Mir.D.int .i64 x10)), (Mir.AV.n (Mir.D.int .i64 x11)), (Mir.AV.n (Mir.D.int .i64 x12))]) []) ∧
 (sel (x12 != 0)
 (R (Mir.AV.tup [(Mir.AV.o (Mir.D.sl 3 [])), (Mir.AV.n (Mir.D.int .i64 x12))]))
 (sel (decide (x10 > 1))
 (R (Mir.AV.tup [(Mir.AV.o (Mir.D.sl 3 [])), (Mir.AV.n (Mir.D.int .i64 4))]))
 (∃ x13 : ByteArray,
 (∃ x14 : Int,
 (∃ x15 : Int,
 ((Runs Fs 25 [(Mir.AV.n (Mir.D.str a0)), (Mir.AV.n (Mir.D.int .i64 x11))] [] (Mir.AV.tup [(Mir.AV.n (Mir.D.str x13)), (Mir.AV.n (Mir.D.int .i64 x14)), (Mir.AV.n (Mir.D.int .i64 x15))]) []) ∧
 (sel (x15 != 0)
 (R (Mir.AV.tup [(Mir.AV.o (Mir.D.sl 3 [])), (Mir.AV.n (Mir.D.int .i64 x15))]))
 (sel (x10 == 0)
 (∃ x16 : ByteArray,
 (∃ x17 : Int,
 (∃ x18 : Int,
 ((Runs Fs 25 [(Mir.AV.n (Mir.D.str a0)), (Mir.AV.n (Mir.D.int .i64 x14))] [] (Mir.AV.tup [(Mir.AV.n (Mir.D.str x16)), (Mir.AV.n (Mir.D.int .i64 x17)), (Mir.AV.n (Mir.D.int .i64 x18))]) []) ∧
 (sel (x18 != 0)
 (R (Mir.AV.tup [(Mir.AV.o (Mir.D.sl 3 [])), (Mir.AV.n (Mir.D.int .i64 x18))]))
 (((0 : Nat) = 0) ∧
 ((((3 : Nat) = 3) ∨ (@Eq (List Mir.D) [(Mir.D.rcd [(Mir.D.str x13), (Mir.D.str x16), (Mir.D.bool (x10 == 1))])] [])) ∧
 ((((((Prod.fst x8) : Nat) = x5) ∧
 ((35 : Nat) = 35)) ∧
 ((3 : Nat) = 3)) ∧
 ((((((List.length (Prod.snd x8)) + (List.length [(Mir.D.rcd [(Mir.D.str x13), (Mir.D.str x16), (Mir.D.bool (x10 == 1))])])) * 40) : Nat) ≤ 140737488355328) ∧
 ((((Mir.AV.n (Mir.D.str a0)) : Mir.AV) = (Mir.AV.n (Mir.D.str a0))) ∧
 ((((Mir.AV.n (Mir.D.int .i64 x0)) : Mir.AV) = (Mir.AV.n (Mir.D.int .i64 x0))) ∧
 ((@Eq (List (Nat × Mir.Ob)) [(800300, (.row false true (x5 + 1) 35 3 ((Prod.snd x8) ++ [(Mir.D.rcd [(Mir.D.str x13), (Mir.D.str x16), (Mir.D.bool (x10 == 1))])])))] [(800300, (.row false true (x5 + 1) 35 3 ((Prod.snd x8) ++ [(Mir.D.rcd [(Mir.D.str x13), (Mir.D.str x16), (Mir.D.bool (x10 == 1))])])))]) ∧
 ((x3 (x5 + 1) x17 (Go.IntKind.wrap .i64 (x7 + 1)) ((x5 + 1), ((Prod.snd x8) ++ [(Mir.D.rcd [(Mir.D.str x13), (Mir.D.str x16), (Mir.D.bool (x10 == 1))])]))) ∧
 (((x4 (x5 + 1) x17 (Go.IntKind.wrap .i64 (x7 + 1)) ((x5 + 1), ((Prod.snd x8) ++ [(Mir.D.rcd [(Mir.D.str x13), (Mir.D.str x16), (Mir.D.bool (x10 == 1))])]))) : Nat) < (x4 x5 x6 x7 x8)))))))))))))))
 (((0 : Nat) = 0) ∧
 ((((3 : Nat) = 3) ∨ (@Eq (List Mir.D) [(Mir.D.rcd [(Mir.D.str x13), (Mir.D.str (ByteArray.mk (List.toArray []))), (Mir.D.bool (x10 == 1))])] [])) ∧
 ((((((Prod.fst x8) : Nat) = x5) ∧
 ((35 : Nat) = 35)) ∧
 ((3 : Nat) = 3)) ∧
 ((((((List.length (Prod.snd x8)) + (List.length [(Mir.D.rcd [(Mir.D.str x13), (Mir.D.str (ByteArray.mk (List.toArray []))), (Mir.D.bool (x10 == 1))])])) * 40) : Nat) ≤ 140737488355328) ∧
 ((((Mir.AV.n (Mir.D.str a0)) : Mir.AV) = (Mir.AV.n (Mir.D.str a0))) ∧
 ((((Mir.AV.n (Mir.D.int .i64 x0)) : Mir.AV) = (Mir.AV.n (Mir.D.int .i64 x0))) ∧
 ((@Eq (List (Nat × Mir.Ob)) [(800300, (.row false true (x5 + 1) 35 3 ((Prod.snd x8) ++ [(Mir.D.rcd [(Mir.D.str x13), (Mir.D.str (ByteArray.mk (List.toArray []))), (Mir.D.bool (x10 == 1))])])))] [(800300, (.row false true (x5 + 1) 35 3 ((Prod.snd x8) ++ [(Mir.D.rcd [(Mir.D.str x13), (Mir.D.str (ByteArray.mk (List.toArray []))), (Mir.D.bool (x10 == 1))])])))]) ∧
 ((x3 (x5 + 1) x14 (Go.IntKind.wrap .i64 (x7 + 1)) ((x5 + 1), ((Prod.snd x8) ++ [(Mir.D.rcd [(Mir.D.str x13), (Mir.D.str (ByteArray.mk (List.toArray []))), (Mir.D.bool (x10 == 1))])]))) ∧
 (((x4 (x5 + 1) x14 (Go.IntKind.wrap .i64 (x7 + 1)) ((x5 + 1), ((Prod.snd x8) ++ [(Mir.D.rcd [(Mir.D.str x13), (Mir.D.str (ByteArray.mk (List.toArray []))), (Mir.D.bool (x10 == 1))])]))) : Nat) < (x4 x5 x6 x7 x8))))))))))))))))))))))
 (sel (x6 != (((ByteArray.size a0) : Nat) : Int))
 (R (Mir.AV.tup [(Mir.AV.o (Mir.D.sl 3 [])), (Mir.AV.n (Mir.D.int .i64 4))]))
 ((((Prod.fst x8) : Nat) = x5) ∧
 (∃ x19 : (Int → Prop),
 (∃ x20 : (Int → Nat),
 (((@Eq (List (Nat × Mir.Ob)) [(800300, (.row false true (Prod.fst x8) 35 3 (Prod.snd x8)))] [(800300, (.row false true (Prod.fst x8) 35 3 (Prod.snd x8)))]) ∧
 (x19 0)) ∧
 (∀ x21 : Int,
 ((x19 x21) →
 (∀ x22 : (Nat → Mir.AV),
 (sel (decide (x21 < (((List.length (Prod.snd x8)) : Nat) : Int)))
 (((((Prod.fst x8) : Nat) = x5) ∧
 ((3 : Nat) = 3)) ∧
 (((0 : Int) ≤ x21) ∧
 (((x21 : Int) < (((List.length (Prod.snd x8)) : Nat) : Int)) ∧
 ((((x5 : Nat) = (Prod.fst x8)) ∧
 ((3 : Nat) = 3)) ∧
 (∃ x23 : Mir.D,
 ((((GetElem?.getElem? (Prod.snd x8) (Int.toNat x21)) : (Option Mir.D)) = (some x23)) ∧
 (∃ x24 : ByteArray,
 (∃ x25 : ByteArray,
 (∃ x26 : Bool,
 ((@Eq (List Mir.D) (List.take 3 (List.drop 0 (Go.Mir.D.cells x23))) [(Mir.D.str x24), (Mir.D.str x25), (Mir.D.bool x26)]) ∧
 ((((0 + 3) : Nat) ≤ (List.length (Go.Mir.D.cells x23))) ∧
 (∃ x27 : Bool,
 ((Runs Fs 17 [(Mir.AV.agg [(Mir.AV.n (Mir.D.str x24)), (Mir.AV.n (Mir.D.str x25)), (Mir.AV.n (Mir.D.bool x26))])] [] (Mir.AV.n (Mir.D.bool x27)) []) ∧
 (sel (Bool.not x27)
 (R (Mir.AV.tup [(Mir.AV.o (Mir.D.sl 3 [])), (Mir.AV.n (Mir.D.int .i64 4))]))
 ((((Mir.AV.row 800300 x5) : Mir.AV) = (Mir.AV.row 800300 x5)) ∧
 ((((Mir.AV.row 800300 x5) : Mir.AV) = (Mir.AV.row 800300 x5)) ∧
 ((((Mir.AV.n (Mir.D.int .i64 (((List.length (Prod.snd x8)) : Nat) : Int))) : Mir.AV) = (Mir.AV.n (Mir.D.int .i64 (((List.length (Prod.snd x8)) : Nat) : Int)))) ∧
 ((@Eq (List (Nat × Mir.Ob)) [(800300, (.row false true (Prod.fst x8) 35 3 (Prod.snd x8)))] [(800300, (.row false true (Prod.fst x8) 35 3 (Prod.snd x8)))]) ∧
 ((x19 (Go.IntKind.wrap .i64 (x21 + 1))) ∧
 (((x20 (Go.IntKind.wrap .i64 (x21 + 1))) : Nat) < (x20 x21)))))))))))))))))))))
 (((Prod.fst x8) = x5) ∧
 (R (Mir.AV.tup [(Mir.AV.o (Mir.D.sl 3 (Prod.snd x8))), (Mir.AV.n (Mir.D.int .i64 0))]))))))))))))))))))))))))))))
theorem vc8 (a0 : ByteArray) (R : Mir.AV → Prop) : Vc Fs c8.body (argsQ c8 [(.n (.str a0))]) [] (endQ c8 R) = V8 a0 R := by kernel_rfl
def V9  (R : Mir.AV → Prop) : Prop :=
 (∃ x0 : ByteArray,
 (∃ x1 : Int,
 ((Runs Fs 5 [(Mir.AV.o (Mir.D.sl 3 []))] [] (Mir.AV.tup [(Mir.AV.n (Mir.D.str x0)), (Mir.AV.n (Mir.D.int .i64 x1))]) []) ∧
 (sel (x1 == 0)
 (R (Mir.AV.n (Mir.D.bool ((ByteArray.toList x0) == (ByteArray.toList (ByteArray.mk (List.toArray [0])))))))
 (R (Mir.AV.n (Mir.D.bool false)))))))
theorem vc9  (R : Mir.AV → Prop) : Vc Fs c9.body (argsQ c9 []) [] (endQ c9 R) = V9  R := by kernel_rfl
def V10 (a0 : List Mir.D) (a1 : List Mir.D) (R : Mir.AV → Prop) : Prop :=
 (sel ((((List.length a0) : Nat) : Int) != (((List.length a1) : Nat) : Int))
 (R (Mir.AV.n (Mir.D.bool false)))
 (∃ x0 : (Int → Prop),
 (∃ x1 : (Int → Nat),
 (((@Eq (List (Nat × Mir.Ob)) [] []) ∧
 (x0 0)) ∧
 (∀ x2 : Int,
 ((x0 x2) →
 (∀ x3 : (Nat → Mir.AV),
 (sel (decide (x2 < (((List.length a0) : Nat) : Int)))
 (((3 : Nat) = 3) ∧
 (((0 : Int) ≤ x2) ∧
 (∃ x4 : Mir.D,
 ((((GetElem?.getElem? a0 (Int.toNat x2)) : (Option Mir.D)) = (some x4)) ∧
 (∃ x5 : ByteArray,
 (∃ x6 : ByteArray,
 (∃ x7 : Bool,
 ((@Eq (List Mir.D) (List.take 3 (Go.Mir.D.cells x4)) [(Mir.D.str x5), (Mir.D.str x6), (Mir.D.bool x7)]) ∧
 (((3 : Nat) ≤ (List.length (Go.Mir.D.cells x4))) ∧
 (((3 : Nat) = 3) ∧
 (((0 : Int) ≤ x2) ∧
 (∃ x8 : Mir.D,
 ((((GetElem?.getElem? a1 (Int.toNat x2)) : (Option Mir.D)) = (some x8)) ∧
 (∃ x9 : ByteArray,
 (∃ x10 : ByteArray,
 (∃ x11 : Bool,
 ((@Eq (List Mir.D) (List.take 3 (Go.Mir.D.cells x8)) [(Mir.D.str x9), (Mir.D.str x10), (Mir.D.bool x11)]) ∧
 (((3 : Nat) ≤ (List.length (Go.Mir.D.cells x8))) ∧
 (sel (Bool.not (((ByteArray.toList x5) == (ByteArray.toList x9)) && (((ByteArray.toList x6) == (ByteArray.toList x10)) && ((x7 == x11) && true))))
 (R (Mir.AV.n (Mir.D.bool false)))
 ((((Mir.AV.o (Mir.D.sl 3 a0)) : Mir.AV) = (Mir.AV.o (Mir.D.sl 3 a0))) ∧
 ((((Mir.AV.o (Mir.D.sl 3 a1)) : Mir.AV) = (Mir.AV.o (Mir.D.sl 3 a1))) ∧
 ((((Mir.AV.n (Mir.D.int .i64 (((List.length a0) : Nat) : Int))) : Mir.AV) = (Mir.AV.n (Mir.D.int .i64 (((List.length a0) : Nat) : Int)))) ∧
 ((@Eq (List (Nat × Mir.Ob)) [] []) ∧
 ((x0 (Go.IntKind.wrap .i64 (x2 + 1))) ∧
 (((x1 (Go.IntKind.wrap .i64 (x2 + 1))) : Nat) < (x1 x2))))))))))))))))))))))))))
 (R (Mir.AV.n (Mir.D.bool true)))))))))))
theorem vc10 (a0 : List Mir.D) (a1 : List Mir.D) (R : Mir.AV → Prop) : Vc Fs c10.body (argsQ c10 [(.o (.sl 3 a0)), (.o (.sl 3 a1))]) [] (endQ c10 R) = V10 a0 a1 R := by kernel_rfl
def V12 (a0_0 : ByteArray) (a0_1 : ByteArray) (a0_2 : Bool) (R : Mir.AV → Prop) : Prop :=
 (∃ x0 : Bool,
 ((Runs Fs 13 [(Mir.AV.agg [(Mir.AV.n (Mir.D.str a0_0)), (Mir.AV.n (Mir.D.str a0_1)), (Mir.AV.n (Mir.D.bool a0_2))])] [] (Mir.AV.n (Mir.D.bool x0)) []) ∧
 (R (Mir.AV.n (Mir.D.bool (Bool.not x0))))))
theorem vc12 (a0_0 : ByteArray) (a0_1 : ByteArray) (a0_2 : Bool) (R : Mir.AV → Prop) : Vc Fs c12.body (argsQ c12 [(.agg [(.n (.str a0_0)), (.n (.str a0_1)), (.n (.bool a0_2))])]) [] (endQ c12 R) = V12 a0_0 a0_1 a0_2 R := by kernel_rfl
def V13 (a0_0 : ByteArray) (a0_1 : ByteArray) (a0_2 : Bool) (R : Mir.AV → Prop) : Prop :=
 (sel (decide ((((ByteArray.size a0_0) : Nat) : Int) ≥ 1))
 (sel (decide ((((ByteArray.size a0_0) : Nat) : Int) ≤ 32))
 (sel (decide ((((ByteArray.size a0_1) : Nat) : Int) ≤ 200))
 (sel (Bool.not a0_2)
 (R (Mir.AV.n (Mir.D.bool true)))
 (R (Mir.AV.n (Mir.D.bool ((ByteArray.toList a0_1) == (ByteArray.toList (ByteArray.mk (List.toArray []))))))))
 (R (Mir.AV.n (Mir.D.bool false))))
 (R (Mir.AV.n (Mir.D.bool false))))
 (R (Mir.AV.n (Mir.D.bool false))))
theorem vc13 (a0_0 : ByteArray) (a0_1 : ByteArray) (a0_2 : Bool) (R : Mir.AV → Prop) : Vc Fs c13.body (argsQ c13 [(.agg [(.n (.str a0_0)), (.n (.str a0_1)), (.n (.bool a0_2))])]) [] (endQ c13 R) = V13 a0_0 a0_1 a0_2 R := by kernel_rfl
def V17 (a0_0 : ByteArray) (a0_1 : ByteArray) (a0_2 : Bool) (R : Mir.AV → Prop) : Prop :=
 (sel (decide ((((ByteArray.size a0_0) : Nat) : Int) ≥ 1))
 (sel (decide ((((ByteArray.size a0_0) : Nat) : Int) ≤ 32))
 (sel (decide ((((ByteArray.size a0_1) : Nat) : Int) ≤ 200))
 (sel (Bool.not a0_2)
 (R (Mir.AV.n (Mir.D.bool true)))
 (R (Mir.AV.n (Mir.D.bool ((ByteArray.toList a0_1) == (ByteArray.toList (ByteArray.mk (List.toArray []))))))))
 (R (Mir.AV.n (Mir.D.bool false))))
 (R (Mir.AV.n (Mir.D.bool false))))
 (R (Mir.AV.n (Mir.D.bool false))))
theorem vc17 (a0_0 : ByteArray) (a0_1 : ByteArray) (a0_2 : Bool) (R : Mir.AV → Prop) : Vc Fs c17.body (argsQ c17 [(.agg [(.n (.str a0_0)), (.n (.str a0_1)), (.n (.bool a0_2))])]) [] (endQ c17 R) = V17 a0_0 a0_1 a0_2 R := by kernel_rfl
def V18 (a0 : ByteArray) (R : Mir.AV → Prop) : Prop :=
 (∃ x0 : ByteArray,
 (∃ x1 : Int,
 ((Runs Fs 28 [(Mir.AV.n (Mir.D.str a0))] [] (Mir.AV.tup [(Mir.AV.n (Mir.D.str x0)), (Mir.AV.n (Mir.D.int .i64 x1))]) []) ∧
 (R (Mir.AV.n (Mir.D.str x0))))))
theorem vc18 (a0 : ByteArray) (R : Mir.AV → Prop) : Vc Fs c18.body (argsQ c18 [(.n (.str a0))]) [] (endQ c18 R) = V18 a0 R := by kernel_rfl
def V23 (a0_0 : ByteArray) (a0_1 : ByteArray) (a0_2 : Bool) (R : Mir.AV → Prop) : Prop :=
 (∃ x0 : Bool,
 ((Runs Fs 13 [(Mir.AV.agg [(Mir.AV.n (Mir.D.str a0_0)), (Mir.AV.n (Mir.D.str a0_1)), (Mir.AV.n (Mir.D.bool a0_2))])] [] (Mir.AV.n (Mir.D.bool x0)) []) ∧
 (R (Mir.AV.n (Mir.D.bool (Bool.not x0))))))
theorem vc23 (a0_0 : ByteArray) (a0_1 : ByteArray) (a0_2 : Bool) (R : Mir.AV → Prop) : Vc Fs c23.body (argsQ c23 [(.agg [(.n (.str a0_0)), (.n (.str a0_1)), (.n (.bool a0_2))])]) [] (endQ c23 R) = V23 a0_0 a0_1 a0_2 R := by kernel_rfl
def V11p (a0 : List Mir.D) (R : Mir.AV → Prop) : Prop :=
 (∃ x0 : Int,
 ((Runs Fs 26 [(Mir.AV.o (Mir.D.sl 3 a0)), (Mir.AV.fn 12 [])] [] (Mir.AV.n (Mir.D.int .i64 x0)) []) ∧
 (R (Mir.AV.n (Mir.D.bool (decide (x0 ≥ 0)))))))
theorem vc11p (a0 : List Mir.D) (R : Mir.AV → Prop) : Vc Fs c11.body (argsQ c11 [.o (.sl 3 a0), .fn 12 []]) [] (endQ c11 R) = V11p a0 R := by kernel_rfl
def V26p (a0 : List Mir.D) (R : Mir.AV → Prop) : Prop :=
 (∃ x0 : (Int → Prop),
 (∃ x1 : (Int → Nat),
 (((@Eq (List (Nat × Mir.Ob)) [] []) ∧
 (x0 0)) ∧
 (∀ x2 : Int,
 ((x0 x2) →
 (∀ x3 : (Nat → Mir.AV),
 (sel (decide (x2 < (((List.length a0) : Nat) : Int)))
 (((3 : Nat) = 3) ∧
 (((0 : Int) ≤ x2) ∧
 (∃ x4 : Mir.D,
 ((((GetElem?.getElem? a0 (Int.toNat x2)) : (Option Mir.D)) = (some x4)) ∧
 (∃ x5 : ByteArray,
 (∃ x6 : ByteArray,
 (∃ x7 : Bool,
 ((@Eq (List Mir.D) (List.take 3 (Go.Mir.D.cells x4)) [(Mir.D.str x5), (Mir.D.str x6), (Mir.D.bool x7)]) ∧
 (((3 : Nat) ≤ (List.length (Go.Mir.D.cells x4))) ∧
 (∃ x8 : Bool,
 ((Runs Fs 12 [(Mir.AV.agg [(Mir.AV.n (Mir.D.str x5)), (Mir.AV.n (Mir.D.str x6)), (Mir.AV.n (Mir.D.bool x7))])] [] (Mir.AV.n (Mir.D.bool x8)) []) ∧
 (sel x8
 (R (Mir.AV.n (Mir.D.int .i64 x2)))
 ((((Mir.AV.o (Mir.D.sl 3 a0)) : Mir.AV) = (Mir.AV.o (Mir.D.sl 3 a0))) ∧
 ((((Mir.AV.fn 12 []) : Mir.AV) = (Mir.AV.fn 12 [])) ∧
 ((((Mir.AV.n (Mir.D.int .i64 (((List.length a0) : Nat) : Int))) : Mir.AV) = (Mir.AV.n (Mir.D.int .i64 (((List.length a0) : Nat) : Int)))) ∧
 ((@Eq (List (Nat × Mir.Ob)) [] []) ∧
 ((x0 (Go.IntKind.wrap .i64 (x2 + 1))) ∧
 (((x1 (Go.IntKind.wrap .i64 (x2 + 1))) : Nat) < (x1 x2)))))))))))))))))))
 (R (Mir.AV.n (Mir.D.int .i64 (-1)))))))))))
theorem vc26p (a0 : List Mir.D) (R : Mir.AV → Prop) : Vc Fs c26.body (argsQ c26 [.o (.sl 3 a0), .fn 12 []]) [] (endQ c26 R) = V26p a0 R := by kernel_rfl
def V11q (a0 : List Mir.D) (R : Mir.AV → Prop) : Prop :=
 (∃ x0 : Int,
 ((Runs Fs 26 [(Mir.AV.o (Mir.D.sl 3 a0)), (Mir.AV.fn 23 [])] [] (Mir.AV.n (Mir.D.int .i64 x0)) []) ∧
 (R (Mir.AV.n (Mir.D.bool (decide (x0 ≥ 0)))))))
theorem vc11q (a0 : List Mir.D) (R : Mir.AV → Prop) : Vc Fs c11.body (argsQ c11 [.o (.sl 3 a0), .fn 23 []]) [] (endQ c11 R) = V11q a0 R := by kernel_rfl
def V26q (a0 : List Mir.D) (R : Mir.AV → Prop) : Prop :=
 (∃ x0 : (Int → Prop),
 (∃ x1 : (Int → Nat),
 (((@Eq (List (Nat × Mir.Ob)) [] []) ∧
 (x0 0)) ∧
 (∀ x2 : Int,
 ((x0 x2) →
 (∀ x3 : (Nat → Mir.AV),
 (sel (decide (x2 < (((List.length a0) : Nat) : Int)))
 (((3 : Nat) = 3) ∧
 (((0 : Int) ≤ x2) ∧
 (∃ x4 : Mir.D,
 ((((GetElem?.getElem? a0 (Int.toNat x2)) : (Option Mir.D)) = (some x4)) ∧
 (∃ x5 : ByteArray,
 (∃ x6 : ByteArray,
 (∃ x7 : Bool,
 ((@Eq (List Mir.D) (List.take 3 (Go.Mir.D.cells x4)) [(Mir.D.str x5), (Mir.D.str x6), (Mir.D.bool x7)]) ∧
 (((3 : Nat) ≤ (List.length (Go.Mir.D.cells x4))) ∧
 (∃ x8 : Bool,
 ((Runs Fs 23 [(Mir.AV.agg [(Mir.AV.n (Mir.D.str x5)), (Mir.AV.n (Mir.D.str x6)), (Mir.AV.n (Mir.D.bool x7))])] [] (Mir.AV.n (Mir.D.bool x8)) []) ∧
 (sel x8
 (R (Mir.AV.n (Mir.D.int .i64 x2)))
 ((((Mir.AV.o (Mir.D.sl 3 a0)) : Mir.AV) = (Mir.AV.o (Mir.D.sl 3 a0))) ∧
 ((((Mir.AV.fn 23 []) : Mir.AV) = (Mir.AV.fn 23 [])) ∧
 ((((Mir.AV.n (Mir.D.int .i64 (((List.length a0) : Nat) : Int))) : Mir.AV) = (Mir.AV.n (Mir.D.int .i64 (((List.length a0) : Nat) : Int)))) ∧
 ((@Eq (List (Nat × Mir.Ob)) [] []) ∧
 ((x0 (Go.IntKind.wrap .i64 (x2 + 1))) ∧
 (((x1 (Go.IntKind.wrap .i64 (x2 + 1))) : Nat) < (x1 x2)))))))))))))))))))
 (R (Mir.AV.n (Mir.D.int .i64 (-1)))))))))))
theorem vc26q (a0 : List Mir.D) (R : Mir.AV → Prop) : Vc Fs c26.body (argsQ c26 [.o (.sl 3 a0), .fn 23 []]) [] (endQ c26 R) = V26q a0 R := by kernel_rfl
def V19h (s : ByteArray) (n : Int) (e : Int) (R : Mir.AV → Heap → Prop) : Prop :=
 (sel (e != 0)
 (R (Mir.AV.n (Mir.D.int .i64 0)) [(700000, (.box [(Mir.AV.n (Mir.D.str s))])), (700300, (.box [(Mir.AV.n (Mir.D.int .i64 n))])), (700301, (.box [(Mir.AV.n (Mir.D.int .i64 e))]))])
 (∃ x0 : Int,
 (∃ x1 : Int,
 (∃ x2 : Int,
 ((Runs Fs 20 [(Mir.AV.n (Mir.D.str s)), (Mir.AV.n (Mir.D.int .i64 n)), (Mir.AV.n (Mir.D.int .i64 1))] [] (Mir.AV.tup [(Mir.AV.n (Mir.D.int .i64 x0)), (Mir.AV.n (Mir.D.int .i64 x1)), (Mir.AV.n (Mir.D.int .i64 x2))]) []) ∧
 (R (Mir.AV.n (Mir.D.int .i64 x0)) [(700000, (.box [(Mir.AV.n (Mir.D.str s))])), (700300, (.box [(Mir.AV.n (Mir.D.int .i64 x1))])), (700301, (.box [(Mir.AV.n (Mir.D.int .i64 x2))]))]))))))
theorem vc19h (s : ByteArray) (n : Int) (e : Int) (R : Mir.AV → Heap → Prop) : Vc Fs c19.body (argsQ c19 [.ptr 700301 0, .ptr 700000 0, .ptr 700300 0]) [(700000, .box [.n (.str s)]), (700300, .box [.n (.int .i64 n)]), (700301, .box [.n (.int .i64 e)])] (endQH c19 [(700000, .box [.n (.str s)]), (700300, .box [.n (.int .i64 n)]), (700301, .box [.n (.int .i64 e)])] R) = V19h s n e R := by kernel_rfl
def V21h (s : ByteArray) (n : Int) (e : Int) (R : Mir.AV → Heap → Prop) : Prop :=
 (sel (e != 0)
 (R (Mir.AV.n (Mir.D.str (ByteArray.mk (List.toArray [])))) [(700000, (.box [(Mir.AV.n (Mir.D.str s))])), (700300, (.box [(Mir.AV.n (Mir.D.int .i64 n))])), (700301, (.box [(Mir.AV.n (Mir.D.int .i64 e))]))])
 (∃ x0 : ByteArray,
 (∃ x1 : Int,
 (∃ x2 : Int,
 ((Runs Fs 22 [(Mir.AV.n (Mir.D.str s)), (Mir.AV.n (Mir.D.int .i64 n))] [] (Mir.AV.tup [(Mir.AV.n (Mir.D.str x0)), (Mir.AV.n (Mir.D.int .i64 x1)), (Mir.AV.n (Mir.D.int .i64 x2))]) []) ∧
 (R (Mir.AV.n (Mir.D.str x0)) [(700000, (.box [(Mir.AV.n (Mir.D.str s))])), (700300, (.box [(Mir.AV.n (Mir.D.int .i64 x1))])), (700301, (.box [(Mir.AV.n (Mir.D.int .i64 x2))]))]))))))
theorem vc21h (s : ByteArray) (n : Int) (e : Int) (R : Mir.AV → Heap → Prop) : Vc Fs c21.body (argsQ c21 [.ptr 700301 0, .ptr 700000 0, .ptr 700300 0]) [(700000, .box [.n (.str s)]), (700300, .box [.n (.int .i64 n)]), (700301, .box [.n (.int .i64 e)])] (endQH c21 [(700000, .box [.n (.str s)]), (700300, .box [.n (.int .i64 n)]), (700301, .box [.n (.int .i64 e)])] R) = V21h s n e R := by kernel_rfl

end Go.Proofs.Ytcakphhnilklnaa.M
