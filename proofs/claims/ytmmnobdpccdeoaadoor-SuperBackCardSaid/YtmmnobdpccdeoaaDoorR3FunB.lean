import Derived.Test.YtmmnobdpccdeoaaDoorR3Fun
namespace Go.Proofs.YtmmnobdpccdeoaaDoor.M
set_option linter.unusedVariables false
set_option linter.unusedSimpArgs false
open Go Go.Mir
set_option linter.unusedVariables false
def V120 (a0 : Int) (R : Mir.AV → Prop) : Prop :=
 (∃ x0 : (Int → (Int → (Int → Prop))),
 (∃ x1 : (Int → (Int → (Int → Nat))),
 (((@Eq (List (Nat × Mir.Ob)) [] []) ∧
 (x0 a0 1 0)) ∧
 (∀ x2 : Int,
 (∀ x3 : Int,
 (∀ x4 : Int,
 ((x0 x2 x3 x4) →
 (∀ x5 : (Nat → Mir.AV),
 (sel (decide (x4 < x2))
 ((@Eq (List (Nat × Mir.Ob)) [] []) ∧
 ((x0 x2 (Go.IntKind.wrap .i64 (x3 * 256)) (Go.IntKind.wrap .i64 (x4 + 1))) ∧
 (((x1 x2 (Go.IntKind.wrap .i64 (x3 * 256)) (Go.IntKind.wrap .i64 (x4 + 1))) : Nat) < (x1 x2 x3 x4))))
 (R (Mir.AV.n (Mir.D.int .i64 x3))))))))))))
theorem vc120 (a0 : Int) (R : Mir.AV → Prop) : Vc Fs c120.body (argsQ c120 [(.n (.int .i64 a0))]) [] (endQ c120 R) = V120 a0 R := by kernel_rfl
def V50 (a0 : Int) (a1 : Int) (R : Mir.AV → Prop) : Prop :=
 (sel (decide (a1 < 1))
 (R (Mir.AV.tup [(Mir.AV.n (Mir.D.str (ByteArray.mk (List.toArray [])))), (Mir.AV.n (Mir.D.int .i64 1))]))
 (sel (decide (a1 > 6))
 (R (Mir.AV.tup [(Mir.AV.n (Mir.D.str (ByteArray.mk (List.toArray [])))), (Mir.AV.n (Mir.D.int .i64 1))]))
 (sel (decide (a0 < 0))
 (R (Mir.AV.tup [(Mir.AV.n (Mir.D.str (ByteArray.mk (List.toArray [])))), (Mir.AV.n (Mir.D.int .i64 1))]))
 (((0 : Int) ≤ (Go.IntKind.wrap .i64 (8 * a1))) ∧
 (sel ((Int.fdiv a0 (2 ^ (Min.min (Int.toNat (Go.IntKind.wrap .i64 (8 * a1))) (Go.IntKind.bits .i64)))) != 0)
 (R (Mir.AV.tup [(Mir.AV.n (Mir.D.str (ByteArray.mk (List.toArray [])))), (Mir.AV.n (Mir.D.int .i64 1))]))
 (((0 : Int) ≤ a1) ∧
 (((((Int.toNat a1) * 1) : Nat) ≤ 140737488355328) ∧
 (((0 : Nat) = 0) ∧
 (∃ x0 : (Int → (Int → (Nat → (Int → (Int → ((Nat × (List Mir.D)) → Prop)))))),
 (∃ x1 : (Int → (Int → (Nat → (Int → (Int → ((Nat × (List Mir.D)) → Nat)))))),
 (((@Eq (List (Nat × Mir.Ob)) [(5000301, (.row false true 0 5 1 (List.replicate (Int.toNat a1) (Mir.D.int .u8 0))))] [(5000301, (.row false true 0 5 1 (List.replicate (Int.toNat a1) (Mir.D.int .u8 0))))]) ∧
 (x0 a0 a1 0 (((List.length (List.replicate (Int.toNat a1) (Mir.D.int .u8 0))) : Nat) : Int) 0 (0, (List.replicate (Int.toNat a1) (Mir.D.int .u8 0))))) ∧
 (∀ x2 : Int,
 (∀ x3 : Int,
 (∀ x4 : Nat,
 (∀ x5 : Int,
 (∀ x6 : Int,
 (∀ x7 : (Nat × (List Mir.D)),
 ((x0 x2 x3 x4 x5 x6 x7) →
 (∀ x8 : (Nat → Mir.AV),
 (sel (decide (x6 < x5))
 (((0 : Int) ≤ (Go.IntKind.wrap .i64 (8 * x6))) ∧
 (((((Prod.fst x7) : Nat) = x4) ∧
 ((1 : Nat) = 1)) ∧
 (((0 : Int) ≤ (Go.IntKind.wrap .i64 ((Go.IntKind.wrap .i64 (x3 - 1)) - x6))) ∧
 ((((Go.IntKind.wrap .i64 ((Go.IntKind.wrap .i64 (x3 - 1)) - x6)) : Int) < (((List.length (Prod.snd x7)) : Nat) : Int)) ∧
 ((((((x4 : Nat) = (Prod.fst x7)) ∧
 ((0 : Nat) = 0)) ∧
 ((1 : Nat) = 1)) ∧
 ((1 : Nat) = 1)) ∧
 ((((Int.toNat (Go.IntKind.wrap .i64 ((Go.IntKind.wrap .i64 (x3 - 1)) - x6))) : Nat) < (List.length (Prod.snd x7))) ∧
 ((@Eq (List (Nat × Mir.Ob)) [(5000301, (.row false true (Prod.fst x7) 5 1 (List.set (Prod.snd x7) (Int.toNat (Go.IntKind.wrap .i64 ((Go.IntKind.wrap .i64 (x3 - 1)) - x6))) (Mir.D.int .u8 (Go.IntKind.wrap .u8 (Int.fdiv x2 (2 ^ (Min.min (Int.toNat (Go.IntKind.wrap .i64 (8 * x6))) (Go.IntKind.bits .i64)))))))))] [(5000301, (.row false true (Prod.fst x7) 5 1 (List.set (Prod.snd x7) (Int.toNat (Go.IntKind.wrap .i64 ((Go.IntKind.wrap .i64 (x3 - 1)) - x6))) (Mir.D.int .u8 (Go.IntKind.wrap .u8 (Int.fdiv x2 (2 ^ (Min.min (Int.toNat (Go.IntKind.wrap .i64 (8 * x6))) (Go.IntKind.bits .i64)))))))))]) ∧
 ((x0 x2 x3 x4 x5 (Go.IntKind.wrap .i64 (x6 + 1)) ((Prod.fst x7), (List.set (Prod.snd x7) (Int.toNat (Go.IntKind.wrap .i64 ((Go.IntKind.wrap .i64 (x3 - 1)) - x6))) (Mir.D.int .u8 (Go.IntKind.wrap .u8 (Int.fdiv x2 (2 ^ (Min.min (Int.toNat (Go.IntKind.wrap .i64 (8 * x6))) (Go.IntKind.bits .i64))))))))) ∧
 (((x1 x2 x3 x4 x5 (Go.IntKind.wrap .i64 (x6 + 1)) ((Prod.fst x7), (List.set (Prod.snd x7) (Int.toNat (Go.IntKind.wrap .i64 ((Go.IntKind.wrap .i64 (x3 - 1)) - x6))) (Mir.D.int .u8 (Go.IntKind.wrap .u8 (Int.fdiv x2 (2 ^ (Min.min (Int.toNat (Go.IntKind.wrap .i64 (8 * x6))) (Go.IntKind.bits .i64))))))))) : Nat) < (x1 x2 x3 x4 x5 x6 x7))))))))))
 ((((Prod.fst x7) : Nat) = x4) ∧
 ((((1 : Nat) = 1) ∨ (@Eq (List Mir.D) (Prod.snd x7) [])) ∧
 ((((List.all (Prod.snd x7) Go.Mir.D.isU8) : Bool) = true) ∧
 (R (Mir.AV.tup [(Mir.AV.n (Mir.D.str (ByteArray.mk (List.toArray (List.map Go.Mir.byteOf (Prod.snd x7)))))), (Mir.AV.n (Mir.D.int .i64 0))])))))))))))))))))))))))))
theorem vc50 (a0 : Int) (a1 : Int) (R : Mir.AV → Prop) : Vc Fs c50.body (argsQ c50 [(.n (.int .i64 a0)), (.n (.int .i64 a1))]) [] (endQ c50 R) = V50 a0 a1 R := by kernel_rfl
def V96 (a0 : Int) (a1 : Int) (R : Mir.AV → Prop) : Prop :=
 (sel (decide (a1 < 1))
 (R (Mir.AV.tup [(Mir.AV.n (Mir.D.str (ByteArray.mk (List.toArray [])))), (Mir.AV.n (Mir.D.int .i64 1))]))
 (sel (decide (a1 > 6))
 (R (Mir.AV.tup [(Mir.AV.n (Mir.D.str (ByteArray.mk (List.toArray [])))), (Mir.AV.n (Mir.D.int .i64 1))]))
 (sel (decide (a0 < 0))
 (R (Mir.AV.tup [(Mir.AV.n (Mir.D.str (ByteArray.mk (List.toArray [])))), (Mir.AV.n (Mir.D.int .i64 1))]))
 (∃ x0 : Int,
 ((Runs Fs 120 [(Mir.AV.n (Mir.D.int .i64 a1))] [] (Mir.AV.n (Mir.D.int .i64 x0)) []) ∧
 (sel (decide (a0 ≥ x0))
 (R (Mir.AV.tup [(Mir.AV.n (Mir.D.str (ByteArray.mk (List.toArray [])))), (Mir.AV.n (Mir.D.int .i64 1))]))
 (∃ x1 : (Int → (Nat → (Int → ((Nat × (List Mir.D)) → Prop)))),
 (∃ x2 : (Int → (Nat → (Int → ((Nat × (List Mir.D)) → Nat)))),
 (((@Eq (List (Nat × Mir.Ob)) [(9600300, (.row false true 0 5 1 []))] [(9600300, (.row false true 0 5 1 []))]) ∧
 (x1 a0 0 (Go.IntKind.wrap .i64 (a1 - 1)) (0, []))) ∧
 (∀ x3 : Int,
 (∀ x4 : Nat,
 (∀ x5 : Int,
 (∀ x6 : (Nat × (List Mir.D)),
 ((x1 x3 x4 x5 x6) →
 (∀ x7 : (Nat → Mir.AV),
 (sel (decide (x5 ≥ 0))
 (∃ x8 : Int,
 ((Runs Fs 120 [(Mir.AV.n (Mir.D.int .i64 x5))] [] (Mir.AV.n (Mir.D.int .i64 x8)) []) ∧
 (((x8 : Int) ≠ 0) ∧
 (((256 : Int) ≠ 0) ∧
 (((0 : Nat) = 0) ∧
 ((((1 : Nat) = 1) ∨ (@Eq (List Mir.D) [(Mir.D.int .u8 (Go.IntKind.wrap .u8 (Int.tmod (Go.IntKind.wrap .i64 (Int.tdiv x3 x8)) 256)))] [])) ∧
 ((((((Prod.fst x6) : Nat) = x4) ∧
 ((5 : Nat) = 5)) ∧
 ((1 : Nat) = 1)) ∧
 ((((((List.length (Prod.snd x6)) + (List.length [(Mir.D.int .u8 (Go.IntKind.wrap .u8 (Int.tmod (Go.IntKind.wrap .i64 (Int.tdiv x3 x8)) 256)))])) * 1) : Nat) ≤ 140737488355328) ∧
 ((@Eq (List (Nat × Mir.Ob)) [(9600300, (.row false true (x4 + 1) 5 1 ((Prod.snd x6) ++ [(Mir.D.int .u8 (Go.IntKind.wrap .u8 (Int.tmod (Go.IntKind.wrap .i64 (Int.tdiv x3 x8)) 256)))])))] [(9600300, (.row false true (x4 + 1) 5 1 ((Prod.snd x6) ++ [(Mir.D.int .u8 (Go.IntKind.wrap .u8 (Int.tmod (Go.IntKind.wrap .i64 (Int.tdiv x3 x8)) 256)))])))]) ∧
 ((x1 x3 (x4 + 1) (Go.IntKind.wrap .i64 (x5 - 1)) ((x4 + 1), ((Prod.snd x6) ++ [(Mir.D.int .u8 (Go.IntKind.wrap .u8 (Int.tmod (Go.IntKind.wrap .i64 (Int.tdiv x3 x8)) 256)))]))) ∧
 (((x2 x3 (x4 + 1) (Go.IntKind.wrap .i64 (x5 - 1)) ((x4 + 1), ((Prod.snd x6) ++ [(Mir.D.int .u8 (Go.IntKind.wrap .u8 (Int.tmod (Go.IntKind.wrap .i64 (Int.tdiv x3 x8)) 256)))]))) : Nat) < (x2 x3 x4 x5 x6))))))))))))
 ((((Prod.fst x6) : Nat) = x4) ∧
 ((((1 : Nat) = 1) ∨ (@Eq (List Mir.D) (Prod.snd x6) [])) ∧
 ((((List.all (Prod.snd x6) Go.Mir.D.isU8) : Bool) = true) ∧
 (R (Mir.AV.tup [(Mir.AV.n (Mir.D.str (ByteArray.mk (List.toArray (List.map Go.Mir.byteOf (Prod.snd x6)))))), (Mir.AV.n (Mir.D.int .i64 0))])))))))))))))))))))))
theorem vc96 (a0 : Int) (a1 : Int) (R : Mir.AV → Prop) : Vc Fs c96.body (argsQ c96 [(.n (.int .i64 a0)), (.n (.int .i64 a1))]) [] (endQ c96 R) = V96 a0 a1 R := by kernel_rfl
def V52 (a0 : List Mir.D) (R : Mir.AV → Prop) : Prop :=
 (∃ x0 : ByteArray,
 ((Runs Fs 90 [(Mir.AV.o (Mir.D.sl 1 a0)), (Mir.AV.n (Mir.D.str (ByteArray.mk (List.toArray []))))] [] (Mir.AV.n (Mir.D.str x0)) []) ∧
 (R (Mir.AV.n (Mir.D.str x0)))))
theorem vc52 (a0 : List Mir.D) (R : Mir.AV → Prop) : Vc Fs c52.body (argsQ c52 [(.o (.sl 1 a0))]) [] (endQ c52 R) = V52 a0 R := by kernel_rfl
def V62 (a0 : ByteArray) (R : Mir.AV → Prop) : Prop :=
 (sel (decide ((((ByteArray.size a0) : Nat) : Int) > 65535))
 (R (Mir.AV.tup [(Mir.AV.n (Mir.D.str (ByteArray.mk (List.toArray [])))), (Mir.AV.n (Mir.D.int .i64 2))]))
 (∃ x0 : ByteArray,
 (∃ x1 : Int,
 ((Runs Fs 50 [(Mir.AV.n (Mir.D.int .i64 (((ByteArray.size a0) : Nat) : Int))), (Mir.AV.n (Mir.D.int .i64 2))] [] (Mir.AV.tup [(Mir.AV.n (Mir.D.str x0)), (Mir.AV.n (Mir.D.int .i64 x1))]) []) ∧
 ((0 = 0) ∧
 (∃ x2 : ByteArray,
 ((Runs Fs 52 [(Mir.AV.o (Mir.D.sl 1 [(Mir.D.str x0), (Mir.D.str a0)]))] [] (Mir.AV.n (Mir.D.str x2)) []) ∧
 (R (Mir.AV.tup [(Mir.AV.n (Mir.D.str x2)), (Mir.AV.n (Mir.D.int .i64 x1))])))))))))
theorem vc62 (a0 : ByteArray) (R : Mir.AV → Prop) : Vc Fs c62.body (argsQ c62 [(.n (.str a0))]) [] (endQ c62 R) = V62 a0 R := by kernel_rfl
def V97 (a0 : ByteArray) (R : Mir.AV → Prop) : Prop :=
 (sel (decide ((((ByteArray.size a0) : Nat) : Int) > 65535))
 (R (Mir.AV.tup [(Mir.AV.n (Mir.D.str (ByteArray.mk (List.toArray [])))), (Mir.AV.n (Mir.D.int .i64 2))]))
 (((256 : Int) ≠ 0) ∧
 (((256 : Int) ≠ 0) ∧
 (((0 : Nat) = 0) ∧
 ((((1 : Nat) = 1) ∨ (@Eq (List Mir.D) [(Mir.D.int .u8 (Go.IntKind.wrap .u8 (Go.IntKind.wrap .i64 (Int.tdiv (((ByteArray.size a0) : Nat) : Int) 256)))), (Mir.D.int .u8 (Go.IntKind.wrap .u8 (Int.tmod (((ByteArray.size a0) : Nat) : Int) 256)))] [])) ∧
 ((((List.all [(Mir.D.int .u8 (Go.IntKind.wrap .u8 (Go.IntKind.wrap .i64 (Int.tdiv (((ByteArray.size a0) : Nat) : Int) 256)))), (Mir.D.int .u8 (Go.IntKind.wrap .u8 (Int.tmod (((ByteArray.size a0) : Nat) : Int) 256)))] Go.Mir.D.isU8) : Bool) = true) ∧
 (((((((ByteArray.size (ByteArray.mk (List.toArray (List.map Go.Mir.byteOf [(Mir.D.int .u8 (Go.IntKind.wrap .u8 (Go.IntKind.wrap .i64 (Int.tdiv (((ByteArray.size a0) : Nat) : Int) 256)))), (Mir.D.int .u8 (Go.IntKind.wrap .u8 (Int.tmod (((ByteArray.size a0) : Nat) : Int) 256)))])))) + (ByteArray.size a0)) : Nat) : Int) : Int) ≤ 9223372036854775807) ∧
 (R (Mir.AV.tup [(Mir.AV.n (Mir.D.str ((ByteArray.mk (List.toArray (List.map Go.Mir.byteOf [(Mir.D.int .u8 (Go.IntKind.wrap .u8 (Go.IntKind.wrap .i64 (Int.tdiv (((ByteArray.size a0) : Nat) : Int) 256)))), (Mir.D.int .u8 (Go.IntKind.wrap .u8 (Int.tmod (((ByteArray.size a0) : Nat) : Int) 256)))]))) ++ a0))), (Mir.AV.n (Mir.D.int .i64 0))])))))))))
theorem vc97 (a0 : ByteArray) (R : Mir.AV → Prop) : Vc Fs c97.body (argsQ c97 [(.n (.str a0))]) [] (endQ c97 R) = V97 a0 R := by kernel_rfl
def V88 (a0 : ByteArray) (R : Mir.AV → Prop) : Prop :=
 (∃ x0 : ByteArray,
 ((Runs Fs 113 [(Mir.AV.n (Mir.D.str a0)), (Mir.AV.n (Mir.D.str (ByteArray.mk (List.toArray [0]))))] [] (Mir.AV.n (Mir.D.str x0)) []) ∧
 (R (Mir.AV.n (Mir.D.str x0)))))
theorem vc88 (a0 : ByteArray) (R : Mir.AV → Prop) : Vc Fs c88.body (argsQ c88 [(.n (.str a0))]) [] (endQ c88 R) = V88 a0 R := by kernel_rfl
def V86 (a0 : ByteArray) (R : Mir.AV → Prop) : Prop :=
 (∃ x0 : (ByteArray → (Int → Prop)),
 (∃ x1 : (ByteArray → (Int → Nat)),
 (((@Eq (List (Nat × Mir.Ob)) [] []) ∧
 (x0 a0 (((ByteArray.size a0) : Nat) : Int))) ∧
 (∀ x2 : ByteArray,
 (∀ x3 : Int,
 ((x0 x2 x3) →
 (∀ x4 : (Nat → Mir.AV),
 (sel (decide (x3 > 0))
 (((0 : Int) ≤ (Go.IntKind.wrap .i64 (x3 - 1))) ∧
 (∃ x5 : UInt8,
 ((((GetElem?.getElem? (Array.toList (ByteArray.data x2)) (Int.toNat (Go.IntKind.wrap .i64 (x3 - 1)))) : (Option UInt8)) = (some x5)) ∧
 (sel ((((UInt8.toNat x5) : Nat) : Int) == 0)
 ((@Eq (List (Nat × Mir.Ob)) [] []) ∧
 ((x0 x2 (Go.IntKind.wrap .i64 (x3 - 1))) ∧
 (((x1 x2 (Go.IntKind.wrap .i64 (x3 - 1))) : Nat) < (x1 x2 x3))))
 (((0 : Int) ≤ x3) ∧
 (((x3 : Int) ≤ (((ByteArray.size x2) : Nat) : Int)) ∧
 (R (Mir.AV.n (Mir.D.str (ByteArray.extract x2 0 (Int.toNat x3)))))))))))
 (((0 : Int) ≤ x3) ∧
 (((x3 : Int) ≤ (((ByteArray.size x2) : Nat) : Int)) ∧
 (R (Mir.AV.n (Mir.D.str (ByteArray.extract x2 0 (Int.toNat x3)))))))))))))))
theorem vc86 (a0 : ByteArray) (R : Mir.AV → Prop) : Vc Fs c86.body (argsQ c86 [(.n (.str a0))]) [] (endQ c86 R) = V86 a0 R := by kernel_rfl
def V109 (a0 : ByteArray) (a1 : Int) (R : Mir.AV → Prop) : Prop :=
 (sel (decide (a1 < 0))
 (R (Mir.AV.tup [(Mir.AV.n (Mir.D.str (ByteArray.mk (List.toArray [])))), (Mir.AV.n (Mir.D.int .i64 1))]))
 (sel (decide (a1 > 4096))
 (R (Mir.AV.tup [(Mir.AV.n (Mir.D.str (ByteArray.mk (List.toArray [])))), (Mir.AV.n (Mir.D.int .i64 1))]))
 (sel (decide ((((ByteArray.size a0) : Nat) : Int) > a1))
 (R (Mir.AV.tup [(Mir.AV.n (Mir.D.str (ByteArray.mk (List.toArray [])))), (Mir.AV.n (Mir.D.int .i64 2))]))
 (∃ x0 : ByteArray,
 ((Runs Fs 133 [(Mir.AV.n (Mir.D.str (ByteArray.mk (List.toArray [0])))), (Mir.AV.n (Mir.D.int .i64 (Go.IntKind.wrap .i64 (a1 - (((ByteArray.size a0) : Nat) : Int)))))] [] (Mir.AV.n (Mir.D.str x0)) []) ∧
 ((0 = 0) ∧
 (∃ x1 : ByteArray,
 ((Runs Fs 52 [(Mir.AV.o (Mir.D.sl 1 [(Mir.D.str a0), (Mir.D.str x0)]))] [] (Mir.AV.n (Mir.D.str x1)) []) ∧
 (R (Mir.AV.tup [(Mir.AV.n (Mir.D.str x1)), (Mir.AV.n (Mir.D.int .i64 0))]))))))))))
theorem vc109 (a0 : ByteArray) (a1 : Int) (R : Mir.AV → Prop) : Vc Fs c109.body (argsQ c109 [(.n (.str a0)), (.n (.int .i64 a1))]) [] (endQ c109 R) = V109 a0 a1 R := by kernel_rfl
def V82 (a0 : ByteArray) (a1 : Int) (R : Mir.AV → Prop) : Prop :=
 (sel (decide (a1 < 0))
 (R (Mir.AV.tup [(Mir.AV.n (Mir.D.str (ByteArray.mk (List.toArray [])))), (Mir.AV.n (Mir.D.int .i64 1))]))
 (sel (decide (a1 > 4096))
 (R (Mir.AV.tup [(Mir.AV.n (Mir.D.str (ByteArray.mk (List.toArray [])))), (Mir.AV.n (Mir.D.int .i64 1))]))
 (sel (decide ((((ByteArray.size a0) : Nat) : Int) > a1))
 (R (Mir.AV.tup [(Mir.AV.n (Mir.D.str (ByteArray.mk (List.toArray [])))), (Mir.AV.n (Mir.D.int .i64 2))]))
 (((0 : Int) ≤ (Go.IntKind.wrap .i64 (a1 - (((ByteArray.size a0) : Nat) : Int)))) ∧
 (((((Int.toNat (Go.IntKind.wrap .i64 (a1 - (((ByteArray.size a0) : Nat) : Int)))) * 1) : Nat) ≤ 140737488355328) ∧
 (((0 : Nat) = 0) ∧
 ((((1 : Nat) = 1) ∨ (@Eq (List Mir.D) (List.replicate (Int.toNat (Go.IntKind.wrap .i64 (a1 - (((ByteArray.size a0) : Nat) : Int)))) (Mir.D.int .u8 0)) [])) ∧
 ((((List.all (List.replicate (Int.toNat (Go.IntKind.wrap .i64 (a1 - (((ByteArray.size a0) : Nat) : Int)))) (Mir.D.int .u8 0)) Go.Mir.D.isU8) : Bool) = true) ∧
 (((((((ByteArray.size a0) + (ByteArray.size (ByteArray.mk (List.toArray (List.map Go.Mir.byteOf (List.replicate (Int.toNat (Go.IntKind.wrap .i64 (a1 - (((ByteArray.size a0) : Nat) : Int)))) (Mir.D.int .u8 0))))))) : Nat) : Int) : Int) ≤ 9223372036854775807) ∧
 (R (Mir.AV.tup [(Mir.AV.n (Mir.D.str (a0 ++ (ByteArray.mk (List.toArray (List.map Go.Mir.byteOf (List.replicate (Int.toNat (Go.IntKind.wrap .i64 (a1 - (((ByteArray.size a0) : Nat) : Int)))) (Mir.D.int .u8 0)))))))), (Mir.AV.n (Mir.D.int .i64 0))])))))))))))
theorem vc82 (a0 : ByteArray) (a1 : Int) (R : Mir.AV → Prop) : Vc Fs c82.body (argsQ c82 [(.n (.str a0)), (.n (.int .i64 a1))]) [] (endQ c82 R) = V82 a0 a1 R := by kernel_rfl
def V48 (a0 : ByteArray) (a1 : Int) (a2 : Int) (R : Mir.AV → Prop) : Prop :=
 (sel (decide (a2 < 1))
 (R (Mir.AV.tup [(Mir.AV.n (Mir.D.int .i64 0)), (Mir.AV.n (Mir.D.int .i64 0)), (Mir.AV.n (Mir.D.int .i64 1))]))
 (sel (decide (a2 > 6))
 (R (Mir.AV.tup [(Mir.AV.n (Mir.D.int .i64 0)), (Mir.AV.n (Mir.D.int .i64 0)), (Mir.AV.n (Mir.D.int .i64 1))]))
 (sel (decide (a1 < 0))
 (R (Mir.AV.tup [(Mir.AV.n (Mir.D.int .i64 0)), (Mir.AV.n (Mir.D.int .i64 0)), (Mir.AV.n (Mir.D.int .i64 1))]))
 (sel (decide (a1 > (((ByteArray.size a0) : Nat) : Int)))
 (R (Mir.AV.tup [(Mir.AV.n (Mir.D.int .i64 0)), (Mir.AV.n (Mir.D.int .i64 0)), (Mir.AV.n (Mir.D.int .i64 1))]))
 (sel (decide ((Go.IntKind.wrap .i64 ((((ByteArray.size a0) : Nat) : Int) - a1)) < a2))
 (R (Mir.AV.tup [(Mir.AV.n (Mir.D.int .i64 0)), (Mir.AV.n (Mir.D.int .i64 0)), (Mir.AV.n (Mir.D.int .i64 3))]))
 (((0 : Int) ≤ (Go.IntKind.wrap .i64 (a1 + a2))) ∧
 ((((Go.IntKind.wrap .i64 (a1 + a2)) : Int) ≤ (((ByteArray.size a0) : Nat) : Int)) ∧
 (((0 : Int) ≤ a1) ∧
 (((a1 : Int) ≤ (((Int.toNat (Go.IntKind.wrap .i64 (a1 + a2))) : Nat) : Int)) ∧
 (∃ x0 : (Int → (Int → (Int → ((List Mir.D) → (Int → (Int → Prop)))))),
 (∃ x1 : (Int → (Int → (Int → ((List Mir.D) → (Int → (Int → Nat)))))),
 (((@Eq (List (Nat × Mir.Ob)) [] []) ∧
 (x0 a1 a2 0 (Go.Mir.bytesD (ByteArray.extract a0 (Int.toNat a1) (Int.toNat (Go.IntKind.wrap .i64 (a1 + a2))))) (((List.length (Go.Mir.bytesD (ByteArray.extract a0 (Int.toNat a1) (Int.toNat (Go.IntKind.wrap .i64 (a1 + a2)))))) : Nat) : Int) 0)) ∧
 (∀ x2 : Int,
 (∀ x3 : Int,
 (∀ x4 : Int,
 (∀ x5 : (List Mir.D),
 (∀ x6 : Int,
 (∀ x7 : Int,
 ((x0 x2 x3 x4 x5 x6 x7) →
 (∀ x8 : (Nat → Mir.AV),
 (sel (decide (x7 < x6))
 (((1 : Nat) = 1) ∧
 (((0 : Int) ≤ x7) ∧
 (∃ x9 : Mir.D,
 ((((GetElem?.getElem? x5 (Int.toNat x7)) : (Option Mir.D)) = (some x9)) ∧
 (∃ x10 : Int,
 ((((GetElem?.getElem? (Go.Mir.D.cells x9) 0) : (Option Mir.D)) = (some (Mir.D.int .u8 x10))) ∧
 (((0 : Int) ≤ 8) ∧
 ((@Eq (List (Nat × Mir.Ob)) [] []) ∧
 ((x0 x2 x3 (Go.IntKind.wrap .i64 (((BitVec.toNat (HOr.hOr (BitVec.ofInt (Go.IntKind.bits .i64) (Go.IntKind.wrap .i64 (x4 * (2 ^ (Min.min (Int.toNat 8) (Go.IntKind.bits .i64)))))) (BitVec.ofInt (Go.IntKind.bits .i64) (Go.IntKind.wrap .i64 x10)))) : Nat) : Int)) x5 x6 (Go.IntKind.wrap .i64 (x7 + 1))) ∧
 (((x1 x2 x3 (Go.IntKind.wrap .i64 (((BitVec.toNat (HOr.hOr (BitVec.ofInt (Go.IntKind.bits .i64) (Go.IntKind.wrap .i64 (x4 * (2 ^ (Min.min (Int.toNat 8) (Go.IntKind.bits .i64)))))) (BitVec.ofInt (Go.IntKind.bits .i64) (Go.IntKind.wrap .i64 x10)))) : Nat) : Int)) x5 x6 (Go.IntKind.wrap .i64 (x7 + 1))) : Nat) < (x1 x2 x3 x4 x5 x6 x7)))))))))))
 (R (Mir.AV.tup [(Mir.AV.n (Mir.D.int .i64 x4)), (Mir.AV.n (Mir.D.int .i64 (Go.IntKind.wrap .i64 (x2 + x3)))), (Mir.AV.n (Mir.D.int .i64 0))])))))))))))))))))))))))
theorem vc48 (a0 : ByteArray) (a1 : Int) (a2 : Int) (R : Mir.AV → Prop) : Vc Fs c48.body (argsQ c48 [(.n (.str a0)), (.n (.int .i64 a1)), (.n (.int .i64 a2))]) [] (endQ c48 R) = V48 a0 a1 a2 R := by kernel_rfl
def V84 (a0 : ByteArray) (a1 : Int) (a2 : Int) (R : Mir.AV → Prop) : Prop :=
 (sel (decide (a2 < 1))
 (R (Mir.AV.tup [(Mir.AV.n (Mir.D.int .i64 0)), (Mir.AV.n (Mir.D.int .i64 0)), (Mir.AV.n (Mir.D.int .i64 1))]))
 (sel (decide (a2 > 6))
 (R (Mir.AV.tup [(Mir.AV.n (Mir.D.int .i64 0)), (Mir.AV.n (Mir.D.int .i64 0)), (Mir.AV.n (Mir.D.int .i64 1))]))
 (sel (decide (a1 < 0))
 (R (Mir.AV.tup [(Mir.AV.n (Mir.D.int .i64 0)), (Mir.AV.n (Mir.D.int .i64 0)), (Mir.AV.n (Mir.D.int .i64 1))]))
 (sel (decide (a1 > (((ByteArray.size a0) : Nat) : Int)))
 (R (Mir.AV.tup [(Mir.AV.n (Mir.D.int .i64 0)), (Mir.AV.n (Mir.D.int .i64 0)), (Mir.AV.n (Mir.D.int .i64 1))]))
 (sel (decide ((Go.IntKind.wrap .i64 ((((ByteArray.size a0) : Nat) : Int) - a1)) < a2))
 (R (Mir.AV.tup [(Mir.AV.n (Mir.D.int .i64 0)), (Mir.AV.n (Mir.D.int .i64 0)), (Mir.AV.n (Mir.D.int .i64 3))]))
 (∃ x0 : (ByteArray → (Int → (Int → (Int → (Int → Prop))))),
 (∃ x1 : (ByteArray → (Int → (Int → (Int → (Int → Nat))))),
 (((@Eq (List (Nat × Mir.Ob)) [] []) ∧
 (x0 a0 a1 a2 0 0)) ∧
 (∀ x2 : ByteArray,
 (∀ x3 : Int,
 (∀ x4 : Int,
 (∀ x5 : Int,
 (∀ x6 : Int,
 ((x0 x2 x3 x4 x5 x6) →
 (∀ x7 : (Nat → Mir.AV),
 (sel (decide (x6 < x4))
 (((0 : Int) ≤ (Go.IntKind.wrap .i64 (x3 + x6))) ∧
 (∃ x8 : UInt8,
 ((((GetElem?.getElem? (Array.toList (ByteArray.data x2)) (Int.toNat (Go.IntKind.wrap .i64 (x3 + x6)))) : (Option UInt8)) = (some x8)) ∧
 ((@Eq (List (Nat × Mir.Ob)) [] []) ∧
 ((x0 x2 x3 x4 (Go.IntKind.wrap .i64 ((Go.IntKind.wrap .i64 (x5 * 256)) + (Go.IntKind.wrap .i64 (((UInt8.toNat x8) : Nat) : Int)))) (Go.IntKind.wrap .i64 (x6 + 1))) ∧
 (((x1 x2 x3 x4 (Go.IntKind.wrap .i64 ((Go.IntKind.wrap .i64 (x5 * 256)) + (Go.IntKind.wrap .i64 (((UInt8.toNat x8) : Nat) : Int)))) (Go.IntKind.wrap .i64 (x6 + 1))) : Nat) < (x1 x2 x3 x4 x5 x6)))))))
 (R (Mir.AV.tup [(Mir.AV.n (Mir.D.int .i64 x5)), (Mir.AV.n (Mir.D.int .i64 (Go.IntKind.wrap .i64 (x3 + x4)))), (Mir.AV.n (Mir.D.int .i64 0))]))))))))))))))))))
theorem vc84 (a0 : ByteArray) (a1 : Int) (a2 : Int) (R : Mir.AV → Prop) : Vc Fs c84.body (argsQ c84 [(.n (.str a0)), (.n (.int .i64 a1)), (.n (.int .i64 a2))]) [] (endQ c84 R) = V84 a0 a1 a2 R := by kernel_rfl
def V139 (a0 : Int) (a1 : ByteArray) (R : Mir.AV → Prop) : Prop :=
 (∃ x0 : (Int → ((List Mir.D) → (Int → (Int → Prop)))),
 (∃ x1 : (Int → ((List Mir.D) → (Int → (Int → Nat)))),
 (((@Eq (List (Nat × Mir.Ob)) [] []) ∧
 (x0 (Go.IntKind.wrap .u32 (((BitVec.toNat (HXor.hXor (BitVec.ofInt (Go.IntKind.bits .u32) (Go.IntKind.max .u32)) (BitVec.ofInt (Go.IntKind.bits .u32) a0))) : Nat) : Int)) (Go.Mir.bytesD a1) (((List.length (Go.Mir.bytesD a1)) : Nat) : Int) 0)) ∧
 (∀ x2 : Int,
 (∀ x3 : (List Mir.D),
 (∀ x4 : Int,
 (∀ x5 : Int,
 ((x0 x2 x3 x4 x5) →
 (∀ x6 : (Nat → Mir.AV),
 (sel (decide (x5 < x4))
 (((1 : Nat) = 1) ∧
 (((0 : Int) ≤ x5) ∧
 (∃ x7 : Mir.D,
 ((((GetElem?.getElem? x3 (Int.toNat x5)) : (Option Mir.D)) = (some x7)) ∧
 (∃ x8 : Int,
 ((((GetElem?.getElem? (Go.Mir.D.cells x7) 0) : (Option Mir.D)) = (some (Mir.D.int .u8 x8))) ∧
 (∃ x9 : (Int → ((List Mir.D) → (Int → (Int → (Int → Prop))))),
 (∃ x10 : (Int → ((List Mir.D) → (Int → (Int → (Int → Nat))))),
 (((@Eq (List (Nat × Mir.Ob)) [] []) ∧
 (x9 (Go.IntKind.wrap .u32 (((BitVec.toNat (HXor.hXor (BitVec.ofInt (Go.IntKind.bits .u32) x2) (BitVec.ofInt (Go.IntKind.bits .u32) (Go.IntKind.wrap .u32 x8)))) : Nat) : Int)) x3 x4 x5 0)) ∧
 (∀ x11 : Int,
 (∀ x12 : (List Mir.D),
 (∀ x13 : Int,
 (∀ x14 : Int,
 (∀ x15 : Int,
 ((x9 x11 x12 x13 x14 x15) →
 (∀ x16 : (Nat → Mir.AV),
 (sel (decide (x15 < 8))
 (((0 : Int) ≤ 1) ∧
 ((@Eq (List (Nat × Mir.Ob)) [] []) ∧
 ((x9 (Go.IntKind.wrap .u32 (((BitVec.toNat (HXor.hXor (BitVec.ofInt (Go.IntKind.bits .u32) (Int.fdiv x11 (2 ^ (Min.min (Int.toNat 1) (Go.IntKind.bits .u32))))) (BitVec.ofInt (Go.IntKind.bits .u32) (Go.IntKind.wrap .u32 (((BitVec.toNat (HAnd.hAnd (BitVec.ofInt (Go.IntKind.bits .u32) 2197175160) (BitVec.ofInt (Go.IntKind.bits .u32) (Go.IntKind.wrap .u32 (0 - (Go.IntKind.wrap .u32 (((BitVec.toNat (HAnd.hAnd (BitVec.ofInt (Go.IntKind.bits .u32) x11) (BitVec.ofInt (Go.IntKind.bits .u32) 1))) : Nat) : Int))))))) : Nat) : Int))))) : Nat) : Int)) x12 x13 x14 (Go.IntKind.wrap .i64 (x15 + 1))) ∧
 (((x10 (Go.IntKind.wrap .u32 (((BitVec.toNat (HXor.hXor (BitVec.ofInt (Go.IntKind.bits .u32) (Int.fdiv x11 (2 ^ (Min.min (Int.toNat 1) (Go.IntKind.bits .u32))))) (BitVec.ofInt (Go.IntKind.bits .u32) (Go.IntKind.wrap .u32 (((BitVec.toNat (HAnd.hAnd (BitVec.ofInt (Go.IntKind.bits .u32) 2197175160) (BitVec.ofInt (Go.IntKind.bits .u32) (Go.IntKind.wrap .u32 (0 - (Go.IntKind.wrap .u32 (((BitVec.toNat (HAnd.hAnd (BitVec.ofInt (Go.IntKind.bits .u32) x11) (BitVec.ofInt (Go.IntKind.bits .u32) 1))) : Nat) : Int))))))) : Nat) : Int))))) : Nat) : Int)) x12 x13 x14 (Go.IntKind.wrap .i64 (x15 + 1))) : Nat) < (x10 x11 x12 x13 x14 x15)))))
 ((@Eq (List (Nat × Mir.Ob)) [] []) ∧
 ((x0 x11 x12 x13 (Go.IntKind.wrap .i64 (x14 + 1))) ∧
 (((x1 x11 x12 x13 (Go.IntKind.wrap .i64 (x14 + 1))) : Nat) < (x1 x2 x3 x4 x5)))))))))))))))))))))
 (R (Mir.AV.n (Mir.D.int .u32 (Go.IntKind.wrap .u32 (((BitVec.toNat (HXor.hXor (BitVec.ofInt (Go.IntKind.bits .u32) (Go.IntKind.max .u32)) (BitVec.ofInt (Go.IntKind.bits .u32) x2))) : Nat) : Int)))))))))))))))
theorem vc139 (a0 : Int) (a1 : ByteArray) (R : Mir.AV → Prop) : Vc Fs c139.body (argsQ c139 [(.n (.int .u32 a0)), (.n (.str a1))]) [] (endQ c139 R) = V139 a0 a1 R := by kernel_rfl
def V134 (a0 : Int) (a1 : ByteArray) (R : Mir.AV → Prop) : Prop :=
 (∃ x0 : (ByteArray → (Int → (Int → Prop))),
 (∃ x1 : (ByteArray → (Int → (Int → Nat))),
 (((@Eq (List (Nat × Mir.Ob)) [] []) ∧
 (x0 a1 (Go.IntKind.wrap .u32 (4294967295 - a0)) 0)) ∧
 (∀ x2 : ByteArray,
 (∀ x3 : Int,
 (∀ x4 : Int,
 ((x0 x2 x3 x4) →
 (∀ x5 : (Nat → Mir.AV),
 (sel (decide (x4 < (((ByteArray.size x2) : Nat) : Int)))
 (∃ x6 : (ByteArray → (Int → (Int → (Int → Prop)))),
 (∃ x7 : (ByteArray → (Int → (Int → (Int → Nat)))),
 (((@Eq (List (Nat × Mir.Ob)) [] []) ∧
 (x6 x2 x3 x4 0)) ∧
 (∀ x8 : ByteArray,
 (∀ x9 : Int,
 (∀ x10 : Int,
 (∀ x11 : Int,
 ((x6 x8 x9 x10 x11) →
 (∀ x12 : (Nat → Mir.AV),
 (sel (decide (x11 < 8))
 (((0 : Int) ≤ x10) ∧
 (∃ x13 : UInt8,
 ((((GetElem?.getElem? (Array.toList (ByteArray.data x8)) (Int.toNat x10)) : (Option UInt8)) = (some x13)) ∧
 (((0 : Int) ≤ (Go.IntKind.wrap .u64 x11)) ∧
 (((2 : Int) ≠ 0) ∧
 (((2 : Int) ≠ 0) ∧
 (((2 : Int) ≠ 0) ∧
 (sel ((Int.tmod x9 2) != (Int.tmod (Int.fdiv (Go.IntKind.wrap .u32 (((UInt8.toNat x13) : Nat) : Int)) (2 ^ (Min.min (Int.toNat (Go.IntKind.wrap .u64 x11)) (Go.IntKind.bits .u32)))) 2))
 ((@Eq (List (Nat × Mir.Ob)) [] []) ∧
 ((x6 x8 (Go.IntKind.wrap .u32 (((BitVec.toNat (HXor.hXor (BitVec.ofInt (Go.IntKind.bits .u32) (Go.IntKind.wrap .u32 (Int.tdiv x9 2))) (BitVec.ofInt (Go.IntKind.bits .u32) 2197175160))) : Nat) : Int)) x10 (Go.IntKind.wrap .i64 (x11 + 1))) ∧
 (((x7 x8 (Go.IntKind.wrap .u32 (((BitVec.toNat (HXor.hXor (BitVec.ofInt (Go.IntKind.bits .u32) (Go.IntKind.wrap .u32 (Int.tdiv x9 2))) (BitVec.ofInt (Go.IntKind.bits .u32) 2197175160))) : Nat) : Int)) x10 (Go.IntKind.wrap .i64 (x11 + 1))) : Nat) < (x7 x8 x9 x10 x11))))
 ((@Eq (List (Nat × Mir.Ob)) [] []) ∧
 ((x6 x8 (Go.IntKind.wrap .u32 (Int.tdiv x9 2)) x10 (Go.IntKind.wrap .i64 (x11 + 1))) ∧
 (((x7 x8 (Go.IntKind.wrap .u32 (Int.tdiv x9 2)) x10 (Go.IntKind.wrap .i64 (x11 + 1))) : Nat) < (x7 x8 x9 x10 x11))))))))))))
 ((@Eq (List (Nat × Mir.Ob)) [] []) ∧
 ((x0 x8 x9 (Go.IntKind.wrap .i64 (x10 + 1))) ∧
 (((x1 x8 x9 (Go.IntKind.wrap .i64 (x10 + 1))) : Nat) < (x1 x2 x3 x4))))))))))))))
 (R (Mir.AV.n (Mir.D.int .u32 (Go.IntKind.wrap .u32 (4294967295 - x3))))))))))))))
theorem vc134 (a0 : Int) (a1 : ByteArray) (R : Mir.AV → Prop) : Vc Fs c134.body (argsQ c134 [(.n (.int .u32 a0)), (.n (.str a1))]) [] (endQ c134 R) = V134 a0 a1 R := by kernel_rfl
def V114 (a0 : List Mir.D) (R : Mir.AV → Prop) : Prop :=
 (∃ x0 : (Int → ((List Mir.D) → (Int → (Int → Prop)))),
 (∃ x1 : (Int → ((List Mir.D) → (Int → (Int → Nat)))),
 (((@Eq (List (Nat × Mir.Ob)) [] []) ∧
 (x0 0 a0 (((List.length a0) : Nat) : Int) 0)) ∧
 (∀ x2 : Int,
 (∀ x3 : (List Mir.D),
 (∀ x4 : Int,
 (∀ x5 : Int,
 ((x0 x2 x3 x4 x5) →
 (∀ x6 : (Nat → Mir.AV),
 (sel (decide (x5 < x4))
 (((1 : Nat) = 1) ∧
 (((0 : Int) ≤ x5) ∧
 (∃ x7 : Mir.D,
 ((((GetElem?.getElem? x3 (Int.toNat x5)) : (Option Mir.D)) = (some x7)) ∧
 (∃ x8 : ByteArray,
 ((((GetElem?.getElem? (Go.Mir.D.cells x7) 0) : (Option Mir.D)) = (some (Mir.D.str x8))) ∧
 (∃ x9 : Int,
 ((Runs Fs 139 [(Mir.AV.n (Mir.D.int .u32 x2)), (Mir.AV.n (Mir.D.str x8))] [] (Mir.AV.n (Mir.D.int .u32 x9)) []) ∧
 ((@Eq (List (Nat × Mir.Ob)) [] []) ∧
 ((x0 x9 x3 x4 (Go.IntKind.wrap .i64 (x5 + 1))) ∧
 (((x1 x9 x3 x4 (Go.IntKind.wrap .i64 (x5 + 1))) : Nat) < (x1 x2 x3 x4 x5))))))))))))
 (R (Mir.AV.n (Mir.D.int .u32 x2)))))))))))))
theorem vc114 (a0 : List Mir.D) (R : Mir.AV → Prop) : Vc Fs c114.body (argsQ c114 [(.o (.sl 1 a0))]) [] (endQ c114 R) = V114 a0 R := by kernel_rfl
def V112 (a0 : ByteArray) (R : Mir.AV → Prop) : Prop :=
 (∃ x0 : Int,
 ((Runs Fs 134 [(Mir.AV.n (Mir.D.int .u32 0)), (Mir.AV.n (Mir.D.str a0))] [] (Mir.AV.n (Mir.D.int .u32 x0)) []) ∧
 (R (Mir.AV.n (Mir.D.int .u32 x0)))))
theorem vc112 (a0 : ByteArray) (R : Mir.AV → Prop) : Vc Fs c112.body (argsQ c112 [(.n (.str a0))]) [] (endQ c112 R) = V112 a0 R := by kernel_rfl
def V89 (a0 : ByteArray) (R : Mir.AV → Prop) : Prop :=
 ((0 = 0) ∧
 (∃ x0 : Int,
 ((Runs Fs 114 [(Mir.AV.o (Mir.D.sl 1 [(Mir.D.str a0)]))] [] (Mir.AV.n (Mir.D.int .u32 x0)) []) ∧
 (((0 : Int) ≤ 8) ∧
 (((0 : Int) ≤ 16) ∧
 (((0 : Int) ≤ 24) ∧
 (((0 : Nat) = 0) ∧
 ((((1 : Nat) = 1) ∨ (@Eq (List Mir.D) [(Mir.D.int .u8 (Go.IntKind.wrap .u8 x0)), (Mir.D.int .u8 (Go.IntKind.wrap .u8 (Int.fdiv x0 (2 ^ (Min.min (Int.toNat 8) (Go.IntKind.bits .u32)))))), (Mir.D.int .u8 (Go.IntKind.wrap .u8 (Int.fdiv x0 (2 ^ (Min.min (Int.toNat 16) (Go.IntKind.bits .u32)))))), (Mir.D.int .u8 (Go.IntKind.wrap .u8 (Int.fdiv x0 (2 ^ (Min.min (Int.toNat 24) (Go.IntKind.bits .u32))))))] [])) ∧
 ((((List.all [(Mir.D.int .u8 (Go.IntKind.wrap .u8 x0)), (Mir.D.int .u8 (Go.IntKind.wrap .u8 (Int.fdiv x0 (2 ^ (Min.min (Int.toNat 8) (Go.IntKind.bits .u32)))))), (Mir.D.int .u8 (Go.IntKind.wrap .u8 (Int.fdiv x0 (2 ^ (Min.min (Int.toNat 16) (Go.IntKind.bits .u32)))))), (Mir.D.int .u8 (Go.IntKind.wrap .u8 (Int.fdiv x0 (2 ^ (Min.min (Int.toNat 24) (Go.IntKind.bits .u32))))))] Go.Mir.D.isU8) : Bool) = true) ∧
 ((0 = 0) ∧
 (∃ x1 : ByteArray,
 ((Runs Fs 52 [(Mir.AV.o (Mir.D.sl 1 [(Mir.D.str a0), (Mir.D.str (ByteArray.mk (List.toArray (List.map Go.Mir.byteOf [(Mir.D.int .u8 (Go.IntKind.wrap .u8 x0)), (Mir.D.int .u8 (Go.IntKind.wrap .u8 (Int.fdiv x0 (2 ^ (Min.min (Int.toNat 8) (Go.IntKind.bits .u32)))))), (Mir.D.int .u8 (Go.IntKind.wrap .u8 (Int.fdiv x0 (2 ^ (Min.min (Int.toNat 16) (Go.IntKind.bits .u32)))))), (Mir.D.int .u8 (Go.IntKind.wrap .u8 (Int.fdiv x0 (2 ^ (Min.min (Int.toNat 24) (Go.IntKind.bits .u32))))))]))))]))] [] (Mir.AV.n (Mir.D.str x1)) []) ∧
 (R (Mir.AV.n (Mir.D.str x1)))))))))))))))
theorem vc89 (a0 : ByteArray) (R : Mir.AV → Prop) : Vc Fs c89.body (argsQ c89 [(.n (.str a0))]) [] (endQ c89 R) = V89 a0 R := by kernel_rfl
def V83 (a0 : ByteArray) (R : Mir.AV → Prop) : Prop :=
 (∃ x0 : Int,
 ((Runs Fs 112 [(Mir.AV.n (Mir.D.str a0))] [] (Mir.AV.n (Mir.D.int .u32 x0)) []) ∧
 (((256 : Int) ≠ 0) ∧
 (((256 : Int) ≠ 0) ∧
 (((256 : Int) ≠ 0) ∧
 (((65536 : Int) ≠ 0) ∧
 (((256 : Int) ≠ 0) ∧
 (((16777216 : Int) ≠ 0) ∧
 (((0 : Nat) = 0) ∧
 ((((1 : Nat) = 1) ∨ (@Eq (List Mir.D) [(Mir.D.int .u8 (Go.IntKind.wrap .u8 (Int.tmod x0 256))), (Mir.D.int .u8 (Go.IntKind.wrap .u8 (Int.tmod (Go.IntKind.wrap .u32 (Int.tdiv x0 256)) 256))), (Mir.D.int .u8 (Go.IntKind.wrap .u8 (Int.tmod (Go.IntKind.wrap .u32 (Int.tdiv x0 65536)) 256))), (Mir.D.int .u8 (Go.IntKind.wrap .u8 (Go.IntKind.wrap .u32 (Int.tdiv x0 16777216))))] [])) ∧
 ((((List.all [(Mir.D.int .u8 (Go.IntKind.wrap .u8 (Int.tmod x0 256))), (Mir.D.int .u8 (Go.IntKind.wrap .u8 (Int.tmod (Go.IntKind.wrap .u32 (Int.tdiv x0 256)) 256))), (Mir.D.int .u8 (Go.IntKind.wrap .u8 (Int.tmod (Go.IntKind.wrap .u32 (Int.tdiv x0 65536)) 256))), (Mir.D.int .u8 (Go.IntKind.wrap .u8 (Go.IntKind.wrap .u32 (Int.tdiv x0 16777216))))] Go.Mir.D.isU8) : Bool) = true) ∧
 (((((((ByteArray.size a0) + (ByteArray.size (ByteArray.mk (List.toArray (List.map Go.Mir.byteOf [(Mir.D.int .u8 (Go.IntKind.wrap .u8 (Int.tmod x0 256))), (Mir.D.int .u8 (Go.IntKind.wrap .u8 (Int.tmod (Go.IntKind.wrap .u32 (Int.tdiv x0 256)) 256))), (Mir.D.int .u8 (Go.IntKind.wrap .u8 (Int.tmod (Go.IntKind.wrap .u32 (Int.tdiv x0 65536)) 256))), (Mir.D.int .u8 (Go.IntKind.wrap .u8 (Go.IntKind.wrap .u32 (Int.tdiv x0 16777216))))]))))) : Nat) : Int) : Int) ≤ 9223372036854775807) ∧
 (R (Mir.AV.n (Mir.D.str (a0 ++ (ByteArray.mk (List.toArray (List.map Go.Mir.byteOf [(Mir.D.int .u8 (Go.IntKind.wrap .u8 (Int.tmod x0 256))), (Mir.D.int .u8 (Go.IntKind.wrap .u8 (Int.tmod (Go.IntKind.wrap .u32 (Int.tdiv x0 256)) 256))), (Mir.D.int .u8 (Go.IntKind.wrap .u8 (Int.tmod (Go.IntKind.wrap .u32 (Int.tdiv x0 65536)) 256))), (Mir.D.int .u8 (Go.IntKind.wrap .u8 (Go.IntKind.wrap .u32 (Int.tdiv x0 16777216))))])))))))))))))))))))
theorem vc83 (a0 : ByteArray) (R : Mir.AV → Prop) : Vc Fs c83.body (argsQ c83 [(.n (.str a0))]) [] (endQ c83 R) = V83 a0 R := by kernel_rfl
def V87 (a0_0 : Int) (a0_1 : Int) (a0_2 : ByteArray) (R : Mir.AV → Prop) : Prop :=
 (sel (decide (a0_0 ≥ 1))
 (sel (decide (a0_0 ≤ 5))
 (sel (decide (a0_1 ≥ 0))
 (sel (decide (a0_1 ≤ 1099511627776))
 (R (Mir.AV.n (Mir.D.bool (decide ((((ByteArray.size a0_2) : Nat) : Int) ≤ 4000)))))
 (R (Mir.AV.n (Mir.D.bool false))))
 (R (Mir.AV.n (Mir.D.bool false))))
 (R (Mir.AV.n (Mir.D.bool false))))
 (R (Mir.AV.n (Mir.D.bool false))))
theorem vc87 (a0_0 : Int) (a0_1 : Int) (a0_2 : ByteArray) (R : Mir.AV → Prop) : Vc Fs c87.body (argsQ c87 [(.agg [(.n (.int .i64 a0_0)), (.n (.int .i64 a0_1)), (.n (.str a0_2))])]) [] (endQ c87 R) = V87 a0_0 a0_1 a0_2 R := by kernel_rfl
def V85 (a0_0 : Int) (a0_1 : Int) (a0_2 : ByteArray) (R : Mir.AV → Prop) : Prop :=
 (sel (decide (a0_0 ≥ 1))
 (sel (decide (a0_0 ≤ 5))
 (sel (decide (a0_1 ≥ 0))
 (sel (decide (a0_1 ≤ 1099511627776))
 (R (Mir.AV.n (Mir.D.bool (decide ((((ByteArray.size a0_2) : Nat) : Int) ≤ 4000)))))
 (R (Mir.AV.n (Mir.D.bool false))))
 (R (Mir.AV.n (Mir.D.bool false))))
 (R (Mir.AV.n (Mir.D.bool false))))
 (R (Mir.AV.n (Mir.D.bool false))))
theorem vc85 (a0_0 : Int) (a0_1 : Int) (a0_2 : ByteArray) (R : Mir.AV → Prop) : Vc Fs c85.body (argsQ c85 [(.agg [(.n (.int .i64 a0_0)), (.n (.int .i64 a0_1)), (.n (.str a0_2))])]) [] (endQ c85 R) = V85 a0_0 a0_1 a0_2 R := by kernel_rfl
def V51 (a0_0 : Int) (a0_1 : Int) (a0_2 : ByteArray) (R : Mir.AV → Prop) : Prop :=
 (∃ x0 : Bool,
 ((Runs Fs 87 [(Mir.AV.agg [(Mir.AV.n (Mir.D.int .i64 a0_0)), (Mir.AV.n (Mir.D.int .i64 a0_1)), (Mir.AV.n (Mir.D.str a0_2))])] [] (Mir.AV.n (Mir.D.bool x0)) []) ∧
 (sel (Bool.not x0)
 (R (Mir.AV.tup [(Mir.AV.n (Mir.D.str (ByteArray.mk (List.toArray [])))), (Mir.AV.n (Mir.D.int .i64 1))]))
 (∃ x1 : ByteArray,
 (∃ x2 : Int,
 ((Runs Fs 50 [(Mir.AV.n (Mir.D.int .i64 a0_0)), (Mir.AV.n (Mir.D.int .i64 1))] [] (Mir.AV.tup [(Mir.AV.n (Mir.D.str x1)), (Mir.AV.n (Mir.D.int .i64 x2))]) []) ∧
 (∃ x3 : ByteArray,
 (∃ x4 : Int,
 ((Runs Fs 50 [(Mir.AV.n (Mir.D.int .i64 a0_1)), (Mir.AV.n (Mir.D.int .i64 6))] [] (Mir.AV.tup [(Mir.AV.n (Mir.D.str x3)), (Mir.AV.n (Mir.D.int .i64 x4))]) []) ∧
 (∃ x5 : ByteArray,
 (∃ x6 : Int,
 ((Runs Fs 62 [(Mir.AV.n (Mir.D.str a0_2))] [] (Mir.AV.tup [(Mir.AV.n (Mir.D.str x5)), (Mir.AV.n (Mir.D.int .i64 x6))]) []) ∧
 ((0 = 0) ∧
 (∃ x7 : ByteArray,
 ((Runs Fs 52 [(Mir.AV.o (Mir.D.sl 1 [(Mir.D.str x1), (Mir.D.str x3), (Mir.D.str x5)]))] [] (Mir.AV.n (Mir.D.str x7)) []) ∧
 (∃ x8 : ByteArray,
 ((Runs Fs 89 [(Mir.AV.n (Mir.D.str x7))] [] (Mir.AV.n (Mir.D.str x8)) []) ∧
 (∃ x9 : ByteArray,
 ((Runs Fs 88 [(Mir.AV.n (Mir.D.str x8))] [] (Mir.AV.n (Mir.D.str x9)) []) ∧
 (R (Mir.AV.tup [(Mir.AV.n (Mir.D.str x9)), (Mir.AV.n (Mir.D.int .i64 0))])))))))))))))))))))))
theorem vc51 (a0_0 : Int) (a0_1 : Int) (a0_2 : ByteArray) (R : Mir.AV → Prop) : Vc Fs c51.body (argsQ c51 [(.agg [(.n (.int .i64 a0_0)), (.n (.int .i64 a0_1)), (.n (.str a0_2))])]) [] (endQ c51 R) = V51 a0_0 a0_1 a0_2 R := by kernel_rfl
def V57 (a0_0 : Int) (a0_1 : Int) (a0_2 : ByteArray) (R : Mir.AV → Prop) : Prop :=
 (∃ x0 : ByteArray,
 (∃ x1 : Int,
 ((Runs Fs 96 [(Mir.AV.n (Mir.D.int .i64 a0_0)), (Mir.AV.n (Mir.D.int .i64 1))] [] (Mir.AV.tup [(Mir.AV.n (Mir.D.str x0)), (Mir.AV.n (Mir.D.int .i64 x1))]) []) ∧
 (∃ x2 : ByteArray,
 (∃ x3 : Int,
 ((Runs Fs 96 [(Mir.AV.n (Mir.D.int .i64 a0_1)), (Mir.AV.n (Mir.D.int .i64 6))] [] (Mir.AV.tup [(Mir.AV.n (Mir.D.str x2)), (Mir.AV.n (Mir.D.int .i64 x3))]) []) ∧
 (∃ x4 : ByteArray,
 (∃ x5 : Int,
 ((Runs Fs 97 [(Mir.AV.n (Mir.D.str a0_2))] [] (Mir.AV.tup [(Mir.AV.n (Mir.D.str x4)), (Mir.AV.n (Mir.D.int .i64 x5))]) []) ∧
 (((((((ByteArray.size x0) + (ByteArray.size x2)) : Nat) : Int) : Int) ≤ 9223372036854775807) ∧
 (((((((ByteArray.size (x0 ++ x2)) + (ByteArray.size x4)) : Nat) : Int) : Int) ≤ 9223372036854775807) ∧
 (∃ x6 : ByteArray,
 ((Runs Fs 83 [(Mir.AV.n (Mir.D.str ((x0 ++ x2) ++ x4)))] [] (Mir.AV.n (Mir.D.str x6)) []) ∧
 (∃ x7 : ByteArray,
 ((Runs Fs 86 [(Mir.AV.n (Mir.D.str x6))] [] (Mir.AV.n (Mir.D.str x7)) []) ∧
 (R (Mir.AV.n (Mir.D.str x7))))))))))))))))))
theorem vc57 (a0_0 : Int) (a0_1 : Int) (a0_2 : ByteArray) (R : Mir.AV → Prop) : Vc Fs c57.body (argsQ c57 [(.agg [(.n (.int .i64 a0_0)), (.n (.int .i64 a0_1)), (.n (.str a0_2))])]) [] (endQ c57 R) = V57 a0_0 a0_1 a0_2 R := by kernel_rfl
def V110 (a0 : ByteArray) (R : Mir.AV → Prop) : Prop :=
 (sel (decide ((Go.IntKind.wrap .i64 ((((ByteArray.size a0) : Nat) : Int) - 4)) < 0))
 (R (Mir.AV.tup [(Mir.AV.n (Mir.D.str (ByteArray.mk (List.toArray [])))), (Mir.AV.n (Mir.D.int .i64 3))]))
 (((0 : Int) ≤ (Go.IntKind.wrap .i64 ((((ByteArray.size a0) : Nat) : Int) - 4))) ∧
 ((((Go.IntKind.wrap .i64 ((((ByteArray.size a0) : Nat) : Int) - 4)) : Int) ≤ (((ByteArray.size a0) : Nat) : Int)) ∧
 (∃ x0 : ByteArray,
 ((Runs Fs 89 [(Mir.AV.n (Mir.D.str (ByteArray.extract a0 0 (Int.toNat (Go.IntKind.wrap .i64 ((((ByteArray.size a0) : Nat) : Int) - 4))))))] [] (Mir.AV.n (Mir.D.str x0)) []) ∧
 (sel (Bool.not ((ByteArray.toList x0) == (ByteArray.toList a0)))
 (R (Mir.AV.tup [(Mir.AV.n (Mir.D.str (ByteArray.mk (List.toArray [])))), (Mir.AV.n (Mir.D.int .i64 41))]))
 (((0 : Int) ≤ (Go.IntKind.wrap .i64 ((((ByteArray.size a0) : Nat) : Int) - 4))) ∧
 ((((Go.IntKind.wrap .i64 ((((ByteArray.size a0) : Nat) : Int) - 4)) : Int) ≤ (((ByteArray.size a0) : Nat) : Int)) ∧
 (R (Mir.AV.tup [(Mir.AV.n (Mir.D.str (ByteArray.extract a0 0 (Int.toNat (Go.IntKind.wrap .i64 ((((ByteArray.size a0) : Nat) : Int) - 4)))))), (Mir.AV.n (Mir.D.int .i64 0))]))))))))))
theorem vc110 (a0 : ByteArray) (R : Mir.AV → Prop) : Vc Fs c110.body (argsQ c110 [(.n (.str a0))]) [] (endQ c110 R) = V110 a0 R := by kernel_rfl
def V80 (a0 : ByteArray) (R : Mir.AV → Prop) : Prop :=
 (∃ x0 : ByteArray,
 (∃ x1 : Int,
 ((Runs Fs 109 [(Mir.AV.n (Mir.D.str a0)), (Mir.AV.n (Mir.D.int .i64 4096))] [] (Mir.AV.tup [(Mir.AV.n (Mir.D.str x0)), (Mir.AV.n (Mir.D.int .i64 x1))]) []) ∧
 (sel (x1 != 0)
 (R (Mir.AV.tup [(Mir.AV.agg [(Mir.AV.n (Mir.D.int .i64 0)), (Mir.AV.n (Mir.D.int .i64 0)), (Mir.AV.n (Mir.D.str (ByteArray.mk (List.toArray []))))]), (Mir.AV.n (Mir.D.int .i64 1))]))
 (∃ x2 : Int,
 (∃ x3 : Int,
 (∃ x4 : Int,
 ((Runs Fs 48 [(Mir.AV.n (Mir.D.str x0)), (Mir.AV.n (Mir.D.int .i64 7)), (Mir.AV.n (Mir.D.int .i64 2))] [] (Mir.AV.tup [(Mir.AV.n (Mir.D.int .i64 x2)), (Mir.AV.n (Mir.D.int .i64 x3)), (Mir.AV.n (Mir.D.int .i64 x4))]) []) ∧
 (sel (decide (x2 > 4000))
 (R (Mir.AV.tup [(Mir.AV.agg [(Mir.AV.n (Mir.D.int .i64 0)), (Mir.AV.n (Mir.D.int .i64 0)), (Mir.AV.n (Mir.D.str (ByteArray.mk (List.toArray []))))]), (Mir.AV.n (Mir.D.int .i64 4))]))
 (((0 : Int) ≤ (Go.IntKind.wrap .i64 ((Go.IntKind.wrap .i64 (9 + x2)) + 4))) ∧
 ((((Go.IntKind.wrap .i64 ((Go.IntKind.wrap .i64 (9 + x2)) + 4)) : Int) ≤ (((ByteArray.size x0) : Nat) : Int)) ∧
 (∃ x5 : ByteArray,
 (∃ x6 : Int,
 ((Runs Fs 110 [(Mir.AV.n (Mir.D.str (ByteArray.extract x0 0 (Int.toNat (Go.IntKind.wrap .i64 ((Go.IntKind.wrap .i64 (9 + x2)) + 4))))))] [] (Mir.AV.tup [(Mir.AV.n (Mir.D.str x5)), (Mir.AV.n (Mir.D.int .i64 x6))]) []) ∧
 (sel (x6 != 0)
 (R (Mir.AV.tup [(Mir.AV.agg [(Mir.AV.n (Mir.D.int .i64 0)), (Mir.AV.n (Mir.D.int .i64 0)), (Mir.AV.n (Mir.D.str (ByteArray.mk (List.toArray []))))]), (Mir.AV.n (Mir.D.int .i64 x6))]))
 (∃ x7 : Int,
 (∃ x8 : Int,
 (∃ x9 : Int,
 ((Runs Fs 48 [(Mir.AV.n (Mir.D.str x5)), (Mir.AV.n (Mir.D.int .i64 0)), (Mir.AV.n (Mir.D.int .i64 1))] [] (Mir.AV.tup [(Mir.AV.n (Mir.D.int .i64 x7)), (Mir.AV.n (Mir.D.int .i64 x8)), (Mir.AV.n (Mir.D.int .i64 x9))]) []) ∧
 (∃ x10 : Int,
 (∃ x11 : Int,
 (∃ x12 : Int,
 ((Runs Fs 48 [(Mir.AV.n (Mir.D.str x5)), (Mir.AV.n (Mir.D.int .i64 x8)), (Mir.AV.n (Mir.D.int .i64 6))] [] (Mir.AV.tup [(Mir.AV.n (Mir.D.int .i64 x10)), (Mir.AV.n (Mir.D.int .i64 x11)), (Mir.AV.n (Mir.D.int .i64 x12))]) []) ∧
 (((0 : Int) ≤ 9) ∧
 (((9 : Int) ≤ (((ByteArray.size x5) : Nat) : Int)) ∧
 (sel (decide (x7 < 1))
 (R (Mir.AV.tup [(Mir.AV.agg [(Mir.AV.n (Mir.D.int .i64 0)), (Mir.AV.n (Mir.D.int .i64 0)), (Mir.AV.n (Mir.D.str (ByteArray.mk (List.toArray []))))]), (Mir.AV.n (Mir.D.int .i64 40))]))
 (sel (decide (x7 > 5))
 (R (Mir.AV.tup [(Mir.AV.agg [(Mir.AV.n (Mir.D.int .i64 0)), (Mir.AV.n (Mir.D.int .i64 0)), (Mir.AV.n (Mir.D.str (ByteArray.mk (List.toArray []))))]), (Mir.AV.n (Mir.D.int .i64 40))]))
 (∃ x13 : Bool,
 ((Runs Fs 87 [(Mir.AV.agg [(Mir.AV.n (Mir.D.int .i64 x7)), (Mir.AV.n (Mir.D.int .i64 x10)), (Mir.AV.n (Mir.D.str (ByteArray.extract x5 (Int.toNat 9) (ByteArray.size x5))))])] [] (Mir.AV.n (Mir.D.bool x13)) []) ∧
 (sel (Bool.not x13)
 (R (Mir.AV.tup [(Mir.AV.agg [(Mir.AV.n (Mir.D.int .i64 0)), (Mir.AV.n (Mir.D.int .i64 0)), (Mir.AV.n (Mir.D.str (ByteArray.mk (List.toArray []))))]), (Mir.AV.n (Mir.D.int .i64 4))]))
 (((0 : Int) ≤ (Go.IntKind.wrap .i64 ((Go.IntKind.wrap .i64 (9 + x2)) + 4))) ∧
 ((((Go.IntKind.wrap .i64 ((Go.IntKind.wrap .i64 (9 + x2)) + 4)) : Int) ≤ (((ByteArray.size x0) : Nat) : Int)) ∧
 (∃ x14 : ByteArray,
 ((Runs Fs 88 [(Mir.AV.n (Mir.D.str (ByteArray.extract x0 (Int.toNat (Go.IntKind.wrap .i64 ((Go.IntKind.wrap .i64 (9 + x2)) + 4))) (ByteArray.size x0))))] [] (Mir.AV.n (Mir.D.str x14)) []) ∧
 (sel (Bool.not ((ByteArray.toList x14) == (ByteArray.toList (ByteArray.mk (List.toArray [])))))
 (R (Mir.AV.tup [(Mir.AV.agg [(Mir.AV.n (Mir.D.int .i64 0)), (Mir.AV.n (Mir.D.int .i64 0)), (Mir.AV.n (Mir.D.str (ByteArray.mk (List.toArray []))))]), (Mir.AV.n (Mir.D.int .i64 4))]))
 (R (Mir.AV.tup [(Mir.AV.agg [(Mir.AV.n (Mir.D.int .i64 x7)), (Mir.AV.n (Mir.D.int .i64 x10)), (Mir.AV.n (Mir.D.str (ByteArray.extract x5 (Int.toNat 9) (ByteArray.size x5))))]), (Mir.AV.n (Mir.D.int .i64 0))])))))))))))))))))))))))))))))))))))))
theorem vc80 (a0 : ByteArray) (R : Mir.AV → Prop) : Vc Fs c80.body (argsQ c80 [(.n (.str a0))]) [] (endQ c80 R) = V80 a0 R := by kernel_rfl
def V49 (a0 : ByteArray) (R : Mir.AV → Prop) : Prop :=
 (sel (decide ((((ByteArray.size a0) : Nat) : Int) > 4096))
 (R (Mir.AV.tup [(Mir.AV.agg [(Mir.AV.n (Mir.D.int .i64 0)), (Mir.AV.n (Mir.D.int .i64 0)), (Mir.AV.n (Mir.D.str (ByteArray.mk (List.toArray []))))]), (Mir.AV.n (Mir.D.int .i64 1))]))
 (∃ x0 : ByteArray,
 (∃ x1 : Int,
 ((Runs Fs 82 [(Mir.AV.n (Mir.D.str a0)), (Mir.AV.n (Mir.D.int .i64 4096))] [] (Mir.AV.tup [(Mir.AV.n (Mir.D.str x0)), (Mir.AV.n (Mir.D.int .i64 x1))]) []) ∧
 (((0 : Int) ≤ 7) ∧
 (∃ x2 : UInt8,
 ((((GetElem?.getElem? (Array.toList (ByteArray.data x0)) (Int.toNat 7)) : (Option UInt8)) = (some x2)) ∧
 (((0 : Int) ≤ 8) ∧
 (∃ x3 : UInt8,
 ((((GetElem?.getElem? (Array.toList (ByteArray.data x0)) (Int.toNat 8)) : (Option UInt8)) = (some x3)) ∧
 (sel (decide ((Go.IntKind.wrap .i64 ((Go.IntKind.wrap .i64 (256 * (Go.IntKind.wrap .i64 (((UInt8.toNat x2) : Nat) : Int)))) + (Go.IntKind.wrap .i64 (((UInt8.toNat x3) : Nat) : Int)))) > 4000))
 (R (Mir.AV.tup [(Mir.AV.agg [(Mir.AV.n (Mir.D.int .i64 0)), (Mir.AV.n (Mir.D.int .i64 0)), (Mir.AV.n (Mir.D.str (ByteArray.mk (List.toArray []))))]), (Mir.AV.n (Mir.D.int .i64 4))]))
 (((0 : Int) ≤ (Go.IntKind.wrap .i64 (9 + (Go.IntKind.wrap .i64 ((Go.IntKind.wrap .i64 (256 * (Go.IntKind.wrap .i64 (((UInt8.toNat x2) : Nat) : Int)))) + (Go.IntKind.wrap .i64 (((UInt8.toNat x3) : Nat) : Int))))))) ∧
 ((((Go.IntKind.wrap .i64 (9 + (Go.IntKind.wrap .i64 ((Go.IntKind.wrap .i64 (256 * (Go.IntKind.wrap .i64 (((UInt8.toNat x2) : Nat) : Int)))) + (Go.IntKind.wrap .i64 (((UInt8.toNat x3) : Nat) : Int)))))) : Int) ≤ (((ByteArray.size x0) : Nat) : Int)) ∧
 (∃ x4 : ByteArray,
 ((Runs Fs 83 [(Mir.AV.n (Mir.D.str (ByteArray.extract x0 0 (Int.toNat (Go.IntKind.wrap .i64 (9 + (Go.IntKind.wrap .i64 ((Go.IntKind.wrap .i64 (256 * (Go.IntKind.wrap .i64 (((UInt8.toNat x2) : Nat) : Int)))) + (Go.IntKind.wrap .i64 (((UInt8.toNat x3) : Nat) : Int))))))))))] [] (Mir.AV.n (Mir.D.str x4)) []) ∧
 (((0 : Int) ≤ (Go.IntKind.wrap .i64 (13 + (Go.IntKind.wrap .i64 ((Go.IntKind.wrap .i64 (256 * (Go.IntKind.wrap .i64 (((UInt8.toNat x2) : Nat) : Int)))) + (Go.IntKind.wrap .i64 (((UInt8.toNat x3) : Nat) : Int))))))) ∧
 ((((Go.IntKind.wrap .i64 (13 + (Go.IntKind.wrap .i64 ((Go.IntKind.wrap .i64 (256 * (Go.IntKind.wrap .i64 (((UInt8.toNat x2) : Nat) : Int)))) + (Go.IntKind.wrap .i64 (((UInt8.toNat x3) : Nat) : Int)))))) : Int) ≤ (((ByteArray.size x0) : Nat) : Int)) ∧
 (sel (Bool.not ((ByteArray.toList x4) == (ByteArray.toList (ByteArray.extract x0 0 (Int.toNat (Go.IntKind.wrap .i64 (13 + (Go.IntKind.wrap .i64 ((Go.IntKind.wrap .i64 (256 * (Go.IntKind.wrap .i64 (((UInt8.toNat x2) : Nat) : Int)))) + (Go.IntKind.wrap .i64 (((UInt8.toNat x3) : Nat) : Int)))))))))))
 (R (Mir.AV.tup [(Mir.AV.agg [(Mir.AV.n (Mir.D.int .i64 0)), (Mir.AV.n (Mir.D.int .i64 0)), (Mir.AV.n (Mir.D.str (ByteArray.mk (List.toArray []))))]), (Mir.AV.n (Mir.D.int .i64 41))]))
 (∃ x5 : Int,
 (∃ x6 : Int,
 (∃ x7 : Int,
 ((Runs Fs 84 [(Mir.AV.n (Mir.D.str x0)), (Mir.AV.n (Mir.D.int .i64 1)), (Mir.AV.n (Mir.D.int .i64 6))] [] (Mir.AV.tup [(Mir.AV.n (Mir.D.int .i64 x5)), (Mir.AV.n (Mir.D.int .i64 x6)), (Mir.AV.n (Mir.D.int .i64 x7))]) []) ∧
 (((0 : Int) ≤ 0) ∧
 (∃ x8 : UInt8,
 ((((GetElem?.getElem? (Array.toList (ByteArray.data x0)) (Int.toNat 0)) : (Option UInt8)) = (some x8)) ∧
 (((0 : Int) ≤ (Go.IntKind.wrap .i64 (9 + (Go.IntKind.wrap .i64 ((Go.IntKind.wrap .i64 (256 * (Go.IntKind.wrap .i64 (((UInt8.toNat x2) : Nat) : Int)))) + (Go.IntKind.wrap .i64 (((UInt8.toNat x3) : Nat) : Int))))))) ∧
 ((((Go.IntKind.wrap .i64 (9 + (Go.IntKind.wrap .i64 ((Go.IntKind.wrap .i64 (256 * (Go.IntKind.wrap .i64 (((UInt8.toNat x2) : Nat) : Int)))) + (Go.IntKind.wrap .i64 (((UInt8.toNat x3) : Nat) : Int)))))) : Int) ≤ (((ByteArray.size x0) : Nat) : Int)) ∧
 (((0 : Int) ≤ 9) ∧
 (((9 : Int) ≤ (((Int.toNat (Go.IntKind.wrap .i64 (9 + (Go.IntKind.wrap .i64 ((Go.IntKind.wrap .i64 (256 * (Go.IntKind.wrap .i64 (((UInt8.toNat x2) : Nat) : Int)))) + (Go.IntKind.wrap .i64 (((UInt8.toNat x3) : Nat) : Int))))))) : Nat) : Int)) ∧
 (sel (decide ((Go.IntKind.wrap .i64 (((UInt8.toNat x8) : Nat) : Int)) < 1))
 (R (Mir.AV.tup [(Mir.AV.agg [(Mir.AV.n (Mir.D.int .i64 0)), (Mir.AV.n (Mir.D.int .i64 0)), (Mir.AV.n (Mir.D.str (ByteArray.mk (List.toArray []))))]), (Mir.AV.n (Mir.D.int .i64 40))]))
 (sel (decide ((Go.IntKind.wrap .i64 (((UInt8.toNat x8) : Nat) : Int)) > 5))
 (R (Mir.AV.tup [(Mir.AV.agg [(Mir.AV.n (Mir.D.int .i64 0)), (Mir.AV.n (Mir.D.int .i64 0)), (Mir.AV.n (Mir.D.str (ByteArray.mk (List.toArray []))))]), (Mir.AV.n (Mir.D.int .i64 40))]))
 (∃ x9 : Bool,
 ((Runs Fs 85 [(Mir.AV.agg [(Mir.AV.n (Mir.D.int .i64 (Go.IntKind.wrap .i64 (((UInt8.toNat x8) : Nat) : Int)))), (Mir.AV.n (Mir.D.int .i64 x5)), (Mir.AV.n (Mir.D.str (ByteArray.extract x0 (Int.toNat 9) (Int.toNat (Go.IntKind.wrap .i64 (9 + (Go.IntKind.wrap .i64 ((Go.IntKind.wrap .i64 (256 * (Go.IntKind.wrap .i64 (((UInt8.toNat x2) : Nat) : Int)))) + (Go.IntKind.wrap .i64 (((UInt8.toNat x3) : Nat) : Int))))))))))])] [] (Mir.AV.n (Mir.D.bool x9)) []) ∧
 (sel (Bool.not x9)
 (R (Mir.AV.tup [(Mir.AV.agg [(Mir.AV.n (Mir.D.int .i64 0)), (Mir.AV.n (Mir.D.int .i64 0)), (Mir.AV.n (Mir.D.str (ByteArray.mk (List.toArray []))))]), (Mir.AV.n (Mir.D.int .i64 4))]))
 (((0 : Int) ≤ (Go.IntKind.wrap .i64 (13 + (Go.IntKind.wrap .i64 ((Go.IntKind.wrap .i64 (256 * (Go.IntKind.wrap .i64 (((UInt8.toNat x2) : Nat) : Int)))) + (Go.IntKind.wrap .i64 (((UInt8.toNat x3) : Nat) : Int))))))) ∧
 ((((Go.IntKind.wrap .i64 (13 + (Go.IntKind.wrap .i64 ((Go.IntKind.wrap .i64 (256 * (Go.IntKind.wrap .i64 (((UInt8.toNat x2) : Nat) : Int)))) + (Go.IntKind.wrap .i64 (((UInt8.toNat x3) : Nat) : Int)))))) : Int) ≤ (((ByteArray.size x0) : Nat) : Int)) ∧
 (∃ x10 : ByteArray,
 ((Runs Fs 86 [(Mir.AV.n (Mir.D.str (ByteArray.extract x0 (Int.toNat (Go.IntKind.wrap .i64 (13 + (Go.IntKind.wrap .i64 ((Go.IntKind.wrap .i64 (256 * (Go.IntKind.wrap .i64 (((UInt8.toNat x2) : Nat) : Int)))) + (Go.IntKind.wrap .i64 (((UInt8.toNat x3) : Nat) : Int))))))) (ByteArray.size x0))))] [] (Mir.AV.n (Mir.D.str x10)) []) ∧
 (sel (Bool.not ((ByteArray.toList x10) == (ByteArray.toList (ByteArray.mk (List.toArray [])))))
 (R (Mir.AV.tup [(Mir.AV.agg [(Mir.AV.n (Mir.D.int .i64 0)), (Mir.AV.n (Mir.D.int .i64 0)), (Mir.AV.n (Mir.D.str (ByteArray.mk (List.toArray []))))]), (Mir.AV.n (Mir.D.int .i64 4))]))
 (R (Mir.AV.tup [(Mir.AV.agg [(Mir.AV.n (Mir.D.int .i64 (Go.IntKind.wrap .i64 (((UInt8.toNat x8) : Nat) : Int)))), (Mir.AV.n (Mir.D.int .i64 x5)), (Mir.AV.n (Mir.D.str (ByteArray.extract x0 (Int.toNat 9) (Int.toNat (Go.IntKind.wrap .i64 (9 + (Go.IntKind.wrap .i64 ((Go.IntKind.wrap .i64 (256 * (Go.IntKind.wrap .i64 (((UInt8.toNat x2) : Nat) : Int)))) + (Go.IntKind.wrap .i64 (((UInt8.toNat x3) : Nat) : Int))))))))))]), (Mir.AV.n (Mir.D.int .i64 0))])))))))))))))))))))))))))))))))))))))))))
theorem vc49 (a0 : ByteArray) (R : Mir.AV → Prop) : Vc Fs c49.body (argsQ c49 [(.n (.str a0))]) [] (endQ c49 R) = V49 a0 R := by kernel_rfl
def V111 (a0 : List Mir.D) (a1 : Int) (R : Mir.AV → Prop) : Prop :=
 (∃ x0 : ((List Mir.D) → (Int → (Int → (Int → Prop)))),
 (∃ x1 : ((List Mir.D) → (Int → (Int → (Int → Nat)))),
 (((@Eq (List (Nat × Mir.Ob)) [] []) ∧
 (x0 a0 a1 (((List.length a0) : Nat) : Int) 0)) ∧
 (∀ x2 : (List Mir.D),
 (∀ x3 : Int,
 (∀ x4 : Int,
 (∀ x5 : Int,
 ((x0 x2 x3 x4 x5) →
 (∀ x6 : (Nat → Mir.AV),
 (sel (decide (x5 < x4))
 (((1 : Nat) = 1) ∧
 (((0 : Int) ≤ x5) ∧
 (∃ x7 : Mir.D,
 ((((GetElem?.getElem? x2 (Int.toNat x5)) : (Option Mir.D)) = (some x7)) ∧
 (∃ x8 : Int,
 ((((GetElem?.getElem? (Go.Mir.D.cells x7) 0) : (Option Mir.D)) = (some (Mir.D.int .i64 x8))) ∧
 (sel (x3 == x8)
 (R (Mir.AV.n (Mir.D.int .i64 x5)))
 ((@Eq (List (Nat × Mir.Ob)) [] []) ∧
 ((x0 x2 x3 x4 (Go.IntKind.wrap .i64 (x5 + 1))) ∧
 (((x1 x2 x3 x4 (Go.IntKind.wrap .i64 (x5 + 1))) : Nat) < (x1 x2 x3 x4 x5)))))))))))
 (R (Mir.AV.n (Mir.D.int .i64 (-1))))))))))))))
theorem vc111 (a0 : List Mir.D) (a1 : Int) (R : Mir.AV → Prop) : Vc Fs c111.body (argsQ c111 [(.o (.sl 1 a0)), (.n (.int .i64 a1))]) [] (endQ c111 R) = V111 a0 a1 R := by kernel_rfl
def V81 (a0 : List Mir.D) (a1 : Int) (R : Mir.AV → Prop) : Prop :=
 (∃ x0 : Int,
 ((Runs Fs 111 [(Mir.AV.o (Mir.D.sl 1 a0)), (Mir.AV.n (Mir.D.int .i64 a1))] [] (Mir.AV.n (Mir.D.int .i64 x0)) []) ∧
 (R (Mir.AV.n (Mir.D.bool (decide (x0 ≥ 0)))))))
theorem vc81 (a0 : List Mir.D) (a1 : Int) (R : Mir.AV → Prop) : Vc Fs c81.body (argsQ c81 [(.o (.sl 1 a0)), (.n (.int .i64 a1))]) [] (endQ c81 R) = V81 a0 a1 R := by kernel_rfl
def V47 (a0 : ByteArray) (a1 : List Mir.D) (R : Mir.AV → Prop) : Prop :=
 (∃ x0 : Int,
 (∃ x1 : Int,
 (∃ x2 : ByteArray,
 (∃ x3 : Int,
 ((Runs Fs 80 [(Mir.AV.n (Mir.D.str a0))] [] (Mir.AV.tup [(Mir.AV.agg [(Mir.AV.n (Mir.D.int .i64 x0)), (Mir.AV.n (Mir.D.int .i64 x1)), (Mir.AV.n (Mir.D.str x2))]), (Mir.AV.n (Mir.D.int .i64 x3))]) []) ∧
 (sel (x3 != 0)
 (R (Mir.AV.tup [(Mir.AV.agg [(Mir.AV.n (Mir.D.int .i64 0)), (Mir.AV.n (Mir.D.int .i64 0)), (Mir.AV.n (Mir.D.str (ByteArray.mk (List.toArray []))))]), (Mir.AV.n (Mir.D.int .i64 x3))]))
 (∃ x4 : Bool,
 ((Runs Fs 81 [(Mir.AV.o (Mir.D.sl 1 a1)), (Mir.AV.n (Mir.D.int .i64 x0))] [] (Mir.AV.n (Mir.D.bool x4)) []) ∧
 (sel (Bool.not x4)
 (R (Mir.AV.tup [(Mir.AV.agg [(Mir.AV.n (Mir.D.int .i64 0)), (Mir.AV.n (Mir.D.int .i64 0)), (Mir.AV.n (Mir.D.str (ByteArray.mk (List.toArray []))))]), (Mir.AV.n (Mir.D.int .i64 40))]))
 (R (Mir.AV.tup [(Mir.AV.agg [(Mir.AV.n (Mir.D.int .i64 x0)), (Mir.AV.n (Mir.D.int .i64 x1)), (Mir.AV.n (Mir.D.str x2))]), (Mir.AV.n (Mir.D.int .i64 0))])))))))))))
theorem vc47 (a0 : ByteArray) (a1 : List Mir.D) (R : Mir.AV → Prop) : Vc Fs c47.body (argsQ c47 [(.n (.str a0)), (.o (.sl 1 a1))]) [] (endQ c47 R) = V47 a0 a1 R := by kernel_rfl

end Go.Proofs.YtmmnobdpccdeoaaDoor.M
