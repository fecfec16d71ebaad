import Derived.Test.YtmmnobdpccdeoaaDoorR3Fun
namespace Go.Proofs.YtmmnobdpccdeoaaDoor.M
set_option linter.unusedVariables false
set_option linter.unusedSimpArgs false
open Go Go.Mir
set_option linter.unusedVariables false
def V65 (a0 : ByteArray) (a1 : Int) (R : Mir.AV → Prop) : Prop :=
 (∃ x0 : Int,
 (∃ x1 : Int,
 (∃ x2 : Int,
 ((Runs Fs 48 [(Mir.AV.n (Mir.D.str a0)), (Mir.AV.n (Mir.D.int .i64 a1)), (Mir.AV.n (Mir.D.int .i64 2))] [] (Mir.AV.tup [(Mir.AV.n (Mir.D.int .i64 x0)), (Mir.AV.n (Mir.D.int .i64 x1)), (Mir.AV.n (Mir.D.int .i64 x2))]) []) ∧
 (sel (x2 != 0)
 (R (Mir.AV.tup [(Mir.AV.n (Mir.D.str (ByteArray.mk (List.toArray [])))), (Mir.AV.n (Mir.D.int .i64 0)), (Mir.AV.n (Mir.D.int .i64 x2))]))
 (sel (decide ((Go.IntKind.wrap .i64 ((((ByteArray.size a0) : Nat) : Int) - x1)) < x0))
 (R (Mir.AV.tup [(Mir.AV.n (Mir.D.str (ByteArray.mk (List.toArray [])))), (Mir.AV.n (Mir.D.int .i64 0)), (Mir.AV.n (Mir.D.int .i64 3))]))
 (((0 : Int) ≤ (Go.IntKind.wrap .i64 (x1 + x0))) ∧
 ((((Go.IntKind.wrap .i64 (x1 + x0)) : Int) ≤ (((ByteArray.size a0) : Nat) : Int)) ∧
 (((0 : Int) ≤ x1) ∧
 (((x1 : Int) ≤ (((Int.toNat (Go.IntKind.wrap .i64 (x1 + x0))) : Nat) : Int)) ∧
 (R (Mir.AV.tup [(Mir.AV.n (Mir.D.str (ByteArray.extract a0 (Int.toNat x1) (Int.toNat (Go.IntKind.wrap .i64 (x1 + x0)))))), (Mir.AV.n (Mir.D.int .i64 (Go.IntKind.wrap .i64 (x1 + x0)))), (Mir.AV.n (Mir.D.int .i64 0))]))))))))))))
theorem vc65 (a0 : ByteArray) (a1 : Int) (R : Mir.AV → Prop) : Vc Fs c65.body (argsQ c65 [(.n (.str a0)), (.n (.int .i64 a1))]) [] (endQ c65 R) = V65 a0 a1 R := by kernel_rfl
def V106 (a0 : ByteArray) (a1 : Int) (R : Mir.AV → Prop) : Prop :=
 (∃ x0 : Int,
 (∃ x1 : Int,
 (∃ x2 : Int,
 ((Runs Fs 84 [(Mir.AV.n (Mir.D.str a0)), (Mir.AV.n (Mir.D.int .i64 a1)), (Mir.AV.n (Mir.D.int .i64 2))] [] (Mir.AV.tup [(Mir.AV.n (Mir.D.int .i64 x0)), (Mir.AV.n (Mir.D.int .i64 x1)), (Mir.AV.n (Mir.D.int .i64 x2))]) []) ∧
 (sel (x2 != 0)
 (R (Mir.AV.tup [(Mir.AV.n (Mir.D.str (ByteArray.mk (List.toArray [])))), (Mir.AV.n (Mir.D.int .i64 0)), (Mir.AV.n (Mir.D.int .i64 x2))]))
 (sel (decide ((Go.IntKind.wrap .i64 ((((ByteArray.size a0) : Nat) : Int) - x1)) < x0))
 (R (Mir.AV.tup [(Mir.AV.n (Mir.D.str (ByteArray.mk (List.toArray [])))), (Mir.AV.n (Mir.D.int .i64 0)), (Mir.AV.n (Mir.D.int .i64 3))]))
 (((0 : Int) ≤ (Go.IntKind.wrap .i64 (x1 + x0))) ∧
 ((((Go.IntKind.wrap .i64 (x1 + x0)) : Int) ≤ (((ByteArray.size a0) : Nat) : Int)) ∧
 (((0 : Int) ≤ x1) ∧
 (((x1 : Int) ≤ (((Int.toNat (Go.IntKind.wrap .i64 (x1 + x0))) : Nat) : Int)) ∧
 (R (Mir.AV.tup [(Mir.AV.n (Mir.D.str (ByteArray.extract a0 (Int.toNat x1) (Int.toNat (Go.IntKind.wrap .i64 (x1 + x0)))))), (Mir.AV.n (Mir.D.int .i64 (Go.IntKind.wrap .i64 (x1 + x0)))), (Mir.AV.n (Mir.D.int .i64 0))]))))))))))))
theorem vc106 (a0 : ByteArray) (a1 : Int) (R : Mir.AV → Prop) : Vc Fs c106.body (argsQ c106 [(.n (.str a0)), (.n (.int .i64 a1))]) [] (endQ c106 R) = V106 a0 a1 R := by kernel_rfl
def V32 (a0 : ByteArray) (R : Mir.AV → Prop) : Prop :=
 (sel (decide ((((ByteArray.size a0) : Nat) : Int) > 480))
 (R (Mir.AV.tup [(Mir.AV.o (Mir.D.sl 3 [])), (Mir.AV.n (Mir.D.int .i64 2))]))
 (∃ x0 : Int,
 (∃ x1 : ByteArray,
 (∃ x2 : Int,
 (∃ x3 : Int,
 ((Runs Fs 63 [(Mir.AV.ptr 3200301 0), (Mir.AV.ptr 3200000 0), (Mir.AV.ptr 3200300 0)] [(3200000, (.box [(Mir.AV.n (Mir.D.str a0))])), (3200300, (.box [(Mir.AV.n (Mir.D.int .i64 0))])), (3200301, (.box [(Mir.AV.n (Mir.D.int .i64 0))]))] (Mir.AV.n (Mir.D.int .i64 x0)) [(3200000, (.box [(Mir.AV.n (Mir.D.str x1))])), (3200300, (.box [(Mir.AV.n (Mir.D.int .i64 x2))])), (3200301, (.box [(Mir.AV.n (Mir.D.int .i64 x3))]))]) ∧
 (∃ x4 : (Nat → (Int → ((ByteArray × (PUnit)) → ((Int × (PUnit)) → ((Int × (PUnit)) → ((Nat × (List Mir.D)) → Prop)))))),
 (∃ x5 : (Nat → (Int → ((ByteArray × (PUnit)) → ((Int × (PUnit)) → ((Int × (PUnit)) → ((Nat × (List Mir.D)) → Nat)))))),
 (((@Eq (List (Nat × Mir.Ob)) [(3200000, (.box [(Mir.AV.n (Mir.D.str x1))])), (3200300, (.box [(Mir.AV.n (Mir.D.int .i64 x2))])), (3200301, (.box [(Mir.AV.n (Mir.D.int .i64 x3))])), (3201603, (.row false true 0 111 3 []))] [(3200000, (.box [(Mir.AV.n (Mir.D.str x1))])), (3200300, (.box [(Mir.AV.n (Mir.D.int .i64 x2))])), (3200301, (.box [(Mir.AV.n (Mir.D.int .i64 x3))])), (3201603, (.row false true 0 111 3 []))]) ∧
 (x4 0 x0 (x1, Unit.unit) (x2, Unit.unit) (x3, Unit.unit) (0, []))) ∧
 (∀ x6 : Nat,
 (∀ x7 : Int,
 (∀ x8 : (ByteArray × (PUnit)),
 (∀ x9 : (Int × (PUnit)),
 (∀ x10 : (Int × (PUnit)),
 (∀ x11 : (Nat × (List Mir.D)),
 ((x4 x6 x7 x8 x9 x10 x11) →
 (∀ x12 : (Nat → Mir.AV),
 (sel (decide (x7 > 0))
 (sel (x10.1 == 0)
 (∃ x13 : Int,
 (∃ x14 : ByteArray,
 (∃ x15 : Int,
 (∃ x16 : Int,
 ((Runs Fs 63 [(Mir.AV.ptr 3200301 0), (Mir.AV.ptr 3200000 0), (Mir.AV.ptr 3200300 0)] [(3200000, (.box [(Mir.AV.n (Mir.D.str x8.1))])), (3200300, (.box [(Mir.AV.n (Mir.D.int .i64 x9.1))])), (3200301, (.box [(Mir.AV.n (Mir.D.int .i64 x10.1))]))] (Mir.AV.n (Mir.D.int .i64 x13)) [(3200000, (.box [(Mir.AV.n (Mir.D.str x14))])), (3200300, (.box [(Mir.AV.n (Mir.D.int .i64 x15))])), (3200301, (.box [(Mir.AV.n (Mir.D.int .i64 x16))]))]) ∧
 (sel (x16 == 0)
 (sel (decide (x13 > 1))
 (R (Mir.AV.tup [(Mir.AV.o (Mir.D.sl 3 [])), (Mir.AV.n (Mir.D.int .i64 4))]))
 (∃ x17 : ByteArray,
 (∃ x18 : ByteArray,
 (∃ x19 : Int,
 (∃ x20 : Int,
 ((Runs Fs 64 [(Mir.AV.ptr 3200301 0), (Mir.AV.ptr 3200000 0), (Mir.AV.ptr 3200300 0)] [(3200000, (.box [(Mir.AV.n (Mir.D.str x14))])), (3200300, (.box [(Mir.AV.n (Mir.D.int .i64 x15))])), (3200301, (.box [(Mir.AV.n (Mir.D.int .i64 x16))]))] (Mir.AV.n (Mir.D.str x17)) [(3200000, (.box [(Mir.AV.n (Mir.D.str x18))])), (3200300, (.box [(Mir.AV.n (Mir.D.int .i64 x19))])), (3200301, (.box [(Mir.AV.n (Mir.D.int .i64 x20))]))]) ∧
 (sel (Bool.not (x13 == 1))
 (∃ x21 : ByteArray,
 (∃ x22 : ByteArray,
 (∃ x23 : Int,
 (∃ x24 : Int,
 ((Runs Fs 64 [(Mir.AV.ptr 3200301 0), (Mir.AV.ptr 3200000 0), (Mir.AV.ptr 3200300 0)] [(3200000, (.box [(Mir.AV.n (Mir.D.str x18))])), (3200300, (.box [(Mir.AV.n (Mir.D.int .i64 x19))])), (3200301, (.box [(Mir.AV.n (Mir.D.int .i64 x20))]))] (Mir.AV.n (Mir.D.str x21)) [(3200000, (.box [(Mir.AV.n (Mir.D.str x22))])), (3200300, (.box [(Mir.AV.n (Mir.D.int .i64 x23))])), (3200301, (.box [(Mir.AV.n (Mir.D.int .i64 x24))]))]) ∧
 (((0 : Nat) = 0) ∧
 ((((3 : Nat) = 3) ∨ (@Eq (List Mir.D) [(Mir.D.rcd [(Mir.D.str x17), (Mir.D.str x21), (Mir.D.bool (x13 == 1))])] [])) ∧
 ((((((Prod.fst x11) : Nat) = x6) ∧
 ((111 : Nat) = 111)) ∧
 ((3 : Nat) = 3)) ∧
 ((((((List.length (Prod.snd x11)) + (List.length [(Mir.D.rcd [(Mir.D.str x17), (Mir.D.str x21), (Mir.D.bool (x13 == 1))])])) * 40) : Nat) ≤ 140737488355328) ∧
 ((((Mir.AV.ptr 3200000 0) : Mir.AV) = (Mir.AV.ptr 3200000 0)) ∧
 ((((Mir.AV.ptr 3200300 0) : Mir.AV) = (Mir.AV.ptr 3200300 0)) ∧
 ((((Mir.AV.ptr 3200301 0) : Mir.AV) = (Mir.AV.ptr 3200301 0)) ∧
 ((((Mir.AV.fn 63 [(Mir.AV.ptr 3200301 0), (Mir.AV.ptr 3200000 0), (Mir.AV.ptr 3200300 0)]) : Mir.AV) = (Mir.AV.fn 63 [(Mir.AV.ptr 3200301 0), (Mir.AV.ptr 3200000 0), (Mir.AV.ptr 3200300 0)])) ∧
 ((((Mir.AV.fn 64 [(Mir.AV.ptr 3200301 0), (Mir.AV.ptr 3200000 0), (Mir.AV.ptr 3200300 0)]) : Mir.AV) = (Mir.AV.fn 64 [(Mir.AV.ptr 3200301 0), (Mir.AV.ptr 3200000 0), (Mir.AV.ptr 3200300 0)])) ∧
 ((@Eq (List (Nat × Mir.Ob)) [(3200000, (.box [(Mir.AV.n (Mir.D.str x22))])), (3200300, (.box [(Mir.AV.n (Mir.D.int .i64 x23))])), (3200301, (.box [(Mir.AV.n (Mir.D.int .i64 x24))])), (3201603, (.row false true (x6 + 1) 111 3 ((Prod.snd x11) ++ [(Mir.D.rcd [(Mir.D.str x17), (Mir.D.str x21), (Mir.D.bool (x13 == 1))])])))] [(3200000, (.box [(Mir.AV.n (Mir.D.str x22))])), (3200300, (.box [(Mir.AV.n (Mir.D.int .i64 x23))])), (3200301, (.box [(Mir.AV.n (Mir.D.int .i64 x24))])), (3201603, (.row false true (x6 + 1) 111 3 ((Prod.snd x11) ++ [(Mir.D.rcd [(Mir.D.str x17), (Mir.D.str x21), (Mir.D.bool (x13 == 1))])])))]) ∧
 ((x4 (x6 + 1) (Go.IntKind.wrap .i64 (x7 - 1)) (x22, Unit.unit) (x23, Unit.unit) (x24, Unit.unit) ((x6 + 1), ((Prod.snd x11) ++ [(Mir.D.rcd [(Mir.D.str x17), (Mir.D.str x21), (Mir.D.bool (x13 == 1))])]))) ∧
 (((x5 (x6 + 1) (Go.IntKind.wrap .i64 (x7 - 1)) (x22, Unit.unit) (x23, Unit.unit) (x24, Unit.unit) ((x6 + 1), ((Prod.snd x11) ++ [(Mir.D.rcd [(Mir.D.str x17), (Mir.D.str x21), (Mir.D.bool (x13 == 1))])]))) : Nat) < (x5 x6 x7 x8 x9 x10 x11))))))))))))))))))
 (((0 : Nat) = 0) ∧
 ((((3 : Nat) = 3) ∨ (@Eq (List Mir.D) [(Mir.D.rcd [(Mir.D.str x17), (Mir.D.str (ByteArray.mk (List.toArray []))), (Mir.D.bool (x13 == 1))])] [])) ∧
 ((((((Prod.fst x11) : Nat) = x6) ∧
 ((111 : Nat) = 111)) ∧
 ((3 : Nat) = 3)) ∧
 ((((((List.length (Prod.snd x11)) + (List.length [(Mir.D.rcd [(Mir.D.str x17), (Mir.D.str (ByteArray.mk (List.toArray []))), (Mir.D.bool (x13 == 1))])])) * 40) : Nat) ≤ 140737488355328) ∧
 ((((Mir.AV.ptr 3200000 0) : Mir.AV) = (Mir.AV.ptr 3200000 0)) ∧
 ((((Mir.AV.ptr 3200300 0) : Mir.AV) = (Mir.AV.ptr 3200300 0)) ∧
 ((((Mir.AV.ptr 3200301 0) : Mir.AV) = (Mir.AV.ptr 3200301 0)) ∧
 ((((Mir.AV.fn 63 [(Mir.AV.ptr 3200301 0), (Mir.AV.ptr 3200000 0), (Mir.AV.ptr 3200300 0)]) : Mir.AV) = (Mir.AV.fn 63 [(Mir.AV.ptr 3200301 0), (Mir.AV.ptr 3200000 0), (Mir.AV.ptr 3200300 0)])) ∧
 ((((Mir.AV.fn 64 [(Mir.AV.ptr 3200301 0), (Mir.AV.ptr 3200000 0), (Mir.AV.ptr 3200300 0)]) : Mir.AV) = (Mir.AV.fn 64 [(Mir.AV.ptr 3200301 0), (Mir.AV.ptr 3200000 0), (Mir.AV.ptr 3200300 0)])) ∧
 ((@Eq (List (Nat × Mir.Ob)) [(3200000, (.box [(Mir.AV.n (Mir.D.str x18))])), (3200300, (.box [(Mir.AV.n (Mir.D.int .i64 x19))])), (3200301, (.box [(Mir.AV.n (Mir.D.int .i64 x20))])), (3201603, (.row false true (x6 + 1) 111 3 ((Prod.snd x11) ++ [(Mir.D.rcd [(Mir.D.str x17), (Mir.D.str (ByteArray.mk (List.toArray []))), (Mir.D.bool (x13 == 1))])])))] [(3200000, (.box [(Mir.AV.n (Mir.D.str x18))])), (3200300, (.box [(Mir.AV.n (Mir.D.int .i64 x19))])), (3200301, (.box [(Mir.AV.n (Mir.D.int .i64 x20))])), (3201603, (.row false true (x6 + 1) 111 3 ((Prod.snd x11) ++ [(Mir.D.rcd [(Mir.D.str x17), (Mir.D.str (ByteArray.mk (List.toArray []))), (Mir.D.bool (x13 == 1))])])))]) ∧
 ((x4 (x6 + 1) (Go.IntKind.wrap .i64 (x7 - 1)) (x18, Unit.unit) (x19, Unit.unit) (x20, Unit.unit) ((x6 + 1), ((Prod.snd x11) ++ [(Mir.D.rcd [(Mir.D.str x17), (Mir.D.str (ByteArray.mk (List.toArray []))), (Mir.D.bool (x13 == 1))])]))) ∧
 (((x5 (x6 + 1) (Go.IntKind.wrap .i64 (x7 - 1)) (x18, Unit.unit) (x19, Unit.unit) (x20, Unit.unit) ((x6 + 1), ((Prod.snd x11) ++ [(Mir.D.rcd [(Mir.D.str x17), (Mir.D.str (ByteArray.mk (List.toArray []))), (Mir.D.bool (x13 == 1))])]))) : Nat) < (x5 x6 x7 x8 x9 x10 x11))))))))))))))))))))
 (∃ x25 : ByteArray,
 (∃ x26 : ByteArray,
 (∃ x27 : Int,
 (∃ x28 : Int,
 ((Runs Fs 64 [(Mir.AV.ptr 3200301 0), (Mir.AV.ptr 3200000 0), (Mir.AV.ptr 3200300 0)] [(3200000, (.box [(Mir.AV.n (Mir.D.str x14))])), (3200300, (.box [(Mir.AV.n (Mir.D.int .i64 x15))])), (3200301, (.box [(Mir.AV.n (Mir.D.int .i64 x16))]))] (Mir.AV.n (Mir.D.str x25)) [(3200000, (.box [(Mir.AV.n (Mir.D.str x26))])), (3200300, (.box [(Mir.AV.n (Mir.D.int .i64 x27))])), (3200301, (.box [(Mir.AV.n (Mir.D.int .i64 x28))]))]) ∧
 (sel (Bool.not (x13 == 1))
 (∃ x29 : ByteArray,
 (∃ x30 : ByteArray,
 (∃ x31 : Int,
 (∃ x32 : Int,
 ((Runs Fs 64 [(Mir.AV.ptr 3200301 0), (Mir.AV.ptr 3200000 0), (Mir.AV.ptr 3200300 0)] [(3200000, (.box [(Mir.AV.n (Mir.D.str x26))])), (3200300, (.box [(Mir.AV.n (Mir.D.int .i64 x27))])), (3200301, (.box [(Mir.AV.n (Mir.D.int .i64 x28))]))] (Mir.AV.n (Mir.D.str x29)) [(3200000, (.box [(Mir.AV.n (Mir.D.str x30))])), (3200300, (.box [(Mir.AV.n (Mir.D.int .i64 x31))])), (3200301, (.box [(Mir.AV.n (Mir.D.int .i64 x32))]))]) ∧
 (((0 : Nat) = 0) ∧
 ((((3 : Nat) = 3) ∨ (@Eq (List Mir.D) [(Mir.D.rcd [(Mir.D.str x25), (Mir.D.str x29), (Mir.D.bool (x13 == 1))])] [])) ∧
 ((((((Prod.fst x11) : Nat) = x6) ∧
 ((111 : Nat) = 111)) ∧
 ((3 : Nat) = 3)) ∧
 ((((((List.length (Prod.snd x11)) + (List.length [(Mir.D.rcd [(Mir.D.str x25), (Mir.D.str x29), (Mir.D.bool (x13 == 1))])])) * 40) : Nat) ≤ 140737488355328) ∧
 ((((Mir.AV.ptr 3200000 0) : Mir.AV) = (Mir.AV.ptr 3200000 0)) ∧
 ((((Mir.AV.ptr 3200300 0) : Mir.AV) = (Mir.AV.ptr 3200300 0)) ∧
 ((((Mir.AV.ptr 3200301 0) : Mir.AV) = (Mir.AV.ptr 3200301 0)) ∧
 ((((Mir.AV.fn 63 [(Mir.AV.ptr 3200301 0), (Mir.AV.ptr 3200000 0), (Mir.AV.ptr 3200300 0)]) : Mir.AV) = (Mir.AV.fn 63 [(Mir.AV.ptr 3200301 0), (Mir.AV.ptr 3200000 0), (Mir.AV.ptr 3200300 0)])) ∧
 ((((Mir.AV.fn 64 [(Mir.AV.ptr 3200301 0), (Mir.AV.ptr 3200000 0), (Mir.AV.ptr 3200300 0)]) : Mir.AV) = (Mir.AV.fn 64 [(Mir.AV.ptr 3200301 0), (Mir.AV.ptr 3200000 0), (Mir.AV.ptr 3200300 0)])) ∧
 ((@Eq (List (Nat × Mir.Ob)) [(3200000, (.box [(Mir.AV.n (Mir.D.str x30))])), (3200300, (.box [(Mir.AV.n (Mir.D.int .i64 x31))])), (3200301, (.box [(Mir.AV.n (Mir.D.int .i64 x32))])), (3201603, (.row false true (x6 + 1) 111 3 ((Prod.snd x11) ++ [(Mir.D.rcd [(Mir.D.str x25), (Mir.D.str x29), (Mir.D.bool (x13 == 1))])])))] [(3200000, (.box [(Mir.AV.n (Mir.D.str x30))])), (3200300, (.box [(Mir.AV.n (Mir.D.int .i64 x31))])), (3200301, (.box [(Mir.AV.n (Mir.D.int .i64 x32))])), (3201603, (.row false true (x6 + 1) 111 3 ((Prod.snd x11) ++ [(Mir.D.rcd [(Mir.D.str x25), (Mir.D.str x29), (Mir.D.bool (x13 == 1))])])))]) ∧
 ((x4 (x6 + 1) (Go.IntKind.wrap .i64 (x7 - 1)) (x30, Unit.unit) (x31, Unit.unit) (x32, Unit.unit) ((x6 + 1), ((Prod.snd x11) ++ [(Mir.D.rcd [(Mir.D.str x25), (Mir.D.str x29), (Mir.D.bool (x13 == 1))])]))) ∧
 (((x5 (x6 + 1) (Go.IntKind.wrap .i64 (x7 - 1)) (x30, Unit.unit) (x31, Unit.unit) (x32, Unit.unit) ((x6 + 1), ((Prod.snd x11) ++ [(Mir.D.rcd [(Mir.D.str x25), (Mir.D.str x29), (Mir.D.bool (x13 == 1))])]))) : Nat) < (x5 x6 x7 x8 x9 x10 x11))))))))))))))))))
 (((0 : Nat) = 0) ∧
 ((((3 : Nat) = 3) ∨ (@Eq (List Mir.D) [(Mir.D.rcd [(Mir.D.str x25), (Mir.D.str (ByteArray.mk (List.toArray []))), (Mir.D.bool (x13 == 1))])] [])) ∧
 ((((((Prod.fst x11) : Nat) = x6) ∧
 ((111 : Nat) = 111)) ∧
 ((3 : Nat) = 3)) ∧
 ((((((List.length (Prod.snd x11)) + (List.length [(Mir.D.rcd [(Mir.D.str x25), (Mir.D.str (ByteArray.mk (List.toArray []))), (Mir.D.bool (x13 == 1))])])) * 40) : Nat) ≤ 140737488355328) ∧
 ((((Mir.AV.ptr 3200000 0) : Mir.AV) = (Mir.AV.ptr 3200000 0)) ∧
 ((((Mir.AV.ptr 3200300 0) : Mir.AV) = (Mir.AV.ptr 3200300 0)) ∧
 ((((Mir.AV.ptr 3200301 0) : Mir.AV) = (Mir.AV.ptr 3200301 0)) ∧
 ((((Mir.AV.fn 63 [(Mir.AV.ptr 3200301 0), (Mir.AV.ptr 3200000 0), (Mir.AV.ptr 3200300 0)]) : Mir.AV) = (Mir.AV.fn 63 [(Mir.AV.ptr 3200301 0), (Mir.AV.ptr 3200000 0), (Mir.AV.ptr 3200300 0)])) ∧
 ((((Mir.AV.fn 64 [(Mir.AV.ptr 3200301 0), (Mir.AV.ptr 3200000 0), (Mir.AV.ptr 3200300 0)]) : Mir.AV) = (Mir.AV.fn 64 [(Mir.AV.ptr 3200301 0), (Mir.AV.ptr 3200000 0), (Mir.AV.ptr 3200300 0)])) ∧
 ((@Eq (List (Nat × Mir.Ob)) [(3200000, (.box [(Mir.AV.n (Mir.D.str x26))])), (3200300, (.box [(Mir.AV.n (Mir.D.int .i64 x27))])), (3200301, (.box [(Mir.AV.n (Mir.D.int .i64 x28))])), (3201603, (.row false true (x6 + 1) 111 3 ((Prod.snd x11) ++ [(Mir.D.rcd [(Mir.D.str x25), (Mir.D.str (ByteArray.mk (List.toArray []))), (Mir.D.bool (x13 == 1))])])))] [(3200000, (.box [(Mir.AV.n (Mir.D.str x26))])), (3200300, (.box [(Mir.AV.n (Mir.D.int .i64 x27))])), (3200301, (.box [(Mir.AV.n (Mir.D.int .i64 x28))])), (3201603, (.row false true (x6 + 1) 111 3 ((Prod.snd x11) ++ [(Mir.D.rcd [(Mir.D.str x25), (Mir.D.str (ByteArray.mk (List.toArray []))), (Mir.D.bool (x13 == 1))])])))]) ∧
 ((x4 (x6 + 1) (Go.IntKind.wrap .i64 (x7 - 1)) (x26, Unit.unit) (x27, Unit.unit) (x28, Unit.unit) ((x6 + 1), ((Prod.snd x11) ++ [(Mir.D.rcd [(Mir.D.str x25), (Mir.D.str (ByteArray.mk (List.toArray []))), (Mir.D.bool (x13 == 1))])]))) ∧
 (((x5 (x6 + 1) (Go.IntKind.wrap .i64 (x7 - 1)) (x26, Unit.unit) (x27, Unit.unit) (x28, Unit.unit) ((x6 + 1), ((Prod.snd x11) ++ [(Mir.D.rcd [(Mir.D.str x25), (Mir.D.str (ByteArray.mk (List.toArray []))), (Mir.D.bool (x13 == 1))])]))) : Nat) < (x5 x6 x7 x8 x9 x10 x11)))))))))))))))))))))))))
 (sel (x10.1 != 0)
 (R (Mir.AV.tup [(Mir.AV.o (Mir.D.sl 3 [])), (Mir.AV.n (Mir.D.int .i64 x10.1))]))
 (sel (x9.1 != (((ByteArray.size x8.1) : Nat) : Int))
 (R (Mir.AV.tup [(Mir.AV.o (Mir.D.sl 3 [])), (Mir.AV.n (Mir.D.int .i64 4))]))
 (((Prod.fst x11) = x6) ∧
 (∃ x33 : Bool,
 ((Runs Fs 59 [(Mir.AV.o (Mir.D.sl 3 (Prod.snd x11))), (Mir.AV.fn 66 [])] [] (Mir.AV.n (Mir.D.bool x33)) []) ∧
 (sel x33
 (R (Mir.AV.tup [(Mir.AV.o (Mir.D.sl 3 [])), (Mir.AV.n (Mir.D.int .i64 4))]))
 (((Prod.fst x11) = x6) ∧
 (R (Mir.AV.tup [(Mir.AV.o (Mir.D.sl 3 (Prod.snd x11))), (Mir.AV.n (Mir.D.int .i64 0))]))))))))))
 (sel (x10.1 != 0)
 (R (Mir.AV.tup [(Mir.AV.o (Mir.D.sl 3 [])), (Mir.AV.n (Mir.D.int .i64 x10.1))]))
 (sel (x9.1 != (((ByteArray.size x8.1) : Nat) : Int))
 (R (Mir.AV.tup [(Mir.AV.o (Mir.D.sl 3 [])), (Mir.AV.n (Mir.D.int .i64 4))]))
 (((Prod.fst x11) = x6) ∧
 (∃ x34 : Bool,
 ((Runs Fs 59 [(Mir.AV.o (Mir.D.sl 3 (Prod.snd x11))), (Mir.AV.fn 66 [])] [] (Mir.AV.n (Mir.D.bool x34)) []) ∧
 (sel x34
 (R (Mir.AV.tup [(Mir.AV.o (Mir.D.sl 3 [])), (Mir.AV.n (Mir.D.int .i64 4))]))
 (((Prod.fst x11) = x6) ∧
 (R (Mir.AV.tup [(Mir.AV.o (Mir.D.sl 3 (Prod.snd x11))), (Mir.AV.n (Mir.D.int .i64 0))])))))))))))))))))))))))))))
theorem vc32 (a0 : ByteArray) (R : Mir.AV → Prop) : Vc Fs c32.body (argsQ c32 [(.n (.str a0))]) [] (endQ c32 R) = V32 a0 R := by kernel_rfl
def V20  (R : Mir.AV → Prop) : Prop :=
 (∃ x0 : ByteArray,
 (∃ x1 : Int,
 ((Runs Fs 31 [(Mir.AV.o (Mir.D.sl 3 []))] [] (Mir.AV.tup [(Mir.AV.n (Mir.D.str x0)), (Mir.AV.n (Mir.D.int .i64 x1))]) []) ∧
 (sel (x1 == 0)
 (R (Mir.AV.n (Mir.D.bool ((ByteArray.toList x0) == (ByteArray.toList (ByteArray.mk (List.toArray [0])))))))
 (R (Mir.AV.n (Mir.D.bool false)))))))
theorem vc20  (R : Mir.AV → Prop) : Vc Fs c20.body (argsQ c20 []) [] (endQ c20 R) = V20  R := by kernel_rfl
def V33 (a0 : List Mir.D) (a1 : List Mir.D) (R : Mir.AV → Prop) : Prop :=
 (sel ((((List.length a0) : Nat) : Int) != (((List.length a1) : Nat) : Int))
 (R (Mir.AV.n (Mir.D.bool false)))
 (∃ x0 : (Int → Prop),
 (∃ x1 : (Int → Nat),
 (((@Eq (List (Nat × Mir.Ob)) [] []) ∧
 (x0 0)) ∧
 (∀ x2 : Int,
 ((x0 x2) →
 (∀ x3 : (Nat → Mir.AV),
 (sel (decide (x2 < (((List.length a0) : Nat) : Int)))
 (((3 : Nat) = 3) ∧
 (((0 : Int) ≤ x2) ∧
 (∃ x4 : Mir.D,
 ((((GetElem?.getElem? a0 (Int.toNat x2)) : (Option Mir.D)) = (some x4)) ∧
 (∃ x5 : ByteArray,
 (∃ x6 : ByteArray,
 (∃ x7 : Bool,
 ((@Eq (List Mir.D) (List.take 3 (Go.Mir.D.cells x4)) [(Mir.D.str x5), (Mir.D.str x6), (Mir.D.bool x7)]) ∧
 (((3 : Nat) ≤ (List.length (Go.Mir.D.cells x4))) ∧
 (((3 : Nat) = 3) ∧
 (((0 : Int) ≤ x2) ∧
 (∃ x8 : Mir.D,
 ((((GetElem?.getElem? a1 (Int.toNat x2)) : (Option Mir.D)) = (some x8)) ∧
 (∃ x9 : ByteArray,
 (∃ x10 : ByteArray,
 (∃ x11 : Bool,
 ((@Eq (List Mir.D) (List.take 3 (Go.Mir.D.cells x8)) [(Mir.D.str x9), (Mir.D.str x10), (Mir.D.bool x11)]) ∧
 (((3 : Nat) ≤ (List.length (Go.Mir.D.cells x8))) ∧
 (sel (Bool.not (((ByteArray.toList x5) == (ByteArray.toList x9)) && (((ByteArray.toList x6) == (ByteArray.toList x10)) && ((x7 == x11) && true))))
 (R (Mir.AV.n (Mir.D.bool false)))
 ((((Mir.AV.o (Mir.D.sl 3 a0)) : Mir.AV) = (Mir.AV.o (Mir.D.sl 3 a0))) ∧
 ((((Mir.AV.o (Mir.D.sl 3 a1)) : Mir.AV) = (Mir.AV.o (Mir.D.sl 3 a1))) ∧
 ((((Mir.AV.n (Mir.D.int .i64 (((List.length a0) : Nat) : Int))) : Mir.AV) = (Mir.AV.n (Mir.D.int .i64 (((List.length a0) : Nat) : Int)))) ∧
 ((@Eq (List (Nat × Mir.Ob)) [] []) ∧
 ((x0 (Go.IntKind.wrap .i64 (x2 + 1))) ∧
 (((x1 (Go.IntKind.wrap .i64 (x2 + 1))) : Nat) < (x1 x2))))))))))))))))))))))))))
 (R (Mir.AV.n (Mir.D.bool true)))))))))))
theorem vc33 (a0 : List Mir.D) (a1 : List Mir.D) (R : Mir.AV → Prop) : Vc Fs c33.body (argsQ c33 [(.o (.sl 3 a0)), (.o (.sl 3 a1))]) [] (endQ c33 R) = V33 a0 a1 R := by kernel_rfl
def V60 (a0_0 : ByteArray) (a0_1 : ByteArray) (a0_2 : Bool) (R : Mir.AV → Prop) : Prop :=
 (∃ x0 : Bool,
 ((Runs Fs 61 [(Mir.AV.agg [(Mir.AV.n (Mir.D.str a0_0)), (Mir.AV.n (Mir.D.str a0_1)), (Mir.AV.n (Mir.D.bool a0_2))])] [] (Mir.AV.n (Mir.D.bool x0)) []) ∧
 (R (Mir.AV.n (Mir.D.bool (Bool.not x0))))))
theorem vc60 (a0_0 : ByteArray) (a0_1 : ByteArray) (a0_2 : Bool) (R : Mir.AV → Prop) : Vc Fs c60.body (argsQ c60 [(.agg [(.n (.str a0_0)), (.n (.str a0_1)), (.n (.bool a0_2))])]) [] (endQ c60 R) = V60 a0_0 a0_1 a0_2 R := by kernel_rfl
def V61 (a0_0 : ByteArray) (a0_1 : ByteArray) (a0_2 : Bool) (R : Mir.AV → Prop) : Prop :=
 (sel (decide ((((ByteArray.size a0_0) : Nat) : Int) ≥ 1))
 (sel (decide ((((ByteArray.size a0_0) : Nat) : Int) ≤ 32))
 (sel (decide ((((ByteArray.size a0_1) : Nat) : Int) ≤ 200))
 (sel (Bool.not a0_2)
 (R (Mir.AV.n (Mir.D.bool true)))
 (R (Mir.AV.n (Mir.D.bool ((ByteArray.toList a0_1) == (ByteArray.toList (ByteArray.mk (List.toArray []))))))))
 (R (Mir.AV.n (Mir.D.bool false))))
 (R (Mir.AV.n (Mir.D.bool false))))
 (R (Mir.AV.n (Mir.D.bool false))))
theorem vc61 (a0_0 : ByteArray) (a0_1 : ByteArray) (a0_2 : Bool) (R : Mir.AV → Prop) : Vc Fs c61.body (argsQ c61 [(.agg [(.n (.str a0_0)), (.n (.str a0_1)), (.n (.bool a0_2))])]) [] (endQ c61 R) = V61 a0_0 a0_1 a0_2 R := by kernel_rfl
def V66 (a0_0 : ByteArray) (a0_1 : ByteArray) (a0_2 : Bool) (R : Mir.AV → Prop) : Prop :=
 (∃ x0 : Bool,
 ((Runs Fs 61 [(Mir.AV.agg [(Mir.AV.n (Mir.D.str a0_0)), (Mir.AV.n (Mir.D.str a0_1)), (Mir.AV.n (Mir.D.bool a0_2))])] [] (Mir.AV.n (Mir.D.bool x0)) []) ∧
 (R (Mir.AV.n (Mir.D.bool (Bool.not x0))))))
theorem vc66 (a0_0 : ByteArray) (a0_1 : ByteArray) (a0_2 : Bool) (R : Mir.AV → Prop) : Vc Fs c66.body (argsQ c66 [(.agg [(.n (.str a0_0)), (.n (.str a0_1)), (.n (.bool a0_2))])]) [] (endQ c66 R) = V66 a0_0 a0_1 a0_2 R := by kernel_rfl
def V59p (a0 : List Mir.D) (R : Mir.AV → Prop) : Prop :=
 (∃ x0 : Int,
 ((Runs Fs 98 [(Mir.AV.o (Mir.D.sl 3 a0)), (Mir.AV.fn 60 [])] [] (Mir.AV.n (Mir.D.int .i64 x0)) []) ∧
 (R (Mir.AV.n (Mir.D.bool (decide (x0 ≥ 0)))))))
theorem vc59p (a0 : List Mir.D) (R : Mir.AV → Prop) : Vc Fs c59.body (argsQ c59 [.o (.sl 3 a0), .fn 60 []]) [] (endQ c59 R) = V59p a0 R := by kernel_rfl
def V98p (a0 : List Mir.D) (R : Mir.AV → Prop) : Prop :=
 (∃ x0 : (Int → Prop),
 (∃ x1 : (Int → Nat),
 (((@Eq (List (Nat × Mir.Ob)) [] []) ∧
 (x0 0)) ∧
 (∀ x2 : Int,
 ((x0 x2) →
 (∀ x3 : (Nat → Mir.AV),
 (sel (decide (x2 < (((List.length a0) : Nat) : Int)))
 (((3 : Nat) = 3) ∧
 (((0 : Int) ≤ x2) ∧
 (∃ x4 : Mir.D,
 ((((GetElem?.getElem? a0 (Int.toNat x2)) : (Option Mir.D)) = (some x4)) ∧
 (∃ x5 : ByteArray,
 (∃ x6 : ByteArray,
 (∃ x7 : Bool,
 ((@Eq (List Mir.D) (List.take 3 (Go.Mir.D.cells x4)) [(Mir.D.str x5), (Mir.D.str x6), (Mir.D.bool x7)]) ∧
 (((3 : Nat) ≤ (List.length (Go.Mir.D.cells x4))) ∧
 (∃ x8 : Bool,
 ((Runs Fs 60 [(Mir.AV.agg [(Mir.AV.n (Mir.D.str x5)), (Mir.AV.n (Mir.D.str x6)), (Mir.AV.n (Mir.D.bool x7))])] [] (Mir.AV.n (Mir.D.bool x8)) []) ∧
 (sel x8
 (R (Mir.AV.n (Mir.D.int .i64 x2)))
 ((((Mir.AV.o (Mir.D.sl 3 a0)) : Mir.AV) = (Mir.AV.o (Mir.D.sl 3 a0))) ∧
 ((((Mir.AV.fn 60 []) : Mir.AV) = (Mir.AV.fn 60 [])) ∧
 ((((Mir.AV.n (Mir.D.int .i64 (((List.length a0) : Nat) : Int))) : Mir.AV) = (Mir.AV.n (Mir.D.int .i64 (((List.length a0) : Nat) : Int)))) ∧
 ((@Eq (List (Nat × Mir.Ob)) [] []) ∧
 ((x0 (Go.IntKind.wrap .i64 (x2 + 1))) ∧
 (((x1 (Go.IntKind.wrap .i64 (x2 + 1))) : Nat) < (x1 x2)))))))))))))))))))
 (R (Mir.AV.n (Mir.D.int .i64 (-1)))))))))))
theorem vc98p (a0 : List Mir.D) (R : Mir.AV → Prop) : Vc Fs c98.body (argsQ c98 [.o (.sl 3 a0), .fn 60 []]) [] (endQ c98 R) = V98p a0 R := by kernel_rfl
def V59q (a0 : List Mir.D) (R : Mir.AV → Prop) : Prop :=
 (∃ x0 : Int,
 ((Runs Fs 98 [(Mir.AV.o (Mir.D.sl 3 a0)), (Mir.AV.fn 66 [])] [] (Mir.AV.n (Mir.D.int .i64 x0)) []) ∧
 (R (Mir.AV.n (Mir.D.bool (decide (x0 ≥ 0)))))))
theorem vc59q (a0 : List Mir.D) (R : Mir.AV → Prop) : Vc Fs c59.body (argsQ c59 [.o (.sl 3 a0), .fn 66 []]) [] (endQ c59 R) = V59q a0 R := by kernel_rfl
def V98q (a0 : List Mir.D) (R : Mir.AV → Prop) : Prop :=
 (∃ x0 : (Int → Prop),
 (∃ x1 : (Int → Nat),
 (((@Eq (List (Nat × Mir.Ob)) [] []) ∧
 (x0 0)) ∧
 (∀ x2 : Int,
 ((x0 x2) →
 (∀ x3 : (Nat → Mir.AV),
 (sel (decide (x2 < (((List.length a0) : Nat) : Int)))
 (((3 : Nat) = 3) ∧
 (((0 : Int) ≤ x2) ∧
 (∃ x4 : Mir.D,
 ((((GetElem?.getElem? a0 (Int.toNat x2)) : (Option Mir.D)) = (some x4)) ∧
 (∃ x5 : ByteArray,
 (∃ x6 : ByteArray,
 (∃ x7 : Bool,
 ((@Eq (List Mir.D) (List.take 3 (Go.Mir.D.cells x4)) [(Mir.D.str x5), (Mir.D.str x6), (Mir.D.bool x7)]) ∧
 (((3 : Nat) ≤ (List.length (Go.Mir.D.cells x4))) ∧
 (∃ x8 : Bool,
 ((Runs Fs 66 [(Mir.AV.agg [(Mir.AV.n (Mir.D.str x5)), (Mir.AV.n (Mir.D.str x6)), (Mir.AV.n (Mir.D.bool x7))])] [] (Mir.AV.n (Mir.D.bool x8)) []) ∧
 (sel x8
 (R (Mir.AV.n (Mir.D.int .i64 x2)))
 ((((Mir.AV.o (Mir.D.sl 3 a0)) : Mir.AV) = (Mir.AV.o (Mir.D.sl 3 a0))) ∧
 ((((Mir.AV.fn 66 []) : Mir.AV) = (Mir.AV.fn 66 [])) ∧
 ((((Mir.AV.n (Mir.D.int .i64 (((List.length a0) : Nat) : Int))) : Mir.AV) = (Mir.AV.n (Mir.D.int .i64 (((List.length a0) : Nat) : Int)))) ∧
 ((@Eq (List (Nat × Mir.Ob)) [] []) ∧
 ((x0 (Go.IntKind.wrap .i64 (x2 + 1))) ∧
 (((x1 (Go.IntKind.wrap .i64 (x2 + 1))) : Nat) < (x1 x2)))))))))))))))))))
 (R (Mir.AV.n (Mir.D.int .i64 (-1)))))))))))
theorem vc98q (a0 : List Mir.D) (R : Mir.AV → Prop) : Vc Fs c98.body (argsQ c98 [.o (.sl 3 a0), .fn 66 []]) [] (endQ c98 R) = V98q a0 R := by kernel_rfl
def V63h (s : ByteArray) (n : Int) (e : Int) (R : Mir.AV → Heap → Prop) : Prop :=
 (sel (e != 0)
 (R (Mir.AV.n (Mir.D.int .i64 0)) [(3200000, (.box [(Mir.AV.n (Mir.D.str s))])), (3200300, (.box [(Mir.AV.n (Mir.D.int .i64 n))])), (3200301, (.box [(Mir.AV.n (Mir.D.int .i64 e))]))])
 (∃ x0 : Int,
 (∃ x1 : Int,
 (∃ x2 : Int,
 ((Runs Fs 48 [(Mir.AV.n (Mir.D.str s)), (Mir.AV.n (Mir.D.int .i64 n)), (Mir.AV.n (Mir.D.int .i64 1))] [] (Mir.AV.tup [(Mir.AV.n (Mir.D.int .i64 x0)), (Mir.AV.n (Mir.D.int .i64 x1)), (Mir.AV.n (Mir.D.int .i64 x2))]) []) ∧
 (R (Mir.AV.n (Mir.D.int .i64 x0)) [(3200000, (.box [(Mir.AV.n (Mir.D.str s))])), (3200300, (.box [(Mir.AV.n (Mir.D.int .i64 x1))])), (3200301, (.box [(Mir.AV.n (Mir.D.int .i64 x2))]))]))))))
theorem vc63h (s : ByteArray) (n : Int) (e : Int) (R : Mir.AV → Heap → Prop) : Vc Fs c63.body (argsQ c63 [.ptr 3200301 0, .ptr 3200000 0, .ptr 3200300 0]) [(3200000, .box [.n (.str s)]), (3200300, .box [.n (.int .i64 n)]), (3200301, .box [.n (.int .i64 e)])] (endQH c63 [(3200000, .box [.n (.str s)]), (3200300, .box [.n (.int .i64 n)]), (3200301, .box [.n (.int .i64 e)])] R) = V63h s n e R := by kernel_rfl
def V64h (s : ByteArray) (n : Int) (e : Int) (R : Mir.AV → Heap → Prop) : Prop :=
 (sel (e != 0)
 (R (Mir.AV.n (Mir.D.str (ByteArray.mk (List.toArray [])))) [(3200000, (.box [(Mir.AV.n (Mir.D.str s))])), (3200300, (.box [(Mir.AV.n (Mir.D.int .i64 n))])), (3200301, (.box [(Mir.AV.n (Mir.D.int .i64 e))]))])
 (∃ x0 : ByteArray,
 (∃ x1 : Int,
 (∃ x2 : Int,
 ((Runs Fs 65 [(Mir.AV.n (Mir.D.str s)), (Mir.AV.n (Mir.D.int .i64 n))] [] (Mir.AV.tup [(Mir.AV.n (Mir.D.str x0)), (Mir.AV.n (Mir.D.int .i64 x1)), (Mir.AV.n (Mir.D.int .i64 x2))]) []) ∧
 (R (Mir.AV.n (Mir.D.str x0)) [(3200000, (.box [(Mir.AV.n (Mir.D.str s))])), (3200300, (.box [(Mir.AV.n (Mir.D.int .i64 x1))])), (3200301, (.box [(Mir.AV.n (Mir.D.int .i64 x2))]))]))))))
theorem vc64h (s : ByteArray) (n : Int) (e : Int) (R : Mir.AV → Heap → Prop) : Vc Fs c64.body (argsQ c64 [.ptr 3200301 0, .ptr 3200000 0, .ptr 3200300 0]) [(3200000, .box [.n (.str s)]), (3200300, .box [.n (.int .i64 n)]), (3200301, .box [.n (.int .i64 e)])] (endQH c64 [(3200000, .box [.n (.str s)]), (3200300, .box [.n (.int .i64 n)]), (3200301, .box [.n (.int .i64 e)])] R) = V64h s n e R := by kernel_rfl
def V91 (a0 : ByteArray) (R : Mir.AV → Prop) : Prop :=
 (sel (decide ((((ByteArray.size a0) : Nat) : Int) ≤ 4096))
 (∃ x0 : ByteArray,
 ((Runs Fs 88 [(Mir.AV.n (Mir.D.str a0))] [] (Mir.AV.n (Mir.D.str x0)) []) ∧
 (R (Mir.AV.n (Mir.D.bool ((ByteArray.toList x0) == (ByteArray.toList a0)))))))
 (R (Mir.AV.n (Mir.D.bool false))))
theorem vc91 (a0 : ByteArray) (R : Mir.AV → Prop) : Vc Fs c91.body (argsQ c91 [(.n (.str a0))]) [] (endQ c91 R) = V91 a0 R := by kernel_rfl
def V142 (a0 : List Mir.D) (a1 : Int) (R : Mir.AV → Prop) : Prop :=
 (((1 : Nat) = 1) ∧
 (((0 : Int) ≤ (Go.Mir.mmI false (Go.IntKind.wrap .i64 ((Go.IntKind.wrap .i64 (a1 + 1)) * 512)) (((List.length a0) : Nat) : Int))) ∧
 ((((Go.Mir.mmI false (Go.IntKind.wrap .i64 ((Go.IntKind.wrap .i64 (a1 + 1)) * 512)) (((List.length a0) : Nat) : Int)) : Int) ≤ (((List.length a0) : Nat) : Int)) ∧
 (((0 : Int) ≤ (Go.Mir.mmI false (Go.IntKind.wrap .i64 ((Go.IntKind.wrap .i64 (a1 + 1)) * 512)) (((List.length a0) : Nat) : Int))) ∧
 ((((Go.Mir.mmI false (Go.IntKind.wrap .i64 ((Go.IntKind.wrap .i64 (a1 + 1)) * 512)) (((List.length a0) : Nat) : Int)) : Int) ≤ (((Int.toNat (Go.Mir.mmI false (Go.IntKind.wrap .i64 ((Go.IntKind.wrap .i64 (a1 + 1)) * 512)) (((List.length a0) : Nat) : Int))) : Nat) : Int)) ∧
 (((0 : Int) ≤ (Go.Mir.mmI false (Go.IntKind.wrap .i64 (a1 * 512)) (((List.length a0) : Nat) : Int))) ∧
 ((((Go.Mir.mmI false (Go.IntKind.wrap .i64 (a1 * 512)) (((List.length a0) : Nat) : Int)) : Int) ≤ (((Int.toNat (Go.Mir.mmI false (Go.IntKind.wrap .i64 ((Go.IntKind.wrap .i64 (a1 + 1)) * 512)) (((List.length a0) : Nat) : Int))) : Nat) : Int)) ∧
 ((((1 : Nat) = 1) ∨ (@Eq (List Mir.D) (List.drop (Int.toNat (Go.Mir.mmI false (Go.IntKind.wrap .i64 (a1 * 512)) (((List.length a0) : Nat) : Int))) (List.take (Int.toNat (Go.Mir.mmI false (Go.IntKind.wrap .i64 ((Go.IntKind.wrap .i64 (a1 + 1)) * 512)) (((List.length a0) : Nat) : Int))) a0)) [])) ∧
 ((((List.all (List.drop (Int.toNat (Go.Mir.mmI false (Go.IntKind.wrap .i64 (a1 * 512)) (((List.length a0) : Nat) : Int))) (List.take (Int.toNat (Go.Mir.mmI false (Go.IntKind.wrap .i64 ((Go.IntKind.wrap .i64 (a1 + 1)) * 512)) (((List.length a0) : Nat) : Int))) a0)) Go.Mir.D.isU8) : Bool) = true) ∧
 (R (Mir.AV.n (Mir.D.str (ByteArray.mk (List.toArray (List.map Go.Mir.byteOf (List.drop (Int.toNat (Go.Mir.mmI false (Go.IntKind.wrap .i64 (a1 * 512)) (((List.length a0) : Nat) : Int))) (List.take (Int.toNat (Go.Mir.mmI false (Go.IntKind.wrap .i64 ((Go.IntKind.wrap .i64 (a1 + 1)) * 512)) (((List.length a0) : Nat) : Int))) a0)))))))))))))))))
theorem vc142 (a0 : List Mir.D) (a1 : Int) (R : Mir.AV → Prop) : Vc Fs c142.body (argsQ c142 [(.o (.sl 1 a0)), (.n (.int .i64 a1))]) [] (endQ c142 R) = V142 a0 a1 R := by kernel_rfl
def V95 (a0 : ByteArray) (a1 : ByteArray) (a2 : Int) (R : Mir.AV → Prop) : Prop :=
 (∃ x0 : (Nat → (Int → ((Nat × (List Mir.D)) → Prop))),
 (∃ x1 : (Nat → (Int → ((Nat × (List Mir.D)) → Nat))),
 (((@Eq (List (Nat × Mir.Ob)) [(9500902, (.row false true 0 5 1 []))] [(9500902, (.row false true 0 5 1 []))]) ∧
 (x0 0 0 (0, []))) ∧
 (∀ x2 : Nat,
 (∀ x3 : Int,
 (∀ x4 : (Nat × (List Mir.D)),
 ((x0 x2 x3 x4) →
 (∀ x5 : (Nat → Mir.AV),
 (sel (decide (x3 < 8))
 (∃ x6 : ByteArray,
 ((Runs Fs 119 [(Mir.AV.n (Mir.D.str a0)), (Mir.AV.n (Mir.D.int .i64 x3))] [] (Mir.AV.n (Mir.D.str x6)) []) ∧
 (((0 : Int) ≤ x3) ∧
 (sel ((Go.IntKind.wrap .i64 (((BitVec.toNat (HAnd.hAnd (BitVec.ofInt (Go.IntKind.bits .i64) (Int.fdiv a2 (2 ^ (Min.min (Int.toNat x3) (Go.IntKind.bits .i64))))) (BitVec.ofInt (Go.IntKind.bits .i64) 1))) : Nat) : Int)) == 1)
 (∃ x7 : ByteArray,
 ((Runs Fs 119 [(Mir.AV.n (Mir.D.str a1)), (Mir.AV.n (Mir.D.int .i64 x3))] [] (Mir.AV.n (Mir.D.str x7)) []) ∧
 (∃ x8 : ByteArray,
 (∃ x9 : Int,
 ((Runs Fs 109 [(Mir.AV.n (Mir.D.str x7)), (Mir.AV.n (Mir.D.int .i64 512))] [] (Mir.AV.tup [(Mir.AV.n (Mir.D.str x8)), (Mir.AV.n (Mir.D.int .i64 x9))]) []) ∧
 ((((((Prod.fst x4) : Nat) = x2) ∧
 ((5 : Nat) = 5)) ∧
 ((1 : Nat) = 1)) ∧
 (((((List.length (Prod.snd x4)) + (ByteArray.size x8)) : Nat) ≤ 140737488355328) ∧
 ((((Mir.AV.n (Mir.D.str a0)) : Mir.AV) = (Mir.AV.n (Mir.D.str a0))) ∧
 ((((Mir.AV.n (Mir.D.str a1)) : Mir.AV) = (Mir.AV.n (Mir.D.str a1))) ∧
 ((((Mir.AV.n (Mir.D.int .i64 a2)) : Mir.AV) = (Mir.AV.n (Mir.D.int .i64 a2))) ∧
 ((@Eq (List (Nat × Mir.Ob)) [(9500902, (.row false true (x2 + 1) 5 1 ((Prod.snd x4) ++ (Go.Mir.bytesD x8))))] [(9500902, (.row false true (x2 + 1) 5 1 ((Prod.snd x4) ++ (Go.Mir.bytesD x8))))]) ∧
 ((x0 (x2 + 1) (Go.IntKind.wrap .i64 (x3 + 1)) ((x2 + 1), ((Prod.snd x4) ++ (Go.Mir.bytesD x8)))) ∧
 (((x1 (x2 + 1) (Go.IntKind.wrap .i64 (x3 + 1)) ((x2 + 1), ((Prod.snd x4) ++ (Go.Mir.bytesD x8)))) : Nat) < (x1 x2 x3 x4))))))))))))))
 (∃ x10 : ByteArray,
 (∃ x11 : Int,
 ((Runs Fs 109 [(Mir.AV.n (Mir.D.str x6)), (Mir.AV.n (Mir.D.int .i64 512))] [] (Mir.AV.tup [(Mir.AV.n (Mir.D.str x10)), (Mir.AV.n (Mir.D.int .i64 x11))]) []) ∧
 ((((((Prod.fst x4) : Nat) = x2) ∧
 ((5 : Nat) = 5)) ∧
 ((1 : Nat) = 1)) ∧
 (((((List.length (Prod.snd x4)) + (ByteArray.size x10)) : Nat) ≤ 140737488355328) ∧
 ((((Mir.AV.n (Mir.D.str a0)) : Mir.AV) = (Mir.AV.n (Mir.D.str a0))) ∧
 ((((Mir.AV.n (Mir.D.str a1)) : Mir.AV) = (Mir.AV.n (Mir.D.str a1))) ∧
 ((((Mir.AV.n (Mir.D.int .i64 a2)) : Mir.AV) = (Mir.AV.n (Mir.D.int .i64 a2))) ∧
 ((@Eq (List (Nat × Mir.Ob)) [(9500902, (.row false true (x2 + 1) 5 1 ((Prod.snd x4) ++ (Go.Mir.bytesD x10))))] [(9500902, (.row false true (x2 + 1) 5 1 ((Prod.snd x4) ++ (Go.Mir.bytesD x10))))]) ∧
 ((x0 (x2 + 1) (Go.IntKind.wrap .i64 (x3 + 1)) ((x2 + 1), ((Prod.snd x4) ++ (Go.Mir.bytesD x10)))) ∧
 (((x1 (x2 + 1) (Go.IntKind.wrap .i64 (x3 + 1)) ((x2 + 1), ((Prod.snd x4) ++ (Go.Mir.bytesD x10)))) : Nat) < (x1 x2 x3 x4))))))))))))))))
 ((((Prod.fst x4) : Nat) = x2) ∧
 ((((1 : Nat) = 1) ∨ (@Eq (List Mir.D) (Prod.snd x4) [])) ∧
 ((((List.all (Prod.snd x4) Go.Mir.D.isU8) : Bool) = true) ∧
 (∃ x12 : ByteArray,
 ((Runs Fs 88 [(Mir.AV.n (Mir.D.str (ByteArray.mk (List.toArray (List.map Go.Mir.byteOf (Prod.snd x4))))))] [] (Mir.AV.n (Mir.D.str x12)) []) ∧
 (R (Mir.AV.n (Mir.D.str x12)))))))))))))))))
theorem vc95 (a0 : ByteArray) (a1 : ByteArray) (a2 : Int) (R : Mir.AV → Prop) : Vc Fs c95.body (argsQ c95 [(.n (.str a0)), (.n (.str a1)), (.n (.int .i64 a2))]) [] (endQ c95 R) = V95 a0 a1 a2 R := by kernel_rfl
def V119 (a0 : ByteArray) (a1 : Int) (R : Mir.AV → Prop) : Prop :=
 (sel (decide (a1 < 0))
 (R (Mir.AV.n (Mir.D.str (ByteArray.mk (List.toArray [])))))
 (sel (decide (a1 ≥ 8))
 (R (Mir.AV.n (Mir.D.str (ByteArray.mk (List.toArray [])))))
 (∃ x0 : ByteArray,
 ((Runs Fs 142 [(Mir.AV.o (Mir.D.sl 1 (Go.Mir.bytesD a0))), (Mir.AV.n (Mir.D.int .i64 a1))] [] (Mir.AV.n (Mir.D.str x0)) []) ∧
 (∃ x1 : ByteArray,
 ((Runs Fs 88 [(Mir.AV.n (Mir.D.str x0))] [] (Mir.AV.n (Mir.D.str x1)) []) ∧
 (R (Mir.AV.n (Mir.D.str x1)))))))))
theorem vc119 (a0 : ByteArray) (a1 : Int) (R : Mir.AV → Prop) : Vc Fs c119.body (argsQ c119 [(.n (.str a0)), (.n (.int .i64 a1))]) [] (endQ c119 R) = V119 a0 a1 R := by kernel_rfl
def V53 (a0_0 : List Mir.D) (a0_1 : List Mir.D) (R : Mir.AV → Prop) : Prop :=
 (sel (decide ((((List.length a0_0) : Nat) : Int) < 1))
 (R (Mir.AV.n (Mir.D.bool false)))
 (sel (decide ((((List.length a0_0) : Nat) : Int) > 2048))
 (R (Mir.AV.n (Mir.D.bool false)))
 (sel (decide ((((List.length a0_1) : Nat) : Int) > 2048))
 (R (Mir.AV.n (Mir.D.bool false)))
 (∃ x0 : (Int → Prop),
 (∃ x1 : (Int → Nat),
 (((@Eq (List (Nat × Mir.Ob)) [(5300000, (.box [(Mir.AV.o (Mir.D.sl 1 a0_0)), (Mir.AV.o (Mir.D.sl 2 a0_1))])), (5300103, (.box [(Mir.AV.n (Mir.D.int .i64 (((List.length a0_0) : Nat) : Int)))]))] [(5300000, (.box [(Mir.AV.o (Mir.D.sl 1 a0_0)), (Mir.AV.o (Mir.D.sl 2 a0_1))])), (5300103, (.box [(Mir.AV.n (Mir.D.int .i64 (((List.length a0_0) : Nat) : Int)))]))]) ∧
 (x0 0)) ∧
 (∀ x2 : Int,
 ((x0 x2) →
 (∀ x3 : (Nat → Mir.AV),
 (sel (decide (x2 < (((List.length a0_0) : Nat) : Int)))
 (((1 : Nat) = 1) ∧
 (((0 : Int) ≤ x2) ∧
 (∃ x4 : Mir.D,
 ((((GetElem?.getElem? a0_0 (Int.toNat x2)) : (Option Mir.D)) = (some x4)) ∧
 (∃ x5 : ByteArray,
 ((((GetElem?.getElem? (Go.Mir.D.cells x4) 0) : (Option Mir.D)) = (some (Mir.D.str x5))) ∧
 (∃ x6 : Bool,
 ((Runs Fs 91 [(Mir.AV.n (Mir.D.str x5))] [] (Mir.AV.n (Mir.D.bool x6)) []) ∧
 (sel (Bool.not x6)
 (R (Mir.AV.n (Mir.D.bool false)))
 ((((Mir.AV.ptr 5300000 0) : Mir.AV) = (Mir.AV.ptr 5300000 0)) ∧
 ((((Mir.AV.ptr 5300103 0) : Mir.AV) = (Mir.AV.ptr 5300103 0)) ∧
 ((((Mir.AV.o (Mir.D.sl 1 a0_0)) : Mir.AV) = (Mir.AV.o (Mir.D.sl 1 a0_0))) ∧
 ((((Mir.AV.n (Mir.D.int .i64 (((List.length a0_0) : Nat) : Int))) : Mir.AV) = (Mir.AV.n (Mir.D.int .i64 (((List.length a0_0) : Nat) : Int)))) ∧
 ((@Eq (List (Nat × Mir.Ob)) [(5300000, (.box [(Mir.AV.o (Mir.D.sl 1 a0_0)), (Mir.AV.o (Mir.D.sl 2 a0_1))])), (5300103, (.box [(Mir.AV.n (Mir.D.int .i64 (((List.length a0_0) : Nat) : Int)))]))] [(5300000, (.box [(Mir.AV.o (Mir.D.sl 1 a0_0)), (Mir.AV.o (Mir.D.sl 2 a0_1))])), (5300103, (.box [(Mir.AV.n (Mir.D.int .i64 (((List.length a0_0) : Nat) : Int)))]))]) ∧
 ((x0 (Go.IntKind.wrap .i64 (x2 + 1))) ∧
 (((x1 (Go.IntKind.wrap .i64 (x2 + 1))) : Nat) < (x1 x2)))))))))))))))))
 (∃ x7 : Bool,
 ((Runs Fs 92 [(Mir.AV.o (Mir.D.sl 2 a0_1)), (Mir.AV.fn 93 [(Mir.AV.ptr 5300103 0)])] [(5300103, (.box [(Mir.AV.n (Mir.D.int .i64 (((List.length a0_0) : Nat) : Int)))]))] (Mir.AV.n (Mir.D.bool x7)) [(5300103, (.box [(Mir.AV.n (Mir.D.int .i64 (((List.length a0_0) : Nat) : Int)))]))]) ∧
 (R (Mir.AV.n (Mir.D.bool (Bool.not x7))))))))))))))))
theorem vc53 (a0_0 : List Mir.D) (a0_1 : List Mir.D) (R : Mir.AV → Prop) : Vc Fs c53.body (argsQ c53 [(.agg [(.o (.sl 1 a0_0)), (.o (.sl 2 a0_1))])]) [] (endQ c53 R) = V53 a0_0 a0_1 R := by kernel_rfl
def V93r (b : Int) (s : ByteArray) (n : Int) (R : Mir.AV → Heap → Prop) : Prop :=
 (sel (decide (b < 0))
 (R (Mir.AV.n (Mir.D.bool true)) [(5300103, (.box [(Mir.AV.n (Mir.D.int .i64 n))]))])
 (sel (decide (b ≥ n))
 (R (Mir.AV.n (Mir.D.bool true)) [(5300103, (.box [(Mir.AV.n (Mir.D.int .i64 n))]))])
 (∃ x0 : Bool,
 ((Runs Fs 91 [(Mir.AV.n (Mir.D.str s))] [] (Mir.AV.n (Mir.D.bool x0)) []) ∧
 (R (Mir.AV.n (Mir.D.bool (Bool.not x0))) [(5300103, (.box [(Mir.AV.n (Mir.D.int .i64 n))]))])))))
theorem vc93r (b : Int) (s : ByteArray) (n : Int) (R : Mir.AV → Heap → Prop) : Vc Fs c93.body (argsQ c93 [.agg [.n (.int .i64 b), .n (.str s)], .ptr 5300103 0]) [(5300103, .box [.n (.int .i64 n)])] (endQH c93 [(5300103, .box [.n (.int .i64 n)])] R) = V93r b s n R := by kernel_rfl
def V118r (els : List Mir.D) (n : Int) (R : Mir.AV → Heap → Prop) : Prop :=
 (∃ x0 : (Int → Prop),
 (∃ x1 : (Int → Nat),
 (((@Eq (List (Nat × Mir.Ob)) [(5300103, (.box [(Mir.AV.n (Mir.D.int .i64 n))]))] [(5300103, (.box [(Mir.AV.n (Mir.D.int .i64 n))]))]) ∧
 (x0 0)) ∧
 (∀ x2 : Int,
 ((x0 x2) →
 (∀ x3 : (Nat → Mir.AV),
 (sel (decide (x2 < (((List.length els) : Nat) : Int)))
 (((2 : Nat) = 2) ∧
 (((0 : Int) ≤ x2) ∧
 (∃ x4 : Mir.D,
 ((((GetElem?.getElem? els (Int.toNat x2)) : (Option Mir.D)) = (some x4)) ∧
 (∃ x5 : Int,
 (∃ x6 : ByteArray,
 ((@Eq (List Mir.D) (List.take 2 (Go.Mir.D.cells x4)) [(Mir.D.int .i64 x5), (Mir.D.str x6)]) ∧
 (((2 : Nat) ≤ (List.length (Go.Mir.D.cells x4))) ∧
 (∃ x7 : Bool,
 ((Runs Fs 93 [(Mir.AV.agg [(Mir.AV.n (Mir.D.int .i64 x5)), (Mir.AV.n (Mir.D.str x6))]), (Mir.AV.ptr 5300103 0)] [(5300103, (.box [(Mir.AV.n (Mir.D.int .i64 n))]))] (Mir.AV.n (Mir.D.bool x7)) [(5300103, (.box [(Mir.AV.n (Mir.D.int .i64 n))]))]) ∧
 (sel x7
 (R (Mir.AV.n (Mir.D.int .i64 x2)) [(5300103, (.box [(Mir.AV.n (Mir.D.int .i64 n))]))])
 ((((Mir.AV.o (Mir.D.sl 2 els)) : Mir.AV) = (Mir.AV.o (Mir.D.sl 2 els))) ∧
 ((((Mir.AV.fn 93 [(Mir.AV.ptr 5300103 0)]) : Mir.AV) = (Mir.AV.fn 93 [(Mir.AV.ptr 5300103 0)])) ∧
 ((((Mir.AV.n (Mir.D.int .i64 (((List.length els) : Nat) : Int))) : Mir.AV) = (Mir.AV.n (Mir.D.int .i64 (((List.length els) : Nat) : Int)))) ∧
 ((@Eq (List (Nat × Mir.Ob)) [(5300103, (.box [(Mir.AV.n (Mir.D.int .i64 n))]))] [(5300103, (.box [(Mir.AV.n (Mir.D.int .i64 n))]))]) ∧
 ((x0 (Go.IntKind.wrap .i64 (x2 + 1))) ∧
 (((x1 (Go.IntKind.wrap .i64 (x2 + 1))) : Nat) < (x1 x2))))))))))))))))))
 (R (Mir.AV.n (Mir.D.int .i64 (-1))) [(5300103, (.box [(Mir.AV.n (Mir.D.int .i64 n))]))]))))))))
theorem vc118r (els : List Mir.D) (n : Int) (R : Mir.AV → Heap → Prop) : Vc Fs c118.body (argsQ c118 [.o (.sl 2 els), .fn 93 [.ptr 5300103 0]]) [(5300103, .box [.n (.int .i64 n)])] (endQH c118 [(5300103, .box [.n (.int .i64 n)])] R) = V118r els n R := by kernel_rfl
def V92r (els : List Mir.D) (n : Int) (R : Mir.AV → Heap → Prop) : Prop :=
 (∃ x0 : Int,
 ((Runs Fs 118 [(Mir.AV.o (Mir.D.sl 2 els)), (Mir.AV.fn 93 [(Mir.AV.ptr 5300103 0)])] [(5300103, (.box [(Mir.AV.n (Mir.D.int .i64 n))]))] (Mir.AV.n (Mir.D.int .i64 x0)) [(5300103, (.box [(Mir.AV.n (Mir.D.int .i64 n))]))]) ∧
 (R (Mir.AV.n (Mir.D.bool (decide (x0 ≥ 0)))) [(5300103, (.box [(Mir.AV.n (Mir.D.int .i64 n))]))])))
theorem vc92r (els : List Mir.D) (n : Int) (R : Mir.AV → Heap → Prop) : Vc Fs c92.body (argsQ c92 [.o (.sl 2 els), .fn 93 [.ptr 5300103 0]]) [(5300103, .box [.n (.int .i64 n)])] (endQH c92 [(5300103, .box [.n (.int .i64 n)])] R) = V92r els n R := by kernel_rfl
def V55c (k : Int) (ms : List Mir.D) (R : Mir.AV → Heap → Prop) : Prop :=
 (sel (decide (k < (((List.length ms) : Nat) : Int)))
 (((1 : Nat) = 1) ∧
 (((0 : Int) ≤ k) ∧
 (∃ x0 : Mir.D,
 ((((GetElem?.getElem? ms (Int.toNat k)) : (Option Mir.D)) = (some x0)) ∧
 (∃ x1 : Int,
 ((((GetElem?.getElem? (Go.Mir.D.cells x0) 0) : (Option Mir.D)) = (some (Mir.D.int .i64 x1))) ∧
 (R (Mir.AV.n (Mir.D.int .i64 x1)) [(2100001, (.box [(Mir.AV.o (Mir.D.sl 1 ms))]))])))))))
 (R (Mir.AV.n (Mir.D.int .i64 0)) [(2100001, (.box [(Mir.AV.o (Mir.D.sl 1 ms))]))]))
theorem vc55c (k : Int) (ms : List Mir.D) (R : Mir.AV → Heap → Prop) : Vc Fs c55.body (argsQ c55 [.n (.int .i64 k), .ptr 2100001 0]) [(2100001, .box [.o (.sl 1 ms)])] (endQH c55 [(2100001, .box [.o (.sl 1 ms)])] R) = V55c k ms R := by kernel_rfl
def V54c (bs : List Mir.D) (ps : List Mir.D) (ms : List Mir.D) (R : Mir.AV → Heap → Prop) : Prop :=
 (∃ x0 : Nat,
 (∃ x1 : (List Mir.D),
 ((Runs Fs 94 [(Mir.AV.o (Mir.D.sl 1 bs))] [] (Mir.AV.row 9400001 x0) [(9400001, (.row false false x0 9 1 x1))]) ∧
 (∃ x2 : (Int → ((Nat × (List Mir.D)) → Prop)),
 (∃ x3 : (Int → ((Nat × (List Mir.D)) → Nat)),
 (((@Eq (List (Nat × Mir.Ob)) [(2100001, (.box [(Mir.AV.o (Mir.D.sl 1 ms))])), (5400000, (.box [(Mir.AV.o (Mir.D.sl 1 bs)), (Mir.AV.o (Mir.D.sl 2 ps))])), (5400001, (.box [(Mir.AV.n Mir.D.nil), (Mir.AV.n Mir.D.nil)])), (5400104, (.box [(Mir.AV.row 9400001 x0), (Mir.AV.n Mir.D.nil)])), (9400001, (.row false false x0 9 1 x1))] [(2100001, (.box [(Mir.AV.o (Mir.D.sl 1 ms))])), (5400000, (.box [(Mir.AV.o (Mir.D.sl 1 bs)), (Mir.AV.o (Mir.D.sl 2 ps))])), (5400001, (.box [(Mir.AV.n Mir.D.nil), (Mir.AV.n Mir.D.nil)])), (5400104, (.box [(Mir.AV.row 9400001 x0), (Mir.AV.n Mir.D.nil)])), (9400001, (.row false false x0 9 1 x1))]) ∧
 (x2 0 (x0, x1))) ∧
 (∀ x4 : Int,
 (∀ x5 : (Nat × (List Mir.D)),
 ((x2 x4 x5) →
 (∀ x6 : (Nat → Mir.AV),
 (sel (decide (x4 < (((List.length ps) : Nat) : Int)))
 (((2 : Nat) = 2) ∧
 (((0 : Int) ≤ x4) ∧
 (∃ x7 : Mir.D,
 ((((GetElem?.getElem? ps (Int.toNat x4)) : (Option Mir.D)) = (some x7)) ∧
 (∃ x8 : Int,
 (∃ x9 : ByteArray,
 ((@Eq (List Mir.D) (List.take 2 (Go.Mir.D.cells x7)) [(Mir.D.int .i64 x8), (Mir.D.str x9)]) ∧
 (((2 : Nat) ≤ (List.length (Go.Mir.D.cells x7))) ∧
 (((((Prod.fst x5) : Nat) = x0) ∧
 ((1 : Nat) = 1)) ∧
 (((0 : Int) ≤ x8) ∧
 (((x8 : Int) < (((List.length (Prod.snd x5)) : Nat) : Int)) ∧
 ((((x0 : Nat) = (Prod.fst x5)) ∧
 ((1 : Nat) = 1)) ∧
 (∃ x10 : Mir.D,
 ((((GetElem?.getElem? (Prod.snd x5) (Int.toNat x8)) : (Option Mir.D)) = (some x10)) ∧
 (∃ x11 : ByteArray,
 ((((GetElem?.getElem? (Go.Mir.D.cells x10) 0) : (Option Mir.D)) = (some (Mir.D.str x11))) ∧
 (∃ x12 : Int,
 ((Runs Fs 55 [(Mir.AV.n (Mir.D.int .i64 x4)), (Mir.AV.ptr 2100001 0)] [(2100001, (.box [(Mir.AV.o (Mir.D.sl 1 ms))]))] (Mir.AV.n (Mir.D.int .i64 x12)) [(2100001, (.box [(Mir.AV.o (Mir.D.sl 1 ms))]))]) ∧
 (∃ x13 : ByteArray,
 ((Runs Fs 95 [(Mir.AV.n (Mir.D.str x11)), (Mir.AV.n (Mir.D.str x9)), (Mir.AV.n (Mir.D.int .i64 x12))] [] (Mir.AV.n (Mir.D.str x13)) []) ∧
 (((((Prod.fst x5) : Nat) = x0) ∧
 ((1 : Nat) = 1)) ∧
 (((0 : Int) ≤ x8) ∧
 (((x8 : Int) < (((List.length (Prod.snd x5)) : Nat) : Int)) ∧
 ((((((x0 : Nat) = (Prod.fst x5)) ∧
 ((0 : Nat) = 0)) ∧
 ((1 : Nat) = 1)) ∧
 ((1 : Nat) = 1)) ∧
 ((((Int.toNat x8) : Nat) < (List.length (Prod.snd x5))) ∧
 ((((Mir.AV.fn 55 [(Mir.AV.ptr 2100001 0)]) : Mir.AV) = (Mir.AV.fn 55 [(Mir.AV.ptr 2100001 0)])) ∧
 ((((Mir.AV.ptr 5400001 0) : Mir.AV) = (Mir.AV.ptr 5400001 0)) ∧
 ((((Mir.AV.ptr 5400104 0) : Mir.AV) = (Mir.AV.ptr 5400104 0)) ∧
 ((((Mir.AV.o (Mir.D.sl 2 ps)) : Mir.AV) = (Mir.AV.o (Mir.D.sl 2 ps))) ∧
 ((((Mir.AV.n (Mir.D.int .i64 (((List.length ps) : Nat) : Int))) : Mir.AV) = (Mir.AV.n (Mir.D.int .i64 (((List.length ps) : Nat) : Int)))) ∧
 ((@Eq (List (Nat × Mir.Ob)) [(2100001, (.box [(Mir.AV.o (Mir.D.sl 1 ms))])), (5400000, (.box [(Mir.AV.o (Mir.D.sl 1 bs)), (Mir.AV.o (Mir.D.sl 2 ps))])), (5400001, (.box [(Mir.AV.n Mir.D.nil), (Mir.AV.n Mir.D.nil)])), (5400104, (.box [(Mir.AV.row 9400001 x0), (Mir.AV.n Mir.D.nil)])), (9400001, (.row false false (Prod.fst x5) 9 1 (List.set (Prod.snd x5) (Int.toNat x8) (Mir.D.str x13))))] [(2100001, (.box [(Mir.AV.o (Mir.D.sl 1 ms))])), (5400000, (.box [(Mir.AV.o (Mir.D.sl 1 bs)), (Mir.AV.o (Mir.D.sl 2 ps))])), (5400001, (.box [(Mir.AV.n Mir.D.nil), (Mir.AV.n Mir.D.nil)])), (5400104, (.box [(Mir.AV.row 9400001 x0), (Mir.AV.n Mir.D.nil)])), (9400001, (.row false false (Prod.fst x5) 9 1 (List.set (Prod.snd x5) (Int.toNat x8) (Mir.D.str x13))))]) ∧
 ((x2 (Go.IntKind.wrap .i64 (x4 + 1)) ((Prod.fst x5), (List.set (Prod.snd x5) (Int.toNat x8) (Mir.D.str x13)))) ∧
 (((x3 (Go.IntKind.wrap .i64 (x4 + 1)) ((Prod.fst x5), (List.set (Prod.snd x5) (Int.toNat x8) (Mir.D.str x13)))) : Nat) < (x3 x4 x5))))))))))))))))))))))))))))))))))
 (((Prod.fst x5) = x0) ∧
 (R (Mir.AV.agg [(Mir.AV.o (Mir.D.sl 1 (Prod.snd x5))), (Mir.AV.o (Mir.D.sl 2 []))]) [(2100001, (.box [(Mir.AV.o (Mir.D.sl 1 ms))]))])))))))))))))
theorem vc54c (bs : List Mir.D) (ps : List Mir.D) (ms : List Mir.D) (R : Mir.AV → Heap → Prop) : Vc Fs c54.body (argsQ c54 [.agg [.o (.sl 1 bs), .o (.sl 2 ps)], .fn 55 [.ptr 2100001 0]]) [(2100001, .box [.o (.sl 1 ms)])] (endQH c54 [(2100001, .box [.o (.sl 1 ms)])] R) = V54c bs ps ms R := by kernel_rfl
def V21 (a0_0 : List Mir.D) (a0_1 : List Mir.D) (a1 : List Mir.D) (R : Mir.AV → Prop) : Prop :=
 (∃ x0 : Bool,
 ((Runs Fs 53 [(Mir.AV.agg [(Mir.AV.o (Mir.D.sl 1 a0_0)), (Mir.AV.o (Mir.D.sl 2 a0_1))])] [] (Mir.AV.n (Mir.D.bool x0)) []) ∧
 (sel (Bool.not x0)
 (R (Mir.AV.tup [(Mir.AV.agg [(Mir.AV.o (Mir.D.sl 1 [])), (Mir.AV.o (Mir.D.sl 2 []))]), (Mir.AV.n (Mir.D.int .i64 1))]))
 (∃ x1 : (List Mir.D),
 (∃ x2 : (List Mir.D),
 ((Runs Fs 54 [(Mir.AV.agg [(Mir.AV.o (Mir.D.sl 1 a0_0)), (Mir.AV.o (Mir.D.sl 2 a0_1))]), (Mir.AV.fn 55 [(Mir.AV.ptr 2100001 0)])] [(2100001, (.box [(Mir.AV.o (Mir.D.sl 1 a1))]))] (Mir.AV.agg [(Mir.AV.o (Mir.D.sl 1 x1)), (Mir.AV.o (Mir.D.sl 2 x2))]) [(2100001, (.box [(Mir.AV.o (Mir.D.sl 1 a1))]))]) ∧
 (R (Mir.AV.tup [(Mir.AV.agg [(Mir.AV.o (Mir.D.sl 1 x1)), (Mir.AV.o (Mir.D.sl 2 x2))]), (Mir.AV.n (Mir.D.int .i64 0))]))))))))
theorem vc21 (a0_0 : List Mir.D) (a0_1 : List Mir.D) (a1 : List Mir.D) (R : Mir.AV → Prop) : Vc Fs c21.body (argsQ c21 [(.agg [(.o (.sl 1 a0_0)), (.o (.sl 2 a0_1))]), (.o (.sl 1 a1))]) [] (endQ c21 R) = V21 a0_0 a0_1 a1 R := by kernel_rfl
def V19 (a0 : Int) (a1 : Int) (a2 : ByteArray) (R : Mir.AV → Prop) : Prop :=
 (sel (decide (a0 < 1))
 (R (Mir.AV.tup [(Mir.AV.n (Mir.D.str (ByteArray.mk (List.toArray [])))), (Mir.AV.n (Mir.D.int .i64 1))]))
 (sel (decide (a0 > 1099511627776))
 (R (Mir.AV.tup [(Mir.AV.n (Mir.D.str (ByteArray.mk (List.toArray [])))), (Mir.AV.n (Mir.D.int .i64 1))]))
 (sel (decide (a1 < 0))
 (R (Mir.AV.tup [(Mir.AV.n (Mir.D.str (ByteArray.mk (List.toArray [])))), (Mir.AV.n (Mir.D.int .i64 1))]))
 (sel (decide (a1 ≥ 8))
 (R (Mir.AV.tup [(Mir.AV.n (Mir.D.str (ByteArray.mk (List.toArray [])))), (Mir.AV.n (Mir.D.int .i64 1))]))
 (sel (decide ((((ByteArray.size a2) : Nat) : Int) > 480))
 (R (Mir.AV.tup [(Mir.AV.n (Mir.D.str (ByteArray.mk (List.toArray [])))), (Mir.AV.n (Mir.D.int .i64 2))]))
 (∃ x0 : ByteArray,
 (∃ x1 : Int,
 ((Runs Fs 50 [(Mir.AV.n (Mir.D.int .i64 a1)), (Mir.AV.n (Mir.D.int .i64 1))] [] (Mir.AV.tup [(Mir.AV.n (Mir.D.str x0)), (Mir.AV.n (Mir.D.int .i64 x1))]) []) ∧
 ((0 = 0) ∧
 (∃ x2 : ByteArray,
 ((Runs Fs 52 [(Mir.AV.o (Mir.D.sl 1 [(Mir.D.str x0), (Mir.D.str a2)]))] [] (Mir.AV.n (Mir.D.str x2)) []) ∧
 (∃ x3 : ByteArray,
 (∃ x4 : Int,
 ((Runs Fs 51 [(Mir.AV.agg [(Mir.AV.n (Mir.D.int .i64 5)), (Mir.AV.n (Mir.D.int .i64 a0)), (Mir.AV.n (Mir.D.str x2))])] [] (Mir.AV.tup [(Mir.AV.n (Mir.D.str x3)), (Mir.AV.n (Mir.D.int .i64 x4))]) []) ∧
 (R (Mir.AV.tup [(Mir.AV.n (Mir.D.str x3)), (Mir.AV.n (Mir.D.int .i64 x4))]))))))))))))))))
theorem vc19 (a0 : Int) (a1 : Int) (a2 : ByteArray) (R : Mir.AV → Prop) : Vc Fs c19.body (argsQ c19 [(.n (.int .i64 a0)), (.n (.int .i64 a1)), (.n (.str a2))]) [] (endQ c19 R) = V19 a0 a1 a2 R := by kernel_rfl
def V30 (a0 : ByteArray) (a1 : Int) (R : Mir.AV → Prop) : Prop :=
 ((0 = 0) ∧
 (∃ x0 : Int,
 (∃ x1 : Int,
 (∃ x2 : ByteArray,
 (∃ x3 : Int,
 ((Runs Fs 47 [(Mir.AV.n (Mir.D.str a0)), (Mir.AV.o (Mir.D.sl 1 [(Mir.D.int .i64 5)]))] [] (Mir.AV.tup [(Mir.AV.agg [(Mir.AV.n (Mir.D.int .i64 x0)), (Mir.AV.n (Mir.D.int .i64 x1)), (Mir.AV.n (Mir.D.str x2))]), (Mir.AV.n (Mir.D.int .i64 x3))]) []) ∧
 (sel (x3 != 0)
 (R (Mir.AV.tup [(Mir.AV.n (Mir.D.int .i64 0)), (Mir.AV.n (Mir.D.str (ByteArray.mk (List.toArray [])))), (Mir.AV.n (Mir.D.int .i64 x3))]))
 (∃ x4 : Int,
 (∃ x5 : Int,
 (∃ x6 : Int,
 ((Runs Fs 48 [(Mir.AV.n (Mir.D.str x2)), (Mir.AV.n (Mir.D.int .i64 0)), (Mir.AV.n (Mir.D.int .i64 1))] [] (Mir.AV.tup [(Mir.AV.n (Mir.D.int .i64 x4)), (Mir.AV.n (Mir.D.int .i64 x5)), (Mir.AV.n (Mir.D.int .i64 x6))]) []) ∧
 (sel (x6 != 0)
 (R (Mir.AV.tup [(Mir.AV.n (Mir.D.int .i64 0)), (Mir.AV.n (Mir.D.str (ByteArray.mk (List.toArray [])))), (Mir.AV.n (Mir.D.int .i64 4))]))
 (sel (x1 != a1)
 (R (Mir.AV.tup [(Mir.AV.n (Mir.D.int .i64 0)), (Mir.AV.n (Mir.D.str (ByteArray.mk (List.toArray [])))), (Mir.AV.n (Mir.D.int .i64 4))]))
 (sel (decide ((Go.IntKind.wrap .i64 ((((ByteArray.size x2) : Nat) : Int) - x5)) > 480))
 (R (Mir.AV.tup [(Mir.AV.n (Mir.D.int .i64 0)), (Mir.AV.n (Mir.D.str (ByteArray.mk (List.toArray [])))), (Mir.AV.n (Mir.D.int .i64 4))]))
 (sel (decide (x4 ≥ 8))
 (R (Mir.AV.tup [(Mir.AV.n (Mir.D.int .i64 0)), (Mir.AV.n (Mir.D.str (ByteArray.mk (List.toArray [])))), (Mir.AV.n (Mir.D.int .i64 4))]))
 (((0 : Int) ≤ x5) ∧
 (((x5 : Int) ≤ (((ByteArray.size x2) : Nat) : Int)) ∧
 (R (Mir.AV.tup [(Mir.AV.n (Mir.D.int .i64 x4)), (Mir.AV.n (Mir.D.str (ByteArray.extract x2 (Int.toNat x5) (ByteArray.size x2)))), (Mir.AV.n (Mir.D.int .i64 0))])))))))))))))))))))
theorem vc30 (a0 : ByteArray) (a1 : Int) (R : Mir.AV → Prop) : Vc Fs c30.body (argsQ c30 [(.n (.str a0)), (.n (.int .i64 a1))]) [] (endQ c30 R) = V30 a0 a1 R := by kernel_rfl
def V58 (a0 : ByteArray) (a1 : Int) (R : Mir.AV → Prop) : Prop :=
 (∃ x0 : Int,
 (∃ x1 : Int,
 (∃ x2 : ByteArray,
 (∃ x3 : Int,
 ((Runs Fs 49 [(Mir.AV.n (Mir.D.str a0))] [] (Mir.AV.tup [(Mir.AV.agg [(Mir.AV.n (Mir.D.int .i64 x0)), (Mir.AV.n (Mir.D.int .i64 x1)), (Mir.AV.n (Mir.D.str x2))]), (Mir.AV.n (Mir.D.int .i64 x3))]) []) ∧
 (sel (x3 != 0)
 (R (Mir.AV.tup [(Mir.AV.n (Mir.D.int .i64 0)), (Mir.AV.n (Mir.D.str (ByteArray.mk (List.toArray [])))), (Mir.AV.n (Mir.D.int .i64 x3))]))
 (sel (x0 != 5)
 (R (Mir.AV.tup [(Mir.AV.n (Mir.D.int .i64 0)), (Mir.AV.n (Mir.D.str (ByteArray.mk (List.toArray [])))), (Mir.AV.n (Mir.D.int .i64 40))]))
 (sel (x1 != a1)
 (R (Mir.AV.tup [(Mir.AV.n (Mir.D.int .i64 0)), (Mir.AV.n (Mir.D.str (ByteArray.mk (List.toArray [])))), (Mir.AV.n (Mir.D.int .i64 4))]))
 (sel (decide ((((ByteArray.size x2) : Nat) : Int) < 1))
 (R (Mir.AV.tup [(Mir.AV.n (Mir.D.int .i64 0)), (Mir.AV.n (Mir.D.str (ByteArray.mk (List.toArray [])))), (Mir.AV.n (Mir.D.int .i64 4))]))
 (sel (decide ((((ByteArray.size x2) : Nat) : Int) > 481))
 (R (Mir.AV.tup [(Mir.AV.n (Mir.D.int .i64 0)), (Mir.AV.n (Mir.D.str (ByteArray.mk (List.toArray [])))), (Mir.AV.n (Mir.D.int .i64 4))]))
 (((0 : Int) ≤ 0) ∧
 (∃ x4 : UInt8,
 ((((GetElem?.getElem? (Array.toList (ByteArray.data x2)) (Int.toNat 0)) : (Option UInt8)) = (some x4)) ∧
 (sel (decide ((((UInt8.toNat x4) : Nat) : Int) > 7))
 (R (Mir.AV.tup [(Mir.AV.n (Mir.D.int .i64 0)), (Mir.AV.n (Mir.D.str (ByteArray.mk (List.toArray [])))), (Mir.AV.n (Mir.D.int .i64 4))]))
 (((0 : Int) ≤ 0) ∧
 (∃ x5 : UInt8,
 ((((GetElem?.getElem? (Array.toList (ByteArray.data x2)) (Int.toNat 0)) : (Option UInt8)) = (some x5)) ∧
 (((0 : Int) ≤ 1) ∧
 (((1 : Int) ≤ (((ByteArray.size x2) : Nat) : Int)) ∧
 (R (Mir.AV.tup [(Mir.AV.n (Mir.D.int .i64 (Go.IntKind.wrap .i64 (((UInt8.toNat x5) : Nat) : Int)))), (Mir.AV.n (Mir.D.str (ByteArray.extract x2 (Int.toNat 1) (ByteArray.size x2)))), (Mir.AV.n (Mir.D.int .i64 0))])))))))))))))))))))))
theorem vc58 (a0 : ByteArray) (a1 : Int) (R : Mir.AV → Prop) : Vc Fs c58.body (argsQ c58 [(.n (.str a0)), (.n (.int .i64 a1))]) [] (endQ c58 R) = V58 a0 a1 R := by kernel_rfl
def V31 (a0 : List Mir.D) (R : Mir.AV → Prop) : Prop :=
 (∃ x0 : Bool,
 ((Runs Fs 59 [(Mir.AV.o (Mir.D.sl 3 a0)), (Mir.AV.fn 60 [])] [] (Mir.AV.n (Mir.D.bool x0)) []) ∧
 (sel x0
 (R (Mir.AV.tup [(Mir.AV.n (Mir.D.str (ByteArray.mk (List.toArray [])))), (Mir.AV.n (Mir.D.int .i64 1))]))
 (∃ x1 : ByteArray,
 (∃ x2 : Int,
 ((Runs Fs 50 [(Mir.AV.n (Mir.D.int .i64 (((List.length a0) : Nat) : Int))), (Mir.AV.n (Mir.D.int .i64 1))] [] (Mir.AV.tup [(Mir.AV.n (Mir.D.str x1)), (Mir.AV.n (Mir.D.int .i64 x2))]) []) ∧
 (sel (x2 != 0)
 (R (Mir.AV.tup [(Mir.AV.n (Mir.D.str (ByteArray.mk (List.toArray [])))), (Mir.AV.n (Mir.D.int .i64 2))]))
 (∃ x3 : (ByteArray → (Int → Prop)),
 (∃ x4 : (ByteArray → (Int → Nat)),
 (((@Eq (List (Nat × Mir.Ob)) [] []) ∧
 (x3 x1 0)) ∧
 (∀ x5 : ByteArray,
 (∀ x6 : Int,
 ((x3 x5 x6) →
 (∀ x7 : (Nat → Mir.AV),
 (sel (decide (x6 < (((List.length a0) : Nat) : Int)))
 (((3 : Nat) = 3) ∧
 (((0 : Int) ≤ x6) ∧
 (∃ x8 : Mir.D,
 ((((GetElem?.getElem? a0 (Int.toNat x6)) : (Option Mir.D)) = (some x8)) ∧
 (∃ x9 : ByteArray,
 (∃ x10 : ByteArray,
 (∃ x11 : Bool,
 ((@Eq (List Mir.D) (List.take 3 (Go.Mir.D.cells x8)) [(Mir.D.str x9), (Mir.D.str x10), (Mir.D.bool x11)]) ∧
 (((3 : Nat) ≤ (List.length (Go.Mir.D.cells x8))) ∧
 (∃ x12 : ByteArray,
 (∃ x13 : Int,
 ((Runs Fs 62 [(Mir.AV.n (Mir.D.str x9))] [] (Mir.AV.tup [(Mir.AV.n (Mir.D.str x12)), (Mir.AV.n (Mir.D.int .i64 x13))]) []) ∧
 (sel x11
 (((0 : Nat) = 0) ∧
 ((((1 : Nat) = 1) ∨ (@Eq (List Mir.D) [(Mir.D.int .u8 1)] [])) ∧
 ((((List.all [(Mir.D.int .u8 1)] Go.Mir.D.isU8) : Bool) = true) ∧
 ((0 = 0) ∧
 (∃ x14 : ByteArray,
 ((Runs Fs 52 [(Mir.AV.o (Mir.D.sl 1 [(Mir.D.str x5), (Mir.D.str (ByteArray.mk (List.toArray (List.map Go.Mir.byteOf [(Mir.D.int .u8 1)])))), (Mir.D.str x12)]))] [] (Mir.AV.n (Mir.D.str x14)) []) ∧
 (sel (decide ((((ByteArray.size x14) : Nat) : Int) > 480))
 (R (Mir.AV.tup [(Mir.AV.n (Mir.D.str (ByteArray.mk (List.toArray [])))), (Mir.AV.n (Mir.D.int .i64 2))]))
 ((((Mir.AV.o (Mir.D.sl 3 a0)) : Mir.AV) = (Mir.AV.o (Mir.D.sl 3 a0))) ∧
 ((((Mir.AV.n (Mir.D.int .i64 (((List.length a0) : Nat) : Int))) : Mir.AV) = (Mir.AV.n (Mir.D.int .i64 (((List.length a0) : Nat) : Int)))) ∧
 ((@Eq (List (Nat × Mir.Ob)) [] []) ∧
 ((x3 x14 (Go.IntKind.wrap .i64 (x6 + 1))) ∧
 (((x4 x14 (Go.IntKind.wrap .i64 (x6 + 1))) : Nat) < (x4 x5 x6)))))))))))))
 (∃ x15 : ByteArray,
 (∃ x16 : Int,
 ((Runs Fs 62 [(Mir.AV.n (Mir.D.str x10))] [] (Mir.AV.tup [(Mir.AV.n (Mir.D.str x15)), (Mir.AV.n (Mir.D.int .i64 x16))]) []) ∧
 (((0 : Nat) = 0) ∧
 ((((1 : Nat) = 1) ∨ (@Eq (List Mir.D) [(Mir.D.int .u8 0)] [])) ∧
 ((((List.all [(Mir.D.int .u8 0)] Go.Mir.D.isU8) : Bool) = true) ∧
 ((0 = 0) ∧
 (∃ x17 : ByteArray,
 ((Runs Fs 52 [(Mir.AV.o (Mir.D.sl 1 [(Mir.D.str x5), (Mir.D.str (ByteArray.mk (List.toArray (List.map Go.Mir.byteOf [(Mir.D.int .u8 0)])))), (Mir.D.str x12), (Mir.D.str x15)]))] [] (Mir.AV.n (Mir.D.str x17)) []) ∧
 (sel (decide ((((ByteArray.size x17) : Nat) : Int) > 480))
 (R (Mir.AV.tup [(Mir.AV.n (Mir.D.str (ByteArray.mk (List.toArray [])))), (Mir.AV.n (Mir.D.int .i64 2))]))
 ((((Mir.AV.o (Mir.D.sl 3 a0)) : Mir.AV) = (Mir.AV.o (Mir.D.sl 3 a0))) ∧
 ((((Mir.AV.n (Mir.D.int .i64 (((List.length a0) : Nat) : Int))) : Mir.AV) = (Mir.AV.n (Mir.D.int .i64 (((List.length a0) : Nat) : Int)))) ∧
 ((@Eq (List (Nat × Mir.Ob)) [] []) ∧
 ((x3 x17 (Go.IntKind.wrap .i64 (x6 + 1))) ∧
 (((x4 x17 (Go.IntKind.wrap .i64 (x6 + 1))) : Nat) < (x4 x5 x6)))))))))))))))))))))))))))))
 (R (Mir.AV.tup [(Mir.AV.n (Mir.D.str x5)), (Mir.AV.n (Mir.D.int .i64 0))])))))))))))))))))
theorem vc31 (a0 : List Mir.D) (R : Mir.AV → Prop) : Vc Fs c31.body (argsQ c31 [(.o (.sl 3 a0))]) [] (endQ c31 R) = V31 a0 R := by kernel_rfl

end Go.Proofs.YtmmnobdpccdeoaaDoor.M
