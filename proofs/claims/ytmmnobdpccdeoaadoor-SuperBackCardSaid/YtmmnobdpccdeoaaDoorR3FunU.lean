import Derived.Test.YtmmnobdpccdeoaaDoorR3Fun
namespace Go.Proofs.YtmmnobdpccdeoaaDoor.M
set_option linter.unusedVariables false
set_option linter.unusedSimpArgs false
open Go Go.Mir
set_option linter.unusedVariables false
def V7 (a0 : List Mir.D) (a1 : ByteArray) (a2 : Int) (R : Mir.AV → Prop) : Prop :=
 (∃ x0 : Int,
 (∃ x1 : Int,
 (∃ x2 : Int,
 (∃ x3 : Int,
 (∃ x4 : Int,
 ((Runs Fs 14 [(Mir.AV.n (Mir.D.str a1))] [] (Mir.AV.tup [(Mir.AV.agg [(Mir.AV.n (Mir.D.int .i64 x0)), (Mir.AV.n (Mir.D.int .i64 x1)), (Mir.AV.n (Mir.D.int .i64 x2)), (Mir.AV.n (Mir.D.int .i64 x3))]), (Mir.AV.n (Mir.D.int .i64 x4))]) []) ∧
 (sel (x4 == 0)
 (∃ x5 : Bool,
 ((Runs Fs 18 [] [] (Mir.AV.n (Mir.D.bool x5)) []) ∧
 (R (Mir.AV.n (Mir.D.bool x5)))))
 (((4 : Nat) = 4) ∧
 (((0 : Int) ≤ (Go.Mir.mmI false (((List.length a0) : Nat) : Int) 6)) ∧
 ((((Go.Mir.mmI false (((List.length a0) : Nat) : Int) 6) : Int) ≤ (((List.length a0) : Nat) : Int)) ∧
 (∃ x6 : (Nat → (Int → (Int → ((Nat × (List Mir.D)) → Prop)))),
 (∃ x7 : (Nat → (Int → (Int → ((Nat × (List Mir.D)) → Nat)))),
 (((@Eq (List (Nat × Mir.Ob)) [(700105, (.box [(Mir.AV.n (Mir.D.int .i64 x0)), (Mir.AV.n (Mir.D.int .i64 x1)), (Mir.AV.n (Mir.D.int .i64 x2)), (Mir.AV.n (Mir.D.int .i64 x3))])), (701403, (.row false true 0 9 1 []))] [(700105, (.box [(Mir.AV.n (Mir.D.int .i64 x0)), (Mir.AV.n (Mir.D.int .i64 x1)), (Mir.AV.n (Mir.D.int .i64 x2)), (Mir.AV.n (Mir.D.int .i64 x3))])), (701403, (.row false true 0 9 1 []))]) ∧
 (x6 0 0 0 (0, []))) ∧
 (∀ x8 : Nat,
 (∀ x9 : Int,
 (∀ x10 : Int,
 (∀ x11 : (Nat × (List Mir.D)),
 ((x6 x8 x9 x10 x11) →
 (∀ x12 : (Nat → Mir.AV),
 (sel (decide (x10 < (((List.length (List.drop 0 (List.take (Int.toNat (Go.Mir.mmI false (((List.length a0) : Nat) : Int) 6)) a0))) : Nat) : Int)))
 (((4 : Nat) = 4) ∧
 (((0 : Int) ≤ x10) ∧
 (∃ x13 : Mir.D,
 ((((GetElem?.getElem? (List.drop 0 (List.take (Int.toNat (Go.Mir.mmI false (((List.length a0) : Nat) : Int) 6)) a0)) (Int.toNat x10)) : (Option Mir.D)) = (some x13)) ∧
 (∃ x14 : Int,
 (∃ x15 : Int,
 (∃ x16 : Int,
 (∃ x17 : Int,
 ((@Eq (List Mir.D) (List.take 4 (Go.Mir.D.cells x13)) [(Mir.D.int .i64 x14), (Mir.D.int .i64 x15), (Mir.D.int .i64 x16), (Mir.D.int .i64 x17)]) ∧
 (((4 : Nat) ≤ (List.length (Go.Mir.D.cells x13))) ∧
 (∃ x18 : ByteArray,
 (∃ x19 : Int,
 ((Runs Fs 22 [(Mir.AV.agg [(Mir.AV.n (Mir.D.int .i64 x14)), (Mir.AV.n (Mir.D.int .i64 x15)), (Mir.AV.n (Mir.D.int .i64 x16)), (Mir.AV.n (Mir.D.int .i64 x17))])] [] (Mir.AV.tup [(Mir.AV.n (Mir.D.str x18)), (Mir.AV.n (Mir.D.int .i64 x19))]) []) ∧
 (sel (x19 != 0)
 (((0 : Nat) = 0) ∧
 ((((1 : Nat) = 1) ∨ (@Eq (List Mir.D) [(Mir.D.str a1)] [])) ∧
 ((((((Prod.fst x11) : Nat) = x8) ∧
 ((9 : Nat) = 9)) ∧
 ((1 : Nat) = 1)) ∧
 ((((((List.length (Prod.snd x11)) + (List.length [(Mir.D.str a1)])) * 16) : Nat) ≤ 140737488355328) ∧
 ((((Mir.AV.n (Mir.D.str a1)) : Mir.AV) = (Mir.AV.n (Mir.D.str a1))) ∧
 ((((Mir.AV.n (Mir.D.int .i64 a2)) : Mir.AV) = (Mir.AV.n (Mir.D.int .i64 a2))) ∧
 ((((Mir.AV.o (Mir.D.sl 4 (List.drop 0 (List.take (Int.toNat (Go.Mir.mmI false (((List.length a0) : Nat) : Int) 6)) a0)))) : Mir.AV) = (Mir.AV.o (Mir.D.sl 4 (List.drop 0 (List.take (Int.toNat (Go.Mir.mmI false (((List.length a0) : Nat) : Int) 6)) a0))))) ∧
 ((((Mir.AV.n (Mir.D.int .i64 (((List.length (List.drop 0 (List.take (Int.toNat (Go.Mir.mmI false (((List.length a0) : Nat) : Int) 6)) a0))) : Nat) : Int))) : Mir.AV) = (Mir.AV.n (Mir.D.int .i64 (((List.length (List.drop 0 (List.take (Int.toNat (Go.Mir.mmI false (((List.length a0) : Nat) : Int) 6)) a0))) : Nat) : Int)))) ∧
 ((@Eq (List (Nat × Mir.Ob)) [(700105, (.box [(Mir.AV.n (Mir.D.int .i64 x0)), (Mir.AV.n (Mir.D.int .i64 x1)), (Mir.AV.n (Mir.D.int .i64 x2)), (Mir.AV.n (Mir.D.int .i64 x3))])), (701403, (.row false true (x8 + 1) 9 1 ((Prod.snd x11) ++ [(Mir.D.str a1)])))] [(700105, (.box [(Mir.AV.n (Mir.D.int .i64 x0)), (Mir.AV.n (Mir.D.int .i64 x1)), (Mir.AV.n (Mir.D.int .i64 x2)), (Mir.AV.n (Mir.D.int .i64 x3))])), (701403, (.row false true (x8 + 1) 9 1 ((Prod.snd x11) ++ [(Mir.D.str a1)])))]) ∧
 ((x6 (x8 + 1) x9 (Go.IntKind.wrap .i64 (x10 + 1)) ((x8 + 1), ((Prod.snd x11) ++ [(Mir.D.str a1)]))) ∧
 (((x7 (x8 + 1) x9 (Go.IntKind.wrap .i64 (x10 + 1)) ((x8 + 1), ((Prod.snd x11) ++ [(Mir.D.str a1)]))) : Nat) < (x7 x8 x9 x10 x11))))))))))))
 (((0 : Nat) = 0) ∧
 ((((1 : Nat) = 1) ∨ (@Eq (List Mir.D) [(Mir.D.str x18)] [])) ∧
 ((((((Prod.fst x11) : Nat) = x8) ∧
 ((9 : Nat) = 9)) ∧
 ((1 : Nat) = 1)) ∧
 ((((((List.length (Prod.snd x11)) + (List.length [(Mir.D.str x18)])) * 16) : Nat) ≤ 140737488355328) ∧
 ((((Mir.AV.n (Mir.D.str a1)) : Mir.AV) = (Mir.AV.n (Mir.D.str a1))) ∧
 ((((Mir.AV.n (Mir.D.int .i64 a2)) : Mir.AV) = (Mir.AV.n (Mir.D.int .i64 a2))) ∧
 ((((Mir.AV.o (Mir.D.sl 4 (List.drop 0 (List.take (Int.toNat (Go.Mir.mmI false (((List.length a0) : Nat) : Int) 6)) a0)))) : Mir.AV) = (Mir.AV.o (Mir.D.sl 4 (List.drop 0 (List.take (Int.toNat (Go.Mir.mmI false (((List.length a0) : Nat) : Int) 6)) a0))))) ∧
 ((((Mir.AV.n (Mir.D.int .i64 (((List.length (List.drop 0 (List.take (Int.toNat (Go.Mir.mmI false (((List.length a0) : Nat) : Int) 6)) a0))) : Nat) : Int))) : Mir.AV) = (Mir.AV.n (Mir.D.int .i64 (((List.length (List.drop 0 (List.take (Int.toNat (Go.Mir.mmI false (((List.length a0) : Nat) : Int) 6)) a0))) : Nat) : Int)))) ∧
 ((@Eq (List (Nat × Mir.Ob)) [(700105, (.box [(Mir.AV.n (Mir.D.int .i64 x0)), (Mir.AV.n (Mir.D.int .i64 x1)), (Mir.AV.n (Mir.D.int .i64 x2)), (Mir.AV.n (Mir.D.int .i64 x3))])), (701403, (.row false true (x8 + 1) 9 1 ((Prod.snd x11) ++ [(Mir.D.str x18)])))] [(700105, (.box [(Mir.AV.n (Mir.D.int .i64 x0)), (Mir.AV.n (Mir.D.int .i64 x1)), (Mir.AV.n (Mir.D.int .i64 x2)), (Mir.AV.n (Mir.D.int .i64 x3))])), (701403, (.row false true (x8 + 1) 9 1 ((Prod.snd x11) ++ [(Mir.D.str x18)])))]) ∧
 ((x6 (x8 + 1) (Go.Mir.mmI true x9 x14) (Go.IntKind.wrap .i64 (x10 + 1)) ((x8 + 1), ((Prod.snd x11) ++ [(Mir.D.str x18)]))) ∧
 (((x7 (x8 + 1) (Go.Mir.mmI true x9 x14) (Go.IntKind.wrap .i64 (x10 + 1)) ((x8 + 1), ((Prod.snd x11) ++ [(Mir.D.str x18)]))) : Nat) < (x7 x8 x9 x10 x11))))))))))))))))))))))))))
 ((((Prod.fst x11) : Nat) = x8) ∧
 ((((Go.IntKind.wrap .i64 ((((List.length (Prod.snd x11)) : Nat) : Int) + 1)) : Int) ≠ 0) ∧
 ((((Prod.fst x11) : Nat) = x8) ∧
 ((((Prod.fst x11) : Nat) = x8) ∧
 ((((Go.IntKind.wrap .i64 ((((List.length (Prod.snd x11)) : Nat) : Int) + 1)) : Int) ≠ 0) ∧
 ((((Prod.fst x11) : Nat) = x8) ∧
 (((1 : Nat) = 1) ∧
 (((0 : Int) ≤ (Int.tmod (Go.IntKind.wrap .i64 ((Go.IntKind.wrap .i64 ((Int.tmod a2 (Go.IntKind.wrap .i64 ((((List.length (Prod.snd x11)) : Nat) : Int) + 1))) + (((List.length (Prod.snd x11)) : Nat) : Int))) + 1)) (Go.IntKind.wrap .i64 ((((List.length (Prod.snd x11)) : Nat) : Int) + 1)))) ∧
 ((((Int.tmod (Go.IntKind.wrap .i64 ((Go.IntKind.wrap .i64 ((Int.tmod a2 (Go.IntKind.wrap .i64 ((((List.length (Prod.snd x11)) : Nat) : Int) + 1))) + (((List.length (Prod.snd x11)) : Nat) : Int))) + 1)) (Go.IntKind.wrap .i64 ((((List.length (Prod.snd x11)) : Nat) : Int) + 1))) : Int) ≤ (((List.length (Prod.snd x11)) : Nat) : Int)) ∧
 ((((1 : Nat) = 1) ∨ (@Eq (List Mir.D) (List.drop 0 (List.take (Int.toNat (Int.tmod (Go.IntKind.wrap .i64 ((Go.IntKind.wrap .i64 ((Int.tmod a2 (Go.IntKind.wrap .i64 ((((List.length (Prod.snd x11)) : Nat) : Int) + 1))) + (((List.length (Prod.snd x11)) : Nat) : Int))) + 1)) (Go.IntKind.wrap .i64 ((((List.length (Prod.snd x11)) : Nat) : Int) + 1)))) (Prod.snd x11))) [])) ∧
 (((((0 : Nat) = 0) ∧
 ((9 : Nat) = 9)) ∧
 ((1 : Nat) = 1)) ∧
 (((((0 + (List.length (List.drop 0 (List.take (Int.toNat (Int.tmod (Go.IntKind.wrap .i64 ((Go.IntKind.wrap .i64 ((Int.tmod a2 (Go.IntKind.wrap .i64 ((((List.length (Prod.snd x11)) : Nat) : Int) + 1))) + (((List.length (Prod.snd x11)) : Nat) : Int))) + 1)) (Go.IntKind.wrap .i64 ((((List.length (Prod.snd x11)) : Nat) : Int) + 1)))) (Prod.snd x11))))) * 16) : Nat) ≤ 140737488355328) ∧
 (((0 : Nat) = 0) ∧
 ((((1 : Nat) = 1) ∨ (@Eq (List Mir.D) [(Mir.D.str a1)] [])) ∧
 (((((1 : Nat) = 1) ∧
 ((9 : Nat) = 9)) ∧
 ((1 : Nat) = 1)) ∧
 ((((((List.length ([] ++ (List.drop 0 (List.take (Int.toNat (Int.tmod (Go.IntKind.wrap .i64 ((Go.IntKind.wrap .i64 ((Int.tmod a2 (Go.IntKind.wrap .i64 ((((List.length (Prod.snd x11)) : Nat) : Int) + 1))) + (((List.length (Prod.snd x11)) : Nat) : Int))) + 1)) (Go.IntKind.wrap .i64 ((((List.length (Prod.snd x11)) : Nat) : Int) + 1)))) (Prod.snd x11))))) + (List.length [(Mir.D.str a1)])) * 16) : Nat) ≤ 140737488355328) ∧
 ((((Prod.fst x11) : Nat) = x8) ∧
 (((1 : Nat) = 1) ∧
 (((0 : Int) ≤ (Int.tmod (Go.IntKind.wrap .i64 ((Go.IntKind.wrap .i64 ((Int.tmod a2 (Go.IntKind.wrap .i64 ((((List.length (Prod.snd x11)) : Nat) : Int) + 1))) + (((List.length (Prod.snd x11)) : Nat) : Int))) + 1)) (Go.IntKind.wrap .i64 ((((List.length (Prod.snd x11)) : Nat) : Int) + 1)))) ∧
 ((((Int.tmod (Go.IntKind.wrap .i64 ((Go.IntKind.wrap .i64 ((Int.tmod a2 (Go.IntKind.wrap .i64 ((((List.length (Prod.snd x11)) : Nat) : Int) + 1))) + (((List.length (Prod.snd x11)) : Nat) : Int))) + 1)) (Go.IntKind.wrap .i64 ((((List.length (Prod.snd x11)) : Nat) : Int) + 1))) : Int) ≤ (((List.length (Prod.snd x11)) : Nat) : Int)) ∧
 ((((1 : Nat) = 1) ∨ (@Eq (List Mir.D) (List.drop (Int.toNat (Int.tmod (Go.IntKind.wrap .i64 ((Go.IntKind.wrap .i64 ((Int.tmod a2 (Go.IntKind.wrap .i64 ((((List.length (Prod.snd x11)) : Nat) : Int) + 1))) + (((List.length (Prod.snd x11)) : Nat) : Int))) + 1)) (Go.IntKind.wrap .i64 ((((List.length (Prod.snd x11)) : Nat) : Int) + 1)))) (List.take (List.length (Prod.snd x11)) (Prod.snd x11))) [])) ∧
 (((((2 : Nat) = 2) ∧
 ((9 : Nat) = 9)) ∧
 ((1 : Nat) = 1)) ∧
 ((((((List.length (([] ++ (List.drop 0 (List.take (Int.toNat (Int.tmod (Go.IntKind.wrap .i64 ((Go.IntKind.wrap .i64 ((Int.tmod a2 (Go.IntKind.wrap .i64 ((((List.length (Prod.snd x11)) : Nat) : Int) + 1))) + (((List.length (Prod.snd x11)) : Nat) : Int))) + 1)) (Go.IntKind.wrap .i64 ((((List.length (Prod.snd x11)) : Nat) : Int) + 1)))) (Prod.snd x11)))) ++ [(Mir.D.str a1)])) + (List.length (List.drop (Int.toNat (Int.tmod (Go.IntKind.wrap .i64 ((Go.IntKind.wrap .i64 ((Int.tmod a2 (Go.IntKind.wrap .i64 ((((List.length (Prod.snd x11)) : Nat) : Int) + 1))) + (((List.length (Prod.snd x11)) : Nat) : Int))) + 1)) (Go.IntKind.wrap .i64 ((((List.length (Prod.snd x11)) : Nat) : Int) + 1)))) (List.take (List.length (Prod.snd x11)) (Prod.snd x11))))) * 16) : Nat) ≤ 140737488355328) ∧
 (((Prod.fst x11) = x8) ∧
 (∃ x20 : Int,
 (∃ x21 : Int,
 (∃ x22 : Int,
 (∃ x23 : Int,
 (∃ x24 : Int,
 (∃ x25 : Int,
 ((Runs Fs 16 [(Mir.AV.o (Mir.D.sl 1 (Prod.snd x11)))] [] (Mir.AV.tup [(Mir.AV.agg [(Mir.AV.n (Mir.D.int .i64 x20)), (Mir.AV.n (Mir.D.int .i64 x21)), (Mir.AV.n (Mir.D.int .i64 x22)), (Mir.AV.n (Mir.D.int .i64 x23))]), (Mir.AV.n (Mir.D.int .i64 x24)), (Mir.AV.n (Mir.D.int .i64 x25))]) []) ∧
 ((3 = 3) ∧
 (∃ x26 : Int,
 (∃ x27 : Int,
 (∃ x28 : Int,
 (∃ x29 : Int,
 (∃ x30 : Int,
 (∃ x31 : Int,
 ((Runs Fs 16 [(Mir.AV.o (Mir.D.sl 1 ((([] ++ (List.drop 0 (List.take (Int.toNat (Int.tmod (Go.IntKind.wrap .i64 ((Go.IntKind.wrap .i64 ((Int.tmod a2 (Go.IntKind.wrap .i64 ((((List.length (Prod.snd x11)) : Nat) : Int) + 1))) + (((List.length (Prod.snd x11)) : Nat) : Int))) + 1)) (Go.IntKind.wrap .i64 ((((List.length (Prod.snd x11)) : Nat) : Int) + 1)))) (Prod.snd x11)))) ++ [(Mir.D.str a1)]) ++ (List.drop (Int.toNat (Int.tmod (Go.IntKind.wrap .i64 ((Go.IntKind.wrap .i64 ((Int.tmod a2 (Go.IntKind.wrap .i64 ((((List.length (Prod.snd x11)) : Nat) : Int) + 1))) + (((List.length (Prod.snd x11)) : Nat) : Int))) + 1)) (Go.IntKind.wrap .i64 ((((List.length (Prod.snd x11)) : Nat) : Int) + 1)))) (List.take (List.length (Prod.snd x11)) (Prod.snd x11))))))] [] (Mir.AV.tup [(Mir.AV.agg [(Mir.AV.n (Mir.D.int .i64 x26)), (Mir.AV.n (Mir.D.int .i64 x27)), (Mir.AV.n (Mir.D.int .i64 x28)), (Mir.AV.n (Mir.D.int .i64 x29))]), (Mir.AV.n (Mir.D.int .i64 x30)), (Mir.AV.n (Mir.D.int .i64 x31))]) []) ∧
 (sel (x9 == 0)
 (∃ x32 : Bool,
 ((Runs Fs 18 [] [] (Mir.AV.n (Mir.D.bool x32)) []) ∧
 (sel x32
 (sel (x25 == 120)
 (R (Mir.AV.n (Mir.D.bool (x31 == 120))))
 (R (Mir.AV.n (Mir.D.bool false))))
 (R (Mir.AV.n (Mir.D.bool false))))))
 (sel (decide (x24 ≥ (Int.tmod (Go.IntKind.wrap .i64 ((Go.IntKind.wrap .i64 ((Int.tmod a2 (Go.IntKind.wrap .i64 ((((List.length (Prod.snd x11)) : Nat) : Int) + 1))) + (((List.length (Prod.snd x11)) : Nat) : Int))) + 1)) (Go.IntKind.wrap .i64 ((((List.length (Prod.snd x11)) : Nat) : Int) + 1)))))
 (∃ x33 : Bool,
 ((Runs Fs 18 [] [] (Mir.AV.n (Mir.D.bool x33)) []) ∧
 (sel x33
 (sel (x25 == 0)
 (sel (x31 == 0)
 (sel ((x20 == x26) && ((x21 == x27) && ((x22 == x28) && ((x23 == x29) && true))))
 (sel ((Go.IntKind.wrap .i64 (x24 + 1)) == x30)
 (R (Mir.AV.n (Mir.D.bool (x20 == x9))))
 (R (Mir.AV.n (Mir.D.bool false))))
 (R (Mir.AV.n (Mir.D.bool false))))
 (R (Mir.AV.n (Mir.D.bool false))))
 (R (Mir.AV.n (Mir.D.bool false))))
 (R (Mir.AV.n (Mir.D.bool false))))))
 (∃ x34 : Bool,
 ((Runs Fs 18 [] [] (Mir.AV.n (Mir.D.bool x34)) []) ∧
 (sel x34
 (sel (x25 == 0)
 (sel (x31 == 0)
 (sel ((x20 == x26) && ((x21 == x27) && ((x22 == x28) && ((x23 == x29) && true))))
 (sel (x24 == x30)
 (R (Mir.AV.n (Mir.D.bool (x20 == x9))))
 (R (Mir.AV.n (Mir.D.bool false))))
 (R (Mir.AV.n (Mir.D.bool false))))
 (R (Mir.AV.n (Mir.D.bool false))))
 (R (Mir.AV.n (Mir.D.bool false))))
 (R (Mir.AV.n (Mir.D.bool false)))))))))))))))))))))))))))))))))))))))))))))))))))))))))))))))))))
theorem vc7 (a0 : List Mir.D) (a1 : ByteArray) (a2 : Int) (R : Mir.AV → Prop) : Vc Fs c7.body (argsQ c7 [(.o (.sl 4 a0)), (.n (.str a1)), (.n (.int .i64 a2))]) [] (endQ c7 R) = V7 a0 a1 a2 R := by kernel_rfl
def V56h (x : Int) (g : Int) (r : Int) (m : Int) (z : Int) (R : Mir.AV → Heap → Prop) : Prop :=
 (sel (decide (x ≥ 10))
 (R (Mir.AV.n (Mir.D.bool (decide (x < z)))) [(2400000, (.box [(Mir.AV.n (Mir.D.int .i64 g)), (Mir.AV.n (Mir.D.int .i64 r)), (Mir.AV.n (Mir.D.int .i64 m)), (Mir.AV.n (Mir.D.int .i64 z))]))])
 (R (Mir.AV.n (Mir.D.bool false)) [(2400000, (.box [(Mir.AV.n (Mir.D.int .i64 g)), (Mir.AV.n (Mir.D.int .i64 r)), (Mir.AV.n (Mir.D.int .i64 m)), (Mir.AV.n (Mir.D.int .i64 z))]))]))
theorem vc56h (x : Int) (g : Int) (r : Int) (m : Int) (z : Int) (R : Mir.AV → Heap → Prop) : Vc Fs c56.body (argsQ c56 [(.n (.int .i64 x)), (.ptr 2400000 0)]) [(2400000, .box [.n (.int .i64 g), .n (.int .i64 r), .n (.int .i64 m), .n (.int .i64 z)])] (endQH c56 [(2400000, .box [.n (.int .i64 g), .n (.int .i64 r), .n (.int .i64 m), .n (.int .i64 z)])] R) = V56h x g r m z R := by kernel_rfl

end Go.Proofs.YtmmnobdpccdeoaaDoor.M
