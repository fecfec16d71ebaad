import Derived.Test.YtmmnobdpccdeoaaGreatDoorZ3L
namespace Go.Proofs.YtmmnobdpccdeoaaGreatDoor.M
set_option linter.unusedVariables false
set_option linter.unusedSimpArgs false
open Go Go.Mir
set_option linter.unusedVariables false
def V4 (a0_0 : LD) (a0_1 : LD) (a0_2 : LD) (a0_3 : Int) (a0_4 : Int) (a1 : ByteArray) (a2 : Int) (R : Mir.AV → Prop) : Prop :=
 (∃ x0 : Bool,((Runs Fs2 13 [(.agg [(aL a0_0),(aL a0_1),(aL a0_2),(aI a0_3),(aI a0_4)])] [] (aB x0) []) ∧ (sel (Bool.not x0) (∃ x1 : Bool,((Runs Fs2 14 [] [] (aB x1) []) ∧ (R (.n
 (.bool x1))))) (∃ x2 : LD,(∃ x3 : ByteArray,(∃ x4 : Int,((Runs Fs2 15 [(.agg [(aL a0_0),(aL a0_1),(aL a0_2),(aI a0_3),(aI a0_4)]),(aS a1),(aI a2)] [] (.tup [(.o (Mir.D.sl 2
 x2)),(aS x3),(aI x4)]) []) ∧ (∃ x5 : Bool,((Runs Fs2 16 [(.agg [(aL a0_0),(aL a0_1),(aL a0_2),(aI a0_3),(aI a0_4)])] [] (aB x5) []) ∧ (sel (Bool.not x5) (∃ x6 : Bool,((Runs Fs2 14
 [] [] (aB x6) []) ∧ (sel x6 (sel (x4 == 1) (sel ((x2.length : Int) == 0) (R (.n (.bool ((ByteArray.toList x3) == (ByteArray.toList (ByteArray.mk (List.toArray []))))))) (R (.n
 (.bool false)))) (R (.n (.bool false)))) (R (.n (.bool false)))))) (sel (decide ((((ByteArray.size a1) : Nat) : Int) > 32)) (∃ x7 : Bool,((Runs Fs2 14 [] [] (aB x7) []) ∧ (sel x7
 (sel (x4 == 1) (sel ((x2.length : Int) == 0) (R (.n (.bool ((ByteArray.toList x3) == (ByteArray.toList (ByteArray.mk (List.toArray []))))))) (R (.n (.bool false)))) (R (.n (.bool
 false)))) (R (.n (.bool false)))))) (sel (decide (a2 < 0)) (∃ x8 : Bool,((Runs Fs2 14 [] [] (aB x8) []) ∧ (sel x8 (sel (x4 == 1) (sel ((x2.length : Int) == 0) (R (.n (.bool
 ((ByteArray.toList x3) == (ByteArray.toList (ByteArray.mk (List.toArray []))))))) (R (.n (.bool false)))) (R (.n (.bool false)))) (R (.n (.bool false)))))) (sel (decide (a2 > 256))
 (∃ x9 : Bool,((Runs Fs2 14 [] [] (aB x9) []) ∧ (sel x9 (sel (x4 == 1) (sel ((x2.length : Int) == 0) (R (.n (.bool ((ByteArray.toList x3) == (ByteArray.toList (ByteArray.mk
 (List.toArray []))))))) (R (.n (.bool false)))) (R (.n (.bool false)))) (R (.n (.bool false)))))) (∃ x10 : Unit,(∃ x11 : Nat,(∃ x12 : Nat,(∃ x13 : Int,(∃ x14 : Bool,(∃ x15 : Nat,(∃
 x16 : LD,(∃ x17 : Nat,(∃ x18 : LD,((Runs Fs2 17 [(.agg [(aL a0_0),(aL a0_1),(aL a0_2),(aI a0_3),(aI a0_4)])] [] (.ptr 1700101 0) [(hB 1700101 [(.row 1790001 x11),(.row 1790002
 x12),(aI x13),(aB x14)]),(hR 1790001 x15 51 2 x16),(hR 1790002 x17 3 1 x18)]) ∧ (sel (Bool.not x14) ((x15 = x11) ∧ (∃ x19 : LD,(∃ x20 : ByteArray,((Runs Fs2 18 [(.o (Mir.D.sl 2
 x16)),(aS a1),(aI a2)] [] (.tup [(.o (Mir.D.sl 2 x19)),(aS x20)]) []) ∧ (∃ x21 : Bool,((Runs Fs2 14 [] [] (aB x21) []) ∧ (sel x21 (sel (x4 == 0) (∃ x22 : Bool,((Runs Fs2 19 [(.o
 (Mir.D.sl 2 x2)),(.o (Mir.D.sl 2 x19))] [] (aB x22) []) ∧ (sel x22 (R (.n (.bool ((ByteArray.toList x3) == (ByteArray.toList x20))))) (R (.n (.bool false)))))) (R (.n (.bool
 false)))) (R (.n (.bool false)))))))))) (sel (x4 != 0) (∃ x23 : Bool,((Runs Fs2 14 [] [] (aB x23) []) ∧ (sel x23 (sel (x4 == 81) (sel ((x2.length : Int) == 0) (R (.n (.bool
 ((ByteArray.toList x3) == (ByteArray.toList (ByteArray.mk (List.toArray []))))))) (R (.n (.bool false)))) (R (.n (.bool false)))) (R (.n (.bool false)))))) (∃ x24 : (Int → Prop),(∃
 x25 : (Int → Nat),(((rh [(hB 400000 [(aL a0_0),(aL a0_1),(aL a0_2),(aI a0_3),(aI a0_4)]),(hB 450601 [(.row 460601 x11),(.row 470601 x12),(aI x13),(aB x14)]),(hR 460601 x15 51 2
 x16),(hR 470601 x17 3 1 x18)]) ∧ (x24 0)) ∧ (∀ x26 : Int,((x24 x26) → (∀ x27 : (Nat → Mir.AV),(sel (decide (x26 < (x2.length : Int))) ((rn 2) ∧ ((0 : Int) ≤ x26) ∧ (∃ x28 :
 Mir.D,((x2[Int.toNat x26]? = some x28) ∧ (∃ x29 : ByteArray,(∃ x30 : ByteArray,((@Eq LD (List.take 2 (D.cells x28)) [(Mir.D.str x29),(Mir.D.str x30)]) ∧ ((2 : Nat) ≤ (List.length
 (D.cells x28))) ∧ (sel (Op.bytesLess (ByteArray.toList x29) (ByteArray.toList a1)) (R (.n (.bool false))) (sel (decide (x26 > 0)) ((rn 2) ∧ ((0 : Int) ≤ (IntKind.wrap .i64 (x26 -
 1))) ∧ (∃ x31 : Mir.D,((x2[Int.toNat (IntKind.wrap .i64 (x26 - 1))]? = some x31) ∧ (∃ x32 : ByteArray,(((List.drop 0 (D.cells x31))[0]? = some (Mir.D.str x32)) ∧ (sel
 ((Op.bytesLess (ByteArray.toList x29) (ByteArray.toList x32)) || ((ByteArray.toList x29) == (ByteArray.toList x32))) (R (.n (.bool false))) ((rq (aS a1)) ∧ (rq (aI a2)) ∧ (rq (.o
 (Mir.D.sl 2 x2))) ∧ (rq (aS x3)) ∧ (rq (.o (Mir.D.sl 2 x2))) ∧ (rq (aI (x2.length : Int))) ∧ (rh [(hB 400000 [(aL a0_0),(aL a0_1),(aL a0_2),(aI a0_3),(aI a0_4)]),(hB 450601 [(.row
 460601 x11),(.row 470601 x12),(aI x13),(aB x14)]),(hR 460601 x15 51 2 x16),(hR 470601 x17 3 1 x18)]) ∧ (x24 (IntKind.wrap .i64 (x26 + 1))) ∧ (((x25 (IntKind.wrap .i64 (x26 + 1))) :
 Nat) < (x25 x26))))))))) ((rq (aS a1)) ∧ (rq (aI a2)) ∧ (rq (.o (Mir.D.sl 2 x2))) ∧ (rq (aS x3)) ∧ (rq (.o (Mir.D.sl 2 x2))) ∧ (rq (aI (x2.length : Int))) ∧ (rh [(hB 400000 [(aL
 a0_0),(aL a0_1),(aL a0_2),(aI a0_3),(aI a0_4)]),(hB 450601 [(.row 460601 x11),(.row 470601 x12),(aI x13),(aB x14)]),(hR 460601 x15 51 2 x16),(hR 470601 x17 3 1 x18)]) ∧ (x24
 (IntKind.wrap .i64 (x26 + 1))) ∧ (((x25 (IntKind.wrap .i64 (x26 + 1))) : Nat) < (x25 x26))))))))))) (∃ x33 : Bool,((Runs Fs2 14 [] [] (aB x33) []) ∧ (sel x33 (sel (decide
 ((x2.length : Int) ≤ a2)) (sel ((ByteArray.toList x3) == (ByteArray.toList (ByteArray.mk (List.toArray [])))) (R (.n (.bool true))) (sel ((x2.length : Int) == 0) (R (.n (.bool
 true))) ((rn 2) ∧ ((0 : Int) ≤ (IntKind.wrap .i64 ((x2.length : Int) - 1))) ∧ (∃ x34 : Mir.D,((x2[Int.toNat (IntKind.wrap .i64 ((x2.length : Int) - 1))]? = some x34) ∧ (∃ x35 :
 ByteArray,(((List.drop 0 (D.cells x34))[0]? = some (Mir.D.str x35)) ∧ (R (.n (.bool (Bool.not ((Op.bytesLess (ByteArray.toList x3) (ByteArray.toList x35)) || ((ByteArray.toList x3)
 == (ByteArray.toList x35)))))))))))))) (R (.n (.bool false)))) (R (.n (.bool false))))))))))))))))))))))))))))))))))))))
theorem vc4 (a0_0 : LD) (a0_1 : LD) (a0_2 : LD) (a0_3 : Int) (a0_4 : Int) (a1 : ByteArray) (a2 : Int) (R : Mir.AV → Prop) : Vc Fs2 c4.body (argsQ c4 [(.agg [(.o (.sl 1 a0_0)), (.o (.sl 1 a0_1)), (.o (.sl 1 a0_2)), (.n (.int .i64 a0_3)), (.n (.int .i64 a0_4))]), (.n (.str a1)), (.n (.int .i64 a2))]) [] (endQ c4 R) = V4 a0_0 a0_1 a0_2 a0_3 a0_4 a1 a2 R := by kernel_rfl
def V5 (a0_0 : LD) (a0_1 : LD) (a0_2 : LD) (a0_3 : Int) (a0_4 : Int) (a1 : Int) (R : Mir.AV → Prop) : Prop :=
 (∃ x0 : Bool,((Runs Fs2 13 [(.agg [(aL a0_0),(aL a0_1),(aL a0_2),(aI a0_3),(aI a0_4)])] [] (aB x0) []) ∧ (sel (Bool.not x0) (∃ x1 : Bool,((Runs Fs2 14 [] [] (aB x1) []) ∧ (R (.n
 (.bool x1))))) (∃ x2 : Bool,((Runs Fs2 16 [(.agg [(aL a0_0),(aL a0_1),(aL a0_2),(aI a0_3),(aI a0_4)])] [] (aB x2) []) ∧ (sel (Bool.not x2) (∃ x3 : Bool,((Runs Fs2 14 [] [] (aB x3)
 []) ∧ (R (.n (.bool x3))))) (∃ x4 : Unit,(∃ x5 : Nat,(∃ x6 : Nat,(∃ x7 : Int,(∃ x8 : Bool,(∃ x9 : Nat,(∃ x10 : LD,(∃ x11 : Nat,(∃ x12 : LD,((Runs Fs2 17 [(.agg [(aL a0_0),(aL
 a0_1),(aL a0_2),(aI a0_3),(aI a0_4)])] [] (.ptr 1700101 0) [(hB 1700101 [(.row 1790001 x5),(.row 1790002 x6),(aI x7),(aB x8)]),(hR 1790001 x9 51 2 x10),(hR 1790002 x11 3 1 x12)]) ∧
 (sel x8 (∃ x13 : Bool,((Runs Fs2 14 [] [] (aB x13) []) ∧ (R (.n (.bool x13))))) (∃ x14 : (Nat → (ByteArray → (Int → ((Nat × LD) → Prop)))),(∃ x15 : (Nat → (ByteArray → (Int → ((Nat
 × LD) → Nat)))),(((rh [(hB 500000 [(aL a0_0),(aL a0_1),(aL a0_2),(aI a0_3),(aI a0_4)]),(hR 501102 0 51 2 []),(hB 550110 [(.row 560110 x5),(.row 570110 x6),(aI x7),(aB x8)]),(hR
 560110 x9 51 2 x10),(hR 570110 x11 3 1 x12)]) ∧ (x14 0 (ByteArray.mk (List.toArray [])) 0 (0,[]))) ∧ (∀ x16 : Nat,(∀ x17 : ByteArray,(∀ x18 : Int,(∀ x19 : (Nat × LD),((x14 x16 x17
 x18 x19) → (∀ x20 : (Nat → Mir.AV),(sel (decide (x18 < 3000)) (∃ x21 : LD,(∃ x22 : ByteArray,(∃ x23 : Int,((Runs Fs2 15 [(.agg [(aL a0_0),(aL a0_1),(aL a0_2),(aI a0_3),(aI
 a0_4)]),(aS x17),(aI (mmI false (mmI true a1 1) 256))] [] (.tup [(.o (Mir.D.sl 2 x21)),(aS x22),(aI x23)]) []) ∧ (sel (x23 != 0) (R (.n (.bool false))) (sel (decide ((x21.length :
 Int) > (mmI false (mmI true a1 1) 256))) (R (.n (.bool false))) (sel ((ByteArray.toList x22) == (ByteArray.toList (ByteArray.mk (List.toArray [])))) (sel ((x21.length : Int) == 0)
 ((((Prod.fst x19) : Nat) = x16) ∧ (sel (decide (((Prod.snd x19).length : Int) > 0)) (R (.n (.bool false))) (((rn 2) ∨ (@Eq LD x21 [])) ∧ (((((Prod.fst x19) : Nat) = x16) ∧ (rn 51))
 ∧ (rn 2)) ∧ (((((List.length (Prod.snd x19)) + (List.length x21)) * 32) : Nat) ≤ 140737488355328) ∧ (sel ((ByteArray.toList x22) == (ByteArray.toList (ByteArray.mk (List.toArray
 [])))) ((rn (x16 + 1)) ∧ (∃ x24 : (Int → Prop),(∃ x25 : (Int → Nat),(((rh [(hB 500000 [(aL a0_0),(aL a0_1),(aL a0_2),(aI a0_3),(aI a0_4)]),(hR 501102 (x16 + 1) 51 2 ((Prod.snd x19)
 ++ x21)),(hB 550110 [(.row 560110 x5),(.row 570110 x6),(aI x7),(aB x8)]),(hR 560110 x9 51 2 x10),(hR 570110 x11 3 1 x12)]) ∧ (x24 0)) ∧ (∀ x26 : Int,((x24 x26) → (∀ x27 : (Nat →
 Mir.AV),(sel (decide (x26 < (((Prod.snd x19) ++ x21).length : Int))) (((rn (x16 + 1)) ∧ (rn 2)) ∧ ((0 : Int) ≤ x26) ∧ ((x26 : Int) < (((Prod.snd x19) ++ x21).length : Int)) ∧ ((rn
 (x16 + 1)) ∧ (rn 2)) ∧ (∃ x28 : Mir.D,((((Prod.snd x19) ++ x21)[Int.toNat x26]? = some x28) ∧ (∃ x29 : ByteArray,(∃ x30 : ByteArray,((@Eq LD (List.take 2 (List.drop 0 (D.cells
 x28))) [(Mir.D.str x29),(Mir.D.str x30)]) ∧ (((0 + 2) : Nat) ≤ (List.length (D.cells x28))) ∧ (∃ x31 : ByteArray,(∃ x32 : Int,((Runs Fs2 20 [(.agg [(aL a0_0),(aL a0_1),(aL
 a0_2),(aI a0_3),(aI a0_4)]),(aS x29)] [] (.tup [(aS x31),(aI x32)]) []) ∧ (sel (x32 != 0) (R (.n (.bool false))) (sel (Bool.not ((ByteArray.toList x31) == (ByteArray.toList x30)))
 (R (.n (.bool false))) (sel (decide (x26 > 0)) (((rn (x16 + 1)) ∧ (rn 2)) ∧ ((0 : Int) ≤ (IntKind.wrap .i64 (x26 - 1))) ∧ (((IntKind.wrap .i64 (x26 - 1)) : Int) < (((Prod.snd x19)
 ++ x21).length : Int)) ∧ ((rn (x16 + 1)) ∧ (rn 2)) ∧ (∃ x33 : Mir.D,((((Prod.snd x19) ++ x21)[Int.toNat (IntKind.wrap .i64 (x26 - 1))]? = some x33) ∧ (∃ x34 : ByteArray,(((D.cells
 x33)[0]? = some (Mir.D.str x34)) ∧ (sel (Bool.not (Op.bytesLess (ByteArray.toList x34) (ByteArray.toList x29))) (R (.n (.bool false))) (sel (decide ((((ByteArray.size x29) : Nat) :
 Int) < 32)) ((rn (x16 + 1)) ∧ (sel ((IntKind.wrap .i64 (x26 + 1)) == (((Prod.snd x19) ++ x21).length : Int)) (((((((ByteArray.size x29) + (ByteArray.size (ByteArray.mk
 (List.toArray [0])))) : Nat) : Int) : Int) ≤ 9223372036854775807) ∧ (∃ x35 : ByteArray,(∃ x36 : Int,((Runs Fs2 20 [(.agg [(aL a0_0),(aL a0_1),(aL a0_2),(aI a0_3),(aI a0_4)]),(aS
 (x29 ++ (ByteArray.mk (List.toArray [0]))))] [] (.tup [(aS x35),(aI x36)]) []) ∧ (sel (x36 != 80) (R (.n (.bool false))) ((rq (.ptr 500000 0)) ∧ (rq (.row 501102 (x16 + 1))) ∧ (rq
 (aS x22)) ∧ (rq (.row 501102 (x16 + 1))) ∧ (rq (aI (((Prod.snd x19) ++ x21).length : Int))) ∧ (rh [(hB 500000 [(aL a0_0),(aL a0_1),(aL a0_2),(aI a0_3),(aI a0_4)]),(hR 501102 (x16 +
 1) 51 2 ((Prod.snd x19) ++ x21)),(hB 550110 [(.row 560110 x5),(.row 570110 x6),(aI x7),(aB x8)]),(hR 560110 x9 51 2 x10),(hR 570110 x11 3 1 x12)]) ∧ (x24 (IntKind.wrap .i64 (x26 +
 1))) ∧ (((x25 (IntKind.wrap .i64 (x26 + 1))) : Nat) < (x25 x26)))))))) (((rn (x16 + 1)) ∧ (rn 2)) ∧ ((0 : Int) ≤ (IntKind.wrap .i64 (x26 + 1))) ∧ (((IntKind.wrap .i64 (x26 + 1)) :
 Int) < (((Prod.snd x19) ++ x21).length : Int)) ∧ ((rn (x16 + 1)) ∧ (rn 2)) ∧ (∃ x37 : Mir.D,((((Prod.snd x19) ++ x21)[Int.toNat (IntKind.wrap .i64 (x26 + 1))]? = some x37) ∧ (∃ x38
 : ByteArray,(((D.cells x37)[0]? = some (Mir.D.str x38)) ∧ ((((((ByteArray.size x29) + (ByteArray.size (ByteArray.mk (List.toArray [0])))) : Nat) : Int) : Int) ≤
 9223372036854775807) ∧ (sel (Bool.not ((ByteArray.toList x38) == (ByteArray.toList (x29 ++ (ByteArray.mk (List.toArray [0])))))) (((((((ByteArray.size x29) + (ByteArray.size
 (ByteArray.mk (List.toArray [0])))) : Nat) : Int) : Int) ≤ 9223372036854775807) ∧ (∃ x39 : ByteArray,(∃ x40 : Int,((Runs Fs2 20 [(.agg [(aL a0_0),(aL a0_1),(aL a0_2),(aI a0_3),(aI
 a0_4)]),(aS (x29 ++ (ByteArray.mk (List.toArray [0]))))] [] (.tup [(aS x39),(aI x40)]) []) ∧ (sel (x40 != 80) (R (.n (.bool false))) ((rq (.ptr 500000 0)) ∧ (rq (.row 501102 (x16 +
 1))) ∧ (rq (aS x22)) ∧ (rq (.row 501102 (x16 + 1))) ∧ (rq (aI (((Prod.snd x19) ++ x21).length : Int))) ∧ (rh [(hB 500000 [(aL a0_0),(aL a0_1),(aL a0_2),(aI a0_3),(aI a0_4)]),(hR
 501102 (x16 + 1) 51 2 ((Prod.snd x19) ++ x21)),(hB 550110 [(.row 560110 x5),(.row 570110 x6),(aI x7),(aB x8)]),(hR 560110 x9 51 2 x10),(hR 570110 x11 3 1 x12)]) ∧ (x24
 (IntKind.wrap .i64 (x26 + 1))) ∧ (((x25 (IntKind.wrap .i64 (x26 + 1))) : Nat) < (x25 x26)))))))) ((rq (.ptr 500000 0)) ∧ (rq (.row 501102 (x16 + 1))) ∧ (rq (aS x22)) ∧ (rq (.row
 501102 (x16 + 1))) ∧ (rq (aI (((Prod.snd x19) ++ x21).length : Int))) ∧ (rh [(hB 500000 [(aL a0_0),(aL a0_1),(aL a0_2),(aI a0_3),(aI a0_4)]),(hR 501102 (x16 + 1) 51 2 ((Prod.snd
 x19) ++ x21)),(hB 550110 [(.row 560110 x5),(.row 570110 x6),(aI x7),(aB x8)]),(hR 560110 x9 51 2 x10),(hR 570110 x11 3 1 x12)]) ∧ (x24 (IntKind.wrap .i64 (x26 + 1))) ∧ (((x25
 (IntKind.wrap .i64 (x26 + 1))) : Nat) < (x25 x26))))))))))) ((rq (.ptr 500000 0)) ∧ (rq (.row 501102 (x16 + 1))) ∧ (rq (aS x22)) ∧ (rq (.row 501102 (x16 + 1))) ∧ (rq (aI
 (((Prod.snd x19) ++ x21).length : Int))) ∧ (rh [(hB 500000 [(aL a0_0),(aL a0_1),(aL a0_2),(aI a0_3),(aI a0_4)]),(hR 501102 (x16 + 1) 51 2 ((Prod.snd x19) ++ x21)),(hB 550110 [(.row
 560110 x5),(.row 570110 x6),(aI x7),(aB x8)]),(hR 560110 x9 51 2 x10),(hR 570110 x11 3 1 x12)]) ∧ (x24 (IntKind.wrap .i64 (x26 + 1))) ∧ (((x25 (IntKind.wrap .i64 (x26 + 1))) : Nat)
 < (x25 x26)))))))))) (sel (decide ((((ByteArray.size x29) : Nat) : Int) < 32)) ((rn (x16 + 1)) ∧ (sel ((IntKind.wrap .i64 (x26 + 1)) == (((Prod.snd x19) ++ x21).length : Int))
 (((((((ByteArray.size x29) + (ByteArray.size (ByteArray.mk (List.toArray [0])))) : Nat) : Int) : Int) ≤ 9223372036854775807) ∧ (∃ x41 : ByteArray,(∃ x42 : Int,((Runs Fs2 20 [(.agg
 [(aL a0_0),(aL a0_1),(aL a0_2),(aI a0_3),(aI a0_4)]),(aS (x29 ++ (ByteArray.mk (List.toArray [0]))))] [] (.tup [(aS x41),(aI x42)]) []) ∧ (sel (x42 != 80) (R (.n (.bool false)))
 ((rq (.ptr 500000 0)) ∧ (rq (.row 501102 (x16 + 1))) ∧ (rq (aS x22)) ∧ (rq (.row 501102 (x16 + 1))) ∧ (rq (aI (((Prod.snd x19) ++ x21).length : Int))) ∧ (rh [(hB 500000 [(aL
 a0_0),(aL a0_1),(aL a0_2),(aI a0_3),(aI a0_4)]),(hR 501102 (x16 + 1) 51 2 ((Prod.snd x19) ++ x21)),(hB 550110 [(.row 560110 x5),(.row 570110 x6),(aI x7),(aB x8)]),(hR 560110 x9 51
 2 x10),(hR 570110 x11 3 1 x12)]) ∧ (x24 (IntKind.wrap .i64 (x26 + 1))) ∧ (((x25 (IntKind.wrap .i64 (x26 + 1))) : Nat) < (x25 x26)))))))) (((rn (x16 + 1)) ∧ (rn 2)) ∧ ((0 : Int) ≤
 (IntKind.wrap .i64 (x26 + 1))) ∧ (((IntKind.wrap .i64 (x26 + 1)) : Int) < (((Prod.snd x19) ++ x21).length : Int)) ∧ ((rn (x16 + 1)) ∧ (rn 2)) ∧ (∃ x43 : Mir.D,((((Prod.snd x19) ++
 x21)[Int.toNat (IntKind.wrap .i64 (x26 + 1))]? = some x43) ∧ (∃ x44 : ByteArray,(((D.cells x43)[0]? = some (Mir.D.str x44)) ∧ ((((((ByteArray.size x29) + (ByteArray.size
 (ByteArray.mk (List.toArray [0])))) : Nat) : Int) : Int) ≤ 9223372036854775807) ∧ (sel (Bool.not ((ByteArray.toList x44) == (ByteArray.toList (x29 ++ (ByteArray.mk (List.toArray
 [0])))))) (((((((ByteArray.size x29) + (ByteArray.size (ByteArray.mk (List.toArray [0])))) : Nat) : Int) : Int) ≤ 9223372036854775807) ∧ (∃ x45 : ByteArray,(∃ x46 : Int,((Runs Fs2
 20 [(.agg [(aL a0_0),(aL a0_1),(aL a0_2),(aI a0_3),(aI a0_4)]),(aS (x29 ++ (ByteArray.mk (List.toArray [0]))))] [] (.tup [(aS x45),(aI x46)]) []) ∧ (sel (x46 != 80) (R (.n (.bool
 false))) ((rq (.ptr 500000 0)) ∧ (rq (.row 501102 (x16 + 1))) ∧ (rq (aS x22)) ∧ (rq (.row 501102 (x16 + 1))) ∧ (rq (aI (((Prod.snd x19) ++ x21).length : Int))) ∧ (rh [(hB 500000
 [(aL a0_0),(aL a0_1),(aL a0_2),(aI a0_3),(aI a0_4)]),(hR 501102 (x16 + 1) 51 2 ((Prod.snd x19) ++ x21)),(hB 550110 [(.row 560110 x5),(.row 570110 x6),(aI x7),(aB x8)]),(hR 560110
 x9 51 2 x10),(hR 570110 x11 3 1 x12)]) ∧ (x24 (IntKind.wrap .i64 (x26 + 1))) ∧ (((x25 (IntKind.wrap .i64 (x26 + 1))) : Nat) < (x25 x26)))))))) ((rq (.ptr 500000 0)) ∧ (rq (.row
 501102 (x16 + 1))) ∧ (rq (aS x22)) ∧ (rq (.row 501102 (x16 + 1))) ∧ (rq (aI (((Prod.snd x19) ++ x21).length : Int))) ∧ (rh [(hB 500000 [(aL a0_0),(aL a0_1),(aL a0_2),(aI a0_3),(aI
 a0_4)]),(hR 501102 (x16 + 1) 51 2 ((Prod.snd x19) ++ x21)),(hB 550110 [(.row 560110 x5),(.row 570110 x6),(aI x7),(aB x8)]),(hR 560110 x9 51 2 x10),(hR 570110 x11 3 1 x12)]) ∧ (x24
 (IntKind.wrap .i64 (x26 + 1))) ∧ (((x25 (IntKind.wrap .i64 (x26 + 1))) : Nat) < (x25 x26))))))))))) ((rq (.ptr 500000 0)) ∧ (rq (.row 501102 (x16 + 1))) ∧ (rq (aS x22)) ∧ (rq (.row
 501102 (x16 + 1))) ∧ (rq (aI (((Prod.snd x19) ++ x21).length : Int))) ∧ (rh [(hB 500000 [(aL a0_0),(aL a0_1),(aL a0_2),(aI a0_3),(aI a0_4)]),(hR 501102 (x16 + 1) 51 2 ((Prod.snd
 x19) ++ x21)),(hB 550110 [(.row 560110 x5),(.row 570110 x6),(aI x7),(aB x8)]),(hR 560110 x9 51 2 x10),(hR 570110 x11 3 1 x12)]) ∧ (x24 (IntKind.wrap .i64 (x26 + 1))) ∧ (((x25
 (IntKind.wrap .i64 (x26 + 1))) : Nat) < (x25 x26)))))))))))))))) (∃ x47 : Bool,((Runs Fs2 14 [] [] (aB x47) []) ∧ (sel x47 (sel ((ByteArray.toList x22) == (ByteArray.toList
 (ByteArray.mk (List.toArray [])))) (∃ x48 : Unit,(∃ x49 : Nat,(∃ x50 : Nat,(∃ x51 : Int,(∃ x52 : Bool,(∃ x53 : Nat,(∃ x54 : LD,(∃ x55 : Nat,(∃ x56 : LD,((Runs Fs2 17 [(.agg [(aL
 a0_0),(aL a0_1),(aL a0_2),(aI a0_3),(aI a0_4)])] [] (.ptr 1700101 0) [(hB 1700101 [(.row 1790001 x49),(.row 1790002 x50),(aI x51),(aB x52)]),(hR 1790001 x53 51 2 x54),(hR 1790002
 x55 3 1 x56)]) ∧ ((x16 + 1) = (x16 + 1)) ∧ (x53 = x49) ∧ (∃ x57 : Bool,((Runs Fs2 19 [(.o (Mir.D.sl 2 ((Prod.snd x19) ++ x21))),(.o (Mir.D.sl 2 x54))] [] (aB x57) []) ∧ (R (.n
 (.bool x57))))))))))))))) (R (.n (.bool false)))) (R (.n (.bool false)))))))))))))) ((rq (aI (mmI false (mmI true a1 1) 256))) ∧ (rq (.ptr 500000 0)) ∧ (rh [(hB 500000 [(aL
 a0_0),(aL a0_1),(aL a0_2),(aI a0_3),(aI a0_4)]),(hR 501102 (x16 + 1) 51 2 ((Prod.snd x19) ++ x21)),(hB 550110 [(.row 560110 x5),(.row 570110 x6),(aI x7),(aB x8)]),(hR 560110 x9 51
 2 x10),(hR 570110 x11 3 1 x12)]) ∧ (x14 (x16 + 1) x22 (IntKind.wrap .i64 (x18 + 1)) ((x16 + 1),((Prod.snd x19) ++ x21))) ∧ (((x15 (x16 + 1) x22 (IntKind.wrap .i64 (x18 + 1)) ((x16
 + 1),((Prod.snd x19) ++ x21))) : Nat) < (x15 x16 x17 x18 x19))))))) (((rn 2) ∨ (@Eq LD x21 [])) ∧ (((((Prod.fst x19) : Nat) = x16) ∧ (rn 51)) ∧ (rn 2)) ∧ (((((List.length (Prod.snd
 x19)) + (List.length x21)) * 32) : Nat) ≤ 140737488355328) ∧ (sel ((ByteArray.toList x22) == (ByteArray.toList (ByteArray.mk (List.toArray [])))) ((rn (x16 + 1)) ∧ (∃ x58 : (Int →
 Prop),(∃ x59 : (Int → Nat),(((rh [(hB 500000 [(aL a0_0),(aL a0_1),(aL a0_2),(aI a0_3),(aI a0_4)]),(hR 501102 (x16 + 1) 51 2 ((Prod.snd x19) ++ x21)),(hB 550110 [(.row 560110
 x5),(.row 570110 x6),(aI x7),(aB x8)]),(hR 560110 x9 51 2 x10),(hR 570110 x11 3 1 x12)]) ∧ (x58 0)) ∧ (∀ x60 : Int,((x58 x60) → (∀ x61 : (Nat → Mir.AV),(sel (decide (x60 <
 (((Prod.snd x19) ++ x21).length : Int))) (((rn (x16 + 1)) ∧ (rn 2)) ∧ ((0 : Int) ≤ x60) ∧ ((x60 : Int) < (((Prod.snd x19) ++ x21).length : Int)) ∧ ((rn (x16 + 1)) ∧ (rn 2)) ∧ (∃
 x62 : Mir.D,((((Prod.snd x19) ++ x21)[Int.toNat x60]? = some x62) ∧ (∃ x63 : ByteArray,(∃ x64 : ByteArray,((@Eq LD (List.take 2 (List.drop 0 (D.cells x62))) [(Mir.D.str
 x63),(Mir.D.str x64)]) ∧ (((0 + 2) : Nat) ≤ (List.length (D.cells x62))) ∧ (∃ x65 : ByteArray,(∃ x66 : Int,((Runs Fs2 20 [(.agg [(aL a0_0),(aL a0_1),(aL a0_2),(aI a0_3),(aI
 a0_4)]),(aS x63)] [] (.tup [(aS x65),(aI x66)]) []) ∧ (sel (x66 != 0) (R (.n (.bool false))) (sel (Bool.not ((ByteArray.toList x65) == (ByteArray.toList x64))) (R (.n (.bool
 false))) (sel (decide (x60 > 0)) (((rn (x16 + 1)) ∧ (rn 2)) ∧ ((0 : Int) ≤ (IntKind.wrap .i64 (x60 - 1))) ∧ (((IntKind.wrap .i64 (x60 - 1)) : Int) < (((Prod.snd x19) ++ x21).length
 : Int)) ∧ ((rn (x16 + 1)) ∧ (rn 2)) ∧ (∃ x67 : Mir.D,((((Prod.snd x19) ++ x21)[Int.toNat (IntKind.wrap .i64 (x60 - 1))]? = some x67) ∧ (∃ x68 : ByteArray,(((D.cells x67)[0]? = some
 (Mir.D.str x68)) ∧ (sel (Bool.not (Op.bytesLess (ByteArray.toList x68) (ByteArray.toList x63))) (R (.n (.bool false))) (sel (decide ((((ByteArray.size x63) : Nat) : Int) < 32))
 ((rn (x16 + 1)) ∧ (sel ((IntKind.wrap .i64 (x60 + 1)) == (((Prod.snd x19) ++ x21).length : Int)) (((((((ByteArray.size x63) + (ByteArray.size (ByteArray.mk (List.toArray [0])))) :
 Nat) : Int) : Int) ≤ 9223372036854775807) ∧ (∃ x69 : ByteArray,(∃ x70 : Int,((Runs Fs2 20 [(.agg [(aL a0_0),(aL a0_1),(aL a0_2),(aI a0_3),(aI a0_4)]),(aS (x63 ++ (ByteArray.mk
 (List.toArray [0]))))] [] (.tup [(aS x69),(aI x70)]) []) ∧ (sel (x70 != 80) (R (.n (.bool false))) ((rq (.ptr 500000 0)) ∧ (rq (.row 501102 (x16 + 1))) ∧ (rq (aS x22)) ∧ (rq (.row
 501102 (x16 + 1))) ∧ (rq (aI (((Prod.snd x19) ++ x21).length : Int))) ∧ (rh [(hB 500000 [(aL a0_0),(aL a0_1),(aL a0_2),(aI a0_3),(aI a0_4)]),(hR 501102 (x16 + 1) 51 2 ((Prod.snd
 x19) ++ x21)),(hB 550110 [(.row 560110 x5),(.row 570110 x6),(aI x7),(aB x8)]),(hR 560110 x9 51 2 x10),(hR 570110 x11 3 1 x12)]) ∧ (x58 (IntKind.wrap .i64 (x60 + 1))) ∧ (((x59
 (IntKind.wrap .i64 (x60 + 1))) : Nat) < (x59 x60)))))))) (((rn (x16 + 1)) ∧ (rn 2)) ∧ ((0 : Int) ≤ (IntKind.wrap .i64 (x60 + 1))) ∧ (((IntKind.wrap .i64 (x60 + 1)) : Int) <
 (((Prod.snd x19) ++ x21).length : Int)) ∧ ((rn (x16 + 1)) ∧ (rn 2)) ∧ (∃ x71 : Mir.D,((((Prod.snd x19) ++ x21)[Int.toNat (IntKind.wrap .i64 (x60 + 1))]? = some x71) ∧ (∃ x72 :
 ByteArray,(((D.cells x71)[0]? = some (Mir.D.str x72)) ∧ ((((((ByteArray.size x63) + (ByteArray.size (ByteArray.mk (List.toArray [0])))) : Nat) : Int) : Int) ≤ 9223372036854775807)
 ∧ (sel (Bool.not ((ByteArray.toList x72) == (ByteArray.toList (x63 ++ (ByteArray.mk (List.toArray [0])))))) (((((((ByteArray.size x63) + (ByteArray.size (ByteArray.mk (List.toArray
 [0])))) : Nat) : Int) : Int) ≤ 9223372036854775807) ∧ (∃ x73 : ByteArray,(∃ x74 : Int,((Runs Fs2 20 [(.agg [(aL a0_0),(aL a0_1),(aL a0_2),(aI a0_3),(aI a0_4)]),(aS (x63 ++
 (ByteArray.mk (List.toArray [0]))))] [] (.tup [(aS x73),(aI x74)]) []) ∧ (sel (x74 != 80) (R (.n (.bool false))) ((rq (.ptr 500000 0)) ∧ (rq (.row 501102 (x16 + 1))) ∧ (rq (aS
 x22)) ∧ (rq (.row 501102 (x16 + 1))) ∧ (rq (aI (((Prod.snd x19) ++ x21).length : Int))) ∧ (rh [(hB 500000 [(aL a0_0),(aL a0_1),(aL a0_2),(aI a0_3),(aI a0_4)]),(hR 501102 (x16 + 1)
 51 2 ((Prod.snd x19) ++ x21)),(hB 550110 [(.row 560110 x5),(.row 570110 x6),(aI x7),(aB x8)]),(hR 560110 x9 51 2 x10),(hR 570110 x11 3 1 x12)]) ∧ (x58 (IntKind.wrap .i64 (x60 +
 1))) ∧ (((x59 (IntKind.wrap .i64 (x60 + 1))) : Nat) < (x59 x60)))))))) ((rq (.ptr 500000 0)) ∧ (rq (.row 501102 (x16 + 1))) ∧ (rq (aS x22)) ∧ (rq (.row 501102 (x16 + 1))) ∧ (rq (aI
 (((Prod.snd x19) ++ x21).length : Int))) ∧ (rh [(hB 500000 [(aL a0_0),(aL a0_1),(aL a0_2),(aI a0_3),(aI a0_4)]),(hR 501102 (x16 + 1) 51 2 ((Prod.snd x19) ++ x21)),(hB 550110 [(.row
 560110 x5),(.row 570110 x6),(aI x7),(aB x8)]),(hR 560110 x9 51 2 x10),(hR 570110 x11 3 1 x12)]) ∧ (x58 (IntKind.wrap .i64 (x60 + 1))) ∧ (((x59 (IntKind.wrap .i64 (x60 + 1))) : Nat)
 < (x59 x60))))))))))) ((rq (.ptr 500000 0)) ∧ (rq (.row 501102 (x16 + 1))) ∧ (rq (aS x22)) ∧ (rq (.row 501102 (x16 + 1))) ∧ (rq (aI (((Prod.snd x19) ++ x21).length : Int))) ∧ (rh
 [(hB 500000 [(aL a0_0),(aL a0_1),(aL a0_2),(aI a0_3),(aI a0_4)]),(hR 501102 (x16 + 1) 51 2 ((Prod.snd x19) ++ x21)),(hB 550110 [(.row 560110 x5),(.row 570110 x6),(aI x7),(aB
 x8)]),(hR 560110 x9 51 2 x10),(hR 570110 x11 3 1 x12)]) ∧ (x58 (IntKind.wrap .i64 (x60 + 1))) ∧ (((x59 (IntKind.wrap .i64 (x60 + 1))) : Nat) < (x59 x60)))))))))) (sel (decide
 ((((ByteArray.size x63) : Nat) : Int) < 32)) ((rn (x16 + 1)) ∧ (sel ((IntKind.wrap .i64 (x60 + 1)) == (((Prod.snd x19) ++ x21).length : Int)) (((((((ByteArray.size x63) +
 (ByteArray.size (ByteArray.mk (List.toArray [0])))) : Nat) : Int) : Int) ≤ 9223372036854775807) ∧ (∃ x75 : ByteArray,(∃ x76 : Int,((Runs Fs2 20 [(.agg [(aL a0_0),(aL a0_1),(aL
 a0_2),(aI a0_3),(aI a0_4)]),(aS (x63 ++ (ByteArray.mk (List.toArray [0]))))] [] (.tup [(aS x75),(aI x76)]) []) ∧ (sel (x76 != 80) (R (.n (.bool false))) ((rq (.ptr 500000 0)) ∧ (rq
 (.row 501102 (x16 + 1))) ∧ (rq (aS x22)) ∧ (rq (.row 501102 (x16 + 1))) ∧ (rq (aI (((Prod.snd x19) ++ x21).length : Int))) ∧ (rh [(hB 500000 [(aL a0_0),(aL a0_1),(aL a0_2),(aI
 a0_3),(aI a0_4)]),(hR 501102 (x16 + 1) 51 2 ((Prod.snd x19) ++ x21)),(hB 550110 [(.row 560110 x5),(.row 570110 x6),(aI x7),(aB x8)]),(hR 560110 x9 51 2 x10),(hR 570110 x11 3 1
 x12)]) ∧ (x58 (IntKind.wrap .i64 (x60 + 1))) ∧ (((x59 (IntKind.wrap .i64 (x60 + 1))) : Nat) < (x59 x60)))))))) (((rn (x16 + 1)) ∧ (rn 2)) ∧ ((0 : Int) ≤ (IntKind.wrap .i64 (x60 +
 1))) ∧ (((IntKind.wrap .i64 (x60 + 1)) : Int) < (((Prod.snd x19) ++ x21).length : Int)) ∧ ((rn (x16 + 1)) ∧ (rn 2)) ∧ (∃ x77 : Mir.D,((((Prod.snd x19) ++ x21)[Int.toNat
 (IntKind.wrap .i64 (x60 + 1))]? = some x77) ∧ (∃ x78 : ByteArray,(((D.cells x77)[0]? = some (Mir.D.str x78)) ∧ ((((((ByteArray.size x63) + (ByteArray.size (ByteArray.mk
 (List.toArray [0])))) : Nat) : Int) : Int) ≤ 9223372036854775807) ∧ (sel (Bool.not ((ByteArray.toList x78) == (ByteArray.toList (x63 ++ (ByteArray.mk (List.toArray [0]))))))
 (((((((ByteArray.size x63) + (ByteArray.size (ByteArray.mk (List.toArray [0])))) : Nat) : Int) : Int) ≤ 9223372036854775807) ∧ (∃ x79 : ByteArray,(∃ x80 : Int,((Runs Fs2 20 [(.agg
 [(aL a0_0),(aL a0_1),(aL a0_2),(aI a0_3),(aI a0_4)]),(aS (x63 ++ (ByteArray.mk (List.toArray [0]))))] [] (.tup [(aS x79),(aI x80)]) []) ∧ (sel (x80 != 80) (R (.n (.bool false)))
 ((rq (.ptr 500000 0)) ∧ (rq (.row 501102 (x16 + 1))) ∧ (rq (aS x22)) ∧ (rq (.row 501102 (x16 + 1))) ∧ (rq (aI (((Prod.snd x19) ++ x21).length : Int))) ∧ (rh [(hB 500000 [(aL
 a0_0),(aL a0_1),(aL a0_2),(aI a0_3),(aI a0_4)]),(hR 501102 (x16 + 1) 51 2 ((Prod.snd x19) ++ x21)),(hB 550110 [(.row 560110 x5),(.row 570110 x6),(aI x7),(aB x8)]),(hR 560110 x9 51
 2 x10),(hR 570110 x11 3 1 x12)]) ∧ (x58 (IntKind.wrap .i64 (x60 + 1))) ∧ (((x59 (IntKind.wrap .i64 (x60 + 1))) : Nat) < (x59 x60)))))))) ((rq (.ptr 500000 0)) ∧ (rq (.row 501102
 (x16 + 1))) ∧ (rq (aS x22)) ∧ (rq (.row 501102 (x16 + 1))) ∧ (rq (aI (((Prod.snd x19) ++ x21).length : Int))) ∧ (rh [(hB 500000 [(aL a0_0),(aL a0_1),(aL a0_2),(aI a0_3),(aI
 a0_4)]),(hR 501102 (x16 + 1) 51 2 ((Prod.snd x19) ++ x21)),(hB 550110 [(.row 560110 x5),(.row 570110 x6),(aI x7),(aB x8)]),(hR 560110 x9 51 2 x10),(hR 570110 x11 3 1 x12)]) ∧ (x58
 (IntKind.wrap .i64 (x60 + 1))) ∧ (((x59 (IntKind.wrap .i64 (x60 + 1))) : Nat) < (x59 x60))))))))))) ((rq (.ptr 500000 0)) ∧ (rq (.row 501102 (x16 + 1))) ∧ (rq (aS x22)) ∧ (rq (.row
 501102 (x16 + 1))) ∧ (rq (aI (((Prod.snd x19) ++ x21).length : Int))) ∧ (rh [(hB 500000 [(aL a0_0),(aL a0_1),(aL a0_2),(aI a0_3),(aI a0_4)]),(hR 501102 (x16 + 1) 51 2 ((Prod.snd
 x19) ++ x21)),(hB 550110 [(.row 560110 x5),(.row 570110 x6),(aI x7),(aB x8)]),(hR 560110 x9 51 2 x10),(hR 570110 x11 3 1 x12)]) ∧ (x58 (IntKind.wrap .i64 (x60 + 1))) ∧ (((x59
 (IntKind.wrap .i64 (x60 + 1))) : Nat) < (x59 x60)))))))))))))))) (∃ x81 : Bool,((Runs Fs2 14 [] [] (aB x81) []) ∧ (sel x81 (sel ((ByteArray.toList x22) == (ByteArray.toList
 (ByteArray.mk (List.toArray [])))) (∃ x82 : Unit,(∃ x83 : Nat,(∃ x84 : Nat,(∃ x85 : Int,(∃ x86 : Bool,(∃ x87 : Nat,(∃ x88 : LD,(∃ x89 : Nat,(∃ x90 : LD,((Runs Fs2 17 [(.agg [(aL
 a0_0),(aL a0_1),(aL a0_2),(aI a0_3),(aI a0_4)])] [] (.ptr 1700101 0) [(hB 1700101 [(.row 1790001 x83),(.row 1790002 x84),(aI x85),(aB x86)]),(hR 1790001 x87 51 2 x88),(hR 1790002
 x89 3 1 x90)]) ∧ ((x16 + 1) = (x16 + 1)) ∧ (x87 = x83) ∧ (∃ x91 : Bool,((Runs Fs2 19 [(.o (Mir.D.sl 2 ((Prod.snd x19) ++ x21))),(.o (Mir.D.sl 2 x88))] [] (aB x91) []) ∧ (R (.n
 (.bool x91))))))))))))))) (R (.n (.bool false)))) (R (.n (.bool false)))))))))))))) ((rq (aI (mmI false (mmI true a1 1) 256))) ∧ (rq (.ptr 500000 0)) ∧ (rh [(hB 500000 [(aL
 a0_0),(aL a0_1),(aL a0_2),(aI a0_3),(aI a0_4)]),(hR 501102 (x16 + 1) 51 2 ((Prod.snd x19) ++ x21)),(hB 550110 [(.row 560110 x5),(.row 570110 x6),(aI x7),(aB x8)]),(hR 560110 x9 51
 2 x10),(hR 570110 x11 3 1 x12)]) ∧ (x14 (x16 + 1) x22 (IntKind.wrap .i64 (x18 + 1)) ((x16 + 1),((Prod.snd x19) ++ x21))) ∧ (((x15 (x16 + 1) x22 (IntKind.wrap .i64 (x18 + 1)) ((x16
 + 1),((Prod.snd x19) ++ x21))) : Nat) < (x15 x16 x17 x18 x19)))))) (((rn 2) ∨ (@Eq LD x21 [])) ∧ (((((Prod.fst x19) : Nat) = x16) ∧ (rn 51)) ∧ (rn 2)) ∧ (((((List.length (Prod.snd
 x19)) + (List.length x21)) * 32) : Nat) ≤ 140737488355328) ∧ (sel ((ByteArray.toList x22) == (ByteArray.toList (ByteArray.mk (List.toArray [])))) ((rn (x16 + 1)) ∧ (∃ x92 : (Int →
 Prop),(∃ x93 : (Int → Nat),(((rh [(hB 500000 [(aL a0_0),(aL a0_1),(aL a0_2),(aI a0_3),(aI a0_4)]),(hR 501102 (x16 + 1) 51 2 ((Prod.snd x19) ++ x21)),(hB 550110 [(.row 560110
 x5),(.row 570110 x6),(aI x7),(aB x8)]),(hR 560110 x9 51 2 x10),(hR 570110 x11 3 1 x12)]) ∧ (x92 0)) ∧ (∀ x94 : Int,((x92 x94) → (∀ x95 : (Nat → Mir.AV),(sel (decide (x94 <
 (((Prod.snd x19) ++ x21).length : Int))) (((rn (x16 + 1)) ∧ (rn 2)) ∧ ((0 : Int) ≤ x94) ∧ ((x94 : Int) < (((Prod.snd x19) ++ x21).length : Int)) ∧ ((rn (x16 + 1)) ∧ (rn 2)) ∧ (∃
 x96 : Mir.D,((((Prod.snd x19) ++ x21)[Int.toNat x94]? = some x96) ∧ (∃ x97 : ByteArray,(∃ x98 : ByteArray,((@Eq LD (List.take 2 (List.drop 0 (D.cells x96))) [(Mir.D.str
 x97),(Mir.D.str x98)]) ∧ (((0 + 2) : Nat) ≤ (List.length (D.cells x96))) ∧ (∃ x99 : ByteArray,(∃ x100 : Int,((Runs Fs2 20 [(.agg [(aL a0_0),(aL a0_1),(aL a0_2),(aI a0_3),(aI
 a0_4)]),(aS x97)] [] (.tup [(aS x99),(aI x100)]) []) ∧ (sel (x100 != 0) (R (.n (.bool false))) (sel (Bool.not ((ByteArray.toList x99) == (ByteArray.toList x98))) (R (.n (.bool
 false))) (sel (decide (x94 > 0)) (((rn (x16 + 1)) ∧ (rn 2)) ∧ ((0 : Int) ≤ (IntKind.wrap .i64 (x94 - 1))) ∧ (((IntKind.wrap .i64 (x94 - 1)) : Int) < (((Prod.snd x19) ++ x21).length
 : Int)) ∧ ((rn (x16 + 1)) ∧ (rn 2)) ∧ (∃ x101 : Mir.D,((((Prod.snd x19) ++ x21)[Int.toNat (IntKind.wrap .i64 (x94 - 1))]? = some x101) ∧ (∃ x102 : ByteArray,(((D.cells x101)[0]? =
 some (Mir.D.str x102)) ∧ (sel (Bool.not (Op.bytesLess (ByteArray.toList x102) (ByteArray.toList x97))) (R (.n (.bool false))) (sel (decide ((((ByteArray.size x97) : Nat) : Int) <
 32)) ((rn (x16 + 1)) ∧ (sel ((IntKind.wrap .i64 (x94 + 1)) == (((Prod.snd x19) ++ x21).length : Int)) (((((((ByteArray.size x97) + (ByteArray.size (ByteArray.mk (List.toArray
 [0])))) : Nat) : Int) : Int) ≤ 9223372036854775807) ∧ (∃ x103 : ByteArray,(∃ x104 : Int,((Runs Fs2 20 [(.agg [(aL a0_0),(aL a0_1),(aL a0_2),(aI a0_3),(aI a0_4)]),(aS (x97 ++
 (ByteArray.mk (List.toArray [0]))))] [] (.tup [(aS x103),(aI x104)]) []) ∧ (sel (x104 != 80) (R (.n (.bool false))) ((rq (.ptr 500000 0)) ∧ (rq (.row 501102 (x16 + 1))) ∧ (rq (aS
 x22)) ∧ (rq (.row 501102 (x16 + 1))) ∧ (rq (aI (((Prod.snd x19) ++ x21).length : Int))) ∧ (rh [(hB 500000 [(aL a0_0),(aL a0_1),(aL a0_2),(aI a0_3),(aI a0_4)]),(hR 501102 (x16 + 1)
 51 2 ((Prod.snd x19) ++ x21)),(hB 550110 [(.row 560110 x5),(.row 570110 x6),(aI x7),(aB x8)]),(hR 560110 x9 51 2 x10),(hR 570110 x11 3 1 x12)]) ∧ (x92 (IntKind.wrap .i64 (x94 +
 1))) ∧ (((x93 (IntKind.wrap .i64 (x94 + 1))) : Nat) < (x93 x94)))))))) (((rn (x16 + 1)) ∧ (rn 2)) ∧ ((0 : Int) ≤ (IntKind.wrap .i64 (x94 + 1))) ∧ (((IntKind.wrap .i64 (x94 + 1)) :
 Int) < (((Prod.snd x19) ++ x21).length : Int)) ∧ ((rn (x16 + 1)) ∧ (rn 2)) ∧ (∃ x105 : Mir.D,((((Prod.snd x19) ++ x21)[Int.toNat (IntKind.wrap .i64 (x94 + 1))]? = some x105) ∧ (∃
 x106 : ByteArray,(((D.cells x105)[0]? = some (Mir.D.str x106)) ∧ ((((((ByteArray.size x97) + (ByteArray.size (ByteArray.mk (List.toArray [0])))) : Nat) : Int) : Int) ≤
 9223372036854775807) ∧ (sel (Bool.not ((ByteArray.toList x106) == (ByteArray.toList (x97 ++ (ByteArray.mk (List.toArray [0])))))) (((((((ByteArray.size x97) + (ByteArray.size
 (ByteArray.mk (List.toArray [0])))) : Nat) : Int) : Int) ≤ 9223372036854775807) ∧ (∃ x107 : ByteArray,(∃ x108 : Int,((Runs Fs2 20 [(.agg [(aL a0_0),(aL a0_1),(aL a0_2),(aI
 a0_3),(aI a0_4)]),(aS (x97 ++ (ByteArray.mk (List.toArray [0]))))] [] (.tup [(aS x107),(aI x108)]) []) ∧ (sel (x108 != 80) (R (.n (.bool false))) ((rq (.ptr 500000 0)) ∧ (rq (.row
 501102 (x16 + 1))) ∧ (rq (aS x22)) ∧ (rq (.row 501102 (x16 + 1))) ∧ (rq (aI (((Prod.snd x19) ++ x21).length : Int))) ∧ (rh [(hB 500000 [(aL a0_0),(aL a0_1),(aL a0_2),(aI a0_3),(aI
 a0_4)]),(hR 501102 (x16 + 1) 51 2 ((Prod.snd x19) ++ x21)),(hB 550110 [(.row 560110 x5),(.row 570110 x6),(aI x7),(aB x8)]),(hR 560110 x9 51 2 x10),(hR 570110 x11 3 1 x12)]) ∧ (x92
 (IntKind.wrap .i64 (x94 + 1))) ∧ (((x93 (IntKind.wrap .i64 (x94 + 1))) : Nat) < (x93 x94)))))))) ((rq (.ptr 500000 0)) ∧ (rq (.row 501102 (x16 + 1))) ∧ (rq (aS x22)) ∧ (rq (.row
 501102 (x16 + 1))) ∧ (rq (aI (((Prod.snd x19) ++ x21).length : Int))) ∧ (rh [(hB 500000 [(aL a0_0),(aL a0_1),(aL a0_2),(aI a0_3),(aI a0_4)]),(hR 501102 (x16 + 1) 51 2 ((Prod.snd
 x19) ++ x21)),(hB 550110 [(.row 560110 x5),(.row 570110 x6),(aI x7),(aB x8)]),(hR 560110 x9 51 2 x10),(hR 570110 x11 3 1 x12)]) ∧ (x92 (IntKind.wrap .i64 (x94 + 1))) ∧ (((x93
 (IntKind.wrap .i64 (x94 + 1))) : Nat) < (x93 x94))))))))))) ((rq (.ptr 500000 0)) ∧ (rq (.row 501102 (x16 + 1))) ∧ (rq (aS x22)) ∧ (rq (.row 501102 (x16 + 1))) ∧ (rq (aI
 (((Prod.snd x19) ++ x21).length : Int))) ∧ (rh [(hB 500000 [(aL a0_0),(aL a0_1),(aL a0_2),(aI a0_3),(aI a0_4)]),(hR 501102 (x16 + 1) 51 2 ((Prod.snd x19) ++ x21)),(hB 550110 [(.row
 560110 x5),(.row 570110 x6),(aI x7),(aB x8)]),(hR 560110 x9 51 2 x10),(hR 570110 x11 3 1 x12)]) ∧ (x92 (IntKind.wrap .i64 (x94 + 1))) ∧ (((x93 (IntKind.wrap .i64 (x94 + 1))) : Nat)
 < (x93 x94)))))))))) (sel (decide ((((ByteArray.size x97) : Nat) : Int) < 32)) ((rn (x16 + 1)) ∧ (sel ((IntKind.wrap .i64 (x94 + 1)) == (((Prod.snd x19) ++ x21).length : Int))
 (((((((ByteArray.size x97) + (ByteArray.size (ByteArray.mk (List.toArray [0])))) : Nat) : Int) : Int) ≤ 9223372036854775807) ∧ (∃ x109 : ByteArray,(∃ x110 : Int,((Runs Fs2 20
 [(.agg [(aL a0_0),(aL a0_1),(aL a0_2),(aI a0_3),(aI a0_4)]),(aS (x97 ++ (ByteArray.mk (List.toArray [0]))))] [] (.tup [(aS x109),(aI x110)]) []) ∧ (sel (x110 != 80) (R (.n (.bool
 false))) ((rq (.ptr 500000 0)) ∧ (rq (.row 501102 (x16 + 1))) ∧ (rq (aS x22)) ∧ (rq (.row 501102 (x16 + 1))) ∧ (rq (aI (((Prod.snd x19) ++ x21).length : Int))) ∧ (rh [(hB 500000
 [(aL a0_0),(aL a0_1),(aL a0_2),(aI a0_3),(aI a0_4)]),(hR 501102 (x16 + 1) 51 2 ((Prod.snd x19) ++ x21)),(hB 550110 [(.row 560110 x5),(.row 570110 x6),(aI x7),(aB x8)]),(hR 560110
 x9 51 2 x10),(hR 570110 x11 3 1 x12)]) ∧ (x92 (IntKind.wrap .i64 (x94 + 1))) ∧ (((x93 (IntKind.wrap .i64 (x94 + 1))) : Nat) < (x93 x94)))))))) (((rn (x16 + 1)) ∧ (rn 2)) ∧ ((0 :
 Int) ≤ (IntKind.wrap .i64 (x94 + 1))) ∧ (((IntKind.wrap .i64 (x94 + 1)) : Int) < (((Prod.snd x19) ++ x21).length : Int)) ∧ ((rn (x16 + 1)) ∧ (rn 2)) ∧ (∃ x111 : Mir.D,((((Prod.snd
 x19) ++ x21)[Int.toNat (IntKind.wrap .i64 (x94 + 1))]? = some x111) ∧ (∃ x112 : ByteArray,(((D.cells x111)[0]? = some (Mir.D.str x112)) ∧ ((((((ByteArray.size x97) +
 (ByteArray.size (ByteArray.mk (List.toArray [0])))) : Nat) : Int) : Int) ≤ 9223372036854775807) ∧ (sel (Bool.not ((ByteArray.toList x112) == (ByteArray.toList (x97 ++ (ByteArray.mk
 (List.toArray [0])))))) (((((((ByteArray.size x97) + (ByteArray.size (ByteArray.mk (List.toArray [0])))) : Nat) : Int) : Int) ≤ 9223372036854775807) ∧ (∃ x113 : ByteArray,(∃ x114 :
 Int,((Runs Fs2 20 [(.agg [(aL a0_0),(aL a0_1),(aL a0_2),(aI a0_3),(aI a0_4)]),(aS (x97 ++ (ByteArray.mk (List.toArray [0]))))] [] (.tup [(aS x113),(aI x114)]) []) ∧ (sel (x114 !=
 80) (R (.n (.bool false))) ((rq (.ptr 500000 0)) ∧ (rq (.row 501102 (x16 + 1))) ∧ (rq (aS x22)) ∧ (rq (.row 501102 (x16 + 1))) ∧ (rq (aI (((Prod.snd x19) ++ x21).length : Int))) ∧
 (rh [(hB 500000 [(aL a0_0),(aL a0_1),(aL a0_2),(aI a0_3),(aI a0_4)]),(hR 501102 (x16 + 1) 51 2 ((Prod.snd x19) ++ x21)),(hB 550110 [(.row 560110 x5),(.row 570110 x6),(aI x7),(aB
 x8)]),(hR 560110 x9 51 2 x10),(hR 570110 x11 3 1 x12)]) ∧ (x92 (IntKind.wrap .i64 (x94 + 1))) ∧ (((x93 (IntKind.wrap .i64 (x94 + 1))) : Nat) < (x93 x94)))))))) ((rq (.ptr 500000
 0)) ∧ (rq (.row 501102 (x16 + 1))) ∧ (rq (aS x22)) ∧ (rq (.row 501102 (x16 + 1))) ∧ (rq (aI (((Prod.snd x19) ++ x21).length : Int))) ∧ (rh [(hB 500000 [(aL a0_0),(aL a0_1),(aL
 a0_2),(aI a0_3),(aI a0_4)]),(hR 501102 (x16 + 1) 51 2 ((Prod.snd x19) ++ x21)),(hB 550110 [(.row 560110 x5),(.row 570110 x6),(aI x7),(aB x8)]),(hR 560110 x9 51 2 x10),(hR 570110
 x11 3 1 x12)]) ∧ (x92 (IntKind.wrap .i64 (x94 + 1))) ∧ (((x93 (IntKind.wrap .i64 (x94 + 1))) : Nat) < (x93 x94))))))))))) ((rq (.ptr 500000 0)) ∧ (rq (.row 501102 (x16 + 1))) ∧ (rq
 (aS x22)) ∧ (rq (.row 501102 (x16 + 1))) ∧ (rq (aI (((Prod.snd x19) ++ x21).length : Int))) ∧ (rh [(hB 500000 [(aL a0_0),(aL a0_1),(aL a0_2),(aI a0_3),(aI a0_4)]),(hR 501102 (x16 +
 1) 51 2 ((Prod.snd x19) ++ x21)),(hB 550110 [(.row 560110 x5),(.row 570110 x6),(aI x7),(aB x8)]),(hR 560110 x9 51 2 x10),(hR 570110 x11 3 1 x12)]) ∧ (x92 (IntKind.wrap .i64 (x94 +
 1))) ∧ (((x93 (IntKind.wrap .i64 (x94 + 1))) : Nat) < (x93 x94)))))))))))))))) (∃ x115 : Bool,((Runs Fs2 14 [] [] (aB x115) []) ∧ (sel x115 (sel ((ByteArray.toList x22) ==
 (ByteArray.toList (ByteArray.mk (List.toArray [])))) (∃ x116 : Unit,(∃ x117 : Nat,(∃ x118 : Nat,(∃ x119 : Int,(∃ x120 : Bool,(∃ x121 : Nat,(∃ x122 : LD,(∃ x123 : Nat,(∃ x124 :
 LD,((Runs Fs2 17 [(.agg [(aL a0_0),(aL a0_1),(aL a0_2),(aI a0_3),(aI a0_4)])] [] (.ptr 1700101 0) [(hB 1700101 [(.row 1790001 x117),(.row 1790002 x118),(aI x119),(aB x120)]),(hR
 1790001 x121 51 2 x122),(hR 1790002 x123 3 1 x124)]) ∧ ((x16 + 1) = (x16 + 1)) ∧ (x121 = x117) ∧ (∃ x125 : Bool,((Runs Fs2 19 [(.o (Mir.D.sl 2 ((Prod.snd x19) ++ x21))),(.o
 (Mir.D.sl 2 x122))] [] (aB x125) []) ∧ (R (.n (.bool x125))))))))))))))) (R (.n (.bool false)))) (R (.n (.bool false)))))))))))))) ((rq (aI (mmI false (mmI true a1 1) 256))) ∧ (rq
 (.ptr 500000 0)) ∧ (rh [(hB 500000 [(aL a0_0),(aL a0_1),(aL a0_2),(aI a0_3),(aI a0_4)]),(hR 501102 (x16 + 1) 51 2 ((Prod.snd x19) ++ x21)),(hB 550110 [(.row 560110 x5),(.row 570110
 x6),(aI x7),(aB x8)]),(hR 560110 x9 51 2 x10),(hR 570110 x11 3 1 x12)]) ∧ (x14 (x16 + 1) x22 (IntKind.wrap .i64 (x18 + 1)) ((x16 + 1),((Prod.snd x19) ++ x21))) ∧ (((x15 (x16 + 1)
 x22 (IntKind.wrap .i64 (x18 + 1)) ((x16 + 1),((Prod.snd x19) ++ x21))) : Nat) < (x15 x16 x17 x18 x19)))))))))))) ((((Prod.fst x19) : Nat) = x16) ∧ (∃ x126 : (Int → Prop),(∃ x127 :
 (Int → Nat),(((rh [(hB 500000 [(aL a0_0),(aL a0_1),(aL a0_2),(aI a0_3),(aI a0_4)]),(hR 501102 (Prod.fst x19) 51 2 (Prod.snd x19)),(hB 550110 [(.row 560110 x5),(.row 570110 x6),(aI
 x7),(aB x8)]),(hR 560110 x9 51 2 x10),(hR 570110 x11 3 1 x12)]) ∧ (x126 0)) ∧ (∀ x128 : Int,((x126 x128) → (∀ x129 : (Nat → Mir.AV),(sel (decide (x128 < ((Prod.snd x19).length :
 Int))) (((((Prod.fst x19) : Nat) = x16) ∧ (rn 2)) ∧ ((0 : Int) ≤ x128) ∧ ((x128 : Int) < ((Prod.snd x19).length : Int)) ∧ (((x16 : Nat) = (Prod.fst x19)) ∧ (rn 2)) ∧ (∃ x130 :
 Mir.D,(((Prod.snd x19)[Int.toNat x128]? = some x130) ∧ (∃ x131 : ByteArray,(∃ x132 : ByteArray,((@Eq LD (List.take 2 (List.drop 0 (D.cells x130))) [(Mir.D.str x131),(Mir.D.str
 x132)]) ∧ (((0 + 2) : Nat) ≤ (List.length (D.cells x130))) ∧ (∃ x133 : ByteArray,(∃ x134 : Int,((Runs Fs2 20 [(.agg [(aL a0_0),(aL a0_1),(aL a0_2),(aI a0_3),(aI a0_4)]),(aS x131)]
 [] (.tup [(aS x133),(aI x134)]) []) ∧ (sel (x134 != 0) (R (.n (.bool false))) (sel (Bool.not ((ByteArray.toList x133) == (ByteArray.toList x132))) (R (.n (.bool false))) (sel
 (decide (x128 > 0)) (((((Prod.fst x19) : Nat) = x16) ∧ (rn 2)) ∧ ((0 : Int) ≤ (IntKind.wrap .i64 (x128 - 1))) ∧ (((IntKind.wrap .i64 (x128 - 1)) : Int) < ((Prod.snd x19).length :
 Int)) ∧ (((x16 : Nat) = (Prod.fst x19)) ∧ (rn 2)) ∧ (∃ x135 : Mir.D,(((Prod.snd x19)[Int.toNat (IntKind.wrap .i64 (x128 - 1))]? = some x135) ∧ (∃ x136 : ByteArray,(((D.cells
 x135)[0]? = some (Mir.D.str x136)) ∧ (sel (Bool.not (Op.bytesLess (ByteArray.toList x136) (ByteArray.toList x131))) (R (.n (.bool false))) (sel (decide ((((ByteArray.size x131) :
 Nat) : Int) < 32)) ((((Prod.fst x19) : Nat) = x16) ∧ (sel ((IntKind.wrap .i64 (x128 + 1)) == ((Prod.snd x19).length : Int)) (((((((ByteArray.size x131) + (ByteArray.size
 (ByteArray.mk (List.toArray [0])))) : Nat) : Int) : Int) ≤ 9223372036854775807) ∧ (∃ x137 : ByteArray,(∃ x138 : Int,((Runs Fs2 20 [(.agg [(aL a0_0),(aL a0_1),(aL a0_2),(aI
 a0_3),(aI a0_4)]),(aS (x131 ++ (ByteArray.mk (List.toArray [0]))))] [] (.tup [(aS x137),(aI x138)]) []) ∧ (sel (x138 != 80) (R (.n (.bool false))) ((rq (.ptr 500000 0)) ∧ (rq (.row
 501102 x16)) ∧ (rq (aS x17)) ∧ (rq (.row 501102 x16)) ∧ (rq (aI ((Prod.snd x19).length : Int))) ∧ (rh [(hB 500000 [(aL a0_0),(aL a0_1),(aL a0_2),(aI a0_3),(aI a0_4)]),(hR 501102
 (Prod.fst x19) 51 2 (Prod.snd x19)),(hB 550110 [(.row 560110 x5),(.row 570110 x6),(aI x7),(aB x8)]),(hR 560110 x9 51 2 x10),(hR 570110 x11 3 1 x12)]) ∧ (x126 (IntKind.wrap .i64
 (x128 + 1))) ∧ (((x127 (IntKind.wrap .i64 (x128 + 1))) : Nat) < (x127 x128)))))))) (((((Prod.fst x19) : Nat) = x16) ∧ (rn 2)) ∧ ((0 : Int) ≤ (IntKind.wrap .i64 (x128 + 1))) ∧
 (((IntKind.wrap .i64 (x128 + 1)) : Int) < ((Prod.snd x19).length : Int)) ∧ (((x16 : Nat) = (Prod.fst x19)) ∧ (rn 2)) ∧ (∃ x139 : Mir.D,(((Prod.snd x19)[Int.toNat (IntKind.wrap .i64
 (x128 + 1))]? = some x139) ∧ (∃ x140 : ByteArray,(((D.cells x139)[0]? = some (Mir.D.str x140)) ∧ ((((((ByteArray.size x131) + (ByteArray.size (ByteArray.mk (List.toArray [0])))) :
 Nat) : Int) : Int) ≤ 9223372036854775807) ∧ (sel (Bool.not ((ByteArray.toList x140) == (ByteArray.toList (x131 ++ (ByteArray.mk (List.toArray [0])))))) (((((((ByteArray.size x131)
 + (ByteArray.size (ByteArray.mk (List.toArray [0])))) : Nat) : Int) : Int) ≤ 9223372036854775807) ∧ (∃ x141 : ByteArray,(∃ x142 : Int,((Runs Fs2 20 [(.agg [(aL a0_0),(aL a0_1),(aL
 a0_2),(aI a0_3),(aI a0_4)]),(aS (x131 ++ (ByteArray.mk (List.toArray [0]))))] [] (.tup [(aS x141),(aI x142)]) []) ∧ (sel (x142 != 80) (R (.n (.bool false))) ((rq (.ptr 500000 0)) ∧
 (rq (.row 501102 x16)) ∧ (rq (aS x17)) ∧ (rq (.row 501102 x16)) ∧ (rq (aI ((Prod.snd x19).length : Int))) ∧ (rh [(hB 500000 [(aL a0_0),(aL a0_1),(aL a0_2),(aI a0_3),(aI a0_4)]),(hR
 501102 (Prod.fst x19) 51 2 (Prod.snd x19)),(hB 550110 [(.row 560110 x5),(.row 570110 x6),(aI x7),(aB x8)]),(hR 560110 x9 51 2 x10),(hR 570110 x11 3 1 x12)]) ∧ (x126 (IntKind.wrap
 .i64 (x128 + 1))) ∧ (((x127 (IntKind.wrap .i64 (x128 + 1))) : Nat) < (x127 x128)))))))) ((rq (.ptr 500000 0)) ∧ (rq (.row 501102 x16)) ∧ (rq (aS x17)) ∧ (rq (.row 501102 x16)) ∧
 (rq (aI ((Prod.snd x19).length : Int))) ∧ (rh [(hB 500000 [(aL a0_0),(aL a0_1),(aL a0_2),(aI a0_3),(aI a0_4)]),(hR 501102 (Prod.fst x19) 51 2 (Prod.snd x19)),(hB 550110 [(.row
 560110 x5),(.row 570110 x6),(aI x7),(aB x8)]),(hR 560110 x9 51 2 x10),(hR 570110 x11 3 1 x12)]) ∧ (x126 (IntKind.wrap .i64 (x128 + 1))) ∧ (((x127 (IntKind.wrap .i64 (x128 + 1))) :
 Nat) < (x127 x128))))))))))) ((rq (.ptr 500000 0)) ∧ (rq (.row 501102 x16)) ∧ (rq (aS x17)) ∧ (rq (.row 501102 x16)) ∧ (rq (aI ((Prod.snd x19).length : Int))) ∧ (rh [(hB 500000
 [(aL a0_0),(aL a0_1),(aL a0_2),(aI a0_3),(aI a0_4)]),(hR 501102 (Prod.fst x19) 51 2 (Prod.snd x19)),(hB 550110 [(.row 560110 x5),(.row 570110 x6),(aI x7),(aB x8)]),(hR 560110 x9 51
 2 x10),(hR 570110 x11 3 1 x12)]) ∧ (x126 (IntKind.wrap .i64 (x128 + 1))) ∧ (((x127 (IntKind.wrap .i64 (x128 + 1))) : Nat) < (x127 x128)))))))))) (sel (decide ((((ByteArray.size
 x131) : Nat) : Int) < 32)) ((((Prod.fst x19) : Nat) = x16) ∧ (sel ((IntKind.wrap .i64 (x128 + 1)) == ((Prod.snd x19).length : Int)) (((((((ByteArray.size x131) + (ByteArray.size
 (ByteArray.mk (List.toArray [0])))) : Nat) : Int) : Int) ≤ 9223372036854775807) ∧ (∃ x143 : ByteArray,(∃ x144 : Int,((Runs Fs2 20 [(.agg [(aL a0_0),(aL a0_1),(aL a0_2),(aI
 a0_3),(aI a0_4)]),(aS (x131 ++ (ByteArray.mk (List.toArray [0]))))] [] (.tup [(aS x143),(aI x144)]) []) ∧ (sel (x144 != 80) (R (.n (.bool false))) ((rq (.ptr 500000 0)) ∧ (rq (.row
 501102 x16)) ∧ (rq (aS x17)) ∧ (rq (.row 501102 x16)) ∧ (rq (aI ((Prod.snd x19).length : Int))) ∧ (rh [(hB 500000 [(aL a0_0),(aL a0_1),(aL a0_2),(aI a0_3),(aI a0_4)]),(hR 501102
 (Prod.fst x19) 51 2 (Prod.snd x19)),(hB 550110 [(.row 560110 x5),(.row 570110 x6),(aI x7),(aB x8)]),(hR 560110 x9 51 2 x10),(hR 570110 x11 3 1 x12)]) ∧ (x126 (IntKind.wrap .i64
 (x128 + 1))) ∧ (((x127 (IntKind.wrap .i64 (x128 + 1))) : Nat) < (x127 x128)))))))) (((((Prod.fst x19) : Nat) = x16) ∧ (rn 2)) ∧ ((0 : Int) ≤ (IntKind.wrap .i64 (x128 + 1))) ∧
 (((IntKind.wrap .i64 (x128 + 1)) : Int) < ((Prod.snd x19).length : Int)) ∧ (((x16 : Nat) = (Prod.fst x19)) ∧ (rn 2)) ∧ (∃ x145 : Mir.D,(((Prod.snd x19)[Int.toNat (IntKind.wrap .i64
 (x128 + 1))]? = some x145) ∧ (∃ x146 : ByteArray,(((D.cells x145)[0]? = some (Mir.D.str x146)) ∧ ((((((ByteArray.size x131) + (ByteArray.size (ByteArray.mk (List.toArray [0])))) :
 Nat) : Int) : Int) ≤ 9223372036854775807) ∧ (sel (Bool.not ((ByteArray.toList x146) == (ByteArray.toList (x131 ++ (ByteArray.mk (List.toArray [0])))))) (((((((ByteArray.size x131)
 + (ByteArray.size (ByteArray.mk (List.toArray [0])))) : Nat) : Int) : Int) ≤ 9223372036854775807) ∧ (∃ x147 : ByteArray,(∃ x148 : Int,((Runs Fs2 20 [(.agg [(aL a0_0),(aL a0_1),(aL
 a0_2),(aI a0_3),(aI a0_4)]),(aS (x131 ++ (ByteArray.mk (List.toArray [0]))))] [] (.tup [(aS x147),(aI x148)]) []) ∧ (sel (x148 != 80) (R (.n (.bool false))) ((rq (.ptr 500000 0)) ∧
 (rq (.row 501102 x16)) ∧ (rq (aS x17)) ∧ (rq (.row 501102 x16)) ∧ (rq (aI ((Prod.snd x19).length : Int))) ∧ (rh [(hB 500000 [(aL a0_0),(aL a0_1),(aL a0_2),(aI a0_3),(aI a0_4)]),(hR
 501102 (Prod.fst x19) 51 2 (Prod.snd x19)),(hB 550110 [(.row 560110 x5),(.row 570110 x6),(aI x7),(aB x8)]),(hR 560110 x9 51 2 x10),(hR 570110 x11 3 1 x12)]) ∧ (x126 (IntKind.wrap
 .i64 (x128 + 1))) ∧ (((x127 (IntKind.wrap .i64 (x128 + 1))) : Nat) < (x127 x128)))))))) ((rq (.ptr 500000 0)) ∧ (rq (.row 501102 x16)) ∧ (rq (aS x17)) ∧ (rq (.row 501102 x16)) ∧
 (rq (aI ((Prod.snd x19).length : Int))) ∧ (rh [(hB 500000 [(aL a0_0),(aL a0_1),(aL a0_2),(aI a0_3),(aI a0_4)]),(hR 501102 (Prod.fst x19) 51 2 (Prod.snd x19)),(hB 550110 [(.row
 560110 x5),(.row 570110 x6),(aI x7),(aB x8)]),(hR 560110 x9 51 2 x10),(hR 570110 x11 3 1 x12)]) ∧ (x126 (IntKind.wrap .i64 (x128 + 1))) ∧ (((x127 (IntKind.wrap .i64 (x128 + 1))) :
 Nat) < (x127 x128))))))))))) ((rq (.ptr 500000 0)) ∧ (rq (.row 501102 x16)) ∧ (rq (aS x17)) ∧ (rq (.row 501102 x16)) ∧ (rq (aI ((Prod.snd x19).length : Int))) ∧ (rh [(hB 500000
 [(aL a0_0),(aL a0_1),(aL a0_2),(aI a0_3),(aI a0_4)]),(hR 501102 (Prod.fst x19) 51 2 (Prod.snd x19)),(hB 550110 [(.row 560110 x5),(.row 570110 x6),(aI x7),(aB x8)]),(hR 560110 x9 51
 2 x10),(hR 570110 x11 3 1 x12)]) ∧ (x126 (IntKind.wrap .i64 (x128 + 1))) ∧ (((x127 (IntKind.wrap .i64 (x128 + 1))) : Nat) < (x127 x128)))))))))))))))) (∃ x149 : Bool,((Runs Fs2 14
 [] [] (aB x149) []) ∧ (sel x149 (sel ((ByteArray.toList x17) == (ByteArray.toList (ByteArray.mk (List.toArray [])))) (∃ x150 : Unit,(∃ x151 : Nat,(∃ x152 : Nat,(∃ x153 : Int,(∃
 x154 : Bool,(∃ x155 : Nat,(∃ x156 : LD,(∃ x157 : Nat,(∃ x158 : LD,((Runs Fs2 17 [(.agg [(aL a0_0),(aL a0_1),(aL a0_2),(aI a0_3),(aI a0_4)])] [] (.ptr 1700101 0) [(hB 1700101 [(.row
 1790001 x151),(.row 1790002 x152),(aI x153),(aB x154)]),(hR 1790001 x155 51 2 x156),(hR 1790002 x157 3 1 x158)]) ∧ ((Prod.fst x19) = x16) ∧ (x155 = x151) ∧ (∃ x159 : Bool,((Runs
 Fs2 19 [(.o (Mir.D.sl 2 (Prod.snd x19))),(.o (Mir.D.sl 2 x156))] [] (aB x159) []) ∧ (R (.n (.bool x159))))))))))))))) (R (.n (.bool false)))) (R (.n (.bool
 false)))))))))))))))))))))))))))))))))))))))))
theorem vc5 (a0_0 : LD) (a0_1 : LD) (a0_2 : LD) (a0_3 : Int) (a0_4 : Int) (a1 : Int) (R : Mir.AV → Prop) : Vc Fs2 c5.body (argsQ c5 [(.agg [(.o (.sl 1 a0_0)), (.o (.sl 1 a0_1)), (.o (.sl 1 a0_2)), (.n (.int .i64 a0_3)), (.n (.int .i64 a0_4))]), (.n (.int .i64 a1))]) [] (endQ c5 R) = V5 a0_0 a0_1 a0_2 a0_3 a0_4 a1 R := by kernel_rfl
def V6 (a0_0 : LD) (a0_1 : LD) (a0_2 : LD) (a0_3 : Int) (a0_4 : Int) (a1 : ByteArray) (a2 : Int) (a3 : Int) (R : Mir.AV → Prop) : Prop :=
 (∃ x0 : Bool,((Runs Fs2 13 [(.agg [(aL a0_0),(aL a0_1),(aL a0_2),(aI a0_3),(aI a0_4)])] [] (aB x0) []) ∧ (sel (Bool.not x0) (∃ x1 : Bool,((Runs Fs2 14 [] [] (aB x1) []) ∧ (R (.n
 (.bool x1))))) (∃ x2 : Bool,((Runs Fs2 16 [(.agg [(aL a0_0),(aL a0_1),(aL a0_2),(aI a0_3),(aI a0_4)])] [] (aB x2) []) ∧ (sel (Bool.not x2) (∃ x3 : Bool,((Runs Fs2 14 [] [] (aB x3)
 []) ∧ (R (.n (.bool x3))))) (∃ x4 : Unit,(∃ x5 : Nat,(∃ x6 : Nat,(∃ x7 : Int,(∃ x8 : Bool,(∃ x9 : Nat,(∃ x10 : LD,(∃ x11 : Nat,(∃ x12 : LD,((Runs Fs2 17 [(.agg [(aL a0_0),(aL
 a0_1),(aL a0_2),(aI a0_3),(aI a0_4)])] [] (.ptr 1700101 0) [(hB 1700101 [(.row 1790001 x5),(.row 1790002 x6),(aI x7),(aB x8)]),(hR 1790001 x9 51 2 x10),(hR 1790002 x11 3 1 x12)]) ∧
 (sel x8 (∃ x13 : Bool,((Runs Fs2 14 [] [] (aB x13) []) ∧ (R (.n (.bool x13))))) (sel (decide ((((ByteArray.size a1) : Nat) : Int) > 32)) (∃ x14 : Bool,((Runs Fs2 14 [] [] (aB x14)
 []) ∧ (R (.n (.bool x14))))) (∃ x15 : LD,(∃ x16 : ByteArray,(∃ x17 : Int,((Runs Fs2 15 [(.agg [(aL a0_0),(aL a0_1),(aL a0_2),(aI a0_3),(aI a0_4)]),(aS a1),(aI (mmI false (mmI true
 a2 0) 100))] [] (.tup [(.o (Mir.D.sl 2 x15)),(aS x16),(aI x17)]) []) ∧ (∃ x18 : LD,(∃ x19 : ByteArray,(∃ x20 : Int,((Runs Fs2 15 [(.agg [(aL a0_0),(aL a0_1),(aL a0_2),(aI a0_3),(aI
 a0_4)]),(aS a1),(aI (IntKind.wrap .i64 ((mmI false (mmI true a2 0) 100) + (mmI false (mmI true a3 0) 100))))] [] (.tup [(.o (Mir.D.sl 2 x18)),(aS x19),(aI x20)]) []) ∧ (sel (x17 !=
 0) (R (.n (.bool false))) (sel (x20 != 0) (R (.n (.bool false))) (sel (decide ((x15.length : Int) > (x18.length : Int))) (R (.n (.bool false))) ((rn 2) ∧ ((0 : Int) ≤ (x15.length :
 Int)) ∧ (((x15.length : Int) : Int) ≤ (x18.length : Int)) ∧ (∃ x21 : Bool,((Runs Fs2 19 [(.o (Mir.D.sl 2 (List.drop 0 (List.take (Int.toNat (x15.length : Int)) x18)))),(.o
 (Mir.D.sl 2 x15))] [] (aB x21) []) ∧ (sel (Bool.not x21) (R (.n (.bool false))) (∃ x22 : Bool,((Runs Fs2 14 [] [] (aB x22) []) ∧ (sel (Bool.not x22) (R (.n (.bool false))) (sel
 ((ByteArray.toList x16) == (ByteArray.toList (ByteArray.mk (List.toArray [])))) (sel ((x18.length : Int) == (x15.length : Int)) (R (.n (.bool ((ByteArray.toList x19) ==
 (ByteArray.toList (ByteArray.mk (List.toArray []))))))) (R (.n (.bool false)))) (∃ x23 : LD,(∃ x24 : ByteArray,(∃ x25 : Int,((Runs Fs2 15 [(.agg [(aL a0_0),(aL a0_1),(aL a0_2),(aI
 a0_3),(aI a0_4)]),(aS x16),(aI (mmI false (mmI true a3 0) 100))] [] (.tup [(.o (Mir.D.sl 2 x23)),(aS x24),(aI x25)]) []) ∧ (sel (x25 == 0) (sel ((x15.length : Int) == (mmI false
 (mmI true a2 0) 100)) ((rn 2) ∧ ((0 : Int) ≤ (mmI false (mmI true a2 0) 100)) ∧ (((mmI false (mmI true a2 0) 100) : Int) ≤ (x18.length : Int)) ∧ (∃ x26 : Bool,((Runs Fs2 19 [(.o
 (Mir.D.sl 2 (List.drop (Int.toNat (mmI false (mmI true a2 0) 100)) (List.take (List.length x18) x18)))),(.o (Mir.D.sl 2 x23))] [] (aB x26) []) ∧ (sel x26 (R (.n (.bool
 ((ByteArray.toList x24) == (ByteArray.toList x19))))) (R (.n (.bool false))))))) (R (.n (.bool false)))) (R (.n (.bool false)))))))))))))))))))))))))))))))))))))))))))))
theorem vc6 (a0_0 : LD) (a0_1 : LD) (a0_2 : LD) (a0_3 : Int) (a0_4 : Int) (a1 : ByteArray) (a2 : Int) (a3 : Int) (R : Mir.AV → Prop) : Vc Fs2 c6.body (argsQ c6 [(.agg [(.o (.sl 1 a0_0)), (.o (.sl 1 a0_1)), (.o (.sl 1 a0_2)), (.n (.int .i64 a0_3)), (.n (.int .i64 a0_4))]), (.n (.str a1)), (.n (.int .i64 a2)), (.n (.int .i64 a3))]) [] (endQ c6 R) = V6 a0_0 a0_1 a0_2 a0_3 a0_4 a1 a2 a3 R := by kernel_rfl

end Go.Proofs.YtmmnobdpccdeoaaGreatDoor.M
