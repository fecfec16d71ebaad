import Derived.Test.YtmmnobdpccdeoaaGreatDoorZ3L
namespace Go.Proofs.YtmmnobdpccdeoaaGreatDoor.M
set_option linter.unusedVariables false
set_option linter.unusedSimpArgs false
open Go Go.Mir
set_option linter.unusedVariables false
def V8  (R : Mir.AV → Prop) : Prop :=
 (∃ x0 : LD,(∃ x1 : LD,((Runs Fs2 21 [(aI 24)] [] (.agg [(aL x0),(aL x1)]) []) ∧ ((0 : Int) ≤ 24) ∧ ((((Int.toNat 24) * 16) : Nat) ≤ 140737488355328) ∧ (0 = 0) ∧ (∃ x2 : Int,(∃ x3 :
 Int,(∃ x4 : Int,(∃ x5 : Int,((Runs Fs2 11 [(.agg [(aL x0),(aL x1),(aL (List.replicate (Int.toNat 24) (Mir.D.str (ByteArray.mk (List.toArray []))))),(aI 0),(aI 1)]),(aL [])] []
 (.tup [(.agg [(aI x2),(aI x3),(aI x4)]),(aI x5)]) []) ∧ (∃ x6 : Int,(∃ x7 : Int,(∃ x8 : Int,(∃ x9 : Int,((Runs Fs2 11 [(.agg [(aL []),(aL []),(aL []),(aI 0),(aI 0)]),(aL [])] []
 (.tup [(.agg [(aI x6),(aI x7),(aI x8)]),(aI x9)]) []) ∧ (sel (x5 == 0) (R (.n (.bool (x9 == 1)))) (R (.n (.bool false)))))))))))))))))
theorem vc8  (R : Mir.AV → Prop) : Vc Fs2 c8.body (argsQ c8 []) [] (endQ c8 R) = V8  R := by kernel_rfl
def V11 (a0_0 : LD) (a0_1 : LD) (a0_2 : LD) (a0_3 : Int) (a0_4 : Int) (a1 : LD) (R : Mir.AV → Prop) : Prop :=
 ((∃ x0 : Unit,(∃ x1 : Int,(∃ x2 : LD,(∃ x3 : LD,(∃ x4 : LD,(∃ x5 : Int,(∃ x6 : Int,(∃ x7 : Int,(∃ x8 : Int,(∃ x9 : Int,(∃ x10 : Nat,(∃ x11 : Bool,(∃ x12 : Nat,(∃ x13 : LD,((Runs
 Fs2 22 [(.agg [(aL a0_0),(aL a0_1),(aL a0_2),(aI a0_3),(aI a0_4)])] [] (.tup [(.ptr 2200307 0),(aI x1)]) [(hR 2200305 x12 4 1 x13),(hB 2200307 [(aL x2),(aL x3),(aL x4),(aI x5),(aI
 x6),(aI x7),(aI x8),(aI x9),(.row 2200305 x10),(aB x11)])]) ∧ (sel (x1 != 0) (R (.tup [(.agg [(.n (.int .i64 0)),(.n (.int .i64 0)),(.n (.int .i64 0))]),(.n (.int .i64 x1))])) (∃
 x14 : (Int → ((Int × (Int × (Int × (Unit)))) → ((Nat × LD) → Prop))),(∃ x15 : (Int → ((Int × (Int × (Int × (Unit)))) → ((Nat × LD) → Nat))),(((rh [(hB 1100000 [(aL a0_0),(aL
 a0_1),(aL a0_2),(aI a0_3),(aI a0_4)]),(hB 1100001 [(aI 0),(aI 0),(aI 0)]),(hR 1150101 x12 4 1 x13),(hB 1160101 [(aL x2),(aL x3),(aL x4),(aI x5),(aI x6),(aI x7),(aI x8),(aI
 x9),(.row 1150101 x10),(aB x11)])]) ∧ (x14 0 (0,(0,(0,()))) (x12,x13))) ∧ (∀ x16 : Int,(∀ x17 : (Int × (Int × (Int × (Unit)))),(∀ x18 : (Nat × LD),((x14 x16 x17 x18) → (∀ x19 :
 (Nat → Mir.AV),(sel (decide (x16 < (a1.length : Int))) ((rn 1) ∧ ((0 : Int) ≤ x16) ∧ (∃ x20 : Mir.D,((a1[Int.toNat x16]? = some x20) ∧ (∃ x21 : Int,(((D.cells x20)[0]? = some
 (Mir.D.int .i64 x21)) ∧ (sel (decide (x21 < 10)) (R (.tup [(.agg [(.n (.int .i64 0)),(.n (.int .i64 0)),(.n (.int .i64 0))]),(.n (.int .i64 81))])) ((((Prod.fst x18) : Nat) = x10)
 ∧ (sel (decide (x21 ≥ ((Prod.snd x18).length : Int))) (R (.tup [(.agg [(.n (.int .i64 0)),(.n (.int .i64 0)),(.n (.int .i64 0))]),(.n (.int .i64 81))])) (((((Prod.fst x18) : Nat) =
 x10) ∧ (rn 1)) ∧ ((0 : Int) ≤ x21) ∧ ((x21 : Int) < ((Prod.snd x18).length : Int)) ∧ (((x10 : Nat) = (Prod.fst x18)) ∧ (rn 1)) ∧ (∃ x22 : Mir.D,(((Prod.snd x18)[Int.toNat x21]? =
 some x22) ∧ (∃ x23 : Bool,(((D.cells x22)[0]? = some (Mir.D.bool x23)) ∧ (sel x23 (R (.tup [(.agg [(.n (.int .i64 0)),(.n (.int .i64 0)),(.n (.int .i64 0))]),(.n (.int .i64 81))]))
 (((((Prod.fst x18) : Nat) = x10) ∧ (rn 1)) ∧ ((0 : Int) ≤ x21) ∧ ((x21 : Int) < ((Prod.snd x18).length : Int)) ∧ (((((x10 : Nat) = (Prod.fst x18)) ∧ (rn 0)) ∧ (rn 1)) ∧ (rn 1)) ∧
 (((Int.toNat x21) : Nat) < (List.length (Prod.snd x18))) ∧ (rq (.ptr 1100001 0)) ∧ (rq (.ptr 1160101 0)) ∧ (rq (aL a1)) ∧ (rq (aI (a1.length : Int))) ∧ (rh [(hB 1100000 [(aL
 a0_0),(aL a0_1),(aL a0_2),(aI a0_3),(aI a0_4)]),(hB 1100001 [(aI x17.1),(aI x17.2.1),(aI x17.2.2.1)]),(hR 1150101 (Prod.fst x18) 4 1 (List.set (Prod.snd x18) (Int.toNat x21)
 (Mir.D.bool true))),(hB 1160101 [(aL x2),(aL x3),(aL x4),(aI x5),(aI x6),(aI x7),(aI x8),(aI x9),(.row 1150101 x10),(aB x11)])]) ∧ (x14 (IntKind.wrap .i64 (x16 + 1))
 (x17.1,(x17.2.1,(x17.2.2.1,()))) ((Prod.fst x18),(List.set (Prod.snd x18) (Int.toNat x21) (Mir.D.bool true)))) ∧ (((x15 (IntKind.wrap .i64 (x16 + 1))
 (x17.1,(x17.2.1,(x17.2.2.1,()))) ((Prod.fst x18),(List.set (Prod.snd x18) (Int.toNat x21) (Mir.D.bool true)))) : Nat) < (x15 x16 x17 x18))))))))))))))))) (∃ x24 : (Int → ((Int ×
 (Int × (Int × (Unit)))) → Prop)),(∃ x25 : (Int → ((Int × (Int × (Int × (Unit)))) → Nat)),(((rh [(hB 1100000 [(aL a0_0),(aL a0_1),(aL a0_2),(aI a0_3),(aI a0_4)]),(hB 1100001 [(aI
 x17.1),(aI x17.2.1),(aI x17.2.2.1)]),(hR 1150101 (Prod.fst x18) 4 1 (Prod.snd x18)),(hB 1160101 [(aL x2),(aL x3),(aL x4),(aI x5),(aI x6),(aI x7),(aI x8),(aI x9),(.row 1150101
 x10),(aB x11)])]) ∧ (x24 0 (x17.1,(x17.2.1,(x17.2.2.1,()))))) ∧ (∀ x26 : Int,(∀ x27 : (Int × (Int × (Int × (Unit)))),((x24 x26 x27) → (∀ x28 : (Nat → Mir.AV),(sel (decide (x26 <
 (x3.length : Int))) ((rn 1) ∧ ((0 : Int) ≤ x26) ∧ (∃ x29 : Mir.D,((x3[Int.toNat x26]? = some x29) ∧ (∃ x30 : Bool,(((D.cells x29)[0]? = some (Mir.D.bool x30)) ∧ (sel (decide (x26 <
 10)) (sel (Bool.not (x30 == true)) (R (.tup [(.agg [(.n (.int .i64 0)),(.n (.int .i64 0)),(.n (.int .i64 0))]),(.n (.int .i64 81))])) ((rq (.ptr 1100001 0)) ∧ (rq (.ptr 1160101 0))
 ∧ (rq (aL x3)) ∧ (rq (aI (x3.length : Int))) ∧ (rh [(hB 1100000 [(aL a0_0),(aL a0_1),(aL a0_2),(aI a0_3),(aI a0_4)]),(hB 1100001 [(aI x27.1),(aI x27.2.1),(aI x27.2.2.1)]),(hR
 1150101 (Prod.fst x18) 4 1 (Prod.snd x18)),(hB 1160101 [(aL x2),(aL x3),(aL x4),(aI x5),(aI x6),(aI x7),(aI x8),(aI x9),(.row 1150101 x10),(aB x11)])]) ∧ (x24 (IntKind.wrap .i64
 (x26 + 1)) (x27.1,(x27.2.1,(x27.2.2.1,())))) ∧ (((x25 (IntKind.wrap .i64 (x26 + 1)) (x27.1,(x27.2.1,(x27.2.2.1,())))) : Nat) < (x25 x26 x27)))) (((((Prod.fst x18) : Nat) = x10) ∧
 (rn 1)) ∧ ((0 : Int) ≤ x26) ∧ ((x26 : Int) < ((Prod.snd x18).length : Int)) ∧ (((x10 : Nat) = (Prod.fst x18)) ∧ (rn 1)) ∧ (∃ x31 : Mir.D,(((Prod.snd x18)[Int.toNat x26]? = some
 x31) ∧ (∃ x32 : Bool,(((D.cells x31)[0]? = some (Mir.D.bool x32)) ∧ (sel (Bool.not (x30 == x32)) (R (.tup [(.agg [(.n (.int .i64 0)),(.n (.int .i64 0)),(.n (.int .i64 0))]),(.n
 (.int .i64 81))])) ((rq (.ptr 1100001 0)) ∧ (rq (.ptr 1160101 0)) ∧ (rq (aL x3)) ∧ (rq (aI (x3.length : Int))) ∧ (rh [(hB 1100000 [(aL a0_0),(aL a0_1),(aL a0_2),(aI a0_3),(aI
 a0_4)]),(hB 1100001 [(aI x27.1),(aI x27.2.1),(aI x27.2.2.1)]),(hR 1150101 (Prod.fst x18) 4 1 (Prod.snd x18)),(hB 1160101 [(aL x2),(aL x3),(aL x4),(aI x5),(aI x6),(aI x7),(aI
 x8),(aI x9),(.row 1150101 x10),(aB x11)])]) ∧ (x24 (IntKind.wrap .i64 (x26 + 1)) (x27.1,(x27.2.1,(x27.2.2.1,())))) ∧ (((x25 (IntKind.wrap .i64 (x26 + 1))
 (x27.1,(x27.2.1,(x27.2.2.1,())))) : Nat) < (x25 x26 x27))))))))))))))) (R (.tup [(.agg [(.n (.int .i64 x7)),(.n (.int .i64 x8)),(.n (.int .i64 x9))]),(.n (.int .i64
 0))]))))))))))))))))))))))))))))))))))) ∨ (∃ x33 : Unit,(∃ x34 : Int,((Runs Fs2 22 [(.agg [(aL a0_0),(aL a0_1),(aL a0_2),(aI a0_3),(aI a0_4)])] [] (.tup [.nilp,(aI x34)]) []) ∧
 (sel (x34 != 0) (R (.tup [(.agg [(.n (.int .i64 0)),(.n (.int .i64 0)),(.n (.int .i64 0))]),(.n (.int .i64 x34))])) (∃ x35 : (Int → ((Int × (Int × (Int × (Unit)))) → ((Nat × LD) →
 Prop))),(∃ x36 : (Int → ((Int × (Int × (Int × (Unit)))) → ((Nat × LD) → Nat))),(False ∧ (∀ x37 : Int,(∀ x38 : (Int × (Int × (Int × (Unit)))),(∀ x39 : (Nat × LD),((x35 x37 x38 x39)
 → (∀ x40 : (Nat → Mir.AV),(sel (decide (x37 < (a1.length : Int))) ((rn 1) ∧ ((0 : Int) ≤ x37) ∧ (∃ x41 : Mir.D,((a1[Int.toNat x37]? = some x41) ∧ (∃ x42 : Int,(((D.cells x41)[0]? =
 some (Mir.D.int .i64 x42)) ∧ (sel (decide (x42 < 10)) (R (.tup [(.agg [(.n (.int .i64 0)),(.n (.int .i64 0)),(.n (.int .i64 0))]),(.n (.int .i64 81))])) False))))))
 False))))))))))))))
theorem vc11 (a0_0 : LD) (a0_1 : LD) (a0_2 : LD) (a0_3 : Int) (a0_4 : Int) (a1 : LD) (R : Mir.AV → Prop) : Vc Fs2 c11.body (argsQ c11 [(.agg [(.o (.sl 1 a0_0)), (.o (.sl 1 a0_1)), (.o (.sl 1 a0_2)), (.n (.int .i64 a0_3)), (.n (.int .i64 a0_4))]), (.o (.sl 1 a1))]) [] (endQ c11 R) = V11 a0_0 a0_1 a0_2 a0_3 a0_4 a1 R := by kernel_rfl
def V17o (ba : LD) (no : LD) (pa : LD) (ro : Int) (ge : Int) (R : Mir.AV → Heap → Prop) : Prop :=
 (sel (ro != 0) (∃ x0 : Nat,(∃ x1 : Nat,(∃ x2 : Int,(∃ x3 : Bool,(∃ x4 : Nat,(∃ x5 : LD,(∃ x6 : Nat,(∃ x7 : LD,((Runs Fs2 27 [(.ptr 1700101 0),(.agg [(aL ba),(aL no),(aL pa),(aI
 ro),(aI ge)]),(aI ro),(aI 1),(aS (ByteArray.mk (List.toArray []))),(aS (ByteArray.mk (List.toArray [])))] [(hB 1700101 [(.row 1790001 0),(.row 1790002 0),(aI 0),(aB false)]),(hR
 1790001 0 51 2 []),(hR 1790002 0 3 1 [])] (.tup []) [(hB 1700101 [(.row 1790001 x0),(.row 1790002 x1),(aI x2),(aB x3)]),(hR 1790001 x4 51 2 x5),(hR 1790002 x6 3 1 x7)]) ∧ (R (.ptr
 1700101 0) [(hB 1700101 [(.row 1790001 x0),(.row 1790002 x1),(.n (.int .i64 x2)),(.n (.bool x3))]),(hR 1790001 x4 51 2 x5),(hR 1790002 x6 3 1 x7)])))))))))) (R (.ptr 1700101 0)
 [(hB 1700101 [(.row 1790001 0),(.row 1790002 0),(.n (.int .i64 0)),(.n (.bool false))]),(hR 1790001 0 51 2 []),(hR 1790002 0 3 1 [])]))
theorem vc17o (ba : LD) (no : LD) (pa : LD) (ro : Int) (ge : Int) (R : Mir.AV → Heap → Prop) : Vc Fs2 c17.body (argsQ c17 [(.agg [.o (.sl 1 ba), .o (.sl 1 no), .o (.sl 1 pa), .n (.int .i64 ro), .n (.int .i64 ge)])]) [] (endQO c17 R) = V17o ba no pa ro ge R := by kernel_rfl
def V22o (ba : LD) (no : LD) (pa : LD) (ro : Int) (ge : Int) (R : Mir.AV → Heap → Prop) : Prop :=
 (∃ x0 : Bool,((Runs Fs2 24 [(.agg [(aL ba),(aL no),(aL pa),(aI ro),(aI ge)])] [] (aB x0) []) ∧ (sel (Bool.not x0) (R (.tup [.nilp,(.n (.int .i64 1))]) []) (((0 : Int) ≤ (no.length
 : Int)) ∧ ((((Int.toNat (no.length : Int)) * 1) : Nat) ≤ 140737488355328) ∧ (sel (ro != 0) (∃ x1 : Nat,(∃ x2 : LD,(∃ x3 : LD,(∃ x4 : LD,(∃ x5 : LD,(∃ x6 : Int,(∃ x7 : Int,(∃ x8 :
 Int,(∃ x9 : Int,(∃ x10 : Int,(∃ x11 : Nat,(∃ x12 : Bool,((Runs Fs2 31 [(.ptr 2200307 0),(aI ro),(aI 1),(aS (ByteArray.mk (List.toArray []))),(aS (ByteArray.mk (List.toArray [])))]
 [(hR 2200305 0 4 1 (List.replicate (Int.toNat (no.length : Int)) (Mir.D.bool false))),(hB 2200307 [(aL ba),(aL no),(aL pa),(aI ro),(aI ge),(aI 0),(aI 0),(aI 0),(.row 2200305 0),(aB
 false)])] (.tup []) [(hR 2200305 x1 4 1 x2),(hB 2200307 [(aL x3),(aL x4),(aL x5),(aI x6),(aI x7),(aI x8),(aI x9),(aI x10),(.row 2200305 x11),(aB x12)])]) ∧ (sel x12 (R (.tup
 [.nilp,(.n (.int .i64 81))]) []) (R (.tup [(.ptr 2200307 0),(.n (.int .i64 0))]) [(hR 2200305 x1 4 1 x2),(hB 2200307 [(.o (.sl 1 x3)),(.o (.sl 1 x4)),(.o (.sl 1 x5)),(.n (.int .i64
 x6)),(.n (.int .i64 x7)),(.n (.int .i64 x8)),(.n (.int .i64 x9)),(.n (.int .i64 x10)),(.row 2200305 x11),(.n (.bool x12))])]))))))))))))))) (R (.tup [(.ptr 2200307 0),(.n (.int
 .i64 0))]) [(hR 2200305 0 4 1 (List.replicate (Int.toNat (no.length : Int)) (Mir.D.bool false))),(hB 2200307 [(.o (.sl 1 ba)),(.o (.sl 1 no)),(.o (.sl 1 pa)),(.n (.int .i64
 ro)),(.n (.int .i64 ge)),(.n (.int .i64 0)),(.n (.int .i64 0)),(.n (.int .i64 0)),(.row 2200305 0),(.n (.bool false))])]))))))
theorem vc22o (ba : LD) (no : LD) (pa : LD) (ro : Int) (ge : Int) (R : Mir.AV → Heap → Prop) : Vc Fs2 c22.body (argsQ c22 [(.agg [.o (.sl 1 ba), .o (.sl 1 no), .o (.sl 1 pa), .n (.int .i64 ro), .n (.int .i64 ge)])]) [] (endQO c22 R) = V22o ba no pa ro ge R := by kernel_rfl
def V27h (ba : LD) (no : LD) (pa : LD) (ro : Int) (ge : Int) (block : Int) (deep : Int) (low : ByteArray) (high : ByteArray) (va : Nat) (vb : Nat) (he : Int) (bad : Bool) (P : LD) (B : LD) (R : Mir.AV → Heap → Prop) : Prop :=
 ((rn vb) ∧ (∃ x0 : (Int → ((Nat × (Nat × (Int × (Bool × (Unit))))) → Prop)),(∃ x1 : (Int → ((Nat × (Nat × (Int × (Bool × (Unit))))) → Nat)),(((rh [(hB 1700101 [(.row 1790001
 va),(.row 1790002 vb),(aI he),(aB bad)]),(hR 1790001 va 51 2 P),(hR 1790002 vb 3 1 B),(hB 2700000 [(aL ba),(aL no),(aL pa),(aI ro),(aI ge)])]) ∧ (x0 0 (va,(vb,(he,(bad,())))))) ∧
 (∀ x2 : Int,(∀ x3 : (Nat × (Nat × (Int × (Bool × (Unit))))),((x0 x2 x3) → (∀ x4 : (Nat → Mir.AV),(sel (decide (x2 < (B.length : Int))) (((rn vb) ∧ (rn 1)) ∧ ((0 : Int) ≤ x2) ∧ ((x2
 : Int) < (B.length : Int)) ∧ ((rn vb) ∧ (rn 1)) ∧ (∃ x5 : Mir.D,((B[Int.toNat x2]? = some x5) ∧ (∃ x6 : Int,(((D.cells x5)[0]? = some (Mir.D.int .i64 x6)) ∧ (sel (x6 == block) ((rq
 (.ptr 1700101 0)) ∧ (rq (aI block)) ∧ (rq (aI deep)) ∧ (rq (aS low)) ∧ (rq (aS high)) ∧ (rq (.ptr 2700000 0)) ∧ (rq (.row 1790002 vb)) ∧ (rq (aI (B.length : Int))) ∧ (rh [(hB
 1700101 [(.row 1790001 x3.1),(.row 1790002 x3.2.1),(aI x3.2.2.1),(aB true)]),(hR 1790001 va 51 2 P),(hR 1790002 vb 3 1 B),(hB 2700000 [(aL ba),(aL no),(aL pa),(aI ro),(aI ge)])]) ∧
 (x0 (IntKind.wrap .i64 (x2 + 1)) (x3.1,(x3.2.1,(x3.2.2.1,(true,()))))) ∧ (((x1 (IntKind.wrap .i64 (x2 + 1)) (x3.1,(x3.2.1,(x3.2.2.1,(true,()))))) : Nat) < (x1 x2 x3))) ((rq (.ptr
 1700101 0)) ∧ (rq (aI block)) ∧ (rq (aI deep)) ∧ (rq (aS low)) ∧ (rq (aS high)) ∧ (rq (.ptr 2700000 0)) ∧ (rq (.row 1790002 vb)) ∧ (rq (aI (B.length : Int))) ∧ (rh [(hB 1700101
 [(.row 1790001 x3.1),(.row 1790002 x3.2.1),(aI x3.2.2.1),(aB x3.2.2.2.1)]),(hR 1790001 va 51 2 P),(hR 1790002 vb 3 1 B),(hB 2700000 [(aL ba),(aL no),(aL pa),(aI ro),(aI ge)])]) ∧
 (x0 (IntKind.wrap .i64 (x2 + 1)) (x3.1,(x3.2.1,(x3.2.2.1,(x3.2.2.2.1,()))))) ∧ (((x1 (IntKind.wrap .i64 (x2 + 1)) (x3.1,(x3.2.1,(x3.2.2.1,(x3.2.2.2.1,()))))) : Nat) < (x1 x2
 x3))))))))) (∃ x7 : Bool,(∃ x8 : LD,(∃ x9 : LD,(∃ x10 : LD,(∃ x11 : Bool,((Runs Fs2 36 [(.agg [(aL ba),(aL no),(aL pa),(aI ro),(aI ge)]),(aI block),(aB (deep == 1))] [] (.tup
 [(.agg [(aB x7),(aL x8),(aL x9),(aL x10)]),(aB x11)]) []) ∧ (sel x3.2.2.2.1 (R (.tup []) [(hB 1700101 [(.row 1790001 x3.1),(.row 1790002 x3.2.1),(.n (.int .i64 x3.2.2.1)),(.n
 (.bool true))]),(hR 1790001 va 51 2 P),(hR 1790002 vb 3 1 B)]) (sel (Bool.not x11) (R (.tup []) [(hB 1700101 [(.row 1790001 x3.1),(.row 1790002 x3.2.1),(.n (.int .i64
 x3.2.2.1)),(.n (.bool true))]),(hR 1790001 va 51 2 P),(hR 1790002 vb 3 1 B)]) (sel (decide (deep > 8)) (R (.tup []) [(hB 1700101 [(.row 1790001 x3.1),(.row 1790002 x3.2.1),(.n
 (.int .i64 x3.2.2.1)),(.n (.bool true))]),(hR 1790001 va 51 2 P),(hR 1790002 vb 3 1 B)]) (sel x7 (sel ((x8.length : Int) == 0) (R (.tup []) [(hB 1700101 [(.row 1790001 x3.1),(.row
 1790002 x3.2.1),(.n (.int .i64 x3.2.2.1)),(.n (.bool true))]),(hR 1790001 va 51 2 P),(hR 1790002 vb 3 1 B)]) ((rn 0) ∧ ((rn 1) ∨ (@Eq LD [(Mir.D.int .i64 block)] [])) ∧ ((((vb :
 Nat) = x3.2.1) ∧ (rn 3)) ∧ (rn 1)) ∧ (((((List.length B) + (List.length [(Mir.D.int .i64 block)])) * 8) : Nat) ≤ 140737488355328) ∧ (∃ x12 : (Int → ((Nat × (Nat × (Int × (Bool ×
 (Unit))))) → ((Nat × LD) → Prop))),(∃ x13 : (Int → ((Nat × (Nat × (Int × (Bool × (Unit))))) → ((Nat × LD) → Nat))),(((rh [(hB 1700101 [(.row 1790001 x3.1),(.row 1790002 (x3.2.1 +
 1)),(aI x3.2.2.1),(aB x3.2.2.2.1)]),(hR 1790001 va 51 2 P),(hR 1790002 (x3.2.1 + 1) 3 1 (B ++ [(Mir.D.int .i64 block)])),(hB 2700000 [(aL ba),(aL no),(aL pa),(aI ro),(aI ge)]),(hB
 2700708 [(aB x7),(aL x8),(aL x9),(aL x10)]),(2701006,(.row true true 0 3 1 [(Mir.D.int .i64 block)]))]) ∧ (x12 0 (x3.1,((x3.2.1 + 1),(x3.2.2.1,(x3.2.2.2.1,())))) (va,P))) ∧ (∀ x14
 : Int,(∀ x15 : (Nat × (Nat × (Int × (Bool × (Unit))))),(∀ x16 : (Nat × LD),((x12 x14 x15 x16) → (∀ x17 : (Nat → Mir.AV),(sel (decide (x14 < (x8.length : Int))) ((rn 1) ∧ ((0 : Int)
 ≤ x14) ∧ (∃ x18 : Mir.D,((x8[Int.toNat x14]? = some x18) ∧ (∃ x19 : ByteArray,(((D.cells x18)[0]? = some (Mir.D.str x19)) ∧ (∃ x20 : Bool,((Runs Fs2 37 [(aS x19),(aS low),(aS
 high)] [] (aB x20) []) ∧ (sel (Bool.not x20) (sel x7 ((rn 1) ∧ ((0 : Int) ≤ x14) ∧ (∃ x21 : Mir.D,((x9[Int.toNat x14]? = some x21) ∧ (∃ x22 : ByteArray,(((D.cells x21)[0]? = some
 (Mir.D.str x22)) ∧ (rn 0) ∧ ((rn 2) ∨ (@Eq LD [(Mir.D.rcd [(Mir.D.str x19),(Mir.D.str x22)])] [])) ∧ (((((Prod.fst x16) : Nat) = x15.1) ∧ (rn 51)) ∧ (rn 2)) ∧ (((((List.length
 (Prod.snd x16)) + (List.length [(Mir.D.rcd [(Mir.D.str x19),(Mir.D.str x22)])])) * 32) : Nat) ≤ 140737488355328) ∧ (rq (.ptr 1700101 0)) ∧ (rq (aI deep)) ∧ (rq (aS low)) ∧ (rq (aS
 high)) ∧ (rq (.ptr 2700000 0)) ∧ (rq (.ptr 2700708 0)) ∧ (rq (aL x8)) ∧ (rq (aI (x8.length : Int))) ∧ (rh [(hB 1700101 [(.row 1790001 (x15.1 + 1)),(.row 1790002 x15.2.1),(aI
 x15.2.2.1),(aB true)]),(hR 1790001 (x15.1 + 1) 51 2 ((Prod.snd x16) ++ [(Mir.D.rcd [(Mir.D.str x19),(Mir.D.str x22)])])),(hR 1790002 (x3.2.1 + 1) 3 1 (B ++ [(Mir.D.int .i64
 block)])),(hB 2700000 [(aL ba),(aL no),(aL pa),(aI ro),(aI ge)]),(hB 2700708 [(aB x7),(aL x8),(aL x9),(aL x10)]),(2701006,(.row true true 0 3 1 [(Mir.D.int .i64 block)]))]) ∧ (x12
 (IntKind.wrap .i64 (x14 + 1)) ((x15.1 + 1),(x15.2.1,(x15.2.2.1,(true,())))) ((x15.1 + 1),((Prod.snd x16) ++ [(Mir.D.rcd [(Mir.D.str x19),(Mir.D.str x22)])]))) ∧ (((x13
 (IntKind.wrap .i64 (x14 + 1)) ((x15.1 + 1),(x15.2.1,(x15.2.2.1,(true,())))) ((x15.1 + 1),((Prod.snd x16) ++ [(Mir.D.rcd [(Mir.D.str x19),(Mir.D.str x22)])]))) : Nat) < (x13 x14 x15
 x16))))))) ((rq (.ptr 1700101 0)) ∧ (rq (aI deep)) ∧ (rq (aS low)) ∧ (rq (aS high)) ∧ (rq (.ptr 2700000 0)) ∧ (rq (.ptr 2700708 0)) ∧ (rq (aL x8)) ∧ (rq (aI (x8.length : Int))) ∧
 (rh [(hB 1700101 [(.row 1790001 x15.1),(.row 1790002 x15.2.1),(aI x15.2.2.1),(aB true)]),(hR 1790001 (Prod.fst x16) 51 2 (Prod.snd x16)),(hR 1790002 (x3.2.1 + 1) 3 1 (B ++
 [(Mir.D.int .i64 block)])),(hB 2700000 [(aL ba),(aL no),(aL pa),(aI ro),(aI ge)]),(hB 2700708 [(aB x7),(aL x8),(aL x9),(aL x10)]),(2701006,(.row true true 0 3 1 [(Mir.D.int .i64
 block)]))]) ∧ (x12 (IntKind.wrap .i64 (x14 + 1)) (x15.1,(x15.2.1,(x15.2.2.1,(true,())))) ((Prod.fst x16),(Prod.snd x16))) ∧ (((x13 (IntKind.wrap .i64 (x14 + 1))
 (x15.1,(x15.2.1,(x15.2.2.1,(true,())))) ((Prod.fst x16),(Prod.snd x16))) : Nat) < (x13 x14 x15 x16)))) (sel x7 ((rn 1) ∧ ((0 : Int) ≤ x14) ∧ (∃ x23 : Mir.D,((x9[Int.toNat x14]? =
 some x23) ∧ (∃ x24 : ByteArray,(((D.cells x23)[0]? = some (Mir.D.str x24)) ∧ (rn 0) ∧ ((rn 2) ∨ (@Eq LD [(Mir.D.rcd [(Mir.D.str x19),(Mir.D.str x24)])] [])) ∧ (((((Prod.fst x16) :
 Nat) = x15.1) ∧ (rn 51)) ∧ (rn 2)) ∧ (((((List.length (Prod.snd x16)) + (List.length [(Mir.D.rcd [(Mir.D.str x19),(Mir.D.str x24)])])) * 32) : Nat) ≤ 140737488355328) ∧ (rq (.ptr
 1700101 0)) ∧ (rq (aI deep)) ∧ (rq (aS low)) ∧ (rq (aS high)) ∧ (rq (.ptr 2700000 0)) ∧ (rq (.ptr 2700708 0)) ∧ (rq (aL x8)) ∧ (rq (aI (x8.length : Int))) ∧ (rh [(hB 1700101 [(.row
 1790001 (x15.1 + 1)),(.row 1790002 x15.2.1),(aI x15.2.2.1),(aB x15.2.2.2.1)]),(hR 1790001 (x15.1 + 1) 51 2 ((Prod.snd x16) ++ [(Mir.D.rcd [(Mir.D.str x19),(Mir.D.str x24)])])),(hR
 1790002 (x3.2.1 + 1) 3 1 (B ++ [(Mir.D.int .i64 block)])),(hB 2700000 [(aL ba),(aL no),(aL pa),(aI ro),(aI ge)]),(hB 2700708 [(aB x7),(aL x8),(aL x9),(aL x10)]),(2701006,(.row true
 true 0 3 1 [(Mir.D.int .i64 block)]))]) ∧ (x12 (IntKind.wrap .i64 (x14 + 1)) ((x15.1 + 1),(x15.2.1,(x15.2.2.1,(x15.2.2.2.1,())))) ((x15.1 + 1),((Prod.snd x16) ++ [(Mir.D.rcd
 [(Mir.D.str x19),(Mir.D.str x24)])]))) ∧ (((x13 (IntKind.wrap .i64 (x14 + 1)) ((x15.1 + 1),(x15.2.1,(x15.2.2.1,(x15.2.2.2.1,())))) ((x15.1 + 1),((Prod.snd x16) ++ [(Mir.D.rcd
 [(Mir.D.str x19),(Mir.D.str x24)])]))) : Nat) < (x13 x14 x15 x16))))))) ((rq (.ptr 1700101 0)) ∧ (rq (aI deep)) ∧ (rq (aS low)) ∧ (rq (aS high)) ∧ (rq (.ptr 2700000 0)) ∧ (rq (.ptr
 2700708 0)) ∧ (rq (aL x8)) ∧ (rq (aI (x8.length : Int))) ∧ (rh [(hB 1700101 [(.row 1790001 x15.1),(.row 1790002 x15.2.1),(aI x15.2.2.1),(aB x15.2.2.2.1)]),(hR 1790001 (Prod.fst
 x16) 51 2 (Prod.snd x16)),(hR 1790002 (x3.2.1 + 1) 3 1 (B ++ [(Mir.D.int .i64 block)])),(hB 2700000 [(aL ba),(aL no),(aL pa),(aI ro),(aI ge)]),(hB 2700708 [(aB x7),(aL x8),(aL
 x9),(aL x10)]),(2701006,(.row true true 0 3 1 [(Mir.D.int .i64 block)]))]) ∧ (x12 (IntKind.wrap .i64 (x14 + 1)) (x15.1,(x15.2.1,(x15.2.2.1,(x15.2.2.2.1,())))) ((Prod.fst
 x16),(Prod.snd x16))) ∧ (((x13 (IntKind.wrap .i64 (x14 + 1)) (x15.1,(x15.2.1,(x15.2.2.1,(x15.2.2.2.1,())))) ((Prod.fst x16),(Prod.snd x16))) : Nat) < (x13 x14 x15 x16))))))))))))
 (sel x7 (sel (x15.2.2.1 != 0) (sel (x15.2.2.1 != deep) (R (.tup []) [(hB 1700101 [(.row 1790001 x15.1),(.row 1790002 x15.2.1),(.n (.int .i64 deep)),(.n (.bool true))]),(hR 1790001
 (Prod.fst x16) 51 2 (Prod.snd x16)),(hR 1790002 (x3.2.1 + 1) 3 1 (B ++ [(Mir.D.int .i64 block)]))]) (R (.tup []) [(hB 1700101 [(.row 1790001 x15.1),(.row 1790002 x15.2.1),(.n (.int
 .i64 deep)),(.n (.bool x15.2.2.2.1))]),(hR 1790001 (Prod.fst x16) 51 2 (Prod.snd x16)),(hR 1790002 (x3.2.1 + 1) 3 1 (B ++ [(Mir.D.int .i64 block)]))])) (R (.tup []) [(hB 1700101
 [(.row 1790001 x15.1),(.row 1790002 x15.2.1),(.n (.int .i64 deep)),(.n (.bool x15.2.2.2.1))]),(hR 1790001 (Prod.fst x16) 51 2 (Prod.snd x16)),(hR 1790002 (x3.2.1 + 1) 3 1 (B ++
 [(Mir.D.int .i64 block)]))])) (∃ x25 : (Int → ((Nat × (Nat × (Int × (Bool × (Unit))))) → ((Nat × LD) → ((Nat × LD) → Prop)))),(∃ x26 : (Int → ((Nat × (Nat × (Int × (Bool ×
 (Unit))))) → ((Nat × LD) → ((Nat × LD) → Nat)))),(((rh [(hB 1700101 [(.row 1790001 x15.1),(.row 1790002 x15.2.1),(aI x15.2.2.1),(aB x15.2.2.2.1)]),(hR 1790001 (Prod.fst x16) 51 2
 (Prod.snd x16)),(hR 1790002 (x3.2.1 + 1) 3 1 (B ++ [(Mir.D.int .i64 block)])),(hB 2700000 [(aL ba),(aL no),(aL pa),(aI ro),(aI ge)]),(hB 2700708 [(aB x7),(aL x8),(aL x9),(aL
 x10)]),(2701006,(.row true true 0 3 1 [(Mir.D.int .i64 block)]))]) ∧ (x25 0 (x15.1,(x15.2.1,(x15.2.2.1,(x15.2.2.2.1,())))) ((Prod.fst x16),(Prod.snd x16)) ((x3.2.1 + 1),(B ++
 [(Mir.D.int .i64 block)])))) ∧ (∀ x27 : Int,(∀ x28 : (Nat × (Nat × (Int × (Bool × (Unit))))),(∀ x29 : (Nat × LD),(∀ x30 : (Nat × LD),((x25 x27 x28 x29 x30) → (∀ x31 : (Nat →
 Mir.AV),(sel (decide (x27 < (x10.length : Int))) ((rn 1) ∧ ((0 : Int) ≤ x27) ∧ (∃ x32 : Mir.D,((x10[Int.toNat x27]? = some x32) ∧ (∃ x33 : Int,(((D.cells x32)[0]? = some (Mir.D.int
 .i64 x33)) ∧ (sel (decide (x27 > 0)) ((rn 1) ∧ ((0 : Int) ≤ (IntKind.wrap .i64 (x27 - 1))) ∧ (∃ x34 : Mir.D,((x8[Int.toNat (IntKind.wrap .i64 (x27 - 1))]? = some x34) ∧ (∃ x35 :
 ByteArray,(((D.cells x34)[0]? = some (Mir.D.str x35)) ∧ (sel (decide (x27 < (x8.length : Int))) ((rn 1) ∧ ((0 : Int) ≤ x27) ∧ (∃ x36 : Mir.D,((x8[Int.toNat x27]? = some x36) ∧ (∃
 x37 : ByteArray,(((D.cells x36)[0]? = some (Mir.D.str x37)) ∧ (sel (Bool.not x28.2.2.2.1) (∃ x38 : Nat,(∃ x39 : Nat,(∃ x40 : Int,(∃ x41 : Bool,(∃ x42 : Nat,(∃ x43 : LD,(∃ x44 :
 Nat,(∃ x45 : LD,((Runs Fs2 27 [(.ptr 1700101 0),(.agg [(aL ba),(aL no),(aL pa),(aI ro),(aI ge)]),(aI x33),(aI (IntKind.wrap .i64 (deep + 1))),(aS x35),(aS x37)] [(hB 1700101 [(.row
 1790001 x28.1),(.row 1790002 x28.2.1),(aI x28.2.2.1),(aB x28.2.2.2.1)]),(hR 1790001 (Prod.fst x29) 51 2 (Prod.snd x29)),(hR 1790002 (Prod.fst x30) 3 1 (Prod.snd x30))] (.tup [])
 [(hB 1700101 [(.row 1790001 x38),(.row 1790002 x39),(aI x40),(aB x41)]),(hR 1790001 x42 51 2 x43),(hR 1790002 x44 3 1 x45)]) ∧ (rq (.ptr 1700101 0)) ∧ (rq (aI deep)) ∧ (rq (aS
 low)) ∧ (rq (aS high)) ∧ (rq (.ptr 2700000 0)) ∧ (rq (.ptr 2700708 0)) ∧ (rq (aL x10)) ∧ (rq (aI (x10.length : Int))) ∧ (rh [(hB 1700101 [(.row 1790001 x38),(.row 1790002 x39),(aI
 x40),(aB x41)]),(hR 1790001 x42 51 2 x43),(hR 1790002 x44 3 1 x45),(hB 2700000 [(aL ba),(aL no),(aL pa),(aI ro),(aI ge)]),(hB 2700708 [(aB x7),(aL x8),(aL x9),(aL
 x10)]),(2701006,(.row true true 0 3 1 [(Mir.D.int .i64 block)]))]) ∧ (x25 (IntKind.wrap .i64 (x27 + 1)) (x38,(x39,(x40,(x41,())))) (x42,x43) (x44,x45)) ∧ (((x26 (IntKind.wrap .i64
 (x27 + 1)) (x38,(x39,(x40,(x41,())))) (x42,x43) (x44,x45)) : Nat) < (x26 x27 x28 x29 x30))))))))))) ((rq (.ptr 1700101 0)) ∧ (rq (aI deep)) ∧ (rq (aS low)) ∧ (rq (aS high)) ∧ (rq
 (.ptr 2700000 0)) ∧ (rq (.ptr 2700708 0)) ∧ (rq (aL x10)) ∧ (rq (aI (x10.length : Int))) ∧ (rh [(hB 1700101 [(.row 1790001 x28.1),(.row 1790002 x28.2.1),(aI x28.2.2.1),(aB
 x28.2.2.2.1)]),(hR 1790001 (Prod.fst x29) 51 2 (Prod.snd x29)),(hR 1790002 (Prod.fst x30) 3 1 (Prod.snd x30)),(hB 2700000 [(aL ba),(aL no),(aL pa),(aI ro),(aI ge)]),(hB 2700708
 [(aB x7),(aL x8),(aL x9),(aL x10)]),(2701006,(.row true true 0 3 1 [(Mir.D.int .i64 block)]))]) ∧ (x25 (IntKind.wrap .i64 (x27 + 1)) (x28.1,(x28.2.1,(x28.2.2.1,(x28.2.2.2.1,()))))
 ((Prod.fst x29),(Prod.snd x29)) ((Prod.fst x30),(Prod.snd x30))) ∧ (((x26 (IntKind.wrap .i64 (x27 + 1)) (x28.1,(x28.2.1,(x28.2.2.1,(x28.2.2.2.1,())))) ((Prod.fst x29),(Prod.snd
 x29)) ((Prod.fst x30),(Prod.snd x30))) : Nat) < (x26 x27 x28 x29 x30))))))))) (sel (Bool.not x28.2.2.2.1) (∃ x46 : Nat,(∃ x47 : Nat,(∃ x48 : Int,(∃ x49 : Bool,(∃ x50 : Nat,(∃ x51 :
 LD,(∃ x52 : Nat,(∃ x53 : LD,((Runs Fs2 27 [(.ptr 1700101 0),(.agg [(aL ba),(aL no),(aL pa),(aI ro),(aI ge)]),(aI x33),(aI (IntKind.wrap .i64 (deep + 1))),(aS x35),(aS high)] [(hB
 1700101 [(.row 1790001 x28.1),(.row 1790002 x28.2.1),(aI x28.2.2.1),(aB x28.2.2.2.1)]),(hR 1790001 (Prod.fst x29) 51 2 (Prod.snd x29)),(hR 1790002 (Prod.fst x30) 3 1 (Prod.snd
 x30))] (.tup []) [(hB 1700101 [(.row 1790001 x46),(.row 1790002 x47),(aI x48),(aB x49)]),(hR 1790001 x50 51 2 x51),(hR 1790002 x52 3 1 x53)]) ∧ (rq (.ptr 1700101 0)) ∧ (rq (aI
 deep)) ∧ (rq (aS low)) ∧ (rq (aS high)) ∧ (rq (.ptr 2700000 0)) ∧ (rq (.ptr 2700708 0)) ∧ (rq (aL x10)) ∧ (rq (aI (x10.length : Int))) ∧ (rh [(hB 1700101 [(.row 1790001 x46),(.row
 1790002 x47),(aI x48),(aB x49)]),(hR 1790001 x50 51 2 x51),(hR 1790002 x52 3 1 x53),(hB 2700000 [(aL ba),(aL no),(aL pa),(aI ro),(aI ge)]),(hB 2700708 [(aB x7),(aL x8),(aL x9),(aL
 x10)]),(2701006,(.row true true 0 3 1 [(Mir.D.int .i64 block)]))]) ∧ (x25 (IntKind.wrap .i64 (x27 + 1)) (x46,(x47,(x48,(x49,())))) (x50,x51) (x52,x53)) ∧ (((x26 (IntKind.wrap .i64
 (x27 + 1)) (x46,(x47,(x48,(x49,())))) (x50,x51) (x52,x53)) : Nat) < (x26 x27 x28 x29 x30))))))))))) ((rq (.ptr 1700101 0)) ∧ (rq (aI deep)) ∧ (rq (aS low)) ∧ (rq (aS high)) ∧ (rq
 (.ptr 2700000 0)) ∧ (rq (.ptr 2700708 0)) ∧ (rq (aL x10)) ∧ (rq (aI (x10.length : Int))) ∧ (rh [(hB 1700101 [(.row 1790001 x28.1),(.row 1790002 x28.2.1),(aI x28.2.2.1),(aB
 x28.2.2.2.1)]),(hR 1790001 (Prod.fst x29) 51 2 (Prod.snd x29)),(hR 1790002 (Prod.fst x30) 3 1 (Prod.snd x30)),(hB 2700000 [(aL ba),(aL no),(aL pa),(aI ro),(aI ge)]),(hB 2700708
 [(aB x7),(aL x8),(aL x9),(aL x10)]),(2701006,(.row true true 0 3 1 [(Mir.D.int .i64 block)]))]) ∧ (x25 (IntKind.wrap .i64 (x27 + 1)) (x28.1,(x28.2.1,(x28.2.2.1,(x28.2.2.2.1,()))))
 ((Prod.fst x29),(Prod.snd x29)) ((Prod.fst x30),(Prod.snd x30))) ∧ (((x26 (IntKind.wrap .i64 (x27 + 1)) (x28.1,(x28.2.1,(x28.2.2.1,(x28.2.2.2.1,())))) ((Prod.fst x29),(Prod.snd
 x29)) ((Prod.fst x30),(Prod.snd x30))) : Nat) < (x26 x27 x28 x29 x30)))))))))) (sel (decide (x27 < (x8.length : Int))) ((rn 1) ∧ ((0 : Int) ≤ x27) ∧ (∃ x54 : Mir.D,((x8[Int.toNat
 x27]? = some x54) ∧ (∃ x55 : ByteArray,(((D.cells x54)[0]? = some (Mir.D.str x55)) ∧ (sel (Bool.not x28.2.2.2.1) (∃ x56 : Nat,(∃ x57 : Nat,(∃ x58 : Int,(∃ x59 : Bool,(∃ x60 :
 Nat,(∃ x61 : LD,(∃ x62 : Nat,(∃ x63 : LD,((Runs Fs2 27 [(.ptr 1700101 0),(.agg [(aL ba),(aL no),(aL pa),(aI ro),(aI ge)]),(aI x33),(aI (IntKind.wrap .i64 (deep + 1))),(aS low),(aS
 x55)] [(hB 1700101 [(.row 1790001 x28.1),(.row 1790002 x28.2.1),(aI x28.2.2.1),(aB x28.2.2.2.1)]),(hR 1790001 (Prod.fst x29) 51 2 (Prod.snd x29)),(hR 1790002 (Prod.fst x30) 3 1
 (Prod.snd x30))] (.tup []) [(hB 1700101 [(.row 1790001 x56),(.row 1790002 x57),(aI x58),(aB x59)]),(hR 1790001 x60 51 2 x61),(hR 1790002 x62 3 1 x63)]) ∧ (rq (.ptr 1700101 0)) ∧
 (rq (aI deep)) ∧ (rq (aS low)) ∧ (rq (aS high)) ∧ (rq (.ptr 2700000 0)) ∧ (rq (.ptr 2700708 0)) ∧ (rq (aL x10)) ∧ (rq (aI (x10.length : Int))) ∧ (rh [(hB 1700101 [(.row 1790001
 x56),(.row 1790002 x57),(aI x58),(aB x59)]),(hR 1790001 x60 51 2 x61),(hR 1790002 x62 3 1 x63),(hB 2700000 [(aL ba),(aL no),(aL pa),(aI ro),(aI ge)]),(hB 2700708 [(aB x7),(aL
 x8),(aL x9),(aL x10)]),(2701006,(.row true true 0 3 1 [(Mir.D.int .i64 block)]))]) ∧ (x25 (IntKind.wrap .i64 (x27 + 1)) (x56,(x57,(x58,(x59,())))) (x60,x61) (x62,x63)) ∧ (((x26
 (IntKind.wrap .i64 (x27 + 1)) (x56,(x57,(x58,(x59,())))) (x60,x61) (x62,x63)) : Nat) < (x26 x27 x28 x29 x30))))))))))) ((rq (.ptr 1700101 0)) ∧ (rq (aI deep)) ∧ (rq (aS low)) ∧ (rq
 (aS high)) ∧ (rq (.ptr 2700000 0)) ∧ (rq (.ptr 2700708 0)) ∧ (rq (aL x10)) ∧ (rq (aI (x10.length : Int))) ∧ (rh [(hB 1700101 [(.row 1790001 x28.1),(.row 1790002 x28.2.1),(aI
 x28.2.2.1),(aB x28.2.2.2.1)]),(hR 1790001 (Prod.fst x29) 51 2 (Prod.snd x29)),(hR 1790002 (Prod.fst x30) 3 1 (Prod.snd x30)),(hB 2700000 [(aL ba),(aL no),(aL pa),(aI ro),(aI
 ge)]),(hB 2700708 [(aB x7),(aL x8),(aL x9),(aL x10)]),(2701006,(.row true true 0 3 1 [(Mir.D.int .i64 block)]))]) ∧ (x25 (IntKind.wrap .i64 (x27 + 1))
 (x28.1,(x28.2.1,(x28.2.2.1,(x28.2.2.2.1,())))) ((Prod.fst x29),(Prod.snd x29)) ((Prod.fst x30),(Prod.snd x30))) ∧ (((x26 (IntKind.wrap .i64 (x27 + 1))
 (x28.1,(x28.2.1,(x28.2.2.1,(x28.2.2.2.1,())))) ((Prod.fst x29),(Prod.snd x29)) ((Prod.fst x30),(Prod.snd x30))) : Nat) < (x26 x27 x28 x29 x30))))))))) (sel (Bool.not x28.2.2.2.1)
 (∃ x64 : Nat,(∃ x65 : Nat,(∃ x66 : Int,(∃ x67 : Bool,(∃ x68 : Nat,(∃ x69 : LD,(∃ x70 : Nat,(∃ x71 : LD,((Runs Fs2 27 [(.ptr 1700101 0),(.agg [(aL ba),(aL no),(aL pa),(aI ro),(aI
 ge)]),(aI x33),(aI (IntKind.wrap .i64 (deep + 1))),(aS low),(aS high)] [(hB 1700101 [(.row 1790001 x28.1),(.row 1790002 x28.2.1),(aI x28.2.2.1),(aB x28.2.2.2.1)]),(hR 1790001
 (Prod.fst x29) 51 2 (Prod.snd x29)),(hR 1790002 (Prod.fst x30) 3 1 (Prod.snd x30))] (.tup []) [(hB 1700101 [(.row 1790001 x64),(.row 1790002 x65),(aI x66),(aB x67)]),(hR 1790001
 x68 51 2 x69),(hR 1790002 x70 3 1 x71)]) ∧ (rq (.ptr 1700101 0)) ∧ (rq (aI deep)) ∧ (rq (aS low)) ∧ (rq (aS high)) ∧ (rq (.ptr 2700000 0)) ∧ (rq (.ptr 2700708 0)) ∧ (rq (aL x10)) ∧
 (rq (aI (x10.length : Int))) ∧ (rh [(hB 1700101 [(.row 1790001 x64),(.row 1790002 x65),(aI x66),(aB x67)]),(hR 1790001 x68 51 2 x69),(hR 1790002 x70 3 1 x71),(hB 2700000 [(aL
 ba),(aL no),(aL pa),(aI ro),(aI ge)]),(hB 2700708 [(aB x7),(aL x8),(aL x9),(aL x10)]),(2701006,(.row true true 0 3 1 [(Mir.D.int .i64 block)]))]) ∧ (x25 (IntKind.wrap .i64 (x27 +
 1)) (x64,(x65,(x66,(x67,())))) (x68,x69) (x70,x71)) ∧ (((x26 (IntKind.wrap .i64 (x27 + 1)) (x64,(x65,(x66,(x67,())))) (x68,x69) (x70,x71)) : Nat) < (x26 x27 x28 x29 x30)))))))))))
 ((rq (.ptr 1700101 0)) ∧ (rq (aI deep)) ∧ (rq (aS low)) ∧ (rq (aS high)) ∧ (rq (.ptr 2700000 0)) ∧ (rq (.ptr 2700708 0)) ∧ (rq (aL x10)) ∧ (rq (aI (x10.length : Int))) ∧ (rh [(hB
 1700101 [(.row 1790001 x28.1),(.row 1790002 x28.2.1),(aI x28.2.2.1),(aB x28.2.2.2.1)]),(hR 1790001 (Prod.fst x29) 51 2 (Prod.snd x29)),(hR 1790002 (Prod.fst x30) 3 1 (Prod.snd
 x30)),(hB 2700000 [(aL ba),(aL no),(aL pa),(aI ro),(aI ge)]),(hB 2700708 [(aB x7),(aL x8),(aL x9),(aL x10)]),(2701006,(.row true true 0 3 1 [(Mir.D.int .i64 block)]))]) ∧ (x25
 (IntKind.wrap .i64 (x27 + 1)) (x28.1,(x28.2.1,(x28.2.2.1,(x28.2.2.2.1,())))) ((Prod.fst x29),(Prod.snd x29)) ((Prod.fst x30),(Prod.snd x30))) ∧ (((x26 (IntKind.wrap .i64 (x27 + 1))
 (x28.1,(x28.2.1,(x28.2.2.1,(x28.2.2.2.1,())))) ((Prod.fst x29),(Prod.snd x29)) ((Prod.fst x30),(Prod.snd x30))) : Nat) < (x26 x27 x28 x29 x30))))))))))) (R (.tup []) [(hB 1700101
 [(.row 1790001 x28.1),(.row 1790002 x28.2.1),(.n (.int .i64 x28.2.2.1)),(.n (.bool x28.2.2.2.1))]),(hR 1790001 (Prod.fst x29) 51 2 (Prod.snd x29)),(hR 1790002 (Prod.fst x30) 3 1
 (Prod.snd x30))]))))))))))))))))))))))) ((rn 0) ∧ ((rn 1) ∨ (@Eq LD [(Mir.D.int .i64 block)] [])) ∧ ((((vb : Nat) = x3.2.1) ∧ (rn 3)) ∧ (rn 1)) ∧ (((((List.length B) + (List.length
 [(Mir.D.int .i64 block)])) * 8) : Nat) ≤ 140737488355328) ∧ (∃ x72 : (Int → ((Nat × (Nat × (Int × (Bool × (Unit))))) → ((Nat × LD) → Prop))),(∃ x73 : (Int → ((Nat × (Nat × (Int ×
 (Bool × (Unit))))) → ((Nat × LD) → Nat))),(((rh [(hB 1700101 [(.row 1790001 x3.1),(.row 1790002 (x3.2.1 + 1)),(aI x3.2.2.1),(aB x3.2.2.2.1)]),(hR 1790001 va 51 2 P),(hR 1790002
 (x3.2.1 + 1) 3 1 (B ++ [(Mir.D.int .i64 block)])),(hB 2700000 [(aL ba),(aL no),(aL pa),(aI ro),(aI ge)]),(hB 2700708 [(aB x7),(aL x8),(aL x9),(aL x10)]),(2701006,(.row true true 0
 3 1 [(Mir.D.int .i64 block)]))]) ∧ (x72 0 (x3.1,((x3.2.1 + 1),(x3.2.2.1,(x3.2.2.2.1,())))) (va,P))) ∧ (∀ x74 : Int,(∀ x75 : (Nat × (Nat × (Int × (Bool × (Unit))))),(∀ x76 : (Nat ×
 LD),((x72 x74 x75 x76) → (∀ x77 : (Nat → Mir.AV),(sel (decide (x74 < (x8.length : Int))) ((rn 1) ∧ ((0 : Int) ≤ x74) ∧ (∃ x78 : Mir.D,((x8[Int.toNat x74]? = some x78) ∧ (∃ x79 :
 ByteArray,(((D.cells x78)[0]? = some (Mir.D.str x79)) ∧ (∃ x80 : Bool,((Runs Fs2 37 [(aS x79),(aS low),(aS high)] [] (aB x80) []) ∧ (sel (Bool.not x80) (sel x7 ((rn 1) ∧ ((0 : Int)
 ≤ x74) ∧ (∃ x81 : Mir.D,((x9[Int.toNat x74]? = some x81) ∧ (∃ x82 : ByteArray,(((D.cells x81)[0]? = some (Mir.D.str x82)) ∧ (rn 0) ∧ ((rn 2) ∨ (@Eq LD [(Mir.D.rcd [(Mir.D.str
 x79),(Mir.D.str x82)])] [])) ∧ (((((Prod.fst x76) : Nat) = x75.1) ∧ (rn 51)) ∧ (rn 2)) ∧ (((((List.length (Prod.snd x76)) + (List.length [(Mir.D.rcd [(Mir.D.str x79),(Mir.D.str
 x82)])])) * 32) : Nat) ≤ 140737488355328) ∧ (rq (.ptr 1700101 0)) ∧ (rq (aI deep)) ∧ (rq (aS low)) ∧ (rq (aS high)) ∧ (rq (.ptr 2700000 0)) ∧ (rq (.ptr 2700708 0)) ∧ (rq (aL x8)) ∧
 (rq (aI (x8.length : Int))) ∧ (rh [(hB 1700101 [(.row 1790001 (x75.1 + 1)),(.row 1790002 x75.2.1),(aI x75.2.2.1),(aB true)]),(hR 1790001 (x75.1 + 1) 51 2 ((Prod.snd x76) ++
 [(Mir.D.rcd [(Mir.D.str x79),(Mir.D.str x82)])])),(hR 1790002 (x3.2.1 + 1) 3 1 (B ++ [(Mir.D.int .i64 block)])),(hB 2700000 [(aL ba),(aL no),(aL pa),(aI ro),(aI ge)]),(hB 2700708
 [(aB x7),(aL x8),(aL x9),(aL x10)]),(2701006,(.row true true 0 3 1 [(Mir.D.int .i64 block)]))]) ∧ (x72 (IntKind.wrap .i64 (x74 + 1)) ((x75.1 + 1),(x75.2.1,(x75.2.2.1,(true,()))))
 ((x75.1 + 1),((Prod.snd x76) ++ [(Mir.D.rcd [(Mir.D.str x79),(Mir.D.str x82)])]))) ∧ (((x73 (IntKind.wrap .i64 (x74 + 1)) ((x75.1 + 1),(x75.2.1,(x75.2.2.1,(true,())))) ((x75.1 +
 1),((Prod.snd x76) ++ [(Mir.D.rcd [(Mir.D.str x79),(Mir.D.str x82)])]))) : Nat) < (x73 x74 x75 x76))))))) ((rq (.ptr 1700101 0)) ∧ (rq (aI deep)) ∧ (rq (aS low)) ∧ (rq (aS high)) ∧
 (rq (.ptr 2700000 0)) ∧ (rq (.ptr 2700708 0)) ∧ (rq (aL x8)) ∧ (rq (aI (x8.length : Int))) ∧ (rh [(hB 1700101 [(.row 1790001 x75.1),(.row 1790002 x75.2.1),(aI x75.2.2.1),(aB
 true)]),(hR 1790001 (Prod.fst x76) 51 2 (Prod.snd x76)),(hR 1790002 (x3.2.1 + 1) 3 1 (B ++ [(Mir.D.int .i64 block)])),(hB 2700000 [(aL ba),(aL no),(aL pa),(aI ro),(aI ge)]),(hB
 2700708 [(aB x7),(aL x8),(aL x9),(aL x10)]),(2701006,(.row true true 0 3 1 [(Mir.D.int .i64 block)]))]) ∧ (x72 (IntKind.wrap .i64 (x74 + 1)) (x75.1,(x75.2.1,(x75.2.2.1,(true,()))))
 ((Prod.fst x76),(Prod.snd x76))) ∧ (((x73 (IntKind.wrap .i64 (x74 + 1)) (x75.1,(x75.2.1,(x75.2.2.1,(true,())))) ((Prod.fst x76),(Prod.snd x76))) : Nat) < (x73 x74 x75 x76)))) (sel
 x7 ((rn 1) ∧ ((0 : Int) ≤ x74) ∧ (∃ x83 : Mir.D,((x9[Int.toNat x74]? = some x83) ∧ (∃ x84 : ByteArray,(((D.cells x83)[0]? = some (Mir.D.str x84)) ∧ (rn 0) ∧ ((rn 2) ∨ (@Eq LD
 [(Mir.D.rcd [(Mir.D.str x79),(Mir.D.str x84)])] [])) ∧ (((((Prod.fst x76) : Nat) = x75.1) ∧ (rn 51)) ∧ (rn 2)) ∧ (((((List.length (Prod.snd x76)) + (List.length [(Mir.D.rcd
 [(Mir.D.str x79),(Mir.D.str x84)])])) * 32) : Nat) ≤ 140737488355328) ∧ (rq (.ptr 1700101 0)) ∧ (rq (aI deep)) ∧ (rq (aS low)) ∧ (rq (aS high)) ∧ (rq (.ptr 2700000 0)) ∧ (rq (.ptr
 2700708 0)) ∧ (rq (aL x8)) ∧ (rq (aI (x8.length : Int))) ∧ (rh [(hB 1700101 [(.row 1790001 (x75.1 + 1)),(.row 1790002 x75.2.1),(aI x75.2.2.1),(aB x75.2.2.2.1)]),(hR 1790001 (x75.1
 + 1) 51 2 ((Prod.snd x76) ++ [(Mir.D.rcd [(Mir.D.str x79),(Mir.D.str x84)])])),(hR 1790002 (x3.2.1 + 1) 3 1 (B ++ [(Mir.D.int .i64 block)])),(hB 2700000 [(aL ba),(aL no),(aL
 pa),(aI ro),(aI ge)]),(hB 2700708 [(aB x7),(aL x8),(aL x9),(aL x10)]),(2701006,(.row true true 0 3 1 [(Mir.D.int .i64 block)]))]) ∧ (x72 (IntKind.wrap .i64 (x74 + 1)) ((x75.1 +
 1),(x75.2.1,(x75.2.2.1,(x75.2.2.2.1,())))) ((x75.1 + 1),((Prod.snd x76) ++ [(Mir.D.rcd [(Mir.D.str x79),(Mir.D.str x84)])]))) ∧ (((x73 (IntKind.wrap .i64 (x74 + 1)) ((x75.1 +
 1),(x75.2.1,(x75.2.2.1,(x75.2.2.2.1,())))) ((x75.1 + 1),((Prod.snd x76) ++ [(Mir.D.rcd [(Mir.D.str x79),(Mir.D.str x84)])]))) : Nat) < (x73 x74 x75 x76))))))) ((rq (.ptr 1700101
 0)) ∧ (rq (aI deep)) ∧ (rq (aS low)) ∧ (rq (aS high)) ∧ (rq (.ptr 2700000 0)) ∧ (rq (.ptr 2700708 0)) ∧ (rq (aL x8)) ∧ (rq (aI (x8.length : Int))) ∧ (rh [(hB 1700101 [(.row 1790001
 x75.1),(.row 1790002 x75.2.1),(aI x75.2.2.1),(aB x75.2.2.2.1)]),(hR 1790001 (Prod.fst x76) 51 2 (Prod.snd x76)),(hR 1790002 (x3.2.1 + 1) 3 1 (B ++ [(Mir.D.int .i64 block)])),(hB
 2700000 [(aL ba),(aL no),(aL pa),(aI ro),(aI ge)]),(hB 2700708 [(aB x7),(aL x8),(aL x9),(aL x10)]),(2701006,(.row true true 0 3 1 [(Mir.D.int .i64 block)]))]) ∧ (x72 (IntKind.wrap
 .i64 (x74 + 1)) (x75.1,(x75.2.1,(x75.2.2.1,(x75.2.2.2.1,())))) ((Prod.fst x76),(Prod.snd x76))) ∧ (((x73 (IntKind.wrap .i64 (x74 + 1))
 (x75.1,(x75.2.1,(x75.2.2.1,(x75.2.2.2.1,())))) ((Prod.fst x76),(Prod.snd x76))) : Nat) < (x73 x74 x75 x76)))))))))))) (sel x7 (sel (x75.2.2.1 != 0) (sel (x75.2.2.1 != deep) (R
 (.tup []) [(hB 1700101 [(.row 1790001 x75.1),(.row 1790002 x75.2.1),(.n (.int .i64 deep)),(.n (.bool true))]),(hR 1790001 (Prod.fst x76) 51 2 (Prod.snd x76)),(hR 1790002 (x3.2.1 +
 1) 3 1 (B ++ [(Mir.D.int .i64 block)]))]) (R (.tup []) [(hB 1700101 [(.row 1790001 x75.1),(.row 1790002 x75.2.1),(.n (.int .i64 deep)),(.n (.bool x75.2.2.2.1))]),(hR 1790001
 (Prod.fst x76) 51 2 (Prod.snd x76)),(hR 1790002 (x3.2.1 + 1) 3 1 (B ++ [(Mir.D.int .i64 block)]))])) (R (.tup []) [(hB 1700101 [(.row 1790001 x75.1),(.row 1790002 x75.2.1),(.n
 (.int .i64 deep)),(.n (.bool x75.2.2.2.1))]),(hR 1790001 (Prod.fst x76) 51 2 (Prod.snd x76)),(hR 1790002 (x3.2.1 + 1) 3 1 (B ++ [(Mir.D.int .i64 block)]))])) (∃ x85 : (Int → ((Nat
 × (Nat × (Int × (Bool × (Unit))))) → ((Nat × LD) → ((Nat × LD) → Prop)))),(∃ x86 : (Int → ((Nat × (Nat × (Int × (Bool × (Unit))))) → ((Nat × LD) → ((Nat × LD) → Nat)))),(((rh [(hB
 1700101 [(.row 1790001 x75.1),(.row 1790002 x75.2.1),(aI x75.2.2.1),(aB x75.2.2.2.1)]),(hR 1790001 (Prod.fst x76) 51 2 (Prod.snd x76)),(hR 1790002 (x3.2.1 + 1) 3 1 (B ++
 [(Mir.D.int .i64 block)])),(hB 2700000 [(aL ba),(aL no),(aL pa),(aI ro),(aI ge)]),(hB 2700708 [(aB x7),(aL x8),(aL x9),(aL x10)]),(2701006,(.row true true 0 3 1 [(Mir.D.int .i64
 block)]))]) ∧ (x85 0 (x75.1,(x75.2.1,(x75.2.2.1,(x75.2.2.2.1,())))) ((Prod.fst x76),(Prod.snd x76)) ((x3.2.1 + 1),(B ++ [(Mir.D.int .i64 block)])))) ∧ (∀ x87 : Int,(∀ x88 : (Nat ×
 (Nat × (Int × (Bool × (Unit))))),(∀ x89 : (Nat × LD),(∀ x90 : (Nat × LD),((x85 x87 x88 x89 x90) → (∀ x91 : (Nat → Mir.AV),(sel (decide (x87 < (x10.length : Int))) ((rn 1) ∧ ((0 :
 Int) ≤ x87) ∧ (∃ x92 : Mir.D,((x10[Int.toNat x87]? = some x92) ∧ (∃ x93 : Int,(((D.cells x92)[0]? = some (Mir.D.int .i64 x93)) ∧ (sel (decide (x87 > 0)) ((rn 1) ∧ ((0 : Int) ≤
 (IntKind.wrap .i64 (x87 - 1))) ∧ (∃ x94 : Mir.D,((x8[Int.toNat (IntKind.wrap .i64 (x87 - 1))]? = some x94) ∧ (∃ x95 : ByteArray,(((D.cells x94)[0]? = some (Mir.D.str x95)) ∧ (sel
 (decide (x87 < (x8.length : Int))) ((rn 1) ∧ ((0 : Int) ≤ x87) ∧ (∃ x96 : Mir.D,((x8[Int.toNat x87]? = some x96) ∧ (∃ x97 : ByteArray,(((D.cells x96)[0]? = some (Mir.D.str x97)) ∧
 (sel (Bool.not x88.2.2.2.1) (∃ x98 : Nat,(∃ x99 : Nat,(∃ x100 : Int,(∃ x101 : Bool,(∃ x102 : Nat,(∃ x103 : LD,(∃ x104 : Nat,(∃ x105 : LD,((Runs Fs2 27 [(.ptr 1700101 0),(.agg [(aL
 ba),(aL no),(aL pa),(aI ro),(aI ge)]),(aI x93),(aI (IntKind.wrap .i64 (deep + 1))),(aS x95),(aS x97)] [(hB 1700101 [(.row 1790001 x88.1),(.row 1790002 x88.2.1),(aI x88.2.2.1),(aB
 x88.2.2.2.1)]),(hR 1790001 (Prod.fst x89) 51 2 (Prod.snd x89)),(hR 1790002 (Prod.fst x90) 3 1 (Prod.snd x90))] (.tup []) [(hB 1700101 [(.row 1790001 x98),(.row 1790002 x99),(aI
 x100),(aB x101)]),(hR 1790001 x102 51 2 x103),(hR 1790002 x104 3 1 x105)]) ∧ (rq (.ptr 1700101 0)) ∧ (rq (aI deep)) ∧ (rq (aS low)) ∧ (rq (aS high)) ∧ (rq (.ptr 2700000 0)) ∧ (rq
 (.ptr 2700708 0)) ∧ (rq (aL x10)) ∧ (rq (aI (x10.length : Int))) ∧ (rh [(hB 1700101 [(.row 1790001 x98),(.row 1790002 x99),(aI x100),(aB x101)]),(hR 1790001 x102 51 2 x103),(hR
 1790002 x104 3 1 x105),(hB 2700000 [(aL ba),(aL no),(aL pa),(aI ro),(aI ge)]),(hB 2700708 [(aB x7),(aL x8),(aL x9),(aL x10)]),(2701006,(.row true true 0 3 1 [(Mir.D.int .i64
 block)]))]) ∧ (x85 (IntKind.wrap .i64 (x87 + 1)) (x98,(x99,(x100,(x101,())))) (x102,x103) (x104,x105)) ∧ (((x86 (IntKind.wrap .i64 (x87 + 1)) (x98,(x99,(x100,(x101,()))))
 (x102,x103) (x104,x105)) : Nat) < (x86 x87 x88 x89 x90))))))))))) ((rq (.ptr 1700101 0)) ∧ (rq (aI deep)) ∧ (rq (aS low)) ∧ (rq (aS high)) ∧ (rq (.ptr 2700000 0)) ∧ (rq (.ptr
 2700708 0)) ∧ (rq (aL x10)) ∧ (rq (aI (x10.length : Int))) ∧ (rh [(hB 1700101 [(.row 1790001 x88.1),(.row 1790002 x88.2.1),(aI x88.2.2.1),(aB x88.2.2.2.1)]),(hR 1790001 (Prod.fst
 x89) 51 2 (Prod.snd x89)),(hR 1790002 (Prod.fst x90) 3 1 (Prod.snd x90)),(hB 2700000 [(aL ba),(aL no),(aL pa),(aI ro),(aI ge)]),(hB 2700708 [(aB x7),(aL x8),(aL x9),(aL
 x10)]),(2701006,(.row true true 0 3 1 [(Mir.D.int .i64 block)]))]) ∧ (x85 (IntKind.wrap .i64 (x87 + 1)) (x88.1,(x88.2.1,(x88.2.2.1,(x88.2.2.2.1,())))) ((Prod.fst x89),(Prod.snd
 x89)) ((Prod.fst x90),(Prod.snd x90))) ∧ (((x86 (IntKind.wrap .i64 (x87 + 1)) (x88.1,(x88.2.1,(x88.2.2.1,(x88.2.2.2.1,())))) ((Prod.fst x89),(Prod.snd x89)) ((Prod.fst
 x90),(Prod.snd x90))) : Nat) < (x86 x87 x88 x89 x90))))))))) (sel (Bool.not x88.2.2.2.1) (∃ x106 : Nat,(∃ x107 : Nat,(∃ x108 : Int,(∃ x109 : Bool,(∃ x110 : Nat,(∃ x111 : LD,(∃ x112
 : Nat,(∃ x113 : LD,((Runs Fs2 27 [(.ptr 1700101 0),(.agg [(aL ba),(aL no),(aL pa),(aI ro),(aI ge)]),(aI x93),(aI (IntKind.wrap .i64 (deep + 1))),(aS x95),(aS high)] [(hB 1700101
 [(.row 1790001 x88.1),(.row 1790002 x88.2.1),(aI x88.2.2.1),(aB x88.2.2.2.1)]),(hR 1790001 (Prod.fst x89) 51 2 (Prod.snd x89)),(hR 1790002 (Prod.fst x90) 3 1 (Prod.snd x90))] (.tup
 []) [(hB 1700101 [(.row 1790001 x106),(.row 1790002 x107),(aI x108),(aB x109)]),(hR 1790001 x110 51 2 x111),(hR 1790002 x112 3 1 x113)]) ∧ (rq (.ptr 1700101 0)) ∧ (rq (aI deep)) ∧
 (rq (aS low)) ∧ (rq (aS high)) ∧ (rq (.ptr 2700000 0)) ∧ (rq (.ptr 2700708 0)) ∧ (rq (aL x10)) ∧ (rq (aI (x10.length : Int))) ∧ (rh [(hB 1700101 [(.row 1790001 x106),(.row 1790002
 x107),(aI x108),(aB x109)]),(hR 1790001 x110 51 2 x111),(hR 1790002 x112 3 1 x113),(hB 2700000 [(aL ba),(aL no),(aL pa),(aI ro),(aI ge)]),(hB 2700708 [(aB x7),(aL x8),(aL x9),(aL
 x10)]),(2701006,(.row true true 0 3 1 [(Mir.D.int .i64 block)]))]) ∧ (x85 (IntKind.wrap .i64 (x87 + 1)) (x106,(x107,(x108,(x109,())))) (x110,x111) (x112,x113)) ∧ (((x86
 (IntKind.wrap .i64 (x87 + 1)) (x106,(x107,(x108,(x109,())))) (x110,x111) (x112,x113)) : Nat) < (x86 x87 x88 x89 x90))))))))))) ((rq (.ptr 1700101 0)) ∧ (rq (aI deep)) ∧ (rq (aS
 low)) ∧ (rq (aS high)) ∧ (rq (.ptr 2700000 0)) ∧ (rq (.ptr 2700708 0)) ∧ (rq (aL x10)) ∧ (rq (aI (x10.length : Int))) ∧ (rh [(hB 1700101 [(.row 1790001 x88.1),(.row 1790002
 x88.2.1),(aI x88.2.2.1),(aB x88.2.2.2.1)]),(hR 1790001 (Prod.fst x89) 51 2 (Prod.snd x89)),(hR 1790002 (Prod.fst x90) 3 1 (Prod.snd x90)),(hB 2700000 [(aL ba),(aL no),(aL pa),(aI
 ro),(aI ge)]),(hB 2700708 [(aB x7),(aL x8),(aL x9),(aL x10)]),(2701006,(.row true true 0 3 1 [(Mir.D.int .i64 block)]))]) ∧ (x85 (IntKind.wrap .i64 (x87 + 1))
 (x88.1,(x88.2.1,(x88.2.2.1,(x88.2.2.2.1,())))) ((Prod.fst x89),(Prod.snd x89)) ((Prod.fst x90),(Prod.snd x90))) ∧ (((x86 (IntKind.wrap .i64 (x87 + 1))
 (x88.1,(x88.2.1,(x88.2.2.1,(x88.2.2.2.1,())))) ((Prod.fst x89),(Prod.snd x89)) ((Prod.fst x90),(Prod.snd x90))) : Nat) < (x86 x87 x88 x89 x90)))))))))) (sel (decide (x87 <
 (x8.length : Int))) ((rn 1) ∧ ((0 : Int) ≤ x87) ∧ (∃ x114 : Mir.D,((x8[Int.toNat x87]? = some x114) ∧ (∃ x115 : ByteArray,(((D.cells x114)[0]? = some (Mir.D.str x115)) ∧ (sel
 (Bool.not x88.2.2.2.1) (∃ x116 : Nat,(∃ x117 : Nat,(∃ x118 : Int,(∃ x119 : Bool,(∃ x120 : Nat,(∃ x121 : LD,(∃ x122 : Nat,(∃ x123 : LD,((Runs Fs2 27 [(.ptr 1700101 0),(.agg [(aL
 ba),(aL no),(aL pa),(aI ro),(aI ge)]),(aI x93),(aI (IntKind.wrap .i64 (deep + 1))),(aS low),(aS x115)] [(hB 1700101 [(.row 1790001 x88.1),(.row 1790002 x88.2.1),(aI x88.2.2.1),(aB
 x88.2.2.2.1)]),(hR 1790001 (Prod.fst x89) 51 2 (Prod.snd x89)),(hR 1790002 (Prod.fst x90) 3 1 (Prod.snd x90))] (.tup []) [(hB 1700101 [(.row 1790001 x116),(.row 1790002 x117),(aI
 x118),(aB x119)]),(hR 1790001 x120 51 2 x121),(hR 1790002 x122 3 1 x123)]) ∧ (rq (.ptr 1700101 0)) ∧ (rq (aI deep)) ∧ (rq (aS low)) ∧ (rq (aS high)) ∧ (rq (.ptr 2700000 0)) ∧ (rq
 (.ptr 2700708 0)) ∧ (rq (aL x10)) ∧ (rq (aI (x10.length : Int))) ∧ (rh [(hB 1700101 [(.row 1790001 x116),(.row 1790002 x117),(aI x118),(aB x119)]),(hR 1790001 x120 51 2 x121),(hR
 1790002 x122 3 1 x123),(hB 2700000 [(aL ba),(aL no),(aL pa),(aI ro),(aI ge)]),(hB 2700708 [(aB x7),(aL x8),(aL x9),(aL x10)]),(2701006,(.row true true 0 3 1 [(Mir.D.int .i64
 block)]))]) ∧ (x85 (IntKind.wrap .i64 (x87 + 1)) (x116,(x117,(x118,(x119,())))) (x120,x121) (x122,x123)) ∧ (((x86 (IntKind.wrap .i64 (x87 + 1)) (x116,(x117,(x118,(x119,()))))
 (x120,x121) (x122,x123)) : Nat) < (x86 x87 x88 x89 x90))))))))))) ((rq (.ptr 1700101 0)) ∧ (rq (aI deep)) ∧ (rq (aS low)) ∧ (rq (aS high)) ∧ (rq (.ptr 2700000 0)) ∧ (rq (.ptr
 2700708 0)) ∧ (rq (aL x10)) ∧ (rq (aI (x10.length : Int))) ∧ (rh [(hB 1700101 [(.row 1790001 x88.1),(.row 1790002 x88.2.1),(aI x88.2.2.1),(aB x88.2.2.2.1)]),(hR 1790001 (Prod.fst
 x89) 51 2 (Prod.snd x89)),(hR 1790002 (Prod.fst x90) 3 1 (Prod.snd x90)),(hB 2700000 [(aL ba),(aL no),(aL pa),(aI ro),(aI ge)]),(hB 2700708 [(aB x7),(aL x8),(aL x9),(aL
 x10)]),(2701006,(.row true true 0 3 1 [(Mir.D.int .i64 block)]))]) ∧ (x85 (IntKind.wrap .i64 (x87 + 1)) (x88.1,(x88.2.1,(x88.2.2.1,(x88.2.2.2.1,())))) ((Prod.fst x89),(Prod.snd
 x89)) ((Prod.fst x90),(Prod.snd x90))) ∧ (((x86 (IntKind.wrap .i64 (x87 + 1)) (x88.1,(x88.2.1,(x88.2.2.1,(x88.2.2.2.1,())))) ((Prod.fst x89),(Prod.snd x89)) ((Prod.fst
 x90),(Prod.snd x90))) : Nat) < (x86 x87 x88 x89 x90))))))))) (sel (Bool.not x88.2.2.2.1) (∃ x124 : Nat,(∃ x125 : Nat,(∃ x126 : Int,(∃ x127 : Bool,(∃ x128 : Nat,(∃ x129 : LD,(∃ x130
 : Nat,(∃ x131 : LD,((Runs Fs2 27 [(.ptr 1700101 0),(.agg [(aL ba),(aL no),(aL pa),(aI ro),(aI ge)]),(aI x93),(aI (IntKind.wrap .i64 (deep + 1))),(aS low),(aS high)] [(hB 1700101
 [(.row 1790001 x88.1),(.row 1790002 x88.2.1),(aI x88.2.2.1),(aB x88.2.2.2.1)]),(hR 1790001 (Prod.fst x89) 51 2 (Prod.snd x89)),(hR 1790002 (Prod.fst x90) 3 1 (Prod.snd x90))] (.tup
 []) [(hB 1700101 [(.row 1790001 x124),(.row 1790002 x125),(aI x126),(aB x127)]),(hR 1790001 x128 51 2 x129),(hR 1790002 x130 3 1 x131)]) ∧ (rq (.ptr 1700101 0)) ∧ (rq (aI deep)) ∧
 (rq (aS low)) ∧ (rq (aS high)) ∧ (rq (.ptr 2700000 0)) ∧ (rq (.ptr 2700708 0)) ∧ (rq (aL x10)) ∧ (rq (aI (x10.length : Int))) ∧ (rh [(hB 1700101 [(.row 1790001 x124),(.row 1790002
 x125),(aI x126),(aB x127)]),(hR 1790001 x128 51 2 x129),(hR 1790002 x130 3 1 x131),(hB 2700000 [(aL ba),(aL no),(aL pa),(aI ro),(aI ge)]),(hB 2700708 [(aB x7),(aL x8),(aL x9),(aL
 x10)]),(2701006,(.row true true 0 3 1 [(Mir.D.int .i64 block)]))]) ∧ (x85 (IntKind.wrap .i64 (x87 + 1)) (x124,(x125,(x126,(x127,())))) (x128,x129) (x130,x131)) ∧ (((x86
 (IntKind.wrap .i64 (x87 + 1)) (x124,(x125,(x126,(x127,())))) (x128,x129) (x130,x131)) : Nat) < (x86 x87 x88 x89 x90))))))))))) ((rq (.ptr 1700101 0)) ∧ (rq (aI deep)) ∧ (rq (aS
 low)) ∧ (rq (aS high)) ∧ (rq (.ptr 2700000 0)) ∧ (rq (.ptr 2700708 0)) ∧ (rq (aL x10)) ∧ (rq (aI (x10.length : Int))) ∧ (rh [(hB 1700101 [(.row 1790001 x88.1),(.row 1790002
 x88.2.1),(aI x88.2.2.1),(aB x88.2.2.2.1)]),(hR 1790001 (Prod.fst x89) 51 2 (Prod.snd x89)),(hR 1790002 (Prod.fst x90) 3 1 (Prod.snd x90)),(hB 2700000 [(aL ba),(aL no),(aL pa),(aI
 ro),(aI ge)]),(hB 2700708 [(aB x7),(aL x8),(aL x9),(aL x10)]),(2701006,(.row true true 0 3 1 [(Mir.D.int .i64 block)]))]) ∧ (x85 (IntKind.wrap .i64 (x87 + 1))
 (x88.1,(x88.2.1,(x88.2.2.1,(x88.2.2.2.1,())))) ((Prod.fst x89),(Prod.snd x89)) ((Prod.fst x90),(Prod.snd x90))) ∧ (((x86 (IntKind.wrap .i64 (x87 + 1))
 (x88.1,(x88.2.1,(x88.2.2.1,(x88.2.2.2.1,())))) ((Prod.fst x89),(Prod.snd x89)) ((Prod.fst x90),(Prod.snd x90))) : Nat) < (x86 x87 x88 x89 x90))))))))))) (R (.tup []) [(hB 1700101
 [(.row 1790001 x88.1),(.row 1790002 x88.2.1),(.n (.int .i64 x88.2.2.1)),(.n (.bool x88.2.2.2.1))]),(hR 1790001 (Prod.fst x89) 51 2 (Prod.snd x89)),(hR 1790002 (Prod.fst x90) 3 1
 (Prod.snd x90))])))))))))))))))))))))))))))))))))))))))))
theorem vc27h (ba : LD) (no : LD) (pa : LD) (ro : Int) (ge : Int) (block : Int) (deep : Int) (low : ByteArray) (high : ByteArray) (va : Nat) (vb : Nat) (he : Int) (bad : Bool) (P : LD) (B : LD) (R : Mir.AV → Heap → Prop) : Vc Fs2 c27.body (argsQ c27 [.ptr 1700101 0, (.agg [.o (.sl 1 ba), .o (.sl 1 no), .o (.sl 1 pa), .n (.int .i64 ro), .n (.int .i64 ge)]), .n (.int .i64 block), .n (.int .i64 deep), .n (.str low), .n (.str high)]) [(1700101, .box [.row 1790001 va, .row 1790002 vb, .n (.int .i64 he), .n (.bool bad)]), (1790001, .row false false va 51 2 P), (1790002, .row false false vb 3 1 B)] (endQH c27 [(1700101, .box [.row 1790001 va, .row 1790002 vb, .n (.int .i64 he), .n (.bool bad)]), (1790001, .row false false va 51 2 P), (1790002, .row false false vb 3 1 B)] R) = V27h ba no pa ro ge block deep low high va vb he bad P B R := by kernel_rfl
def V31h (ba : LD) (no : LD) (pa : LD) (ro : Int) (ge : Int) (block : Int) (deep : Int) (low : ByteArray) (high : ByteArray) (v : Nat) (U : LD) (np : Int) (he : Int) (nb : Int) (bad : Bool) (R : Mir.AV → Heap → Prop) : Prop :=
 (∃ x0 : Bool,(∃ x1 : LD,(∃ x2 : LD,(∃ x3 : LD,(∃ x4 : Int,((Runs Fs2 43 [(.agg [(aL ba),(aL no),(aL pa),(aI ro),(aI ge)]),(aI block),(aB (deep == 1))] [] (.tup [(.agg [(aB x0),(aL
 x1),(aL x2),(aL x3)]),(aI x4)]) []) ∧ (sel (x4 != 0) (R (.tup []) [(hR 2200305 v 4 1 U),(hB 2200307 [(.o (.sl 1 ba)),(.o (.sl 1 no)),(.o (.sl 1 pa)),(.n (.int .i64 ro)),(.n (.int
 .i64 ge)),(.n (.int .i64 np)),(.n (.int .i64 he)),(.n (.int .i64 nb)),(.row 2200305 v),(.n (.bool true))])]) (sel (decide (deep > 8)) (R (.tup []) [(hR 2200305 v 4 1 U),(hB 2200307
 [(.o (.sl 1 ba)),(.o (.sl 1 no)),(.o (.sl 1 pa)),(.n (.int .i64 ro)),(.n (.int .i64 ge)),(.n (.int .i64 np)),(.n (.int .i64 he)),(.n (.int .i64 nb)),(.row 2200305 v),(.n (.bool
 true))])]) (((rn v) ∧ (rn 1)) ∧ ((0 : Int) ≤ block) ∧ ((block : Int) < (U.length : Int)) ∧ ((rn v) ∧ (rn 1)) ∧ (∃ x5 : Mir.D,((U[Int.toNat block]? = some x5) ∧ (∃ x6 :
 Bool,(((D.cells x5)[0]? = some (Mir.D.bool x6)) ∧ (sel x6 (R (.tup []) [(hR 2200305 v 4 1 U),(hB 2200307 [(.o (.sl 1 ba)),(.o (.sl 1 no)),(.o (.sl 1 pa)),(.n (.int .i64 ro)),(.n
 (.int .i64 ge)),(.n (.int .i64 np)),(.n (.int .i64 he)),(.n (.int .i64 nb)),(.row 2200305 v),(.n (.bool true))])]) (sel x0 (sel ((x1.length : Int) == 0) (R (.tup []) [(hR 2200305 v
 4 1 U),(hB 2200307 [(.o (.sl 1 ba)),(.o (.sl 1 no)),(.o (.sl 1 pa)),(.n (.int .i64 ro)),(.n (.int .i64 ge)),(.n (.int .i64 np)),(.n (.int .i64 he)),(.n (.int .i64 nb)),(.row
 2200305 v),(.n (.bool true))])]) (((rn v) ∧ (rn 1)) ∧ ((0 : Int) ≤ block) ∧ ((block : Int) < (U.length : Int)) ∧ ((((rn v) ∧ (rn 0)) ∧ (rn 1)) ∧ (rn 1)) ∧ (((Int.toNat block) :
 Nat) < (List.length U)) ∧ (∃ x7 : Bool,((Runs Fs2 33 [(aL x1),(.fn 44 [(.ptr 3100000 0),(.ptr 3100001 0)])] [(hB 3100000 [(aS low)]),(hB 3100001 [(aS high)])] (aB x7) [(hB 3100000
 [(aS low)]),(hB 3100001 [(aS high)])]) ∧ (sel x7 (R (.tup []) [(hR 2200305 v 4 1 (List.set U (Int.toNat block) (Mir.D.bool true))),(hB 2200307 [(.o (.sl 1 ba)),(.o (.sl 1 no)),(.o
 (.sl 1 pa)),(.n (.int .i64 ro)),(.n (.int .i64 ge)),(.n (.int .i64 np)),(.n (.int .i64 he)),(.n (.int .i64 (IntKind.wrap .i64 (nb + 1)))),(.row 2200305 v),(.n (.bool true))])])
 (sel x0 (sel bad (R (.tup []) [(hR 2200305 v 4 1 (List.set U (Int.toNat block) (Mir.D.bool true))),(hB 2200307 [(.o (.sl 1 ba)),(.o (.sl 1 no)),(.o (.sl 1 pa)),(.n (.int .i64
 ro)),(.n (.int .i64 ge)),(.n (.int .i64 (IntKind.wrap .i64 (np + (x1.length : Int))))),(.n (.int .i64 deep)),(.n (.int .i64 (IntKind.wrap .i64 (nb + 1)))),(.row 2200305 v),(.n
 (.bool true))])]) (sel (he != 0) (R (.tup []) [(hR 2200305 v 4 1 (List.set U (Int.toNat block) (Mir.D.bool true))),(hB 2200307 [(.o (.sl 1 ba)),(.o (.sl 1 no)),(.o (.sl 1 pa)),(.n
 (.int .i64 ro)),(.n (.int .i64 ge)),(.n (.int .i64 (IntKind.wrap .i64 (np + (x1.length : Int))))),(.n (.int .i64 deep)),(.n (.int .i64 (IntKind.wrap .i64 (nb + 1)))),(.row 2200305
 v),(.n (.bool (he != deep)))])]) (R (.tup []) [(hR 2200305 v 4 1 (List.set U (Int.toNat block) (Mir.D.bool true))),(hB 2200307 [(.o (.sl 1 ba)),(.o (.sl 1 no)),(.o (.sl 1 pa)),(.n
 (.int .i64 ro)),(.n (.int .i64 ge)),(.n (.int .i64 (IntKind.wrap .i64 (np + (x1.length : Int))))),(.n (.int .i64 deep)),(.n (.int .i64 (IntKind.wrap .i64 (nb + 1)))),(.row 2200305
 v),(.n (.bool false))])]))) (∃ x8 : (Int → ((LD × (LD × (LD × (Int × (Int × (Int × (Int × (Int × (Nat × (Bool × (Unit))))))))))) → ((Nat × LD) → Prop))),(∃ x9 : (Int → ((LD × (LD ×
 (LD × (Int × (Int × (Int × (Int × (Int × (Nat × (Bool × (Unit))))))))))) → ((Nat × LD) → Nat))),(((rh [(hR 2200305 v 4 1 (List.set U (Int.toNat block) (Mir.D.bool true))),(hB
 2200307 [(aL ba),(aL no),(aL pa),(aI ro),(aI ge),(aI np),(aI he),(aI (IntKind.wrap .i64 (nb + 1))),(.row 2200305 v),(aB bad)]),(hB 3100000 [(aS low)]),(hB 3100001 [(aS high)]),(hB
 3100111 [(aB x0),(aL x1),(aL x2),(aL x3)])]) ∧ (x8 0 (ba,(no,(pa,(ro,(ge,(np,(he,((IntKind.wrap .i64 (nb + 1)),(v,(bad,())))))))))) (v,(List.set U (Int.toNat block) (Mir.D.bool
 true))))) ∧ (∀ x10 : Int,(∀ x11 : (LD × (LD × (LD × (Int × (Int × (Int × (Int × (Int × (Nat × (Bool × (Unit))))))))))),(∀ x12 : (Nat × LD),((x8 x10 x11 x12) → (∀ x13 : (Nat →
 Mir.AV),(sel (decide (x10 < (x3.length : Int))) ((rn 1) ∧ ((0 : Int) ≤ x10) ∧ (∃ x14 : Mir.D,((x3[Int.toNat x10]? = some x14) ∧ (∃ x15 : Int,(((D.cells x14)[0]? = some (Mir.D.int
 .i64 x15)) ∧ (sel (decide (x10 > 0)) ((rn 1) ∧ ((0 : Int) ≤ (IntKind.wrap .i64 (x10 - 1))) ∧ (∃ x16 : Mir.D,((x1[Int.toNat (IntKind.wrap .i64 (x10 - 1))]? = some x16) ∧ (∃ x17 :
 ByteArray,(((D.cells x16)[0]? = some (Mir.D.str x17)) ∧ (sel (decide (x10 < (x1.length : Int))) ((rn 1) ∧ ((0 : Int) ≤ x10) ∧ (∃ x18 : Mir.D,((x1[Int.toNat x10]? = some x18) ∧ (∃
 x19 : ByteArray,(((D.cells x18)[0]? = some (Mir.D.str x19)) ∧ (∃ x20 : Nat,(∃ x21 : LD,(∃ x22 : LD,(∃ x23 : LD,(∃ x24 : LD,(∃ x25 : Int,(∃ x26 : Int,(∃ x27 : Int,(∃ x28 : Int,(∃
 x29 : Int,(∃ x30 : Nat,(∃ x31 : Bool,((Runs Fs2 31 [(.ptr 2200307 0),(aI x15),(aI (IntKind.wrap .i64 (deep + 1))),(aS x17),(aS x19)] [(hR 2200305 (Prod.fst x12) 4 1 (Prod.snd
 x12)),(hB 2200307 [(aL x11.1),(aL x11.2.1),(aL x11.2.2.1),(aI x11.2.2.2.1),(aI x11.2.2.2.2.1),(aI x11.2.2.2.2.2.1),(aI x11.2.2.2.2.2.2.1),(aI x11.2.2.2.2.2.2.2.1),(.row 2200305
 x11.2.2.2.2.2.2.2.2.1),(aB x11.2.2.2.2.2.2.2.2.2.1)])] (.tup []) [(hR 2200305 x20 4 1 x21),(hB 2200307 [(aL x22),(aL x23),(aL x24),(aI x25),(aI x26),(aI x27),(aI x28),(aI
 x29),(.row 2200305 x30),(aB x31)])]) ∧ (sel x31 (R (.tup []) [(hR 2200305 x20 4 1 x21),(hB 2200307 [(.o (.sl 1 x22)),(.o (.sl 1 x23)),(.o (.sl 1 x24)),(.n (.int .i64 x25)),(.n
 (.int .i64 x26)),(.n (.int .i64 x27)),(.n (.int .i64 x28)),(.n (.int .i64 x29)),(.row 2200305 x30),(.n (.bool x31))])]) ((rq (.ptr 2200307 0)) ∧ (rq (aI deep)) ∧ (rq (.ptr 3100000
 0)) ∧ (rq (.ptr 3100001 0)) ∧ (rq (.ptr 3100111 0)) ∧ (rq (aL x3)) ∧ (rq (aI (x3.length : Int))) ∧ (rh [(hR 2200305 x20 4 1 x21),(hB 2200307 [(aL x22),(aL x23),(aL x24),(aI
 x25),(aI x26),(aI x27),(aI x28),(aI x29),(.row 2200305 x30),(aB x31)]),(hB 3100000 [(aS low)]),(hB 3100001 [(aS high)]),(hB 3100111 [(aB x0),(aL x1),(aL x2),(aL x3)])]) ∧ (x8
 (IntKind.wrap .i64 (x10 + 1)) (x22,(x23,(x24,(x25,(x26,(x27,(x28,(x29,(x30,(x31,())))))))))) (x20,x21)) ∧ (((x9 (IntKind.wrap .i64 (x10 + 1))
 (x22,(x23,(x24,(x25,(x26,(x27,(x28,(x29,(x30,(x31,())))))))))) (x20,x21)) : Nat) < (x9 x10 x11 x12)))))))))))))))))))))) (∃ x32 : Nat,(∃ x33 : LD,(∃ x34 : LD,(∃ x35 : LD,(∃ x36 :
 LD,(∃ x37 : Int,(∃ x38 : Int,(∃ x39 : Int,(∃ x40 : Int,(∃ x41 : Int,(∃ x42 : Nat,(∃ x43 : Bool,((Runs Fs2 31 [(.ptr 2200307 0),(aI x15),(aI (IntKind.wrap .i64 (deep + 1))),(aS
 x17),(aS high)] [(hR 2200305 (Prod.fst x12) 4 1 (Prod.snd x12)),(hB 2200307 [(aL x11.1),(aL x11.2.1),(aL x11.2.2.1),(aI x11.2.2.2.1),(aI x11.2.2.2.2.1),(aI x11.2.2.2.2.2.1),(aI
 x11.2.2.2.2.2.2.1),(aI x11.2.2.2.2.2.2.2.1),(.row 2200305 x11.2.2.2.2.2.2.2.2.1),(aB x11.2.2.2.2.2.2.2.2.2.1)])] (.tup []) [(hR 2200305 x32 4 1 x33),(hB 2200307 [(aL x34),(aL
 x35),(aL x36),(aI x37),(aI x38),(aI x39),(aI x40),(aI x41),(.row 2200305 x42),(aB x43)])]) ∧ (sel x43 (R (.tup []) [(hR 2200305 x32 4 1 x33),(hB 2200307 [(.o (.sl 1 x34)),(.o (.sl
 1 x35)),(.o (.sl 1 x36)),(.n (.int .i64 x37)),(.n (.int .i64 x38)),(.n (.int .i64 x39)),(.n (.int .i64 x40)),(.n (.int .i64 x41)),(.row 2200305 x42),(.n (.bool x43))])]) ((rq (.ptr
 2200307 0)) ∧ (rq (aI deep)) ∧ (rq (.ptr 3100000 0)) ∧ (rq (.ptr 3100001 0)) ∧ (rq (.ptr 3100111 0)) ∧ (rq (aL x3)) ∧ (rq (aI (x3.length : Int))) ∧ (rh [(hR 2200305 x32 4 1
 x33),(hB 2200307 [(aL x34),(aL x35),(aL x36),(aI x37),(aI x38),(aI x39),(aI x40),(aI x41),(.row 2200305 x42),(aB x43)]),(hB 3100000 [(aS low)]),(hB 3100001 [(aS high)]),(hB 3100111
 [(aB x0),(aL x1),(aL x2),(aL x3)])]) ∧ (x8 (IntKind.wrap .i64 (x10 + 1)) (x34,(x35,(x36,(x37,(x38,(x39,(x40,(x41,(x42,(x43,())))))))))) (x32,x33)) ∧ (((x9 (IntKind.wrap .i64 (x10 +
 1)) (x34,(x35,(x36,(x37,(x38,(x39,(x40,(x41,(x42,(x43,())))))))))) (x32,x33)) : Nat) < (x9 x10 x11 x12))))))))))))))))))))))) (sel (decide (x10 < (x1.length : Int))) ((rn 1) ∧ ((0
 : Int) ≤ x10) ∧ (∃ x44 : Mir.D,((x1[Int.toNat x10]? = some x44) ∧ (∃ x45 : ByteArray,(((D.cells x44)[0]? = some (Mir.D.str x45)) ∧ (∃ x46 : Nat,(∃ x47 : LD,(∃ x48 : LD,(∃ x49 :
 LD,(∃ x50 : LD,(∃ x51 : Int,(∃ x52 : Int,(∃ x53 : Int,(∃ x54 : Int,(∃ x55 : Int,(∃ x56 : Nat,(∃ x57 : Bool,((Runs Fs2 31 [(.ptr 2200307 0),(aI x15),(aI (IntKind.wrap .i64 (deep +
 1))),(aS low),(aS x45)] [(hR 2200305 (Prod.fst x12) 4 1 (Prod.snd x12)),(hB 2200307 [(aL x11.1),(aL x11.2.1),(aL x11.2.2.1),(aI x11.2.2.2.1),(aI x11.2.2.2.2.1),(aI
 x11.2.2.2.2.2.1),(aI x11.2.2.2.2.2.2.1),(aI x11.2.2.2.2.2.2.2.1),(.row 2200305 x11.2.2.2.2.2.2.2.2.1),(aB x11.2.2.2.2.2.2.2.2.2.1)])] (.tup []) [(hR 2200305 x46 4 1 x47),(hB
 2200307 [(aL x48),(aL x49),(aL x50),(aI x51),(aI x52),(aI x53),(aI x54),(aI x55),(.row 2200305 x56),(aB x57)])]) ∧ (sel x57 (R (.tup []) [(hR 2200305 x46 4 1 x47),(hB 2200307 [(.o
 (.sl 1 x48)),(.o (.sl 1 x49)),(.o (.sl 1 x50)),(.n (.int .i64 x51)),(.n (.int .i64 x52)),(.n (.int .i64 x53)),(.n (.int .i64 x54)),(.n (.int .i64 x55)),(.row 2200305 x56),(.n
 (.bool x57))])]) ((rq (.ptr 2200307 0)) ∧ (rq (aI deep)) ∧ (rq (.ptr 3100000 0)) ∧ (rq (.ptr 3100001 0)) ∧ (rq (.ptr 3100111 0)) ∧ (rq (aL x3)) ∧ (rq (aI (x3.length : Int))) ∧ (rh
 [(hR 2200305 x46 4 1 x47),(hB 2200307 [(aL x48),(aL x49),(aL x50),(aI x51),(aI x52),(aI x53),(aI x54),(aI x55),(.row 2200305 x56),(aB x57)]),(hB 3100000 [(aS low)]),(hB 3100001
 [(aS high)]),(hB 3100111 [(aB x0),(aL x1),(aL x2),(aL x3)])]) ∧ (x8 (IntKind.wrap .i64 (x10 + 1)) (x48,(x49,(x50,(x51,(x52,(x53,(x54,(x55,(x56,(x57,())))))))))) (x46,x47)) ∧ (((x9
 (IntKind.wrap .i64 (x10 + 1)) (x48,(x49,(x50,(x51,(x52,(x53,(x54,(x55,(x56,(x57,())))))))))) (x46,x47)) : Nat) < (x9 x10 x11 x12)))))))))))))))))))))) (∃ x58 : Nat,(∃ x59 : LD,(∃
 x60 : LD,(∃ x61 : LD,(∃ x62 : LD,(∃ x63 : Int,(∃ x64 : Int,(∃ x65 : Int,(∃ x66 : Int,(∃ x67 : Int,(∃ x68 : Nat,(∃ x69 : Bool,((Runs Fs2 31 [(.ptr 2200307 0),(aI x15),(aI
 (IntKind.wrap .i64 (deep + 1))),(aS low),(aS high)] [(hR 2200305 (Prod.fst x12) 4 1 (Prod.snd x12)),(hB 2200307 [(aL x11.1),(aL x11.2.1),(aL x11.2.2.1),(aI x11.2.2.2.1),(aI
 x11.2.2.2.2.1),(aI x11.2.2.2.2.2.1),(aI x11.2.2.2.2.2.2.1),(aI x11.2.2.2.2.2.2.2.1),(.row 2200305 x11.2.2.2.2.2.2.2.2.1),(aB x11.2.2.2.2.2.2.2.2.2.1)])] (.tup []) [(hR 2200305 x58
 4 1 x59),(hB 2200307 [(aL x60),(aL x61),(aL x62),(aI x63),(aI x64),(aI x65),(aI x66),(aI x67),(.row 2200305 x68),(aB x69)])]) ∧ (sel x69 (R (.tup []) [(hR 2200305 x58 4 1 x59),(hB
 2200307 [(.o (.sl 1 x60)),(.o (.sl 1 x61)),(.o (.sl 1 x62)),(.n (.int .i64 x63)),(.n (.int .i64 x64)),(.n (.int .i64 x65)),(.n (.int .i64 x66)),(.n (.int .i64 x67)),(.row 2200305
 x68),(.n (.bool x69))])]) ((rq (.ptr 2200307 0)) ∧ (rq (aI deep)) ∧ (rq (.ptr 3100000 0)) ∧ (rq (.ptr 3100001 0)) ∧ (rq (.ptr 3100111 0)) ∧ (rq (aL x3)) ∧ (rq (aI (x3.length :
 Int))) ∧ (rh [(hR 2200305 x58 4 1 x59),(hB 2200307 [(aL x60),(aL x61),(aL x62),(aI x63),(aI x64),(aI x65),(aI x66),(aI x67),(.row 2200305 x68),(aB x69)]),(hB 3100000 [(aS
 low)]),(hB 3100001 [(aS high)]),(hB 3100111 [(aB x0),(aL x1),(aL x2),(aL x3)])]) ∧ (x8 (IntKind.wrap .i64 (x10 + 1)) (x60,(x61,(x62,(x63,(x64,(x65,(x66,(x67,(x68,(x69,()))))))))))
 (x58,x59)) ∧ (((x9 (IntKind.wrap .i64 (x10 + 1)) (x60,(x61,(x62,(x63,(x64,(x65,(x66,(x67,(x68,(x69,())))))))))) (x58,x59)) : Nat) < (x9 x10 x11 x12)))))))))))))))))))))))) (R (.tup
 []) [(hR 2200305 (Prod.fst x12) 4 1 (Prod.snd x12)),(hB 2200307 [(.o (.sl 1 x11.1)),(.o (.sl 1 x11.2.1)),(.o (.sl 1 x11.2.2.1)),(.n (.int .i64 x11.2.2.2.1)),(.n (.int .i64
 x11.2.2.2.2.1)),(.n (.int .i64 x11.2.2.2.2.2.1)),(.n (.int .i64 x11.2.2.2.2.2.2.1)),(.n (.int .i64 x11.2.2.2.2.2.2.2.1)),(.row 2200305 x11.2.2.2.2.2.2.2.2.1),(.n (.bool
 x11.2.2.2.2.2.2.2.2.2.1))])])))))))))))))))) (((rn v) ∧ (rn 1)) ∧ ((0 : Int) ≤ block) ∧ ((block : Int) < (U.length : Int)) ∧ ((((rn v) ∧ (rn 0)) ∧ (rn 1)) ∧ (rn 1)) ∧ (((Int.toNat
 block) : Nat) < (List.length U)) ∧ (∃ x70 : Bool,((Runs Fs2 33 [(aL x1),(.fn 44 [(.ptr 3100000 0),(.ptr 3100001 0)])] [(hB 3100000 [(aS low)]),(hB 3100001 [(aS high)])] (aB x70)
 [(hB 3100000 [(aS low)]),(hB 3100001 [(aS high)])]) ∧ (sel x70 (R (.tup []) [(hR 2200305 v 4 1 (List.set U (Int.toNat block) (Mir.D.bool true))),(hB 2200307 [(.o (.sl 1 ba)),(.o
 (.sl 1 no)),(.o (.sl 1 pa)),(.n (.int .i64 ro)),(.n (.int .i64 ge)),(.n (.int .i64 np)),(.n (.int .i64 he)),(.n (.int .i64 (IntKind.wrap .i64 (nb + 1)))),(.row 2200305 v),(.n
 (.bool true))])]) (sel x0 (sel bad (R (.tup []) [(hR 2200305 v 4 1 (List.set U (Int.toNat block) (Mir.D.bool true))),(hB 2200307 [(.o (.sl 1 ba)),(.o (.sl 1 no)),(.o (.sl 1
 pa)),(.n (.int .i64 ro)),(.n (.int .i64 ge)),(.n (.int .i64 (IntKind.wrap .i64 (np + (x1.length : Int))))),(.n (.int .i64 deep)),(.n (.int .i64 (IntKind.wrap .i64 (nb + 1)))),(.row
 2200305 v),(.n (.bool true))])]) (sel (he != 0) (R (.tup []) [(hR 2200305 v 4 1 (List.set U (Int.toNat block) (Mir.D.bool true))),(hB 2200307 [(.o (.sl 1 ba)),(.o (.sl 1 no)),(.o
 (.sl 1 pa)),(.n (.int .i64 ro)),(.n (.int .i64 ge)),(.n (.int .i64 (IntKind.wrap .i64 (np + (x1.length : Int))))),(.n (.int .i64 deep)),(.n (.int .i64 (IntKind.wrap .i64 (nb +
 1)))),(.row 2200305 v),(.n (.bool (he != deep)))])]) (R (.tup []) [(hR 2200305 v 4 1 (List.set U (Int.toNat block) (Mir.D.bool true))),(hB 2200307 [(.o (.sl 1 ba)),(.o (.sl 1
 no)),(.o (.sl 1 pa)),(.n (.int .i64 ro)),(.n (.int .i64 ge)),(.n (.int .i64 (IntKind.wrap .i64 (np + (x1.length : Int))))),(.n (.int .i64 deep)),(.n (.int .i64 (IntKind.wrap .i64
 (nb + 1)))),(.row 2200305 v),(.n (.bool false))])]))) (∃ x71 : (Int → ((LD × (LD × (LD × (Int × (Int × (Int × (Int × (Int × (Nat × (Bool × (Unit))))))))))) → ((Nat × LD) →
 Prop))),(∃ x72 : (Int → ((LD × (LD × (LD × (Int × (Int × (Int × (Int × (Int × (Nat × (Bool × (Unit))))))))))) → ((Nat × LD) → Nat))),(((rh [(hR 2200305 v 4 1 (List.set U (Int.toNat
 block) (Mir.D.bool true))),(hB 2200307 [(aL ba),(aL no),(aL pa),(aI ro),(aI ge),(aI np),(aI he),(aI (IntKind.wrap .i64 (nb + 1))),(.row 2200305 v),(aB bad)]),(hB 3100000 [(aS
 low)]),(hB 3100001 [(aS high)]),(hB 3100111 [(aB x0),(aL x1),(aL x2),(aL x3)])]) ∧ (x71 0 (ba,(no,(pa,(ro,(ge,(np,(he,((IntKind.wrap .i64 (nb + 1)),(v,(bad,()))))))))))
 (v,(List.set U (Int.toNat block) (Mir.D.bool true))))) ∧ (∀ x73 : Int,(∀ x74 : (LD × (LD × (LD × (Int × (Int × (Int × (Int × (Int × (Nat × (Bool × (Unit))))))))))),(∀ x75 : (Nat ×
 LD),((x71 x73 x74 x75) → (∀ x76 : (Nat → Mir.AV),(sel (decide (x73 < (x3.length : Int))) ((rn 1) ∧ ((0 : Int) ≤ x73) ∧ (∃ x77 : Mir.D,((x3[Int.toNat x73]? = some x77) ∧ (∃ x78 :
 Int,(((D.cells x77)[0]? = some (Mir.D.int .i64 x78)) ∧ (sel (decide (x73 > 0)) ((rn 1) ∧ ((0 : Int) ≤ (IntKind.wrap .i64 (x73 - 1))) ∧ (∃ x79 : Mir.D,((x1[Int.toNat (IntKind.wrap
 .i64 (x73 - 1))]? = some x79) ∧ (∃ x80 : ByteArray,(((D.cells x79)[0]? = some (Mir.D.str x80)) ∧ (sel (decide (x73 < (x1.length : Int))) ((rn 1) ∧ ((0 : Int) ≤ x73) ∧ (∃ x81 :
 Mir.D,((x1[Int.toNat x73]? = some x81) ∧ (∃ x82 : ByteArray,(((D.cells x81)[0]? = some (Mir.D.str x82)) ∧ (∃ x83 : Nat,(∃ x84 : LD,(∃ x85 : LD,(∃ x86 : LD,(∃ x87 : LD,(∃ x88 :
 Int,(∃ x89 : Int,(∃ x90 : Int,(∃ x91 : Int,(∃ x92 : Int,(∃ x93 : Nat,(∃ x94 : Bool,((Runs Fs2 31 [(.ptr 2200307 0),(aI x78),(aI (IntKind.wrap .i64 (deep + 1))),(aS x80),(aS x82)]
 [(hR 2200305 (Prod.fst x75) 4 1 (Prod.snd x75)),(hB 2200307 [(aL x74.1),(aL x74.2.1),(aL x74.2.2.1),(aI x74.2.2.2.1),(aI x74.2.2.2.2.1),(aI x74.2.2.2.2.2.1),(aI
 x74.2.2.2.2.2.2.1),(aI x74.2.2.2.2.2.2.2.1),(.row 2200305 x74.2.2.2.2.2.2.2.2.1),(aB x74.2.2.2.2.2.2.2.2.2.1)])] (.tup []) [(hR 2200305 x83 4 1 x84),(hB 2200307 [(aL x85),(aL
 x86),(aL x87),(aI x88),(aI x89),(aI x90),(aI x91),(aI x92),(.row 2200305 x93),(aB x94)])]) ∧ (sel x94 (R (.tup []) [(hR 2200305 x83 4 1 x84),(hB 2200307 [(.o (.sl 1 x85)),(.o (.sl
 1 x86)),(.o (.sl 1 x87)),(.n (.int .i64 x88)),(.n (.int .i64 x89)),(.n (.int .i64 x90)),(.n (.int .i64 x91)),(.n (.int .i64 x92)),(.row 2200305 x93),(.n (.bool x94))])]) ((rq (.ptr
 2200307 0)) ∧ (rq (aI deep)) ∧ (rq (.ptr 3100000 0)) ∧ (rq (.ptr 3100001 0)) ∧ (rq (.ptr 3100111 0)) ∧ (rq (aL x3)) ∧ (rq (aI (x3.length : Int))) ∧ (rh [(hR 2200305 x83 4 1
 x84),(hB 2200307 [(aL x85),(aL x86),(aL x87),(aI x88),(aI x89),(aI x90),(aI x91),(aI x92),(.row 2200305 x93),(aB x94)]),(hB 3100000 [(aS low)]),(hB 3100001 [(aS high)]),(hB 3100111
 [(aB x0),(aL x1),(aL x2),(aL x3)])]) ∧ (x71 (IntKind.wrap .i64 (x73 + 1)) (x85,(x86,(x87,(x88,(x89,(x90,(x91,(x92,(x93,(x94,())))))))))) (x83,x84)) ∧ (((x72 (IntKind.wrap .i64 (x73
 + 1)) (x85,(x86,(x87,(x88,(x89,(x90,(x91,(x92,(x93,(x94,())))))))))) (x83,x84)) : Nat) < (x72 x73 x74 x75)))))))))))))))))))))) (∃ x95 : Nat,(∃ x96 : LD,(∃ x97 : LD,(∃ x98 : LD,(∃
 x99 : LD,(∃ x100 : Int,(∃ x101 : Int,(∃ x102 : Int,(∃ x103 : Int,(∃ x104 : Int,(∃ x105 : Nat,(∃ x106 : Bool,((Runs Fs2 31 [(.ptr 2200307 0),(aI x78),(aI (IntKind.wrap .i64 (deep +
 1))),(aS x80),(aS high)] [(hR 2200305 (Prod.fst x75) 4 1 (Prod.snd x75)),(hB 2200307 [(aL x74.1),(aL x74.2.1),(aL x74.2.2.1),(aI x74.2.2.2.1),(aI x74.2.2.2.2.1),(aI
 x74.2.2.2.2.2.1),(aI x74.2.2.2.2.2.2.1),(aI x74.2.2.2.2.2.2.2.1),(.row 2200305 x74.2.2.2.2.2.2.2.2.1),(aB x74.2.2.2.2.2.2.2.2.2.1)])] (.tup []) [(hR 2200305 x95 4 1 x96),(hB
 2200307 [(aL x97),(aL x98),(aL x99),(aI x100),(aI x101),(aI x102),(aI x103),(aI x104),(.row 2200305 x105),(aB x106)])]) ∧ (sel x106 (R (.tup []) [(hR 2200305 x95 4 1 x96),(hB
 2200307 [(.o (.sl 1 x97)),(.o (.sl 1 x98)),(.o (.sl 1 x99)),(.n (.int .i64 x100)),(.n (.int .i64 x101)),(.n (.int .i64 x102)),(.n (.int .i64 x103)),(.n (.int .i64 x104)),(.row
 2200305 x105),(.n (.bool x106))])]) ((rq (.ptr 2200307 0)) ∧ (rq (aI deep)) ∧ (rq (.ptr 3100000 0)) ∧ (rq (.ptr 3100001 0)) ∧ (rq (.ptr 3100111 0)) ∧ (rq (aL x3)) ∧ (rq (aI
 (x3.length : Int))) ∧ (rh [(hR 2200305 x95 4 1 x96),(hB 2200307 [(aL x97),(aL x98),(aL x99),(aI x100),(aI x101),(aI x102),(aI x103),(aI x104),(.row 2200305 x105),(aB x106)]),(hB
 3100000 [(aS low)]),(hB 3100001 [(aS high)]),(hB 3100111 [(aB x0),(aL x1),(aL x2),(aL x3)])]) ∧ (x71 (IntKind.wrap .i64 (x73 + 1))
 (x97,(x98,(x99,(x100,(x101,(x102,(x103,(x104,(x105,(x106,())))))))))) (x95,x96)) ∧ (((x72 (IntKind.wrap .i64 (x73 + 1))
 (x97,(x98,(x99,(x100,(x101,(x102,(x103,(x104,(x105,(x106,())))))))))) (x95,x96)) : Nat) < (x72 x73 x74 x75))))))))))))))))))))))) (sel (decide (x73 < (x1.length : Int))) ((rn 1) ∧
 ((0 : Int) ≤ x73) ∧ (∃ x107 : Mir.D,((x1[Int.toNat x73]? = some x107) ∧ (∃ x108 : ByteArray,(((D.cells x107)[0]? = some (Mir.D.str x108)) ∧ (∃ x109 : Nat,(∃ x110 : LD,(∃ x111 :
 LD,(∃ x112 : LD,(∃ x113 : LD,(∃ x114 : Int,(∃ x115 : Int,(∃ x116 : Int,(∃ x117 : Int,(∃ x118 : Int,(∃ x119 : Nat,(∃ x120 : Bool,((Runs Fs2 31 [(.ptr 2200307 0),(aI x78),(aI
 (IntKind.wrap .i64 (deep + 1))),(aS low),(aS x108)] [(hR 2200305 (Prod.fst x75) 4 1 (Prod.snd x75)),(hB 2200307 [(aL x74.1),(aL x74.2.1),(aL x74.2.2.1),(aI x74.2.2.2.1),(aI
 x74.2.2.2.2.1),(aI x74.2.2.2.2.2.1),(aI x74.2.2.2.2.2.2.1),(aI x74.2.2.2.2.2.2.2.1),(.row 2200305 x74.2.2.2.2.2.2.2.2.1),(aB x74.2.2.2.2.2.2.2.2.2.1)])] (.tup []) [(hR 2200305 x109
 4 1 x110),(hB 2200307 [(aL x111),(aL x112),(aL x113),(aI x114),(aI x115),(aI x116),(aI x117),(aI x118),(.row 2200305 x119),(aB x120)])]) ∧ (sel x120 (R (.tup []) [(hR 2200305 x109
 4 1 x110),(hB 2200307 [(.o (.sl 1 x111)),(.o (.sl 1 x112)),(.o (.sl 1 x113)),(.n (.int .i64 x114)),(.n (.int .i64 x115)),(.n (.int .i64 x116)),(.n (.int .i64 x117)),(.n (.int .i64
 x118)),(.row 2200305 x119),(.n (.bool x120))])]) ((rq (.ptr 2200307 0)) ∧ (rq (aI deep)) ∧ (rq (.ptr 3100000 0)) ∧ (rq (.ptr 3100001 0)) ∧ (rq (.ptr 3100111 0)) ∧ (rq (aL x3)) ∧
 (rq (aI (x3.length : Int))) ∧ (rh [(hR 2200305 x109 4 1 x110),(hB 2200307 [(aL x111),(aL x112),(aL x113),(aI x114),(aI x115),(aI x116),(aI x117),(aI x118),(.row 2200305 x119),(aB
 x120)]),(hB 3100000 [(aS low)]),(hB 3100001 [(aS high)]),(hB 3100111 [(aB x0),(aL x1),(aL x2),(aL x3)])]) ∧ (x71 (IntKind.wrap .i64 (x73 + 1))
 (x111,(x112,(x113,(x114,(x115,(x116,(x117,(x118,(x119,(x120,())))))))))) (x109,x110)) ∧ (((x72 (IntKind.wrap .i64 (x73 + 1))
 (x111,(x112,(x113,(x114,(x115,(x116,(x117,(x118,(x119,(x120,())))))))))) (x109,x110)) : Nat) < (x72 x73 x74 x75)))))))))))))))))))))) (∃ x121 : Nat,(∃ x122 : LD,(∃ x123 : LD,(∃
 x124 : LD,(∃ x125 : LD,(∃ x126 : Int,(∃ x127 : Int,(∃ x128 : Int,(∃ x129 : Int,(∃ x130 : Int,(∃ x131 : Nat,(∃ x132 : Bool,((Runs Fs2 31 [(.ptr 2200307 0),(aI x78),(aI (IntKind.wrap
 .i64 (deep + 1))),(aS low),(aS high)] [(hR 2200305 (Prod.fst x75) 4 1 (Prod.snd x75)),(hB 2200307 [(aL x74.1),(aL x74.2.1),(aL x74.2.2.1),(aI x74.2.2.2.1),(aI x74.2.2.2.2.1),(aI
 x74.2.2.2.2.2.1),(aI x74.2.2.2.2.2.2.1),(aI x74.2.2.2.2.2.2.2.1),(.row 2200305 x74.2.2.2.2.2.2.2.2.1),(aB x74.2.2.2.2.2.2.2.2.2.1)])] (.tup []) [(hR 2200305 x121 4 1 x122),(hB
 2200307 [(aL x123),(aL x124),(aL x125),(aI x126),(aI x127),(aI x128),(aI x129),(aI x130),(.row 2200305 x131),(aB x132)])]) ∧ (sel x132 (R (.tup []) [(hR 2200305 x121 4 1 x122),(hB
 2200307 [(.o (.sl 1 x123)),(.o (.sl 1 x124)),(.o (.sl 1 x125)),(.n (.int .i64 x126)),(.n (.int .i64 x127)),(.n (.int .i64 x128)),(.n (.int .i64 x129)),(.n (.int .i64 x130)),(.row
 2200305 x131),(.n (.bool x132))])]) ((rq (.ptr 2200307 0)) ∧ (rq (aI deep)) ∧ (rq (.ptr 3100000 0)) ∧ (rq (.ptr 3100001 0)) ∧ (rq (.ptr 3100111 0)) ∧ (rq (aL x3)) ∧ (rq (aI
 (x3.length : Int))) ∧ (rh [(hR 2200305 x121 4 1 x122),(hB 2200307 [(aL x123),(aL x124),(aL x125),(aI x126),(aI x127),(aI x128),(aI x129),(aI x130),(.row 2200305 x131),(aB
 x132)]),(hB 3100000 [(aS low)]),(hB 3100001 [(aS high)]),(hB 3100111 [(aB x0),(aL x1),(aL x2),(aL x3)])]) ∧ (x71 (IntKind.wrap .i64 (x73 + 1))
 (x123,(x124,(x125,(x126,(x127,(x128,(x129,(x130,(x131,(x132,())))))))))) (x121,x122)) ∧ (((x72 (IntKind.wrap .i64 (x73 + 1))
 (x123,(x124,(x125,(x126,(x127,(x128,(x129,(x130,(x131,(x132,())))))))))) (x121,x122)) : Nat) < (x72 x73 x74 x75)))))))))))))))))))))))) (R (.tup []) [(hR 2200305 (Prod.fst x75) 4 1
 (Prod.snd x75)),(hB 2200307 [(.o (.sl 1 x74.1)),(.o (.sl 1 x74.2.1)),(.o (.sl 1 x74.2.2.1)),(.n (.int .i64 x74.2.2.2.1)),(.n (.int .i64 x74.2.2.2.2.1)),(.n (.int .i64
 x74.2.2.2.2.2.1)),(.n (.int .i64 x74.2.2.2.2.2.2.1)),(.n (.int .i64 x74.2.2.2.2.2.2.2.1)),(.row 2200305 x74.2.2.2.2.2.2.2.2.1),(.n (.bool
 x74.2.2.2.2.2.2.2.2.2.1))])]))))))))))))))))))))))))))))))
theorem vc31h (ba : LD) (no : LD) (pa : LD) (ro : Int) (ge : Int) (block : Int) (deep : Int) (low : ByteArray) (high : ByteArray) (v : Nat) (U : LD) (np : Int) (he : Int) (nb : Int) (bad : Bool) (R : Mir.AV → Heap → Prop) : Vc Fs2 c31.body (argsQ c31 [.ptr 2200307 0, .n (.int .i64 block), .n (.int .i64 deep), .n (.str low), .n (.str high)]) [(2200305, .row false false v 4 1 U), (2200307, .box [.o (.sl 1 ba), .o (.sl 1 no), .o (.sl 1 pa), .n (.int .i64 ro), .n (.int .i64 ge), .n (.int .i64 np), .n (.int .i64 he), .n (.int .i64 nb), .row 2200305 v, .n (.bool bad)])] (endQH c31 [(2200305, .row false false v 4 1 U), (2200307, .box [.o (.sl 1 ba), .o (.sl 1 no), .o (.sl 1 pa), .n (.int .i64 ro), .n (.int .i64 ge), .n (.int .i64 np), .n (.int .i64 he), .n (.int .i64 nb), .row 2200305 v, .n (.bool bad)])] R) = V31h ba no pa ro ge block deep low high v U np he nb bad R := by kernel_rfl
def V9 (a0_0 : LD) (a0_1 : LD) (a0_2 : LD) (a0_3 : Int) (a0_4 : Int) (R : Mir.AV → Prop) : Prop :=
 ((∃ x0 : Unit,(∃ x1 : Int,(∃ x2 : LD,(∃ x3 : LD,(∃ x4 : LD,(∃ x5 : Int,(∃ x6 : Int,(∃ x7 : Int,(∃ x8 : Int,(∃ x9 : Int,(∃ x10 : Nat,(∃ x11 : Bool,(∃ x12 : Nat,(∃ x13 : LD,((Runs
 Fs2 22 [(.agg [(aL a0_0),(aL a0_1),(aL a0_2),(aI a0_3),(aI a0_4)])] [] (.tup [(.ptr 2200307 0),(aI x1)]) [(hR 2200305 x12 4 1 x13),(hB 2200307 [(aL x2),(aL x3),(aL x4),(aI x5),(aI
 x6),(aI x7),(aI x8),(aI x9),(.row 2200305 x10),(aB x11)])]) ∧ (sel (x1 != 0) (R (.tup [(.o (.sl 1 [])),(.n (.int .i64 x1))])) (((x12 : Nat) = x10) ∧ (∃ x14 : (Nat → (Int → ((Nat ×
 LD) → Prop))),(∃ x15 : (Nat → (Int → ((Nat × LD) → Nat))),(((rh [(hB 900000 [(aL a0_0),(aL a0_1),(aL a0_2),(aI a0_3),(aI a0_4)]),(900903,(.row false true 0 3 1 [])),(hR 950101 x12
 4 1 x13),(hB 960101 [(aL x2),(aL x3),(aL x4),(aI x5),(aI x6),(aI x7),(aI x8),(aI x9),(.row 950101 x10),(aB x11)])]) ∧ (x14 0 0 (0,[]))) ∧ (∀ x16 : Nat,(∀ x17 : Int,(∀ x18 : (Nat ×
 LD),((x14 x16 x17 x18) → (∀ x19 : (Nat → Mir.AV),(sel (decide (x17 < (x13.length : Int))) ((((x12 : Nat) = x10) ∧ (rn 1)) ∧ ((0 : Int) ≤ x17) ∧ ((x17 : Int) < (x13.length : Int)) ∧
 (((x10 : Nat) = x12) ∧ (rn 1)) ∧ (∃ x20 : Mir.D,((x13[Int.toNat x17]? = some x20) ∧ (∃ x21 : Bool,(((D.cells x20)[0]? = some (Mir.D.bool x21)) ∧ (sel x21 ((rn 0) ∧ ((rn 1) ∨ (@Eq
 LD [(Mir.D.int .i64 x17)] [])) ∧ (((((Prod.fst x18) : Nat) = x16) ∧ (rn 3)) ∧ (rn 1)) ∧ (((((List.length (Prod.snd x18)) + (List.length [(Mir.D.int .i64 x17)])) * 8) : Nat) ≤
 140737488355328) ∧ (rq (.row 950101 x10)) ∧ (rq (aI (x13.length : Int))) ∧ (rh [(hB 900000 [(aL a0_0),(aL a0_1),(aL a0_2),(aI a0_3),(aI a0_4)]),(900903,(.row false true (x16 + 1) 3
 1 ((Prod.snd x18) ++ [(Mir.D.int .i64 x17)]))),(hR 950101 x12 4 1 x13),(hB 960101 [(aL x2),(aL x3),(aL x4),(aI x5),(aI x6),(aI x7),(aI x8),(aI x9),(.row 950101 x10),(aB x11)])]) ∧
 (x14 (x16 + 1) (IntKind.wrap .i64 (x17 + 1)) ((x16 + 1),((Prod.snd x18) ++ [(Mir.D.int .i64 x17)]))) ∧ (((x15 (x16 + 1) (IntKind.wrap .i64 (x17 + 1)) ((x16 + 1),((Prod.snd x18) ++
 [(Mir.D.int .i64 x17)]))) : Nat) < (x15 x16 x17 x18))) ((rq (.row 950101 x10)) ∧ (rq (aI (x13.length : Int))) ∧ (rh [(hB 900000 [(aL a0_0),(aL a0_1),(aL a0_2),(aI a0_3),(aI
 a0_4)]),(900903,(.row false true (Prod.fst x18) 3 1 (Prod.snd x18))),(hR 950101 x12 4 1 x13),(hB 960101 [(aL x2),(aL x3),(aL x4),(aI x5),(aI x6),(aI x7),(aI x8),(aI x9),(.row
 950101 x10),(aB x11)])]) ∧ (x14 x16 (IntKind.wrap .i64 (x17 + 1)) ((Prod.fst x18),(Prod.snd x18))) ∧ (((x15 x16 (IntKind.wrap .i64 (x17 + 1)) ((Prod.fst x18),(Prod.snd x18))) :
 Nat) < (x15 x16 x17 x18))))))))) (((Prod.fst x18) = x16) ∧ (R (.tup [(.o (.sl 1 (Prod.snd x18))),(.n (.int .i64 0))]))))))))))))))))))))))))))))) ∨ (∃ x22 : Unit,(∃ x23 :
 Int,((Runs Fs2 22 [(.agg [(aL a0_0),(aL a0_1),(aL a0_2),(aI a0_3),(aI a0_4)])] [] (.tup [.nilp,(aI x23)]) []) ∧ (sel (x23 != 0) (R (.tup [(.o (.sl 1 [])),(.n (.int .i64 x23))]))
 False)))))
theorem vc9 (a0_0 : LD) (a0_1 : LD) (a0_2 : LD) (a0_3 : Int) (a0_4 : Int) (R : Mir.AV → Prop) : Vc Fs2 c9.body (argsQ c9 [(.agg [(.o (.sl 1 a0_0)), (.o (.sl 1 a0_1)), (.o (.sl 1 a0_2)), (.n (.int .i64 a0_3)), (.n (.int .i64 a0_4))])]) [] (endQ c9 R) = V9 a0_0 a0_1 a0_2 a0_3 a0_4 R := by kernel_rfl
def V10o (ba : LD) (no : LD) (pa : LD) (ro : Int) (ge : Int) (R : Mir.AV → Heap → Prop) : Prop :=
 (∃ x0 : Bool,((Runs Fs2 16 [(.agg [(aL ba),(aL no),(aL pa),(aI ro),(aI ge)])] [] (aB x0) []) ∧ (sel (Bool.not x0) (R (.tup [(.o (.sl 1 [])),(.n (.int .i64 1))]) []) (∃ x1 : Unit,(∃
 x2 : Nat,(∃ x3 : Nat,(∃ x4 : Int,(∃ x5 : Bool,(∃ x6 : Nat,(∃ x7 : LD,(∃ x8 : Nat,(∃ x9 : LD,((Runs Fs2 17 [(.agg [(aL ba),(aL no),(aL pa),(aI ro),(aI ge)])] [] (.ptr 1700101 0)
 [(hB 1700101 [(.row 1790001 x2),(.row 1790002 x3),(aI x4),(aB x5)]),(hR 1790001 x6 51 2 x7),(hR 1790002 x8 3 1 x9)]) ∧ (sel x5 (R (.tup [(.o (.sl 1 [])),(.n (.int .i64 81))]) [])
 (∃ x10 : (Nat → (Int → ((Nat × LD) → ((Nat × LD) → Prop)))),(∃ x11 : (Nat → (Int → ((Nat × LD) → ((Nat × LD) → Nat)))),(((rh [(hB 1000000 [(aL ba),(aL no),(aL pa),(aI ro),(aI
 ge)]),(1000600,(.row false true 0 3 1 [])),(hB 1050301 [(.row 1060301 x2),(.row 1070301 x3),(aI x4),(aB x5)]),(hR 1060301 x6 51 2 x7),(hR 1070301 x8 3 1 x9)]) ∧ (x10 0 0 (x8,x9)
 (0,[]))) ∧ (∀ x12 : Nat,(∀ x13 : Int,(∀ x14 : (Nat × LD),(∀ x15 : (Nat × LD),((x10 x12 x13 x14 x15) → (∀ x16 : (Nat → Mir.AV),(sel (decide (x13 < (no.length : Int))) (((Prod.fst
 x14) = x3) ∧ (∃ x17 : Bool,((Runs Fs2 23 [(aL (Prod.snd x14)),(aI x13)] [] (aB x17) []) ∧ (sel x17 ((rn 0) ∧ ((rn 1) ∨ (@Eq LD [(Mir.D.int .i64 x13)] [])) ∧ (((((Prod.fst x15) :
 Nat) = x12) ∧ (rn 3)) ∧ (rn 1)) ∧ (((((List.length (Prod.snd x15)) + (List.length [(Mir.D.int .i64 x13)])) * 8) : Nat) ≤ 140737488355328) ∧ (rq (.ptr 1050301 0)) ∧ (rq (aI
 (no.length : Int))) ∧ (rh [(hB 1000000 [(aL ba),(aL no),(aL pa),(aI ro),(aI ge)]),(1000600,(.row false true (x12 + 1) 3 1 ((Prod.snd x15) ++ [(Mir.D.int .i64 x13)]))),(hB 1050301
 [(.row 1060301 x2),(.row 1070301 x3),(aI x4),(aB x5)]),(hR 1060301 x6 51 2 x7),(hR 1070301 (Prod.fst x14) 3 1 (Prod.snd x14))]) ∧ (x10 (x12 + 1) (IntKind.wrap .i64 (x13 + 1))
 ((Prod.fst x14),(Prod.snd x14)) ((x12 + 1),((Prod.snd x15) ++ [(Mir.D.int .i64 x13)]))) ∧ (((x11 (x12 + 1) (IntKind.wrap .i64 (x13 + 1)) ((Prod.fst x14),(Prod.snd x14)) ((x12 +
 1),((Prod.snd x15) ++ [(Mir.D.int .i64 x13)]))) : Nat) < (x11 x12 x13 x14 x15))) ((rq (.ptr 1050301 0)) ∧ (rq (aI (no.length : Int))) ∧ (rh [(hB 1000000 [(aL ba),(aL no),(aL
 pa),(aI ro),(aI ge)]),(1000600,(.row false true (Prod.fst x15) 3 1 (Prod.snd x15))),(hB 1050301 [(.row 1060301 x2),(.row 1070301 x3),(aI x4),(aB x5)]),(hR 1060301 x6 51 2 x7),(hR
 1070301 (Prod.fst x14) 3 1 (Prod.snd x14))]) ∧ (x10 x12 (IntKind.wrap .i64 (x13 + 1)) ((Prod.fst x14),(Prod.snd x14)) ((Prod.fst x15),(Prod.snd x15))) ∧ (((x11 x12 (IntKind.wrap
 .i64 (x13 + 1)) ((Prod.fst x14),(Prod.snd x14)) ((Prod.fst x15),(Prod.snd x15))) : Nat) < (x11 x12 x13 x14 x15))))))) (R (.tup [(.row 1000600 x12),(.n (.int .i64 0))])
 [(1000600,(.row false true (Prod.fst x15) 3 1 (Prod.snd x15)))])))))))))))))))))))))))))
theorem vc10o (ba : LD) (no : LD) (pa : LD) (ro : Int) (ge : Int) (R : Mir.AV → Heap → Prop) : Vc Fs2 c10.body (argsQ c10 [(.agg [.o (.sl 1 ba), .o (.sl 1 no), .o (.sl 1 pa), .n (.int .i64 ro), .n (.int .i64 ge)])]) [] (endQO c10 R) = V10o ba no pa ro ge R := by kernel_rfl
def V12 (a0_0 : LD) (a0_1 : LD) (a0_2 : LD) (a0_3 : Int) (a0_4 : Int) (a1 : LD) (R : Mir.AV → Prop) : Prop :=
 ((∃ x0 : Nat,(∃ x1 : Int,(∃ x2 : Nat,(∃ x3 : LD,((Runs Fs2 10 [(.agg [(aL a0_0),(aL a0_1),(aL a0_2),(aI a0_3),(aI a0_4)])] [] (.tup [(.row 1000600 x0),(aI x1)]) [(1000600,(.row
 false true x2 3 1 x3))]) ∧ (sel (x1 != 0) (R (.tup [(.agg [(.n (.int .i64 0)),(.n (.int .i64 0)),(.n (.int .i64 0))]),(.n (.int .i64 x1))])) (∃ x4 : Unit,(∃ x5 : Nat,(∃ x6 : Nat,(∃
 x7 : Int,(∃ x8 : Bool,(∃ x9 : Nat,(∃ x10 : LD,(∃ x11 : Nat,(∃ x12 : LD,((Runs Fs2 17 [(.agg [(aL a0_0),(aL a0_1),(aL a0_2),(aI a0_3),(aI a0_4)])] [] (.ptr 1700101 0) [(hB 1700101
 [(.row 1790001 x5),(.row 1790002 x6),(aI x7),(aB x8)]),(hR 1790001 x9 51 2 x10),(hR 1790002 x11 3 1 x12)]) ∧ (∃ x13 : (Nat → (Int → ((Int × (Int × (Int × (Unit)))) → ((Nat × LD) →
 Prop)))),(∃ x14 : (Nat → (Int → ((Int × (Int × (Int × (Unit)))) → ((Nat × LD) → Nat)))),(((rh [(hB 1200000 [(aL a0_0),(aL a0_1),(aL a0_2),(aI a0_3),(aI a0_4)]),(hB 1200001 [(aI
 0),(aI 0),(aI 0)]),(1250101,(.row false true x2 3 1 x3)),(hB 1250401 [(.row 1260401 x5),(.row 1270401 x6),(aI x7),(aB x8)]),(hR 1260401 x9 51 2 x10),(hR 1270401 x11 3 1 x12)]) ∧
 (x13 x0 0 (0,(0,(0,()))) (x2,x3))) ∧ (∀ x15 : Nat,(∀ x16 : Int,(∀ x17 : (Int × (Int × (Int × (Unit)))),(∀ x18 : (Nat × LD),((x13 x15 x16 x17 x18) → (∀ x19 : (Nat → Mir.AV),(sel
 (decide (x16 < (a1.length : Int))) ((rn 1) ∧ ((0 : Int) ≤ x16) ∧ (∃ x20 : Mir.D,((a1[Int.toNat x16]? = some x20) ∧ (∃ x21 : Int,(((D.cells x20)[0]? = some (Mir.D.int .i64 x21)) ∧
 (sel (decide (x21 < 10)) (R (.tup [(.agg [(.n (.int .i64 0)),(.n (.int .i64 0)),(.n (.int .i64 0))]),(.n (.int .i64 81))])) (sel (decide (x21 ≥ (a0_1.length : Int))) (R (.tup
 [(.agg [(.n (.int .i64 0)),(.n (.int .i64 0)),(.n (.int .i64 0))]),(.n (.int .i64 81))])) (((Prod.fst x18) = x15) ∧ (∃ x22 : Bool,((Runs Fs2 23 [(aL (Prod.snd x18)),(aI x21)] []
 (aB x22) []) ∧ (sel x22 (R (.tup [(.agg [(.n (.int .i64 0)),(.n (.int .i64 0)),(.n (.int .i64 0))]),(.n (.int .i64 81))])) ((rn 0) ∧ ((rn 1) ∨ (@Eq LD [(Mir.D.int .i64 x21)] [])) ∧
 (((((Prod.fst x18) : Nat) = x15) ∧ (rn 3)) ∧ (rn 1)) ∧ (((((List.length (Prod.snd x18)) + (List.length [(Mir.D.int .i64 x21)])) * 8) : Nat) ≤ 140737488355328) ∧ (rq (.ptr 1200000
 0)) ∧ (rq (.ptr 1200001 0)) ∧ (rq (.ptr 1250401 0)) ∧ (rq (aL a1)) ∧ (rq (aI (a1.length : Int))) ∧ (rh [(hB 1200000 [(aL a0_0),(aL a0_1),(aL a0_2),(aI a0_3),(aI a0_4)]),(hB 1200001
 [(aI x17.1),(aI x17.2.1),(aI x17.2.2.1)]),(1250101,(.row false true (x15 + 1) 3 1 ((Prod.snd x18) ++ [(Mir.D.int .i64 x21)]))),(hB 1250401 [(.row 1260401 x5),(.row 1270401 x6),(aI
 x7),(aB x8)]),(hR 1260401 x9 51 2 x10),(hR 1270401 x11 3 1 x12)]) ∧ (x13 (x15 + 1) (IntKind.wrap .i64 (x16 + 1)) (x17.1,(x17.2.1,(x17.2.2.1,()))) ((x15 + 1),((Prod.snd x18) ++
 [(Mir.D.int .i64 x21)]))) ∧ (((x14 (x15 + 1) (IntKind.wrap .i64 (x16 + 1)) (x17.1,(x17.2.1,(x17.2.2.1,()))) ((x15 + 1),((Prod.snd x18) ++ [(Mir.D.int .i64 x21)]))) : Nat) < (x14
 x15 x16 x17 x18)))))))))))))) (∃ x23 : (Int → ((Int × (Int × (Int × (Unit)))) → Prop)),(∃ x24 : (Int → ((Int × (Int × (Int × (Unit)))) → Nat)),(((rh [(hB 1200000 [(aL a0_0),(aL
 a0_1),(aL a0_2),(aI a0_3),(aI a0_4)]),(hB 1200001 [(aI x17.1),(aI x17.2.1),(aI x17.2.2.1)]),(1250101,(.row false true (Prod.fst x18) 3 1 (Prod.snd x18))),(hB 1250401 [(.row 1260401
 x5),(.row 1270401 x6),(aI x7),(aB x8)]),(hR 1260401 x9 51 2 x10),(hR 1270401 x11 3 1 x12)]) ∧ (x23 0 (x17.1,(x17.2.1,(x17.2.2.1,()))))) ∧ (∀ x25 : Int,(∀ x26 : (Int × (Int × (Int ×
 (Unit)))),((x23 x25 x26) → (∀ x27 : (Nat → Mir.AV),(sel (decide (x25 < (a0_1.length : Int))) ((rn 1) ∧ ((0 : Int) ≤ x25) ∧ (∃ x28 : Mir.D,((a0_1[Int.toNat x25]? = some x28) ∧ (∃
 x29 : Bool,(((D.cells x28)[0]? = some (Mir.D.bool x29)) ∧ (sel (decide (x25 < 10)) (sel (Bool.not (x29 == true)) (R (.tup [(.agg [(.n (.int .i64 0)),(.n (.int .i64 0)),(.n (.int
 .i64 0))]),(.n (.int .i64 81))])) ((rq (.ptr 1200001 0)) ∧ (rq (.row 1250101 x15)) ∧ (rq (.ptr 1250401 0)) ∧ (rq (aL a0_1)) ∧ (rq (aI (a0_1.length : Int))) ∧ (rh [(hB 1200000 [(aL
 a0_0),(aL a0_1),(aL a0_2),(aI a0_3),(aI a0_4)]),(hB 1200001 [(aI x26.1),(aI x26.2.1),(aI x26.2.2.1)]),(1250101,(.row false true (Prod.fst x18) 3 1 (Prod.snd x18))),(hB 1250401
 [(.row 1260401 x5),(.row 1270401 x6),(aI x7),(aB x8)]),(hR 1260401 x9 51 2 x10),(hR 1270401 x11 3 1 x12)]) ∧ (x23 (IntKind.wrap .i64 (x25 + 1)) (x26.1,(x26.2.1,(x26.2.2.1,())))) ∧
 (((x24 (IntKind.wrap .i64 (x25 + 1)) (x26.1,(x26.2.1,(x26.2.2.1,())))) : Nat) < (x24 x25 x26)))) (((Prod.fst x18) = x15) ∧ (∃ x30 : Bool,((Runs Fs2 23 [(aL (Prod.snd x18)),(aI
 x25)] [] (aB x30) []) ∧ (sel (Bool.not (x29 == x30)) (R (.tup [(.agg [(.n (.int .i64 0)),(.n (.int .i64 0)),(.n (.int .i64 0))]),(.n (.int .i64 81))])) ((rq (.ptr 1200001 0)) ∧ (rq
 (.row 1250101 x15)) ∧ (rq (.ptr 1250401 0)) ∧ (rq (aL a0_1)) ∧ (rq (aI (a0_1.length : Int))) ∧ (rh [(hB 1200000 [(aL a0_0),(aL a0_1),(aL a0_2),(aI a0_3),(aI a0_4)]),(hB 1200001
 [(aI x26.1),(aI x26.2.1),(aI x26.2.2.1)]),(1250101,(.row false true (Prod.fst x18) 3 1 (Prod.snd x18))),(hB 1250401 [(.row 1260401 x5),(.row 1270401 x6),(aI x7),(aB x8)]),(hR
 1260401 x9 51 2 x10),(hR 1270401 x11 3 1 x12)]) ∧ (x23 (IntKind.wrap .i64 (x25 + 1)) (x26.1,(x26.2.1,(x26.2.2.1,())))) ∧ (((x24 (IntKind.wrap .i64 (x25 + 1))
 (x26.1,(x26.2.1,(x26.2.2.1,())))) : Nat) < (x24 x25 x26))))))))))))) (((x9 : Nat) = x5) ∧ ((x11 : Nat) = x6) ∧ (R (.tup [(.agg [(.n (.int .i64 (x10.length : Int))),(.n (.int .i64
 x7)),(.n (.int .i64 (x12.length : Int)))]),(.n (.int .i64 0))]))))))))))))))))))))))))))))))))))))) ∨ (∃ x31 : LD,(∃ x32 : Int,((Runs Fs2 10 [(.agg [(aL a0_0),(aL a0_1),(aL
 a0_2),(aI a0_3),(aI a0_4)])] [] (.tup [(aL x31),(aI x32)]) []) ∧ (sel (x32 != 0) (R (.tup [(.agg [(.n (.int .i64 0)),(.n (.int .i64 0)),(.n (.int .i64 0))]),(.n (.int .i64 x32))]))
 (∃ x33 : Unit,(∃ x34 : Nat,(∃ x35 : Nat,(∃ x36 : Int,(∃ x37 : Bool,(∃ x38 : Nat,(∃ x39 : LD,(∃ x40 : Nat,(∃ x41 : LD,((Runs Fs2 17 [(.agg [(aL a0_0),(aL a0_1),(aL a0_2),(aI
 a0_3),(aI a0_4)])] [] (.ptr 1700101 0) [(hB 1700101 [(.row 1790001 x34),(.row 1790002 x35),(aI x36),(aB x37)]),(hR 1790001 x38 51 2 x39),(hR 1790002 x40 3 1 x41)]) ∧ (∃ x42 : (Nat
 → (Int → ((Int × (Int × (Int × (Unit)))) → ((Nat × LD) → Prop)))),(∃ x43 : (Nat → (Int → ((Int × (Int × (Int × (Unit)))) → ((Nat × LD) → Nat)))),(False ∧ (∀ x44 : Nat,(∀ x45 :
 Int,(∀ x46 : (Int × (Int × (Int × (Unit)))),(∀ x47 : (Nat × LD),((x42 x44 x45 x46 x47) → (∀ x48 : (Nat → Mir.AV),(sel (decide (x45 < (a1.length : Int))) ((rn 1) ∧ ((0 : Int) ≤ x45)
 ∧ (∃ x49 : Mir.D,((a1[Int.toNat x45]? = some x49) ∧ (∃ x50 : Int,(((D.cells x49)[0]? = some (Mir.D.int .i64 x50)) ∧ (sel (decide (x50 < 10)) (R (.tup [(.agg [(.n (.int .i64 0)),(.n
 (.int .i64 0)),(.n (.int .i64 0))]),(.n (.int .i64 81))])) (sel (decide (x50 ≥ (a0_1.length : Int))) (R (.tup [(.agg [(.n (.int .i64 0)),(.n (.int .i64 0)),(.n (.int .i64 0))]),(.n
 (.int .i64 81))])) (((Prod.fst x47) = x44) ∧ (∃ x51 : Bool,((Runs Fs2 23 [(aL (Prod.snd x47)),(aI x50)] [] (aB x51) []) ∧ (sel x51 (R (.tup [(.agg [(.n (.int .i64 0)),(.n (.int
 .i64 0)),(.n (.int .i64 0))]),(.n (.int .i64 81))])) ((rn 0) ∧ ((rn 1) ∨ (@Eq LD [(Mir.D.int .i64 x50)] [])) ∧ (((((Prod.fst x47) : Nat) = x44) ∧ (rn 3)) ∧ (rn 1)) ∧
 (((((List.length (Prod.snd x47)) + (List.length [(Mir.D.int .i64 x50)])) * 8) : Nat) ≤ 140737488355328) ∧ (rq (.ptr 1200000 0)) ∧ (rq (.ptr 1200001 0)) ∧ (rq (.ptr 1250401 0)) ∧
 (rq (aL a1)) ∧ (rq (aI (a1.length : Int))) ∧ (rh [(hB 1200000 [(aL a0_0),(aL a0_1),(aL a0_2),(aI a0_3),(aI a0_4)]),(hB 1200001 [(aI x46.1),(aI x46.2.1),(aI
 x46.2.2.1)]),(1250101,(.row false true (x44 + 1) 3 1 ((Prod.snd x47) ++ [(Mir.D.int .i64 x50)]))),(hB 1250401 [(.row 1260401 x34),(.row 1270401 x35),(aI x36),(aB x37)]),(hR 1260401
 x38 51 2 x39),(hR 1270401 x40 3 1 x41)]) ∧ (x42 (x44 + 1) (IntKind.wrap .i64 (x45 + 1)) (x46.1,(x46.2.1,(x46.2.2.1,()))) ((x44 + 1),((Prod.snd x47) ++ [(Mir.D.int .i64 x50)]))) ∧
 (((x43 (x44 + 1) (IntKind.wrap .i64 (x45 + 1)) (x46.1,(x46.2.1,(x46.2.2.1,()))) ((x44 + 1),((Prod.snd x47) ++ [(Mir.D.int .i64 x50)]))) : Nat) < (x43 x44 x45 x46 x47))))))))))))))
 (∃ x52 : (Int → ((Int × (Int × (Int × (Unit)))) → Prop)),(∃ x53 : (Int → ((Int × (Int × (Int × (Unit)))) → Nat)),(((rh [(hB 1200000 [(aL a0_0),(aL a0_1),(aL a0_2),(aI a0_3),(aI
 a0_4)]),(hB 1200001 [(aI x46.1),(aI x46.2.1),(aI x46.2.2.1)]),(1250101,(.row false true (Prod.fst x47) 3 1 (Prod.snd x47))),(hB 1250401 [(.row 1260401 x34),(.row 1270401 x35),(aI
 x36),(aB x37)]),(hR 1260401 x38 51 2 x39),(hR 1270401 x40 3 1 x41)]) ∧ (x52 0 (x46.1,(x46.2.1,(x46.2.2.1,()))))) ∧ (∀ x54 : Int,(∀ x55 : (Int × (Int × (Int × (Unit)))),((x52 x54
 x55) → (∀ x56 : (Nat → Mir.AV),(sel (decide (x54 < (a0_1.length : Int))) ((rn 1) ∧ ((0 : Int) ≤ x54) ∧ (∃ x57 : Mir.D,((a0_1[Int.toNat x54]? = some x57) ∧ (∃ x58 : Bool,(((D.cells
 x57)[0]? = some (Mir.D.bool x58)) ∧ (sel (decide (x54 < 10)) (sel (Bool.not (x58 == true)) (R (.tup [(.agg [(.n (.int .i64 0)),(.n (.int .i64 0)),(.n (.int .i64 0))]),(.n (.int
 .i64 81))])) ((rq (.ptr 1200001 0)) ∧ (rq (.row 1250101 x44)) ∧ (rq (.ptr 1250401 0)) ∧ (rq (aL a0_1)) ∧ (rq (aI (a0_1.length : Int))) ∧ (rh [(hB 1200000 [(aL a0_0),(aL a0_1),(aL
 a0_2),(aI a0_3),(aI a0_4)]),(hB 1200001 [(aI x55.1),(aI x55.2.1),(aI x55.2.2.1)]),(1250101,(.row false true (Prod.fst x47) 3 1 (Prod.snd x47))),(hB 1250401 [(.row 1260401
 x34),(.row 1270401 x35),(aI x36),(aB x37)]),(hR 1260401 x38 51 2 x39),(hR 1270401 x40 3 1 x41)]) ∧ (x52 (IntKind.wrap .i64 (x54 + 1)) (x55.1,(x55.2.1,(x55.2.2.1,())))) ∧ (((x53
 (IntKind.wrap .i64 (x54 + 1)) (x55.1,(x55.2.1,(x55.2.2.1,())))) : Nat) < (x53 x54 x55)))) (((Prod.fst x47) = x44) ∧ (∃ x59 : Bool,((Runs Fs2 23 [(aL (Prod.snd x47)),(aI x54)] []
 (aB x59) []) ∧ (sel (Bool.not (x58 == x59)) (R (.tup [(.agg [(.n (.int .i64 0)),(.n (.int .i64 0)),(.n (.int .i64 0))]),(.n (.int .i64 81))])) ((rq (.ptr 1200001 0)) ∧ (rq (.row
 1250101 x44)) ∧ (rq (.ptr 1250401 0)) ∧ (rq (aL a0_1)) ∧ (rq (aI (a0_1.length : Int))) ∧ (rh [(hB 1200000 [(aL a0_0),(aL a0_1),(aL a0_2),(aI a0_3),(aI a0_4)]),(hB 1200001 [(aI
 x55.1),(aI x55.2.1),(aI x55.2.2.1)]),(1250101,(.row false true (Prod.fst x47) 3 1 (Prod.snd x47))),(hB 1250401 [(.row 1260401 x34),(.row 1270401 x35),(aI x36),(aB x37)]),(hR
 1260401 x38 51 2 x39),(hR 1270401 x40 3 1 x41)]) ∧ (x52 (IntKind.wrap .i64 (x54 + 1)) (x55.1,(x55.2.1,(x55.2.2.1,())))) ∧ (((x53 (IntKind.wrap .i64 (x54 + 1))
 (x55.1,(x55.2.1,(x55.2.2.1,())))) : Nat) < (x53 x54 x55))))))))))))) (((x38 : Nat) = x34) ∧ ((x40 : Nat) = x35) ∧ (R (.tup [(.agg [(.n (.int .i64 (x39.length : Int))),(.n (.int
 .i64 x36)),(.n (.int .i64 (x41.length : Int)))]),(.n (.int .i64 0))]))))))))))))))))))))))))))))))))))))
theorem vc12 (a0_0 : LD) (a0_1 : LD) (a0_2 : LD) (a0_3 : Int) (a0_4 : Int) (a1 : LD) (R : Mir.AV → Prop) : Vc Fs2 c12.body (argsQ c12 [(.agg [(.o (.sl 1 a0_0)), (.o (.sl 1 a0_1)), (.o (.sl 1 a0_2)), (.n (.int .i64 a0_3)), (.n (.int .i64 a0_4))]), (.o (.sl 1 a1))]) [] (endQ c12 R) = V12 a0_0 a0_1 a0_2 a0_3 a0_4 a1 R := by kernel_rfl
def V15 (a0_0 : LD) (a0_1 : LD) (a0_2 : LD) (a0_3 : Int) (a0_4 : Int) (a1 : ByteArray) (a2 : Int) (R : Mir.AV → Prop) : Prop :=
 (∃ x0 : Bool,((Runs Fs2 24 [(.agg [(aL a0_0),(aL a0_1),(aL a0_2),(aI a0_3),(aI a0_4)])] [] (aB x0) []) ∧ (sel (Bool.not x0) (R (.tup [(.o (Mir.D.sl 2 [])),(.n (.str (ByteArray.mk
 (List.toArray [])))),(.n (.int .i64 1))])) (sel (decide ((((ByteArray.size a1) : Nat) : Int) > 32)) (R (.tup [(.o (Mir.D.sl 2 [])),(.n (.str (ByteArray.mk (List.toArray [])))),(.n
 (.int .i64 1))])) (sel (decide (a2 < 0)) (R (.tup [(.o (Mir.D.sl 2 [])),(.n (.str (ByteArray.mk (List.toArray [])))),(.n (.int .i64 1))])) (sel (decide (a2 > 256)) (R (.tup [(.o
 (Mir.D.sl 2 [])),(.n (.str (ByteArray.mk (List.toArray [])))),(.n (.int .i64 1))])) (sel (a0_3 != 0) (∃ x1 : LD,(∃ x2 : LD,(∃ x3 : LD,(∃ x4 : Int,(∃ x5 : Int,(∃ x6 : ByteArray,(∃
 x7 : Int,(∃ x8 : Int,(∃ x9 : Nat,(∃ x10 : ByteArray,(∃ x11 : Bool,(∃ x12 : Bool,(∃ x13 : Nat,(∃ x14 : LD,((Runs Fs2 25 [(.ptr 1500304 0),(aI a0_3),(aI 1)] [(hB 1500304 [(aL
 a0_0),(aL a0_1),(aL a0_2),(aI a0_3),(aI a0_4),(aS a1),(aI a2),(aI 0),(.row 1590001 0),(aS (ByteArray.mk (List.toArray []))),(aB false),(aB false)]),(hR 1590001 0 51 2 [])] (.tup
 []) [(hB 1500304 [(aL x1),(aL x2),(aL x3),(aI x4),(aI x5),(aS x6),(aI x7),(aI x8),(.row 1590001 x9),(aS x10),(aB x11),(aB x12)]),(hR 1590001 x13 51 2 x14)]) ∧ (sel x12 (R (.tup
 [(.o (Mir.D.sl 2 [])),(.n (.str (ByteArray.mk (List.toArray [])))),(.n (.int .i64 81))])) ((x13 = x9) ∧ (R (.tup [(.o (Mir.D.sl 2 x14)),(.n (.str x10)),(.n (.int .i64
 0))]))))))))))))))))))) ((0 = 0) ∧ (R (.tup [(.o (Mir.D.sl 2 [])),(.n (.str (ByteArray.mk (List.toArray [])))),(.n (.int .i64 0))]))))))))))
theorem vc15 (a0_0 : LD) (a0_1 : LD) (a0_2 : LD) (a0_3 : Int) (a0_4 : Int) (a1 : ByteArray) (a2 : Int) (R : Mir.AV → Prop) : Vc Fs2 c15.body (argsQ c15 [(.agg [(.o (.sl 1 a0_0)), (.o (.sl 1 a0_1)), (.o (.sl 1 a0_2)), (.n (.int .i64 a0_3)), (.n (.int .i64 a0_4))]), (.n (.str a1)), (.n (.int .i64 a2))]) [] (endQ c15 R) = V15 a0_0 a0_1 a0_2 a0_3 a0_4 a1 a2 R := by kernel_rfl
def V18 (a0 : LD) (a1 : ByteArray) (a2 : Int) (R : Mir.AV → Prop) : Prop :=
 (∃ x0 : (Nat → (Int → ((Nat × LD) → Prop))),(∃ x1 : (Nat → (Int → ((Nat × LD) → Nat))),(((rh [(1800100,(.row false true 0 51 2 []))]) ∧ (x0 0 0 (0,[]))) ∧ (∀ x2 : Nat,(∀ x3 :
 Int,(∀ x4 : (Nat × LD),((x0 x2 x3 x4) → (∀ x5 : (Nat → Mir.AV),(sel (decide (x3 < (a0.length : Int))) ((rn 2) ∧ ((0 : Int) ≤ x3) ∧ (∃ x6 : Mir.D,((a0[Int.toNat x3]? = some x6) ∧ (∃
 x7 : ByteArray,(∃ x8 : ByteArray,((@Eq LD (List.take 2 (D.cells x6)) [(Mir.D.str x7),(Mir.D.str x8)]) ∧ ((2 : Nat) ≤ (List.length (D.cells x6))) ∧ (sel (Op.bytesLess
 (ByteArray.toList x7) (ByteArray.toList a1)) ((rq (aS a1)) ∧ (rq (aI a2)) ∧ (rq (.o (Mir.D.sl 2 a0))) ∧ (rq (aI (a0.length : Int))) ∧ (rh [(1800100,(.row false true (Prod.fst x4)
 51 2 (Prod.snd x4)))]) ∧ (x0 x2 (IntKind.wrap .i64 (x3 + 1)) ((Prod.fst x4),(Prod.snd x4))) ∧ (((x1 x2 (IntKind.wrap .i64 (x3 + 1)) ((Prod.fst x4),(Prod.snd x4))) : Nat) < (x1 x2
 x3 x4))) ((((Prod.fst x4) : Nat) = x2) ∧ (sel (((Prod.snd x4).length : Int) == a2) (((Prod.fst x4) = x2) ∧ (R (.tup [(.o (Mir.D.sl 2 (Prod.snd x4))),(.n (.str x7))]))) ((rn 0) ∧
 ((rn 2) ∨ (@Eq LD [(Mir.D.rcd [(Mir.D.str x7),(Mir.D.str x8)])] [])) ∧ (((((Prod.fst x4) : Nat) = x2) ∧ (rn 51)) ∧ (rn 2)) ∧ (((((List.length (Prod.snd x4)) + (List.length
 [(Mir.D.rcd [(Mir.D.str x7),(Mir.D.str x8)])])) * 32) : Nat) ≤ 140737488355328) ∧ (rq (aS a1)) ∧ (rq (aI a2)) ∧ (rq (.o (Mir.D.sl 2 a0))) ∧ (rq (aI (a0.length : Int))) ∧ (rh
 [(1800100,(.row false true (x2 + 1) 51 2 ((Prod.snd x4) ++ [(Mir.D.rcd [(Mir.D.str x7),(Mir.D.str x8)])])))]) ∧ (x0 (x2 + 1) (IntKind.wrap .i64 (x3 + 1)) ((x2 + 1),((Prod.snd x4)
 ++ [(Mir.D.rcd [(Mir.D.str x7),(Mir.D.str x8)])]))) ∧ (((x1 (x2 + 1) (IntKind.wrap .i64 (x3 + 1)) ((x2 + 1),((Prod.snd x4) ++ [(Mir.D.rcd [(Mir.D.str x7),(Mir.D.str x8)])]))) :
 Nat) < (x1 x2 x3 x4)))))))))))) (((Prod.fst x4) = x2) ∧ (R (.tup [(.o (Mir.D.sl 2 (Prod.snd x4))),(.n (.str (ByteArray.mk (List.toArray []))))]))))))))))))
theorem vc18 (a0 : LD) (a1 : ByteArray) (a2 : Int) (R : Mir.AV → Prop) : Vc Fs2 c18.body (argsQ c18 [(.o (.sl 2 a0)), (.n (.str a1)), (.n (.int .i64 a2))]) [] (endQ c18 R) = V18 a0 a1 a2 R := by kernel_rfl
def V19 (a0 : LD) (a1 : LD) (R : Mir.AV → Prop) : Prop :=
 (sel ((a0.length : Int) != (a1.length : Int)) (R (.n (.bool false))) (∃ x0 : (Int → Prop),(∃ x1 : (Int → Nat),(((rh []) ∧ (x0 0)) ∧ (∀ x2 : Int,((x0 x2) → (∀ x3 : (Nat →
 Mir.AV),(sel (decide (x2 < (a0.length : Int))) ((rn 2) ∧ ((0 : Int) ≤ x2) ∧ (∃ x4 : Mir.D,((a0[Int.toNat x2]? = some x4) ∧ (∃ x5 : ByteArray,(∃ x6 : ByteArray,((@Eq LD (List.take 2
 (D.cells x4)) [(Mir.D.str x5),(Mir.D.str x6)]) ∧ ((2 : Nat) ≤ (List.length (D.cells x4))) ∧ (rn 2) ∧ ((0 : Int) ≤ x2) ∧ (∃ x7 : Mir.D,((a1[Int.toNat x2]? = some x7) ∧ (∃ x8 :
 ByteArray,(∃ x9 : ByteArray,((@Eq LD (List.take 2 (D.cells x7)) [(Mir.D.str x8),(Mir.D.str x9)]) ∧ ((2 : Nat) ≤ (List.length (D.cells x7))) ∧ (sel (Bool.not (((ByteArray.toList x5)
 == (ByteArray.toList x8)) && (((ByteArray.toList x6) == (ByteArray.toList x9)) && true))) (R (.n (.bool false))) ((rq (.o (Mir.D.sl 2 a0))) ∧ (rq (.o (Mir.D.sl 2 a1))) ∧ (rq (aI
 (a0.length : Int))) ∧ (rh []) ∧ (x0 (IntKind.wrap .i64 (x2 + 1))) ∧ (((x1 (IntKind.wrap .i64 (x2 + 1))) : Nat) < (x1 x2))))))))))))))) (R (.n (.bool true)))))))))))
theorem vc19 (a0 : LD) (a1 : LD) (R : Mir.AV → Prop) : Vc Fs2 c19.body (argsQ c19 [(.o (.sl 2 a0)), (.o (.sl 2 a1))]) [] (endQ c19 R) = V19 a0 a1 R := by kernel_rfl
def V23 (a0 : LD) (a1 : Int) (R : Mir.AV → Prop) : Prop :=
 (∃ x0 : (Int → Prop),(∃ x1 : (Int → Nat),(((rh []) ∧ (x0 0)) ∧ (∀ x2 : Int,((x0 x2) → (∀ x3 : (Nat → Mir.AV),(sel (decide (x2 < (a0.length : Int))) ((rn 1) ∧ ((0 : Int) ≤ x2) ∧ (∃
 x4 : Mir.D,((a0[Int.toNat x2]? = some x4) ∧ (∃ x5 : Int,(((D.cells x4)[0]? = some (Mir.D.int .i64 x5)) ∧ (sel (x5 == a1) (R (.n (.bool true))) ((rq (aI a1)) ∧ (rq (aL a0)) ∧ (rq
 (aI (a0.length : Int))) ∧ (rh []) ∧ (x0 (IntKind.wrap .i64 (x2 + 1))) ∧ (((x1 (IntKind.wrap .i64 (x2 + 1))) : Nat) < (x1 x2))))))))) (R (.n (.bool false))))))))))
theorem vc23 (a0 : LD) (a1 : Int) (R : Mir.AV → Prop) : Vc Fs2 c23.body (argsQ c23 [(.o (.sl 1 a0)), (.n (.int .i64 a1))]) [] (endQ c23 R) = V23 a0 a1 R := by kernel_rfl
def V25h (ba : LD) (no : LD) (pa : LD) (ro : Int) (ge : Int) (fr : ByteArray) (mo : Int) (se : Int) (v : Nat) (P : LD) (nx : ByteArray) (fu : Bool) (bad : Bool) (block : Int) (deep : Int) (R : Mir.AV → Heap → Prop) : Prop :=
 (∃ x0 : Bool,(∃ x1 : LD,(∃ x2 : LD,(∃ x3 : LD,(∃ x4 : Bool,(∃ x5 : LD,(∃ x6 : LD,(∃ x7 : LD,(∃ x8 : Int,(∃ x9 : Int,(∃ x10 : ByteArray,(∃ x11 : Int,(∃ x12 : Int,(∃ x13 : Nat,(∃ x14
 : ByteArray,(∃ x15 : Bool,(∃ x16 : Bool,(∃ x17 : Nat,(∃ x18 : LD,((Runs Fs2 28 [(.ptr 1500304 0),(aI block),(aB (deep == 1))] [(hB 1500304 [(aL ba),(aL no),(aL pa),(aI ro),(aI
 ge),(aS fr),(aI mo),(aI (IntKind.wrap .i64 (se + 1))),(.row 1590001 v),(aS nx),(aB fu),(aB bad)]),(hR 1590001 v 51 2 P)] (.tup [(.agg [(aB x0),(aL x1),(aL x2),(aL x3)]),(aB x4)])
 [(hB 1500304 [(aL x5),(aL x6),(aL x7),(aI x8),(aI x9),(aS x10),(aI x11),(aI x12),(.row 1590001 x13),(aS x14),(aB x15),(aB x16)]),(hR 1590001 x17 51 2 x18)]) ∧ (sel (Bool.not x4) (R
 (.tup []) [(hB 1500304 [(.o (.sl 1 x5)),(.o (.sl 1 x6)),(.o (.sl 1 x7)),(.n (.int .i64 x8)),(.n (.int .i64 x9)),(.n (.str x10)),(.n (.int .i64 x11)),(.n (.int .i64 x12)),(.row
 1590001 x13),(.n (.str x14)),(.n (.bool x15)),(.n (.bool true))]),(hR 1590001 x17 51 2 x18)]) (sel (decide (deep > 8)) (R (.tup []) [(hB 1500304 [(.o (.sl 1 x5)),(.o (.sl 1
 x6)),(.o (.sl 1 x7)),(.n (.int .i64 x8)),(.n (.int .i64 x9)),(.n (.str x10)),(.n (.int .i64 x11)),(.n (.int .i64 x12)),(.row 1590001 x13),(.n (.str x14)),(.n (.bool x15)),(.n
 (.bool true))]),(hR 1590001 x17 51 2 x18)]) (sel (decide (x12 > (x6.length : Int))) (R (.tup []) [(hB 1500304 [(.o (.sl 1 x5)),(.o (.sl 1 x6)),(.o (.sl 1 x7)),(.n (.int .i64
 x8)),(.n (.int .i64 x9)),(.n (.str x10)),(.n (.int .i64 x11)),(.n (.int .i64 x12)),(.row 1590001 x13),(.n (.str x14)),(.n (.bool x15)),(.n (.bool true))]),(hR 1590001 x17 51 2
 x18)]) (sel x0 (∃ x19 : (Int → ((LD × (LD × (LD × (Int × (Int × (ByteArray × (Int × (Int × (Nat × (ByteArray × (Bool × (Bool × (Unit))))))))))))) → ((Nat × LD) → Prop))),(∃ x20 :
 (Int → ((LD × (LD × (LD × (Int × (Int × (ByteArray × (Int × (Int × (Nat × (ByteArray × (Bool × (Bool × (Unit))))))))))))) → ((Nat × LD) → Nat))),(((rh [(hB 1500304 [(aL x5),(aL
 x6),(aL x7),(aI x8),(aI x9),(aS x10),(aI x11),(aI x12),(.row 1590001 x13),(aS x14),(aB x15),(aB x16)]),(hR 1590001 x17 51 2 x18),(hB 2500108 [(aB x0),(aL x1),(aL x2),(aL x3)])]) ∧
 (x19 0 (x5,(x6,(x7,(x8,(x9,(x10,(x11,(x12,(x13,(x14,(x15,(x16,())))))))))))) (x17,x18))) ∧ (∀ x21 : Int,(∀ x22 : (LD × (LD × (LD × (Int × (Int × (ByteArray × (Int × (Int × (Nat ×
 (ByteArray × (Bool × (Bool × (Unit))))))))))))),(∀ x23 : (Nat × LD),((x19 x21 x22 x23) → (∀ x24 : (Nat → Mir.AV),(sel (decide (x21 < (x1.length : Int))) ((rn 1) ∧ ((0 : Int) ≤ x21)
 ∧ (∃ x25 : Mir.D,((x1[Int.toNat x21]? = some x25) ∧ (∃ x26 : ByteArray,(((D.cells x25)[0]? = some (Mir.D.str x26)) ∧ (rn 1) ∧ ((0 : Int) ≤ x21) ∧ (∃ x27 : Mir.D,((x2[Int.toNat
 x21]? = some x27) ∧ (∃ x28 : ByteArray,(((D.cells x27)[0]? = some (Mir.D.str x28)) ∧ (∃ x29 : LD,(∃ x30 : LD,(∃ x31 : LD,(∃ x32 : Int,(∃ x33 : Int,(∃ x34 : ByteArray,(∃ x35 :
 Int,(∃ x36 : Int,(∃ x37 : Nat,(∃ x38 : ByteArray,(∃ x39 : Bool,(∃ x40 : Bool,(∃ x41 : Nat,(∃ x42 : LD,((Runs Fs2 35 [(.ptr 1500304 0),(aS x26),(aS x28)] [(hB 1500304 [(aL
 x22.1),(aL x22.2.1),(aL x22.2.2.1),(aI x22.2.2.2.1),(aI x22.2.2.2.2.1),(aS x22.2.2.2.2.2.1),(aI x22.2.2.2.2.2.2.1),(aI x22.2.2.2.2.2.2.2.1),(.row 1590001 x22.2.2.2.2.2.2.2.2.1),(aS
 x22.2.2.2.2.2.2.2.2.2.1),(aB x22.2.2.2.2.2.2.2.2.2.2.1),(aB x22.2.2.2.2.2.2.2.2.2.2.2.1)]),(hR 1590001 (Prod.fst x23) 51 2 (Prod.snd x23))] (.tup []) [(hB 1500304 [(aL x29),(aL
 x30),(aL x31),(aI x32),(aI x33),(aS x34),(aI x35),(aI x36),(.row 1590001 x37),(aS x38),(aB x39),(aB x40)]),(hR 1590001 x41 51 2 x42)]) ∧ (rq (.ptr 1500304 0)) ∧ (rq (.ptr 2500108
 0)) ∧ (rq (aL x1)) ∧ (rq (aI (x1.length : Int))) ∧ (rh [(hB 1500304 [(aL x29),(aL x30),(aL x31),(aI x32),(aI x33),(aS x34),(aI x35),(aI x36),(.row 1590001 x37),(aS x38),(aB
 x39),(aB x40)]),(hR 1590001 x41 51 2 x42),(hB 2500108 [(aB x0),(aL x1),(aL x2),(aL x3)])]) ∧ (x19 (IntKind.wrap .i64 (x21 + 1))
 (x29,(x30,(x31,(x32,(x33,(x34,(x35,(x36,(x37,(x38,(x39,(x40,())))))))))))) (x41,x42)) ∧ (((x20 (IntKind.wrap .i64 (x21 + 1))
 (x29,(x30,(x31,(x32,(x33,(x34,(x35,(x36,(x37,(x38,(x39,(x40,())))))))))))) (x41,x42)) : Nat) < (x20 x21 x22 x23)))))))))))))))))))))))))) (R (.tup []) [(hB 1500304 [(.o (.sl 1
 x22.1)),(.o (.sl 1 x22.2.1)),(.o (.sl 1 x22.2.2.1)),(.n (.int .i64 x22.2.2.2.1)),(.n (.int .i64 x22.2.2.2.2.1)),(.n (.str x22.2.2.2.2.2.1)),(.n (.int .i64 x22.2.2.2.2.2.2.1)),(.n
 (.int .i64 x22.2.2.2.2.2.2.2.1)),(.row 1590001 x22.2.2.2.2.2.2.2.2.1),(.n (.str x22.2.2.2.2.2.2.2.2.2.1)),(.n (.bool x22.2.2.2.2.2.2.2.2.2.2.1)),(.n (.bool
 x22.2.2.2.2.2.2.2.2.2.2.2.1))]),(hR 1590001 (Prod.fst x23) 51 2 (Prod.snd x23))])))))))))) (∃ x43 : Int,((Runs Fs2 29 [(.agg [(aB x0),(aL x1),(aL x2),(aL x3)]),(aS x10)] [] (aI
 x43) []) ∧ (∃ x44 : (Int → ((LD × (LD × (LD × (Int × (Int × (ByteArray × (Int × (Int × (Nat × (ByteArray × (Bool × (Bool × (Unit))))))))))))) → ((Nat × LD) → Prop))),(∃ x45 : (Int
 → ((LD × (LD × (LD × (Int × (Int × (ByteArray × (Int × (Int × (Nat × (ByteArray × (Bool × (Bool × (Unit))))))))))))) → ((Nat × LD) → Nat))),(((rh [(hB 1500304 [(aL x5),(aL x6),(aL
 x7),(aI x8),(aI x9),(aS x10),(aI x11),(aI x12),(.row 1590001 x13),(aS x14),(aB x15),(aB x16)]),(hR 1590001 x17 51 2 x18),(hB 2500108 [(aB x0),(aL x1),(aL x2),(aL x3)])]) ∧ (x44 x43
 (x5,(x6,(x7,(x8,(x9,(x10,(x11,(x12,(x13,(x14,(x15,(x16,())))))))))))) (x17,x18))) ∧ (∀ x46 : Int,(∀ x47 : (LD × (LD × (LD × (Int × (Int × (ByteArray × (Int × (Int × (Nat ×
 (ByteArray × (Bool × (Bool × (Unit))))))))))))),(∀ x48 : (Nat × LD),((x44 x46 x47 x48) → (∀ x49 : (Nat → Mir.AV),(sel (decide (x46 < (x3.length : Int))) (sel (Bool.not
 x47.2.2.2.2.2.2.2.2.2.2.1) (sel (Bool.not x47.2.2.2.2.2.2.2.2.2.2.2.1) ((rn 1) ∧ ((0 : Int) ≤ x46) ∧ (∃ x50 : Mir.D,((x3[Int.toNat x46]? = some x50) ∧ (∃ x51 : Int,(((D.cells
 x50)[0]? = some (Mir.D.int .i64 x51)) ∧ (∃ x52 : LD,(∃ x53 : LD,(∃ x54 : LD,(∃ x55 : Int,(∃ x56 : Int,(∃ x57 : ByteArray,(∃ x58 : Int,(∃ x59 : Int,(∃ x60 : Nat,(∃ x61 :
 ByteArray,(∃ x62 : Bool,(∃ x63 : Bool,(∃ x64 : Nat,(∃ x65 : LD,((Runs Fs2 25 [(.ptr 1500304 0),(aI x51),(aI (IntKind.wrap .i64 (deep + 1)))] [(hB 1500304 [(aL x47.1),(aL
 x47.2.1),(aL x47.2.2.1),(aI x47.2.2.2.1),(aI x47.2.2.2.2.1),(aS x47.2.2.2.2.2.1),(aI x47.2.2.2.2.2.2.1),(aI x47.2.2.2.2.2.2.2.1),(.row 1590001 x47.2.2.2.2.2.2.2.2.1),(aS
 x47.2.2.2.2.2.2.2.2.2.1),(aB x47.2.2.2.2.2.2.2.2.2.2.1),(aB x47.2.2.2.2.2.2.2.2.2.2.2.1)]),(hR 1590001 (Prod.fst x48) 51 2 (Prod.snd x48))] (.tup []) [(hB 1500304 [(aL x52),(aL
 x53),(aL x54),(aI x55),(aI x56),(aS x57),(aI x58),(aI x59),(.row 1590001 x60),(aS x61),(aB x62),(aB x63)]),(hR 1590001 x64 51 2 x65)]) ∧ (rq (.ptr 1500304 0)) ∧ (rq (aI deep)) ∧
 (rq (.ptr 2500108 0)) ∧ (rh [(hB 1500304 [(aL x52),(aL x53),(aL x54),(aI x55),(aI x56),(aS x57),(aI x58),(aI x59),(.row 1590001 x60),(aS x61),(aB x62),(aB x63)]),(hR 1590001 x64 51
 2 x65),(hB 2500108 [(aB x0),(aL x1),(aL x2),(aL x3)])]) ∧ (x44 (IntKind.wrap .i64 (x46 + 1)) (x52,(x53,(x54,(x55,(x56,(x57,(x58,(x59,(x60,(x61,(x62,(x63,())))))))))))) (x64,x65)) ∧
 (((x45 (IntKind.wrap .i64 (x46 + 1)) (x52,(x53,(x54,(x55,(x56,(x57,(x58,(x59,(x60,(x61,(x62,(x63,())))))))))))) (x64,x65)) : Nat) < (x45 x46 x47 x48)))))))))))))))))))))) (R (.tup
 []) [(hB 1500304 [(.o (.sl 1 x47.1)),(.o (.sl 1 x47.2.1)),(.o (.sl 1 x47.2.2.1)),(.n (.int .i64 x47.2.2.2.1)),(.n (.int .i64 x47.2.2.2.2.1)),(.n (.str x47.2.2.2.2.2.1)),(.n (.int
 .i64 x47.2.2.2.2.2.2.1)),(.n (.int .i64 x47.2.2.2.2.2.2.2.1)),(.row 1590001 x47.2.2.2.2.2.2.2.2.1),(.n (.str x47.2.2.2.2.2.2.2.2.2.1)),(.n (.bool x47.2.2.2.2.2.2.2.2.2.2.1)),(.n
 (.bool x47.2.2.2.2.2.2.2.2.2.2.2.1))]),(hR 1590001 (Prod.fst x48) 51 2 (Prod.snd x48))])) (R (.tup []) [(hB 1500304 [(.o (.sl 1 x47.1)),(.o (.sl 1 x47.2.1)),(.o (.sl 1
 x47.2.2.1)),(.n (.int .i64 x47.2.2.2.1)),(.n (.int .i64 x47.2.2.2.2.1)),(.n (.str x47.2.2.2.2.2.1)),(.n (.int .i64 x47.2.2.2.2.2.2.1)),(.n (.int .i64 x47.2.2.2.2.2.2.2.1)),(.row
 1590001 x47.2.2.2.2.2.2.2.2.1),(.n (.str x47.2.2.2.2.2.2.2.2.2.1)),(.n (.bool x47.2.2.2.2.2.2.2.2.2.2.1)),(.n (.bool x47.2.2.2.2.2.2.2.2.2.2.2.1))]),(hR 1590001 (Prod.fst x48) 51 2
 (Prod.snd x48))])) (R (.tup []) [(hB 1500304 [(.o (.sl 1 x47.1)),(.o (.sl 1 x47.2.1)),(.o (.sl 1 x47.2.2.1)),(.n (.int .i64 x47.2.2.2.1)),(.n (.int .i64 x47.2.2.2.2.1)),(.n (.str
 x47.2.2.2.2.2.1)),(.n (.int .i64 x47.2.2.2.2.2.2.1)),(.n (.int .i64 x47.2.2.2.2.2.2.2.1)),(.row 1590001 x47.2.2.2.2.2.2.2.2.1),(.n (.str x47.2.2.2.2.2.2.2.2.2.1)),(.n (.bool
 x47.2.2.2.2.2.2.2.2.2.2.1)),(.n (.bool x47.2.2.2.2.2.2.2.2.2.2.2.1))]),(hR 1590001 (Prod.fst x48) 51 2 (Prod.snd x48))]))))))))))))))))))))))))))))))))))))
theorem vc25h (ba : LD) (no : LD) (pa : LD) (ro : Int) (ge : Int) (fr : ByteArray) (mo : Int) (se : Int) (v : Nat) (P : LD) (nx : ByteArray) (fu : Bool) (bad : Bool) (block : Int) (deep : Int) (R : Mir.AV → Heap → Prop) : Vc Fs2 c25.body (argsQ c25 [.ptr 1500304 0, .n (.int .i64 block), .n (.int .i64 deep)]) [(1500304, .box [.o (.sl 1 ba), .o (.sl 1 no), .o (.sl 1 pa), .n (.int .i64 ro), .n (.int .i64 ge), .n (.str fr), .n (.int .i64 mo), .n (.int .i64 se), .row 1590001 v, .n (.str nx), .n (.bool fu), .n (.bool bad)]), (1590001, .row false false v 51 2 P)] (endQH c25 [(1500304, .box [.o (.sl 1 ba), .o (.sl 1 no), .o (.sl 1 pa), .n (.int .i64 ro), .n (.int .i64 ge), .n (.str fr), .n (.int .i64 mo), .n (.int .i64 se), .row 1590001 v, .n (.str nx), .n (.bool fu), .n (.bool bad)]), (1590001, .row false false v 51 2 P)] R) = V25h ba no pa ro ge fr mo se v P nx fu bad block deep R := by kernel_rfl
def V35h (ba : LD) (no : LD) (pa : LD) (ro : Int) (ge : Int) (fr : ByteArray) (mo : Int) (se : Int) (v : Nat) (P : LD) (nx : ByteArray) (fu : Bool) (bad : Bool) (key : ByteArray) (val : ByteArray) (R : Mir.AV → Heap → Prop) : Prop :=
 (sel fu (R (.tup []) [(hB 1500304 [(.o (.sl 1 ba)),(.o (.sl 1 no)),(.o (.sl 1 pa)),(.n (.int .i64 ro)),(.n (.int .i64 ge)),(.n (.str fr)),(.n (.int .i64 mo)),(.n (.int .i64
 se)),(.row 1590001 v),(.n (.str nx)),(.n (.bool fu)),(.n (.bool bad))]),(hR 1590001 v 51 2 P)]) (sel (Op.bytesLess (ByteArray.toList key) (ByteArray.toList fr)) (R (.tup []) [(hB
 1500304 [(.o (.sl 1 ba)),(.o (.sl 1 no)),(.o (.sl 1 pa)),(.n (.int .i64 ro)),(.n (.int .i64 ge)),(.n (.str fr)),(.n (.int .i64 mo)),(.n (.int .i64 se)),(.row 1590001 v),(.n (.str
 nx)),(.n (.bool fu)),(.n (.bool bad))]),(hR 1590001 v 51 2 P)]) ((rn v) ∧ (sel (decide ((P.length : Int) > 0)) (((rn v) ∧ (rn 2)) ∧ ((0 : Int) ≤ (IntKind.wrap .i64 ((P.length :
 Int) - 1))) ∧ (((IntKind.wrap .i64 ((P.length : Int) - 1)) : Int) < (P.length : Int)) ∧ ((rn v) ∧ (rn 2)) ∧ (∃ x0 : Mir.D,((P[Int.toNat (IntKind.wrap .i64 ((P.length : Int) - 1))]?
 = some x0) ∧ (∃ x1 : ByteArray,(((D.cells x0)[0]? = some (Mir.D.str x1)) ∧ (sel (Bool.not (Op.bytesLess (ByteArray.toList x1) (ByteArray.toList key))) (R (.tup []) [(hB 1500304
 [(.o (.sl 1 ba)),(.o (.sl 1 no)),(.o (.sl 1 pa)),(.n (.int .i64 ro)),(.n (.int .i64 ge)),(.n (.str fr)),(.n (.int .i64 mo)),(.n (.int .i64 se)),(.row 1590001 v),(.n (.str nx)),(.n
 (.bool fu)),(.n (.bool true))]),(hR 1590001 v 51 2 P)]) ((rn v) ∧ (sel ((P.length : Int) == mo) (R (.tup []) [(hB 1500304 [(.o (.sl 1 ba)),(.o (.sl 1 no)),(.o (.sl 1 pa)),(.n (.int
 .i64 ro)),(.n (.int .i64 ge)),(.n (.str fr)),(.n (.int .i64 mo)),(.n (.int .i64 se)),(.row 1590001 v),(.n (.str key)),(.n (.bool true)),(.n (.bool bad))]),(hR 1590001 v 51 2 P)])
 ((rn 0) ∧ ((rn 2) ∨ (@Eq LD [(Mir.D.rcd [(Mir.D.str key),(Mir.D.str val)])] [])) ∧ (((rn v) ∧ (rn 51)) ∧ (rn 2)) ∧ (((((List.length P) + (List.length [(Mir.D.rcd [(Mir.D.str
 key),(Mir.D.str val)])])) * 32) : Nat) ≤ 140737488355328) ∧ (R (.tup []) [(hB 1500304 [(.o (.sl 1 ba)),(.o (.sl 1 no)),(.o (.sl 1 pa)),(.n (.int .i64 ro)),(.n (.int .i64 ge)),(.n
 (.str fr)),(.n (.int .i64 mo)),(.n (.int .i64 se)),(.row 1590001 (v + 1)),(.n (.str nx)),(.n (.bool fu)),(.n (.bool bad))]),(hR 1590001 (v + 1) 51 2 (P ++ [(Mir.D.rcd [(Mir.D.str
 key),(Mir.D.str val)])]))])))))))))) ((rn v) ∧ (sel ((P.length : Int) == mo) (R (.tup []) [(hB 1500304 [(.o (.sl 1 ba)),(.o (.sl 1 no)),(.o (.sl 1 pa)),(.n (.int .i64 ro)),(.n
 (.int .i64 ge)),(.n (.str fr)),(.n (.int .i64 mo)),(.n (.int .i64 se)),(.row 1590001 v),(.n (.str key)),(.n (.bool true)),(.n (.bool bad))]),(hR 1590001 v 51 2 P)]) ((rn 0) ∧ ((rn
 2) ∨ (@Eq LD [(Mir.D.rcd [(Mir.D.str key),(Mir.D.str val)])] [])) ∧ (((rn v) ∧ (rn 51)) ∧ (rn 2)) ∧ (((((List.length P) + (List.length [(Mir.D.rcd [(Mir.D.str key),(Mir.D.str
 val)])])) * 32) : Nat) ≤ 140737488355328) ∧ (R (.tup []) [(hB 1500304 [(.o (.sl 1 ba)),(.o (.sl 1 no)),(.o (.sl 1 pa)),(.n (.int .i64 ro)),(.n (.int .i64 ge)),(.n (.str fr)),(.n
 (.int .i64 mo)),(.n (.int .i64 se)),(.row 1590001 (v + 1)),(.n (.str nx)),(.n (.bool fu)),(.n (.bool bad))]),(hR 1590001 (v + 1) 51 2 (P ++ [(Mir.D.rcd [(Mir.D.str key),(Mir.D.str
 val)])]))]))))))))
theorem vc35h (ba : LD) (no : LD) (pa : LD) (ro : Int) (ge : Int) (fr : ByteArray) (mo : Int) (se : Int) (v : Nat) (P : LD) (nx : ByteArray) (fu : Bool) (bad : Bool) (key : ByteArray) (val : ByteArray) (R : Mir.AV → Heap → Prop) : Vc Fs2 c35.body (argsQ c35 [.ptr 1500304 0, .n (.str key), .n (.str val)]) [(1500304, .box [.o (.sl 1 ba), .o (.sl 1 no), .o (.sl 1 pa), .n (.int .i64 ro), .n (.int .i64 ge), .n (.str fr), .n (.int .i64 mo), .n (.int .i64 se), .row 1590001 v, .n (.str nx), .n (.bool fu), .n (.bool bad)]), (1590001, .row false false v 51 2 P)] (endQH c35 [(1500304, .box [.o (.sl 1 ba), .o (.sl 1 no), .o (.sl 1 pa), .n (.int .i64 ro), .n (.int .i64 ge), .n (.str fr), .n (.int .i64 mo), .n (.int .i64 se), .row 1590001 v, .n (.str nx), .n (.bool fu), .n (.bool bad)]), (1590001, .row false false v 51 2 P)] R) = V35h ba no pa ro ge fr mo se v P nx fu bad key val R := by kernel_rfl
def V28c (ba : LD) (no : LD) (pa : LD) (ro : Int) (ge : Int) (fr : ByteArray) (mo : Int) (se : Int) (v : Nat) (P : LD) (nx : ByteArray) (fu : Bool) (bad : Bool) (block : Int) (root : Bool) (R : Mir.AV → Heap → Prop) : Prop :=
 (sel (decide (block < 10)) (R (.tup [(.agg [(.n (.bool false)),(.o (.sl 1 [])),(.o (.sl 1 [])),(.o (.sl 1 []))]),(.n (.bool false))]) [(hB 1500304 [(.o (.sl 1 ba)),(.o (.sl 1
 no)),(.o (.sl 1 pa)),(.n (.int .i64 ro)),(.n (.int .i64 ge)),(.n (.str fr)),(.n (.int .i64 mo)),(.n (.int .i64 se)),(.row 1590001 v),(.n (.str nx)),(.n (.bool fu)),(.n (.bool
 bad))]),(hR 1590001 v 51 2 P)]) (sel (decide (block ≥ (no.length : Int))) (R (.tup [(.agg [(.n (.bool false)),(.o (.sl 1 [])),(.o (.sl 1 [])),(.o (.sl 1 []))]),(.n (.bool false))])
 [(hB 1500304 [(.o (.sl 1 ba)),(.o (.sl 1 no)),(.o (.sl 1 pa)),(.n (.int .i64 ro)),(.n (.int .i64 ge)),(.n (.str fr)),(.n (.int .i64 mo)),(.n (.int .i64 se)),(.row 1590001 v),(.n
 (.str nx)),(.n (.bool fu)),(.n (.bool bad))]),(hR 1590001 v 51 2 P)]) ((rn 1) ∧ ((0 : Int) ≤ block) ∧ (∃ x0 : Mir.D,((no[Int.toNat block]? = some x0) ∧ (∃ x1 : Bool,(((D.cells
 x0)[0]? = some (Mir.D.bool x1)) ∧ (sel (Bool.not x1) (R (.tup [(.agg [(.n (.bool false)),(.o (.sl 1 [])),(.o (.sl 1 [])),(.o (.sl 1 []))]),(.n (.bool false))]) [(hB 1500304 [(.o
 (.sl 1 ba)),(.o (.sl 1 no)),(.o (.sl 1 pa)),(.n (.int .i64 ro)),(.n (.int .i64 ge)),(.n (.str fr)),(.n (.int .i64 mo)),(.n (.int .i64 se)),(.row 1590001 v),(.n (.str nx)),(.n
 (.bool fu)),(.n (.bool bad))]),(hR 1590001 v 51 2 P)]) ((rn 1) ∧ ((0 : Int) ≤ block) ∧ (∃ x2 : Mir.D,((pa[Int.toNat block]? = some x2) ∧ (∃ x3 : ByteArray,(((D.cells x2)[0]? = some
 (Mir.D.str x3)) ∧ (0 = 0) ∧ (∃ x4 : Int,(∃ x5 : Int,(∃ x6 : ByteArray,(∃ x7 : Int,((Runs Fs2 38 [(aS x3),(aL [(Mir.D.int .i64 1),(Mir.D.int .i64 2)])] [] (.tup [(.agg [(aI x4),(aI
 x5),(aS x6)]),(aI x7)]) []) ∧ (sel (x7 != 0) (R (.tup [(.agg [(.n (.bool false)),(.o (.sl 1 [])),(.o (.sl 1 [])),(.o (.sl 1 []))]),(.n (.bool false))]) [(hB 1500304 [(.o (.sl 1
 ba)),(.o (.sl 1 no)),(.o (.sl 1 pa)),(.n (.int .i64 ro)),(.n (.int .i64 ge)),(.n (.str fr)),(.n (.int .i64 mo)),(.n (.int .i64 se)),(.row 1590001 v),(.n (.str nx)),(.n (.bool
 fu)),(.n (.bool bad))]),(hR 1590001 v 51 2 P)]) (sel (decide (x5 > ge)) (R (.tup [(.agg [(.n (.bool false)),(.o (.sl 1 [])),(.o (.sl 1 [])),(.o (.sl 1 []))]),(.n (.bool false))])
 [(hB 1500304 [(.o (.sl 1 ba)),(.o (.sl 1 no)),(.o (.sl 1 pa)),(.n (.int .i64 ro)),(.n (.int .i64 ge)),(.n (.str fr)),(.n (.int .i64 mo)),(.n (.int .i64 se)),(.row 1590001 v),(.n
 (.str nx)),(.n (.bool fu)),(.n (.bool bad))]),(hR 1590001 v 51 2 P)]) (∃ x8 : Bool,(∃ x9 : LD,(∃ x10 : LD,(∃ x11 : LD,(∃ x12 : Int,((Runs Fs2 39 [(aI x4),(aS x6)] [] (.tup [(.agg
 [(aB x8),(aL x9),(aL x10),(aL x11)]),(aI x12)]) []) ∧ (sel (x12 != 0) (R (.tup [(.agg [(.n (.bool false)),(.o (.sl 1 [])),(.o (.sl 1 [])),(.o (.sl 1 []))]),(.n (.bool false))])
 [(hB 1500304 [(.o (.sl 1 ba)),(.o (.sl 1 no)),(.o (.sl 1 pa)),(.n (.int .i64 ro)),(.n (.int .i64 ge)),(.n (.str fr)),(.n (.int .i64 mo)),(.n (.int .i64 se)),(.row 1590001 v),(.n
 (.str nx)),(.n (.bool fu)),(.n (.bool bad))]),(hR 1590001 v 51 2 P)]) (∃ x13 : Bool,((Runs Fs2 40 [(.agg [(aB x8),(aL x9),(aL x10),(aL x11)]),(aB root)] [] (aB x13) []) ∧ (sel
 (Bool.not x13) (R (.tup [(.agg [(.n (.bool false)),(.o (.sl 1 [])),(.o (.sl 1 [])),(.o (.sl 1 []))]),(.n (.bool false))]) [(hB 1500304 [(.o (.sl 1 ba)),(.o (.sl 1 no)),(.o (.sl 1
 pa)),(.n (.int .i64 ro)),(.n (.int .i64 ge)),(.n (.str fr)),(.n (.int .i64 mo)),(.n (.int .i64 se)),(.row 1590001 v),(.n (.str nx)),(.n (.bool fu)),(.n (.bool bad))]),(hR 1590001 v
 51 2 P)]) (R (.tup [(.agg [(.n (.bool x8)),(.o (.sl 1 x9)),(.o (.sl 1 x10)),(.o (.sl 1 x11))]),(.n (.bool true))]) [(hB 1500304 [(.o (.sl 1 ba)),(.o (.sl 1 no)),(.o (.sl 1 pa)),(.n
 (.int .i64 ro)),(.n (.int .i64 ge)),(.n (.str fr)),(.n (.int .i64 mo)),(.n (.int .i64 se)),(.row 1590001 v),(.n (.str nx)),(.n (.bool fu)),(.n (.bool bad))]),(hR 1590001 v 51 2
 P)])))))))))))))))))))))))))))))))
theorem vc28c (ba : LD) (no : LD) (pa : LD) (ro : Int) (ge : Int) (fr : ByteArray) (mo : Int) (se : Int) (v : Nat) (P : LD) (nx : ByteArray) (fu : Bool) (bad : Bool) (block : Int) (root : Bool) (R : Mir.AV → Heap → Prop) : Vc Fs2 c28.body (argsQ c28 [.ptr 1500304 0, .n (.int .i64 block), .n (.bool root)]) [(1500304, .box [.o (.sl 1 ba), .o (.sl 1 no), .o (.sl 1 pa), .n (.int .i64 ro), .n (.int .i64 ge), .n (.str fr), .n (.int .i64 mo), .n (.int .i64 se), .row 1590001 v, .n (.str nx), .n (.bool fu), .n (.bool bad)]), (1590001, .row false false v 51 2 P)] (endQH c28 [(1500304, .box [.o (.sl 1 ba), .o (.sl 1 no), .o (.sl 1 pa), .n (.int .i64 ro), .n (.int .i64 ge), .n (.str fr), .n (.int .i64 mo), .n (.int .i64 se), .row 1590001 v, .n (.str nx), .n (.bool fu), .n (.bool bad)]), (1590001, .row false false v 51 2 P)] R) = V28c ba no pa ro ge fr mo se v P nx fu bad block root R := by kernel_rfl
def V3 (a0_0 : LD) (a0_1 : LD) (a0_2 : LD) (a0_3 : Int) (a0_4 : Int) (a1 : LD) (R : Mir.AV → Prop) : Prop :=
 (∃ x0 : Bool,((Runs Fs2 7 [(.agg [(aL a0_0),(aL a0_1),(aL a0_2),(aI a0_3),(aI a0_4)])] [] (aB x0) []) ∧ (sel (Bool.not x0) (∃ x1 : Bool,((Runs Fs2 8 [] [] (aB x1) []) ∧ (R (.n
 (.bool x1))))) ((rn 1) ∧ ((0 : Int) ≤ (mmI false (a1.length : Int) 20)) ∧ (((mmI false (a1.length : Int) 20) : Int) ≤ (a1.length : Int)) ∧ (∃ x2 : LD,(∃ x3 : Int,((Runs Fs2 9
 [(.agg [(aL a0_0),(aL a0_1),(aL a0_2),(aI a0_3),(aI a0_4)])] [] (.tup [(aL x2),(aI x3)]) []) ∧ ((∃ x4 : Nat,(∃ x5 : Int,(∃ x6 : Nat,(∃ x7 : LD,((Runs Fs2 10 [(.agg [(aL a0_0),(aL
 a0_1),(aL a0_2),(aI a0_3),(aI a0_4)])] [] (.tup [(.row 1000600 x4),(aI x5)]) [(1000600,(.row false true x6 3 1 x7))]) ∧ (sel (x3 != x5) (R (.n (.bool false))) (((x6 : Nat) = x4) ∧
 (sel ((x2.length : Int) != (x7.length : Int)) (R (.n (.bool false))) (∃ x8 : Bool,((Runs Fs2 8 [] [] (aB x8) []) ∧ (sel (Bool.not x8) (R (.n (.bool false))) (∃ x9 : (Int → Prop),(∃
 x10 : (Int → Nat),(((rh [(hB 300000 [(aL a0_0),(aL a0_1),(aL a0_2),(aI a0_3),(aI a0_4)]),(350501,(.row false true x6 3 1 x7))]) ∧ (x9 0)) ∧ (∀ x11 : Int,((x9 x11) → (∀ x12 : (Nat →
 Mir.AV),(sel (decide (x11 < (x2.length : Int))) ((rn 1) ∧ ((0 : Int) ≤ x11) ∧ (∃ x13 : Mir.D,((x2[Int.toNat x11]? = some x13) ∧ (∃ x14 : Int,(((D.cells x13)[0]? = some (Mir.D.int
 .i64 x14)) ∧ (((x6 : Nat) = x4) ∧ (rn 1)) ∧ ((0 : Int) ≤ x11) ∧ ((x11 : Int) < (x7.length : Int)) ∧ (((x4 : Nat) = x6) ∧ (rn 1)) ∧ (∃ x15 : Mir.D,((x7[Int.toNat x11]? = some x15) ∧
 (∃ x16 : Int,(((D.cells x15)[0]? = some (Mir.D.int .i64 x16)) ∧ (sel (x14 != x16) (R (.n (.bool false))) ((rq (aL (List.drop 0 (List.take (Int.toNat (mmI false (a1.length : Int)
 20)) a1)))) ∧ (rq (.ptr 300000 0)) ∧ (rq (aL x2)) ∧ (rq (.row 350501 x4)) ∧ (rq (aI (x2.length : Int))) ∧ (rh [(hB 300000 [(aL a0_0),(aL a0_1),(aL a0_2),(aI a0_3),(aI
 a0_4)]),(350501,(.row false true x6 3 1 x7))]) ∧ (x9 (IntKind.wrap .i64 (x11 + 1))) ∧ (((x10 (IntKind.wrap .i64 (x11 + 1))) : Nat) < (x10 x11))))))))))))) (∃ x17 : Int,(∃ x18 :
 Int,(∃ x19 : Int,(∃ x20 : Int,((Runs Fs2 11 [(.agg [(aL a0_0),(aL a0_1),(aL a0_2),(aI a0_3),(aI a0_4)]),(aL (List.drop 0 (List.take (Int.toNat (mmI false (a1.length : Int) 20))
 a1)))] [] (.tup [(.agg [(aI x17),(aI x18),(aI x19)]),(aI x20)]) []) ∧ (∃ x21 : Int,(∃ x22 : Int,(∃ x23 : Int,(∃ x24 : Int,((Runs Fs2 12 [(.agg [(aL a0_0),(aL a0_1),(aL a0_2),(aI
 a0_3),(aI a0_4)]),(aL (List.drop 0 (List.take (Int.toNat (mmI false (a1.length : Int) 20)) a1)))] [] (.tup [(.agg [(aI x21),(aI x22),(aI x23)]),(aI x24)]) []) ∧ (sel ((x17 == x21)
 && ((x18 == x22) && ((x19 == x23) && true))) (R (.n (.bool (x20 == x24)))) (R (.n (.bool false)))))))))))))))))))))))))))))))) ∨ (∃ x25 : LD,(∃ x26 : Int,((Runs Fs2 10 [(.agg [(aL
 a0_0),(aL a0_1),(aL a0_2),(aI a0_3),(aI a0_4)])] [] (.tup [(aL x25),(aI x26)]) []) ∧ (sel (x3 != x26) (R (.n (.bool false))) (sel ((x2.length : Int) != (x25.length : Int)) (R (.n
 (.bool false))) (∃ x27 : Bool,((Runs Fs2 8 [] [] (aB x27) []) ∧ (sel (Bool.not x27) (R (.n (.bool false))) (∃ x28 : (Int → Prop),(∃ x29 : (Int → Nat),(((rh [(hB 300000 [(aL
 a0_0),(aL a0_1),(aL a0_2),(aI a0_3),(aI a0_4)])]) ∧ (x28 0)) ∧ (∀ x30 : Int,((x28 x30) → (∀ x31 : (Nat → Mir.AV),(sel (decide (x30 < (x2.length : Int))) ((rn 1) ∧ ((0 : Int) ≤ x30)
 ∧ (∃ x32 : Mir.D,((x2[Int.toNat x30]? = some x32) ∧ (∃ x33 : Int,(((D.cells x32)[0]? = some (Mir.D.int .i64 x33)) ∧ (rn 1) ∧ ((0 : Int) ≤ x30) ∧ (∃ x34 : Mir.D,((x25[Int.toNat
 x30]? = some x34) ∧ (∃ x35 : Int,(((D.cells x34)[0]? = some (Mir.D.int .i64 x35)) ∧ (sel (x33 != x35) (R (.n (.bool false))) ((rq (aL (List.drop 0 (List.take (Int.toNat (mmI false
 (a1.length : Int) 20)) a1)))) ∧ (rq (.ptr 300000 0)) ∧ (rq (aL x2)) ∧ (rq (aL x25)) ∧ (rq (aI (x2.length : Int))) ∧ (rh [(hB 300000 [(aL a0_0),(aL a0_1),(aL a0_2),(aI a0_3),(aI
 a0_4)])]) ∧ (x28 (IntKind.wrap .i64 (x30 + 1))) ∧ (((x29 (IntKind.wrap .i64 (x30 + 1))) : Nat) < (x29 x30))))))))))))) (∃ x36 : Int,(∃ x37 : Int,(∃ x38 : Int,(∃ x39 : Int,((Runs
 Fs2 11 [(.agg [(aL a0_0),(aL a0_1),(aL a0_2),(aI a0_3),(aI a0_4)]),(aL (List.drop 0 (List.take (Int.toNat (mmI false (a1.length : Int) 20)) a1)))] [] (.tup [(.agg [(aI x36),(aI
 x37),(aI x38)]),(aI x39)]) []) ∧ (∃ x40 : Int,(∃ x41 : Int,(∃ x42 : Int,(∃ x43 : Int,((Runs Fs2 12 [(.agg [(aL a0_0),(aL a0_1),(aL a0_2),(aI a0_3),(aI a0_4)]),(aL (List.drop 0
 (List.take (Int.toNat (mmI false (a1.length : Int) 20)) a1)))] [] (.tup [(.agg [(aI x40),(aI x41),(aI x42)]),(aI x43)]) []) ∧ (sel ((x36 == x40) && ((x37 == x41) && ((x38 == x42)
 && true))) (R (.n (.bool (x39 == x43)))) (R (.n (.bool false)))))))))))))))))))))))))))))))))))))
theorem vc3 (a0_0 : LD) (a0_1 : LD) (a0_2 : LD) (a0_3 : Int) (a0_4 : Int) (a1 : LD) (R : Mir.AV → Prop) : Vc Fs2 c3.body (argsQ c3 [(.agg [(.o (.sl 1 a0_0)), (.o (.sl 1 a0_1)), (.o (.sl 1 a0_2)), (.n (.int .i64 a0_3)), (.n (.int .i64 a0_4))]), (.o (.sl 1 a1))]) [] (endQ c3 R) = V3 a0_0 a0_1 a0_2 a0_3 a0_4 a1 R := by kernel_rfl
end Go.Proofs.YtmmnobdpccdeoaaGreatDoor.M
