import Derived.Test.YtmmnobdpccdeoaaDoorR3L
namespace Go.Proofs.YtmmnobdpccdeoaaDoor.M
set_option linter.unusedVariables false
set_option linter.unusedSimpArgs false
open Go Go.Mir
set_option linter.unusedVariables false
def V34 (a0_0 : LD) (a0_1 : LD) (a0_2 : LD) (a0_3 : Int) (a0_4 : Int) (R : Mir.AV → Prop) : Prop :=
 (sel (decide ((a0_1.length : Int) ≤ 300)) (R (.n (.bool (decide ((a0_2.length : Int) ≤ 300))))) (R (.n (.bool false))))
theorem vc34 (a0_0 : LD) (a0_1 : LD) (a0_2 : LD) (a0_3 : Int) (a0_4 : Int) (R : Mir.AV → Prop) : Vc Fs2 c34.body (argsQ c34 [(.agg [(.o (.sl 1 a0_0)), (.o (.sl 1 a0_1)), (.o (.sl 1 a0_2)), (.n (.int .i64 a0_3)), (.n (.int .i64 a0_4))])]) [] (endQ c34 R) = V34 a0_0 a0_1 a0_2 a0_3 a0_4 R := by kernel_rfl
def V35  (R : Mir.AV → Prop) : Prop :=
 (∃ x0 : LD,(∃ x1 : LD,((Runs Fs2 67 [(aI 24)] [] (.agg [(aL x0),(aL x1)]) []) ∧ ((0 : Int) ≤ 24) ∧ ((((Int.toNat 24) * 16) : Nat) ≤ 140737488355328) ∧ (0 = 0) ∧ (∃ x2 :
 ByteArray,(∃ x3 : Int,((Runs Fs2 36 [(.agg [(aL x0),(aL x1),(aL (List.replicate (Int.toNat 24) (Mir.D.str (ByteArray.mk (List.toArray []))))),(aI 0),(aI 1)]),(aS (ByteArray.mk
 (List.toArray [97])))] [] (.tup [(aS x2),(aI x3)]) []) ∧ (0 = 0) ∧ (∃ x4 : Bool,((Runs Fs2 41 [(.agg [(aL x0),(aL x1),(aL (List.replicate (Int.toNat 24) (Mir.D.str (ByteArray.mk
 (List.toArray []))))),(aI 0),(aI 1)])] [] (aB x4) []) ∧ (sel x4 (R (.n (.bool (x3 == 80)))) (R (.n (.bool false))))))))))))
theorem vc35  (R : Mir.AV → Prop) : Vc Fs2 c35.body (argsQ c35 []) [] (endQ c35 R) = V35  R := by kernel_rfl
def V36 (a0_0 : LD) (a0_1 : LD) (a0_2 : LD) (a0_3 : Int) (a0_4 : Int) (a1 : ByteArray) (R : Mir.AV → Prop) : Prop :=
 (∃ x0 : Bool,((Runs Fs2 41 [(.agg [(aL a0_0),(aL a0_1),(aL a0_2),(aI a0_3),(aI a0_4)])] [] (aB x0) []) ∧ (sel (Bool.not x0) (R (.tup [(.n (.str (ByteArray.mk (List.toArray
 [])))),(.n (.int .i64 1))])) (sel (decide ((((ByteArray.size a1) : Nat) : Int) < 1)) (R (.tup [(.n (.str (ByteArray.mk (List.toArray [])))),(.n (.int .i64 1))])) (sel (decide
 ((((ByteArray.size a1) : Nat) : Int) > 32)) (R (.tup [(.n (.str (ByteArray.mk (List.toArray [])))),(.n (.int .i64 1))])) (sel (a0_3 == 0) (R (.tup [(.n (.str (ByteArray.mk
 (List.toArray [])))),(.n (.int .i64 80))])) (∃ x1 : (Int → (Int → ((LD × (LD × (LD × (Int × (Int × (ByteArray × (Int × (Int × ((Unit) × (ByteArray × (Bool × (Bool ×
 (Unit))))))))))))) → Prop))),(∃ x2 : (Int → (Int → ((LD × (LD × (LD × (Int × (Int × (ByteArray × (Int × (Int × ((Unit) × (ByteArray × (Bool × (Bool × (Unit))))))))))))) →
 Nat))),(((rh [(hB 3600000 [(aL a0_0),(aL a0_1),(aL a0_2),(aI a0_3),(aI a0_4)]),(hB 3600302 [(aL a0_0),(aL a0_1),(aL a0_2),(aI a0_3),(aI a0_4),(aS (ByteArray.mk (List.toArray
 []))),(aI 0),(aI 0),(.n Mir.D.nil),(aS (ByteArray.mk (List.toArray []))),(aB false),(aB false)])]) ∧ (x1 a0_3 0 (a0_0,(a0_1,(a0_2,(a0_3,(a0_4,((ByteArray.mk (List.toArray
 [])),(0,(0,((),((ByteArray.mk (List.toArray [])),(false,(false,())))))))))))))) ∧ (∀ x3 : Int,(∀ x4 : Int,(∀ x5 : (LD × (LD × (LD × (Int × (Int × (ByteArray × (Int × (Int × ((Unit)
 × (ByteArray × (Bool × (Bool × (Unit))))))))))))),((x1 x3 x4 x5) → (∀ x6 : (Nat → Mir.AV),(sel (decide (x4 < 8)) (∃ x7 : Bool,(∃ x8 : LD,(∃ x9 : LD,(∃ x10 : LD,(∃ x11 : Bool,(∃ x12
 : LD,(∃ x13 : LD,(∃ x14 : LD,(∃ x15 : Int,(∃ x16 : Int,(∃ x17 : ByteArray,(∃ x18 : Int,(∃ x19 : Int,(∃ x20 : ByteArray,(∃ x21 : Bool,(∃ x22 : Bool,((Runs Fs2 68 [(.ptr 3600302
 0),(aI x3),(aB (x3 == x5.2.2.2.1))] [(hB 3600302 [(aL x5.1),(aL x5.2.1),(aL x5.2.2.1),(aI x5.2.2.2.1),(aI x5.2.2.2.2.1),(aS x5.2.2.2.2.2.1),(aI x5.2.2.2.2.2.2.1),(aI
 x5.2.2.2.2.2.2.2.1),(.n Mir.D.nil),(aS x5.2.2.2.2.2.2.2.2.2.1),(aB x5.2.2.2.2.2.2.2.2.2.2.1),(aB x5.2.2.2.2.2.2.2.2.2.2.2.1)])] (.tup [(.agg [(aB x7),(aL x8),(aL x9),(aL x10)]),(aB
 x11)]) [(hB 3600302 [(aL x12),(aL x13),(aL x14),(aI x15),(aI x16),(aS x17),(aI x18),(aI x19),(.n Mir.D.nil),(aS x20),(aB x21),(aB x22)])]) ∧ (sel (Bool.not x11) (R (.tup [(.n (.str
 (ByteArray.mk (List.toArray [])))),(.n (.int .i64 81))])) (sel (Bool.not x7) (∃ x23 : Int,((Runs Fs2 69 [(.agg [(aB x7),(aL x8),(aL x9),(aL x10)]),(aS a1)] [] (aI x23) []) ∧ (rn 1)
 ∧ ((0 : Int) ≤ x23) ∧ (∃ x24 : Mir.D,((x10[Int.toNat x23]? = some x24) ∧ (∃ x25 : Int,(((D.cells x24)[0]? = some (Mir.D.int .i64 x25)) ∧ (rq (aS a1)) ∧ (rq (.ptr 3600302 0)) ∧ (rh
 [(hB 3600000 [(aL a0_0),(aL a0_1),(aL a0_2),(aI a0_3),(aI a0_4)]),(hB 3600302 [(aL x12),(aL x13),(aL x14),(aI x15),(aI x16),(aS x17),(aI x18),(aI x19),(.n Mir.D.nil),(aS x20),(aB
 x21),(aB x22)])]) ∧ (x1 x25 (IntKind.wrap .i64 (x4 + 1)) (x12,(x13,(x14,(x15,(x16,(x17,(x18,(x19,((),(x20,(x21,(x22,()))))))))))))) ∧ (((x2 x25 (IntKind.wrap .i64 (x4 + 1))
 (x12,(x13,(x14,(x15,(x16,(x17,(x18,(x19,((),(x20,(x21,(x22,()))))))))))))) : Nat) < (x2 x3 x4 x5)))))))) (∃ x26 : Int,(∃ x27 : Bool,((Runs Fs2 70 [(.agg [(aB x7),(aL x8),(aL
 x9),(aL x10)]),(aS a1)] [] (.tup [(aI x26),(aB x27)]) []) ∧ (sel (Bool.not x27) (R (.tup [(.n (.str (ByteArray.mk (List.toArray [])))),(.n (.int .i64 80))])) ((rn 1) ∧ ((0 : Int) ≤
 x26) ∧ (∃ x28 : Mir.D,((x9[Int.toNat x26]? = some x28) ∧ (∃ x29 : ByteArray,(((D.cells x28)[0]? = some (Mir.D.str x29)) ∧ (R (.tup [(.n (.str x29)),(.n (.int .i64
 0))])))))))))))))))))))))))))))))) (R (.tup [(.n (.str (ByteArray.mk (List.toArray [])))),(.n (.int .i64 81))])))))))))))))))))
theorem vc36 (a0_0 : LD) (a0_1 : LD) (a0_2 : LD) (a0_3 : Int) (a0_4 : Int) (a1 : ByteArray) (R : Mir.AV → Prop) : Vc Fs2 c36.body (argsQ c36 [(.agg [(.o (.sl 1 a0_0)), (.o (.sl 1 a0_1)), (.o (.sl 1 a0_2)), (.n (.int .i64 a0_3)), (.n (.int .i64 a0_4))]), (.n (.str a1))]) [] (endQ c36 R) = V36 a0_0 a0_1 a0_2 a0_3 a0_4 a1 R := by kernel_rfl
def V37 (a0_0 : LD) (a0_1 : LD) (a0_2 : LD) (a0_3 : Int) (a0_4 : Int) (R : Mir.AV → Prop) : Prop :=
 (∃ x0 : Bool,((Runs Fs2 71 [(.agg [(aL a0_0),(aL a0_1)])] [] (aB x0) []) ∧ (sel (Bool.not x0) (R (.n (.bool false))) (sel ((a0_2.length : Int) != (a0_1.length : Int)) (R (.n (.bool
 false))) (sel (decide (a0_4 < 1)) (R (.n (.bool false))) (sel (decide (a0_4 > 1099511627776)) (R (.n (.bool false))) (∃ x1 : (Int → Prop),(∃ x2 : (Int → Nat),(((rh [(hB 3700000
 [(aL a0_0),(aL a0_1),(aL a0_2),(aI a0_3),(aI a0_4)]),(hB 3700107 [(aL a0_0),(aL a0_1)])]) ∧ (x1 0)) ∧ (∀ x3 : Int,((x1 x3) → (∀ x4 : (Nat → Mir.AV),(sel (decide (x3 < (a0_2.length
 : Int))) ((rn 1) ∧ ((0 : Int) ≤ x3) ∧ (∃ x5 : Mir.D,((a0_2[Int.toNat x3]? = some x5) ∧ (∃ x6 : ByteArray,(((D.cells x5)[0]? = some (Mir.D.str x6)) ∧ (sel (decide ((((ByteArray.size
 x6) : Nat) : Int) > 4096)) (R (.n (.bool false))) ((rq (.ptr 3700000 0)) ∧ (rq (aL a0_2)) ∧ (rq (aI (a0_2.length : Int))) ∧ (rh [(hB 3700000 [(aL a0_0),(aL a0_1),(aL a0_2),(aI
 a0_3),(aI a0_4)]),(hB 3700107 [(aL a0_0),(aL a0_1)])]) ∧ (x1 (IntKind.wrap .i64 (x3 + 1))) ∧ (((x2 (IntKind.wrap .i64 (x3 + 1))) : Nat) < (x2 x3))))))))) (sel (a0_3 == 0) (R (.n
 (.bool true))) (sel (decide (a0_3 ≥ 10)) (R (.n (.bool (decide (a0_3 < (a0_1.length : Int)))))) (R (.n (.bool false))))))))))))))))))
theorem vc37 (a0_0 : LD) (a0_1 : LD) (a0_2 : LD) (a0_3 : Int) (a0_4 : Int) (R : Mir.AV → Prop) : Vc Fs2 c37.body (argsQ c37 [(.agg [(.o (.sl 1 a0_0)), (.o (.sl 1 a0_1)), (.o (.sl 1 a0_2)), (.n (.int .i64 a0_3)), (.n (.int .i64 a0_4))])]) [] (endQ c37 R) = V37 a0_0 a0_1 a0_2 a0_3 a0_4 R := by kernel_rfl
def V39 (a0 : LD) (a1 : ByteArray) (R : Mir.AV → Prop) : Prop :=
 (∃ x0 : (Int → Prop),(∃ x1 : (Int → Nat),(((rh []) ∧ (x0 0)) ∧ (∀ x2 : Int,((x0 x2) → (∀ x3 : (Nat → Mir.AV),(sel (decide (x2 < (a0.length : Int))) ((rn 2) ∧ ((0 : Int) ≤ x2) ∧ (∃
 x4 : Mir.D,((a0[Int.toNat x2]? = some x4) ∧ (∃ x5 : ByteArray,(∃ x6 : ByteArray,((@Eq LD (List.take 2 (D.cells x4)) [(Mir.D.str x5),(Mir.D.str x6)]) ∧ ((2 : Nat) ≤ (List.length
 (D.cells x4))) ∧ (sel ((ByteArray.toList x5) == (ByteArray.toList a1)) (R (.tup [(.n (.str x6)),(.n (.int .i64 0))])) ((rq (aS a1)) ∧ (rq (.o (Mir.D.sl 2 a0))) ∧ (rq (aI (a0.length
 : Int))) ∧ (rh []) ∧ (x0 (IntKind.wrap .i64 (x2 + 1))) ∧ (((x1 (IntKind.wrap .i64 (x2 + 1))) : Nat) < (x1 x2)))))))))) (R (.tup [(.n (.str (ByteArray.mk (List.toArray [])))),(.n
 (.int .i64 80))])))))))))
theorem vc39 (a0 : LD) (a1 : ByteArray) (R : Mir.AV → Prop) : Vc Fs2 c39.body (argsQ c39 [(.o (.sl 2 a0)), (.n (.str a1))]) [] (endQ c39 R) = V39 a0 a1 R := by kernel_rfl
def V40 (a0_0 : LD) (a0_1 : LD) (a0_2 : LD) (a0_3 : Int) (a0_4 : Int) (a1 : Int) (a2 : Bool) (R : Mir.AV → Prop) : Prop :=
 (∃ x0 : Bool,((Runs Fs2 41 [(.agg [(aL a0_0),(aL a0_1),(aL a0_2),(aI a0_3),(aI a0_4)])] [] (aB x0) []) ∧ (sel (Bool.not x0) (R (.tup [(.agg [(.n (.bool false)),(.o (.sl 1 [])),(.o
 (.sl 1 [])),(.o (.sl 1 []))]),(.n (.int .i64 1))])) (∃ x1 : Bool,(∃ x2 : LD,(∃ x3 : LD,(∃ x4 : LD,(∃ x5 : Bool,(∃ x6 : LD,(∃ x7 : LD,(∃ x8 : LD,(∃ x9 : Int,(∃ x10 : Int,(∃ x11 :
 ByteArray,(∃ x12 : Int,(∃ x13 : Int,(∃ x14 : ByteArray,(∃ x15 : Bool,(∃ x16 : Bool,((Runs Fs2 68 [(.ptr 4000302 0),(aI a1),(aB a2)] [(hB 4000302 [(aL a0_0),(aL a0_1),(aL a0_2),(aI
 a0_3),(aI a0_4),(aS (ByteArray.mk (List.toArray []))),(aI 0),(aI 0),(.n Mir.D.nil),(aS (ByteArray.mk (List.toArray []))),(aB false),(aB false)])] (.tup [(.agg [(aB x1),(aL x2),(aL
 x3),(aL x4)]),(aB x5)]) [(hB 4000302 [(aL x6),(aL x7),(aL x8),(aI x9),(aI x10),(aS x11),(aI x12),(aI x13),(.n Mir.D.nil),(aS x14),(aB x15),(aB x16)])]) ∧ (sel (Bool.not x5) (R
 (.tup [(.agg [(.n (.bool false)),(.o (.sl 1 [])),(.o (.sl 1 [])),(.o (.sl 1 []))]),(.n (.int .i64 81))])) (R (.tup [(.agg [(.n (.bool x1)),(.o (.sl 1 x2)),(.o (.sl 1 x3)),(.o (.sl
 1 x4))]),(.n (.int .i64 0))])))))))))))))))))))))))
theorem vc40 (a0_0 : LD) (a0_1 : LD) (a0_2 : LD) (a0_3 : Int) (a0_4 : Int) (a1 : Int) (a2 : Bool) (R : Mir.AV → Prop) : Vc Fs2 c40.body (argsQ c40 [(.agg [(.o (.sl 1 a0_0)), (.o (.sl 1 a0_1)), (.o (.sl 1 a0_2)), (.n (.int .i64 a0_3)), (.n (.int .i64 a0_4))]), (.n (.int .i64 a1)), (.n (.bool a2))]) [] (endQ c40 R) = V40 a0_0 a0_1 a0_2 a0_3 a0_4 a1 a2 R := by kernel_rfl
def V41 (a0_0 : LD) (a0_1 : LD) (a0_2 : LD) (a0_3 : Int) (a0_4 : Int) (R : Mir.AV → Prop) : Prop :=
 (∃ x0 : Bool,((Runs Fs2 73 [(.agg [(aL a0_0),(aL a0_1)])] [] (aB x0) []) ∧ (sel (Bool.not x0) (R (.n (.bool false))) (sel ((a0_2.length : Int) != (a0_1.length : Int)) (R (.n (.bool
 false))) (sel (decide (a0_4 < 1)) (R (.n (.bool false))) (sel (decide (a0_4 > 1099511627776)) (R (.n (.bool false))) (sel (a0_3 != 0) (sel (decide (a0_3 < 10)) (R (.n (.bool
 false))) (sel (decide (a0_3 ≥ (a0_1.length : Int))) (R (.n (.bool false))) (∃ x1 : Bool,((Runs Fs2 74 [(aL a0_2),(.fn 75 [])] [] (aB x1) []) ∧ (R (.n (.bool (Bool.not x1)))))))) (∃
 x2 : Bool,((Runs Fs2 74 [(aL a0_2),(.fn 75 [])] [] (aB x2) []) ∧ (R (.n (.bool (Bool.not x2)))))))))))))
theorem vc41 (a0_0 : LD) (a0_1 : LD) (a0_2 : LD) (a0_3 : Int) (a0_4 : Int) (R : Mir.AV → Prop) : Vc Fs2 c41.body (argsQ c41 [(.agg [(.o (.sl 1 a0_0)), (.o (.sl 1 a0_1)), (.o (.sl 1 a0_2)), (.n (.int .i64 a0_3)), (.n (.int .i64 a0_4))])]) [] (endQ c41 R) = V41 a0_0 a0_1 a0_2 a0_3 a0_4 R := by kernel_rfl
def V42 (a0_0 : Bool) (a0_1 : LD) (a0_2 : LD) (a0_3 : LD) (a1_0 : Bool) (a1_1 : LD) (a1_2 : LD) (a1_3 : LD) (R : Mir.AV → Prop) : Prop :=
 (sel (Bool.not (a0_0 == a1_0)) (R (.n (.bool false))) (∃ x0 : Bool,((Runs Fs2 76 [(aL a0_1),(aL a1_1)] [] (aB x0) []) ∧ (sel (Bool.not x0) (R (.n (.bool false))) (∃ x1 :
 Bool,((Runs Fs2 76 [(aL a0_2),(aL a1_2)] [] (aB x1) []) ∧ (sel (Bool.not x1) (R (.n (.bool false))) (sel ((a0_3.length : Int) != (a1_3.length : Int)) (R (.n (.bool false))) (∃ x2 :
 (Int → Prop),(∃ x3 : (Int → Nat),(((rh [(hB 4200000 [(aB a0_0),(aL a0_1),(aL a0_2),(aL a0_3)]),(hB 4200001 [(aB a1_0),(aL a1_1),(aL a1_2),(aL a1_3)])]) ∧ (x2 0)) ∧ (∀ x4 : Int,((x2
 x4) → (∀ x5 : (Nat → Mir.AV),(sel (decide (x4 < (a0_3.length : Int))) ((rn 1) ∧ ((0 : Int) ≤ x4) ∧ (∃ x6 : Mir.D,((a0_3[Int.toNat x4]? = some x6) ∧ (∃ x7 : Int,(((D.cells x6)[0]? =
 some (Mir.D.int .i64 x7)) ∧ (rn 1) ∧ ((0 : Int) ≤ x4) ∧ (∃ x8 : Mir.D,((a1_3[Int.toNat x4]? = some x8) ∧ (∃ x9 : Int,(((D.cells x8)[0]? = some (Mir.D.int .i64 x9)) ∧ (sel (x7 !=
 x9) (R (.n (.bool false))) ((rq (.ptr 4200000 0)) ∧ (rq (.ptr 4200001 0)) ∧ (rq (aI (a0_3.length : Int))) ∧ (rh [(hB 4200000 [(aB a0_0),(aL a0_1),(aL a0_2),(aL a0_3)]),(hB 4200001
 [(aB a1_0),(aL a1_1),(aL a1_2),(aL a1_3)])]) ∧ (x2 (IntKind.wrap .i64 (x4 + 1))) ∧ (((x3 (IntKind.wrap .i64 (x4 + 1))) : Nat) < (x3 x4))))))))))))) (R (.n (.bool
 true))))))))))))))))))
theorem vc42 (a0_0 : Bool) (a0_1 : LD) (a0_2 : LD) (a0_3 : LD) (a1_0 : Bool) (a1_1 : LD) (a1_2 : LD) (a1_3 : LD) (R : Mir.AV → Prop) : Vc Fs2 c42.body (argsQ c42 [(.agg [(.n (.bool a0_0)), (.o (.sl 1 a0_1)), (.o (.sl 1 a0_2)), (.o (.sl 1 a0_3))]), (.agg [(.n (.bool a1_0)), (.o (.sl 1 a1_1)), (.o (.sl 1 a1_2)), (.o (.sl 1 a1_3))])]) [] (endQ c42 R) = V42 a0_0 a0_1 a0_2 a0_3 a1_0 a1_1 a1_2 a1_3 R := by kernel_rfl
def V43 (a0_0 : LD) (a0_1 : LD) (a0_2 : LD) (a0_3 : Int) (a0_4 : Int) (a1 : Int) (a2 : Bool) (R : Mir.AV → Prop) : Prop :=
 (sel (decide (a1 < 10)) (R (.tup [(.agg [(.n (.bool false)),(.o (.sl 1 [])),(.o (.sl 1 [])),(.o (.sl 1 []))]),(.n (.bool false))])) (sel (decide (a1 ≥ (a0_1.length : Int))) (R
 (.tup [(.agg [(.n (.bool false)),(.o (.sl 1 [])),(.o (.sl 1 [])),(.o (.sl 1 []))]),(.n (.bool false))])) (sel (decide (a1 ≥ (a0_2.length : Int))) (R (.tup [(.agg [(.n (.bool
 false)),(.o (.sl 1 [])),(.o (.sl 1 [])),(.o (.sl 1 []))]),(.n (.bool false))])) ((rn 1) ∧ ((0 : Int) ≤ a1) ∧ (∃ x0 : Mir.D,((a0_1[Int.toNat a1]? = some x0) ∧ (∃ x1 :
 Bool,(((D.cells x0)[0]? = some (Mir.D.bool x1)) ∧ (sel (Bool.not x1) (R (.tup [(.agg [(.n (.bool false)),(.o (.sl 1 [])),(.o (.sl 1 [])),(.o (.sl 1 []))]),(.n (.bool false))]))
 ((rn 1) ∧ ((0 : Int) ≤ a1) ∧ (∃ x2 : Mir.D,((a0_2[Int.toNat a1]? = some x2) ∧ (∃ x3 : ByteArray,(((D.cells x2)[0]? = some (Mir.D.str x3)) ∧ (∃ x4 : Int,(∃ x5 : Int,(∃ x6 :
 ByteArray,(∃ x7 : Int,((Runs Fs2 49 [(aS x3)] [] (.tup [(.agg [(aI x4),(aI x5),(aS x6)]),(aI x7)]) []) ∧ (sel (x7 != 0) (R (.tup [(.agg [(.n (.bool false)),(.o (.sl 1 [])),(.o (.sl
 1 [])),(.o (.sl 1 []))]),(.n (.bool false))])) (sel (decide (x5 > a0_4)) (R (.tup [(.agg [(.n (.bool false)),(.o (.sl 1 [])),(.o (.sl 1 [])),(.o (.sl 1 []))]),(.n (.bool false))]))
 (∃ x8 : Bool,(∃ x9 : LD,(∃ x10 : LD,(∃ x11 : LD,(∃ x12 : Int,((Runs Fs2 77 [(aI x4),(aS x6)] [] (.tup [(.agg [(aB x8),(aL x9),(aL x10),(aL x11)]),(aI x12)]) []) ∧ (sel (x12 != 0)
 (R (.tup [(.agg [(.n (.bool false)),(.o (.sl 1 [])),(.o (.sl 1 [])),(.o (.sl 1 []))]),(.n (.bool false))])) (∃ x13 : Bool,((Runs Fs2 78 [(.agg [(aB x8),(aL x9),(aL x10),(aL
 x11)]),(aB a2)] [] (aB x13) []) ∧ (sel (Bool.not x13) (R (.tup [(.agg [(.n (.bool false)),(.o (.sl 1 [])),(.o (.sl 1 [])),(.o (.sl 1 []))]),(.n (.bool false))])) (R (.tup [(.agg
 [(.n (.bool x8)),(.o (.sl 1 x9)),(.o (.sl 1 x10)),(.o (.sl 1 x11))]),(.n (.bool true))])))))))))))))))))))))))))))))))))
theorem vc43 (a0_0 : LD) (a0_1 : LD) (a0_2 : LD) (a0_3 : Int) (a0_4 : Int) (a1 : Int) (a2 : Bool) (R : Mir.AV → Prop) : Vc Fs2 c43.body (argsQ c43 [(.agg [(.o (.sl 1 a0_0)), (.o (.sl 1 a0_1)), (.o (.sl 1 a0_2)), (.n (.int .i64 a0_3)), (.n (.int .i64 a0_4))]), (.n (.int .i64 a1)), (.n (.bool a2))]) [] (endQ c43 R) = V43 a0_0 a0_1 a0_2 a0_3 a0_4 a1 a2 R := by kernel_rfl
def V44 (a0_0 : LD) (a0_1 : LD) (a0_2 : LD) (a0_3 : Int) (a0_4 : Int) (R : Mir.AV → Prop) : Prop :=
 (sel (decide ((a0_1.length : Int) ≤ 300)) (R (.n (.bool (decide ((a0_2.length : Int) ≤ 300))))) (R (.n (.bool false))))
theorem vc44 (a0_0 : LD) (a0_1 : LD) (a0_2 : LD) (a0_3 : Int) (a0_4 : Int) (R : Mir.AV → Prop) : Vc Fs2 c44.body (argsQ c44 [(.agg [(.o (.sl 1 a0_0)), (.o (.sl 1 a0_1)), (.o (.sl 1 a0_2)), (.n (.int .i64 a0_3)), (.n (.int .i64 a0_4))])]) [] (endQ c44 R) = V44 a0_0 a0_1 a0_2 a0_3 a0_4 R := by kernel_rfl
def V45  (R : Mir.AV → Prop) : Prop :=
 (∃ x0 : LD,(∃ x1 : LD,((Runs Fs2 67 [(aI 24)] [] (.agg [(aL x0),(aL x1)]) []) ∧ ((0 : Int) ≤ 24) ∧ ((((Int.toNat 24) * 16) : Nat) ≤ 140737488355328) ∧ (0 = 0) ∧ (∃ x2 : Int,(∃ x3 :
 Int,(∃ x4 : Int,(∃ x5 : Int,((Runs Fs2 46 [(.agg [(aL x0),(aL x1),(aL (List.replicate (Int.toNat 24) (Mir.D.str (ByteArray.mk (List.toArray []))))),(aI 0),(aI 1)]),(aL [])] []
 (.tup [(.agg [(aI x2),(aI x3),(aI x4)]),(aI x5)]) []) ∧ (∃ x6 : Int,(∃ x7 : Int,(∃ x8 : Int,(∃ x9 : Int,((Runs Fs2 46 [(.agg [(aL []),(aL []),(aL []),(aI 0),(aI 0)]),(aL [])] []
 (.tup [(.agg [(aI x6),(aI x7),(aI x8)]),(aI x9)]) []) ∧ (sel (x5 == 0) (R (.n (.bool (x9 == 1)))) (R (.n (.bool false)))))))))))))))))
theorem vc45  (R : Mir.AV → Prop) : Vc Fs2 c45.body (argsQ c45 []) [] (endQ c45 R) = V45  R := by kernel_rfl
def V46 (a0_0 : LD) (a0_1 : LD) (a0_2 : LD) (a0_3 : Int) (a0_4 : Int) (a1 : LD) (R : Mir.AV → Prop) : Prop :=
 ((∃ x0 : Unit,(∃ x1 : Int,(∃ x2 : LD,(∃ x3 : LD,(∃ x4 : LD,(∃ x5 : Int,(∃ x6 : Int,(∃ x7 : Int,(∃ x8 : Int,(∃ x9 : Int,(∃ x10 : Nat,(∃ x11 : Bool,(∃ x12 : Nat,(∃ x13 : LD,((Runs
 Fs2 79 [(.agg [(aL a0_0),(aL a0_1),(aL a0_2),(aI a0_3),(aI a0_4)])] [] (.tup [(.ptr 7900307 0),(aI x1)]) [(hR 7900305 x12 4 1 x13),(hB 7900307 [(aL x2),(aL x3),(aL x4),(aI x5),(aI
 x6),(aI x7),(aI x8),(aI x9),(.row 7900305 x10),(aB x11)])]) ∧ (sel (x1 != 0) (R (.tup [(.agg [(.n (.int .i64 0)),(.n (.int .i64 0)),(.n (.int .i64 0))]),(.n (.int .i64 x1))])) (∃
 x14 : (Int → ((Int × (Int × (Int × (Unit)))) → ((Nat × LD) → Prop))),(∃ x15 : (Int → ((Int × (Int × (Int × (Unit)))) → ((Nat × LD) → Nat))),(((rh [(hB 4600000 [(aL a0_0),(aL
 a0_1),(aL a0_2),(aI a0_3),(aI a0_4)]),(hB 4600001 [(aI 0),(aI 0),(aI 0)]),(hR 4650101 x12 4 1 x13),(hB 4660101 [(aL x2),(aL x3),(aL x4),(aI x5),(aI x6),(aI x7),(aI x8),(aI
 x9),(.row 4650101 x10),(aB x11)])]) ∧ (x14 0 (0,(0,(0,()))) (x12,x13))) ∧ (∀ x16 : Int,(∀ x17 : (Int × (Int × (Int × (Unit)))),(∀ x18 : (Nat × LD),((x14 x16 x17 x18) → (∀ x19 :
 (Nat → Mir.AV),(sel (decide (x16 < (a1.length : Int))) ((rn 1) ∧ ((0 : Int) ≤ x16) ∧ (∃ x20 : Mir.D,((a1[Int.toNat x16]? = some x20) ∧ (∃ x21 : Int,(((D.cells x20)[0]? = some
 (Mir.D.int .i64 x21)) ∧ (sel (decide (x21 < 10)) (R (.tup [(.agg [(.n (.int .i64 0)),(.n (.int .i64 0)),(.n (.int .i64 0))]),(.n (.int .i64 81))])) ((((Prod.fst x18) : Nat) = x10)
 ∧ (sel (decide (x21 ≥ ((Prod.snd x18).length : Int))) (R (.tup [(.agg [(.n (.int .i64 0)),(.n (.int .i64 0)),(.n (.int .i64 0))]),(.n (.int .i64 81))])) (((((Prod.fst x18) : Nat) =
 x10) ∧ (rn 1)) ∧ ((0 : Int) ≤ x21) ∧ ((x21 : Int) < ((Prod.snd x18).length : Int)) ∧ (((x10 : Nat) = (Prod.fst x18)) ∧ (rn 1)) ∧ (∃ x22 : Mir.D,(((Prod.snd x18)[Int.toNat x21]? =
 some x22) ∧ (∃ x23 : Bool,(((D.cells x22)[0]? = some (Mir.D.bool x23)) ∧ (sel x23 (R (.tup [(.agg [(.n (.int .i64 0)),(.n (.int .i64 0)),(.n (.int .i64 0))]),(.n (.int .i64 81))]))
 (((((Prod.fst x18) : Nat) = x10) ∧ (rn 1)) ∧ ((0 : Int) ≤ x21) ∧ ((x21 : Int) < ((Prod.snd x18).length : Int)) ∧ (((((x10 : Nat) = (Prod.fst x18)) ∧ (rn 0)) ∧ (rn 1)) ∧ (rn 1)) ∧
 (((Int.toNat x21) : Nat) < (List.length (Prod.snd x18))) ∧ (rq (.ptr 4600001 0)) ∧ (rq (.ptr 4660101 0)) ∧ (rq (aL a1)) ∧ (rq (aI (a1.length : Int))) ∧ (rh [(hB 4600000 [(aL
 a0_0),(aL a0_1),(aL a0_2),(aI a0_3),(aI a0_4)]),(hB 4600001 [(aI x17.1),(aI x17.2.1),(aI x17.2.2.1)]),(hR 4650101 (Prod.fst x18) 4 1 (List.set (Prod.snd x18) (Int.toNat x21)
 (Mir.D.bool true))),(hB 4660101 [(aL x2),(aL x3),(aL x4),(aI x5),(aI x6),(aI x7),(aI x8),(aI x9),(.row 4650101 x10),(aB x11)])]) ∧ (x14 (IntKind.wrap .i64 (x16 + 1))
 (x17.1,(x17.2.1,(x17.2.2.1,()))) ((Prod.fst x18),(List.set (Prod.snd x18) (Int.toNat x21) (Mir.D.bool true)))) ∧ (((x15 (IntKind.wrap .i64 (x16 + 1))
 (x17.1,(x17.2.1,(x17.2.2.1,()))) ((Prod.fst x18),(List.set (Prod.snd x18) (Int.toNat x21) (Mir.D.bool true)))) : Nat) < (x15 x16 x17 x18))))))))))))))))) (∃ x24 : (Int → ((Int ×
 (Int × (Int × (Unit)))) → Prop)),(∃ x25 : (Int → ((Int × (Int × (Int × (Unit)))) → Nat)),(((rh [(hB 4600000 [(aL a0_0),(aL a0_1),(aL a0_2),(aI a0_3),(aI a0_4)]),(hB 4600001 [(aI
 x17.1),(aI x17.2.1),(aI x17.2.2.1)]),(hR 4650101 (Prod.fst x18) 4 1 (Prod.snd x18)),(hB 4660101 [(aL x2),(aL x3),(aL x4),(aI x5),(aI x6),(aI x7),(aI x8),(aI x9),(.row 4650101
 x10),(aB x11)])]) ∧ (x24 0 (x17.1,(x17.2.1,(x17.2.2.1,()))))) ∧ (∀ x26 : Int,(∀ x27 : (Int × (Int × (Int × (Unit)))),((x24 x26 x27) → (∀ x28 : (Nat → Mir.AV),(sel (decide (x26 <
 (x3.length : Int))) ((rn 1) ∧ ((0 : Int) ≤ x26) ∧ (∃ x29 : Mir.D,((x3[Int.toNat x26]? = some x29) ∧ (∃ x30 : Bool,(((D.cells x29)[0]? = some (Mir.D.bool x30)) ∧ (sel (decide (x26 <
 10)) (sel (Bool.not (x30 == true)) (R (.tup [(.agg [(.n (.int .i64 0)),(.n (.int .i64 0)),(.n (.int .i64 0))]),(.n (.int .i64 81))])) ((rq (.ptr 4600001 0)) ∧ (rq (.ptr 4660101 0))
 ∧ (rq (aL x3)) ∧ (rq (aI (x3.length : Int))) ∧ (rh [(hB 4600000 [(aL a0_0),(aL a0_1),(aL a0_2),(aI a0_3),(aI a0_4)]),(hB 4600001 [(aI x27.1),(aI x27.2.1),(aI x27.2.2.1)]),(hR
 4650101 (Prod.fst x18) 4 1 (Prod.snd x18)),(hB 4660101 [(aL x2),(aL x3),(aL x4),(aI x5),(aI x6),(aI x7),(aI x8),(aI x9),(.row 4650101 x10),(aB x11)])]) ∧ (x24 (IntKind.wrap .i64
 (x26 + 1)) (x27.1,(x27.2.1,(x27.2.2.1,())))) ∧ (((x25 (IntKind.wrap .i64 (x26 + 1)) (x27.1,(x27.2.1,(x27.2.2.1,())))) : Nat) < (x25 x26 x27)))) (((((Prod.fst x18) : Nat) = x10) ∧
 (rn 1)) ∧ ((0 : Int) ≤ x26) ∧ ((x26 : Int) < ((Prod.snd x18).length : Int)) ∧ (((x10 : Nat) = (Prod.fst x18)) ∧ (rn 1)) ∧ (∃ x31 : Mir.D,(((Prod.snd x18)[Int.toNat x26]? = some
 x31) ∧ (∃ x32 : Bool,(((D.cells x31)[0]? = some (Mir.D.bool x32)) ∧ (sel (Bool.not (x30 == x32)) (R (.tup [(.agg [(.n (.int .i64 0)),(.n (.int .i64 0)),(.n (.int .i64 0))]),(.n
 (.int .i64 81))])) ((rq (.ptr 4600001 0)) ∧ (rq (.ptr 4660101 0)) ∧ (rq (aL x3)) ∧ (rq (aI (x3.length : Int))) ∧ (rh [(hB 4600000 [(aL a0_0),(aL a0_1),(aL a0_2),(aI a0_3),(aI
 a0_4)]),(hB 4600001 [(aI x27.1),(aI x27.2.1),(aI x27.2.2.1)]),(hR 4650101 (Prod.fst x18) 4 1 (Prod.snd x18)),(hB 4660101 [(aL x2),(aL x3),(aL x4),(aI x5),(aI x6),(aI x7),(aI
 x8),(aI x9),(.row 4650101 x10),(aB x11)])]) ∧ (x24 (IntKind.wrap .i64 (x26 + 1)) (x27.1,(x27.2.1,(x27.2.2.1,())))) ∧ (((x25 (IntKind.wrap .i64 (x26 + 1))
 (x27.1,(x27.2.1,(x27.2.2.1,())))) : Nat) < (x25 x26 x27))))))))))))))) (R (.tup [(.agg [(.n (.int .i64 x7)),(.n (.int .i64 x8)),(.n (.int .i64 x9))]),(.n (.int .i64
 0))]))))))))))))))))))))))))))))))))))) ∨ (∃ x33 : Unit,(∃ x34 : Int,((Runs Fs2 79 [(.agg [(aL a0_0),(aL a0_1),(aL a0_2),(aI a0_3),(aI a0_4)])] [] (.tup [.nilp,(aI x34)]) []) ∧
 (sel (x34 != 0) (R (.tup [(.agg [(.n (.int .i64 0)),(.n (.int .i64 0)),(.n (.int .i64 0))]),(.n (.int .i64 x34))])) (∃ x35 : (Int → ((Int × (Int × (Int × (Unit)))) → ((Nat × LD) →
 Prop))),(∃ x36 : (Int → ((Int × (Int × (Int × (Unit)))) → ((Nat × LD) → Nat))),(False ∧ (∀ x37 : Int,(∀ x38 : (Int × (Int × (Int × (Unit)))),(∀ x39 : (Nat × LD),((x35 x37 x38 x39)
 → (∀ x40 : (Nat → Mir.AV),(sel (decide (x37 < (a1.length : Int))) ((rn 1) ∧ ((0 : Int) ≤ x37) ∧ (∃ x41 : Mir.D,((a1[Int.toNat x37]? = some x41) ∧ (∃ x42 : Int,(((D.cells x41)[0]? =
 some (Mir.D.int .i64 x42)) ∧ (sel (decide (x42 < 10)) (R (.tup [(.agg [(.n (.int .i64 0)),(.n (.int .i64 0)),(.n (.int .i64 0))]),(.n (.int .i64 81))])) False))))))
 False))))))))))))))
theorem vc46 (a0_0 : LD) (a0_1 : LD) (a0_2 : LD) (a0_3 : Int) (a0_4 : Int) (a1 : LD) (R : Mir.AV → Prop) : Vc Fs2 c46.body (argsQ c46 [(.agg [(.o (.sl 1 a0_0)), (.o (.sl 1 a0_1)), (.o (.sl 1 a0_2)), (.n (.int .i64 a0_3)), (.n (.int .i64 a0_4))]), (.o (.sl 1 a1))]) [] (endQ c46 R) = V46 a0_0 a0_1 a0_2 a0_3 a0_4 a1 R := by kernel_rfl
def V67 (a0 : Int) (R : Mir.AV → Prop) : Prop :=
 (∃ x0 : (Int → ((Nat × (Nat × (Unit))) → ((Nat × LD) → ((Nat × LD) → Prop)))),(∃ x1 : (Int → ((Nat × (Nat × (Unit))) → ((Nat × LD) → ((Nat × LD) → Nat)))),(((rh [(hB 6700000 [(.n
 Mir.D.nil),(.n Mir.D.nil)]),(hB 6700101 [(.row 6700505 0),(.row 6700605 0)]),(6700505,(.row false true 0 4 1 [])),(6700605,(.row false true 0 4 1 []))]) ∧ (x0 0 (0,(0,())) (0,[])
 (0,[]))) ∧ (∀ x2 : Int,(∀ x3 : (Nat × (Nat × (Unit))),(∀ x4 : (Nat × LD),(∀ x5 : (Nat × LD),((x0 x2 x3 x4 x5) → (∀ x6 : (Nat → Mir.AV),(sel (decide (x2 < a0)) ((rn 0) ∧ ((rn 1) ∨
 (@Eq LD [(Mir.D.bool (decide (x2 < 10)))] [])) ∧ (((((Prod.fst x4) : Nat) = x3.1) ∧ (rn 4)) ∧ (rn 1)) ∧ (((((List.length (Prod.snd x4)) + (List.length [(Mir.D.bool (decide (x2 <
 10)))])) * 1) : Nat) ≤ 140737488355328) ∧ (rn 0) ∧ ((rn 1) ∨ (@Eq LD [(Mir.D.bool (decide (x2 < 10)))] [])) ∧ (((((Prod.fst x5) : Nat) = x3.2.1) ∧ (rn 4)) ∧ (rn 1)) ∧
 (((((List.length (Prod.snd x5)) + (List.length [(Mir.D.bool (decide (x2 < 10)))])) * 1) : Nat) ≤ 140737488355328) ∧ (rq (aI a0)) ∧ (rq (.ptr 6700000 0)) ∧ (rq (.ptr 6700101 0)) ∧
 (rh [(hB 6700000 [(.n Mir.D.nil),(.n Mir.D.nil)]),(hB 6700101 [(.row 6700505 (x3.1 + 1)),(.row 6700605 (x3.2.1 + 1))]),(6700505,(.row false true (x3.1 + 1) 4 1 ((Prod.snd x4) ++
 [(Mir.D.bool (decide (x2 < 10)))]))),(6700605,(.row false true (x3.2.1 + 1) 4 1 ((Prod.snd x5) ++ [(Mir.D.bool (decide (x2 < 10)))])))]) ∧ (x0 (IntKind.wrap .i64 (x2 + 1)) ((x3.1 +
 1),((x3.2.1 + 1),())) ((x3.1 + 1),((Prod.snd x4) ++ [(Mir.D.bool (decide (x2 < 10)))])) ((x3.2.1 + 1),((Prod.snd x5) ++ [(Mir.D.bool (decide (x2 < 10)))]))) ∧ (((x1 (IntKind.wrap
 .i64 (x2 + 1)) ((x3.1 + 1),((x3.2.1 + 1),())) ((x3.1 + 1),((Prod.snd x4) ++ [(Mir.D.bool (decide (x2 < 10)))])) ((x3.2.1 + 1),((Prod.snd x5) ++ [(Mir.D.bool (decide (x2 < 10)))])))
 : Nat) < (x1 x2 x3 x4 x5))) (((Prod.fst x4) = x3.1) ∧ ((Prod.fst x5) = x3.2.1) ∧ (R (.agg [(.o (.sl 1 (Prod.snd x4))),(.o (.sl 1 (Prod.snd x5)))])))))))))))))
theorem vc67 (a0 : Int) (R : Mir.AV → Prop) : Vc Fs2 c67.body (argsQ c67 [(.n (.int .i64 a0))]) [] (endQ c67 R) = V67 a0 R := by kernel_rfl
def V69 (a0_0 : Bool) (a0_1 : LD) (a0_2 : LD) (a0_3 : LD) (a1 : ByteArray) (R : Mir.AV → Prop) : Prop :=
 (sel a0_0 (R (.n (.int .i64 0))) (∃ x0 : Int,(∃ x1 : Bool,((Runs Fs2 70 [(.agg [(aB a0_0),(aL a0_1),(aL a0_2),(aL a0_3)]),(aS a1)] [] (.tup [(aI x0),(aB x1)]) []) ∧ (sel x1 (R (.n
 (.int .i64 (IntKind.wrap .i64 (x0 + 1))))) (R (.n (.int .i64 x0))))))))
theorem vc69 (a0_0 : Bool) (a0_1 : LD) (a0_2 : LD) (a0_3 : LD) (a1 : ByteArray) (R : Mir.AV → Prop) : Vc Fs2 c69.body (argsQ c69 [(.agg [(.n (.bool a0_0)), (.o (.sl 1 a0_1)), (.o (.sl 1 a0_2)), (.o (.sl 1 a0_3))]), (.n (.str a1))]) [] (endQ c69 R) = V69 a0_0 a0_1 a0_2 a0_3 a1 R := by kernel_rfl
def V70 (a0_0 : Bool) (a0_1 : LD) (a0_2 : LD) (a0_3 : LD) (a1 : ByteArray) (R : Mir.AV → Prop) : Prop :=
 (∃ x0 : Bool,((Runs Fs2 101 [(.agg [(aB a0_0),(aL a0_1),(aL a0_2),(aL a0_3)])] [] (aB x0) []) ∧ (sel (Bool.not x0) (R (.tup [(.n (.int .i64 0)),(.n (.bool false))])) (∃ x1 :
 Int,((Runs Fs2 102 [(aL a0_1),(aS a1)] [] (aI x1) []) ∧ (sel (decide (x1 < (a0_1.length : Int))) ((rn 1) ∧ ((0 : Int) ≤ x1) ∧ (∃ x2 : Mir.D,((a0_1[Int.toNat x1]? = some x2) ∧ (∃ x3
 : ByteArray,(((D.cells x2)[0]? = some (Mir.D.str x3)) ∧ (R (.tup [(.n (.int .i64 x1)),(.n (.bool ((ByteArray.toList x3) == (ByteArray.toList a1))))]))))))) (R (.tup [(.n (.int .i64
 x1)),(.n (.bool false))]))))))))
theorem vc70 (a0_0 : Bool) (a0_1 : LD) (a0_2 : LD) (a0_3 : LD) (a1 : ByteArray) (R : Mir.AV → Prop) : Vc Fs2 c70.body (argsQ c70 [(.agg [(.n (.bool a0_0)), (.o (.sl 1 a0_1)), (.o (.sl 1 a0_2)), (.o (.sl 1 a0_3))]), (.n (.str a1))]) [] (endQ c70 R) = V70 a0_0 a0_1 a0_2 a0_3 a1 R := by kernel_rfl
def V71 (a0_0 : LD) (a0_1 : LD) (R : Mir.AV → Prop) : Prop :=
 (sel ((a0_0.length : Int) != (a0_1.length : Int)) (R (.n (.bool false))) (sel (decide ((a0_1.length : Int) < 24)) (R (.n (.bool false))) (sel (decide ((a0_1.length : Int) > 2048))
 (R (.n (.bool false))) (∃ x0 : (Int → Prop),(∃ x1 : (Int → Nat),(((rh [(hB 7100000 [(aL a0_0),(aL a0_1)])]) ∧ (x0 0)) ∧ (∀ x2 : Int,((x0 x2) → (∀ x3 : (Nat → Mir.AV),(sel (decide
 (x2 < 10)) ((rn 1) ∧ ((0 : Int) ≤ x2) ∧ (∃ x4 : Mir.D,((a0_0[Int.toNat x2]? = some x4) ∧ (∃ x5 : Bool,(((D.cells x4)[0]? = some (Mir.D.bool x5)) ∧ (sel (Bool.not x5) (R (.n (.bool
 false))) ((rn 1) ∧ ((0 : Int) ≤ x2) ∧ (∃ x6 : Mir.D,((a0_1[Int.toNat x2]? = some x6) ∧ (∃ x7 : Bool,(((D.cells x6)[0]? = some (Mir.D.bool x7)) ∧ (sel (Bool.not x7) (R (.n (.bool
 false))) ((rq (.ptr 7100000 0)) ∧ (rh [(hB 7100000 [(aL a0_0),(aL a0_1)])]) ∧ (x0 (IntKind.wrap .i64 (x2 + 1))) ∧ (((x1 (IntKind.wrap .i64 (x2 + 1))) : Nat) < (x1 x2)))))))))))))))
 (R (.n (.bool true)))))))))))))
theorem vc71 (a0_0 : LD) (a0_1 : LD) (R : Mir.AV → Prop) : Vc Fs2 c71.body (argsQ c71 [(.agg [(.o (.sl 1 a0_0)), (.o (.sl 1 a0_1))])]) [] (endQ c71 R) = V71 a0_0 a0_1 R := by kernel_rfl
def V73 (a0_0 : LD) (a0_1 : LD) (R : Mir.AV → Prop) : Prop :=
 (sel ((a0_0.length : Int) != (a0_1.length : Int)) (R (.n (.bool false))) (sel (decide ((a0_1.length : Int) < 24)) (R (.n (.bool false))) (sel (decide ((a0_1.length : Int) > 2048))
 (R (.n (.bool false))) ((rn 1) ∧ ((0 : Int) ≤ 10) ∧ ((10 : Int) ≤ (a0_0.length : Int)) ∧ (rn 1) ∧ ((0 : Int) ≤ 10) ∧ ((10 : Int) ≤ (a0_1.length : Int)) ∧ (0 = 0) ∧ (∃ x0 :
 Int,((Runs Fs2 104 [(aL [(Mir.D.sl 1 (List.drop 0 (List.take (Int.toNat 10) a0_0))),(Mir.D.sl 1 (List.drop 0 (List.take (Int.toNat 10) a0_1)))])] [] (aI x0) []) ∧ (R (.n (.bool (x0
 == 10))))))))))
theorem vc73 (a0_0 : LD) (a0_1 : LD) (R : Mir.AV → Prop) : Vc Fs2 c73.body (argsQ c73 [(.agg [(.o (.sl 1 a0_0)), (.o (.sl 1 a0_1))])]) [] (endQ c73 R) = V73 a0_0 a0_1 R := by kernel_rfl
def V76 (a0 : LD) (a1 : LD) (R : Mir.AV → Prop) : Prop :=
 (sel ((a0.length : Int) != (a1.length : Int)) (R (.n (.bool false))) (∃ x0 : (Int → Prop),(∃ x1 : (Int → Nat),(((rh []) ∧ (x0 0)) ∧ (∀ x2 : Int,((x0 x2) → (∀ x3 : (Nat →
 Mir.AV),(sel (decide (x2 < (a0.length : Int))) ((rn 1) ∧ ((0 : Int) ≤ x2) ∧ (∃ x4 : Mir.D,((a0[Int.toNat x2]? = some x4) ∧ (∃ x5 : ByteArray,(((D.cells x4)[0]? = some (Mir.D.str
 x5)) ∧ (rn 1) ∧ ((0 : Int) ≤ x2) ∧ (∃ x6 : Mir.D,((a1[Int.toNat x2]? = some x6) ∧ (∃ x7 : ByteArray,(((D.cells x6)[0]? = some (Mir.D.str x7)) ∧ (sel (Bool.not ((ByteArray.toList
 x5) == (ByteArray.toList x7))) (R (.n (.bool false))) ((rq (aL a0)) ∧ (rq (aL a1)) ∧ (rq (aI (a0.length : Int))) ∧ (rh []) ∧ (x0 (IntKind.wrap .i64 (x2 + 1))) ∧ (((x1 (IntKind.wrap
 .i64 (x2 + 1))) : Nat) < (x1 x2))))))))))))) (R (.n (.bool true)))))))))))
theorem vc76 (a0 : LD) (a1 : LD) (R : Mir.AV → Prop) : Vc Fs2 c76.body (argsQ c76 [(.o (.sl 1 a0)), (.o (.sl 1 a1))]) [] (endQ c76 R) = V76 a0 a1 R := by kernel_rfl
def V77 (a0 : Int) (a1 : ByteArray) (R : Mir.AV → Prop) : Prop :=
 (sel (a0 != 1) (sel (a0 != 2) (R (.tup [(.agg [(.n (.bool false)),(.o (.sl 1 [])),(.o (.sl 1 [])),(.o (.sl 1 []))]),(.n (.int .i64 81))])) (∃ x0 : Int,(∃ x1 : Int,(∃ x2 :
 Int,((Runs Fs2 84 [(aS a1),(aI 0),(aI 1)] [] (.tup [(aI x0),(aI x1),(aI x2)]) []) ∧ (∃ x3 : (Int → (Int → ((Bool × ((Unit) × ((Unit) × ((Unit) × (Unit))))) → ((Bool × (Nat × (Nat ×
 (Nat × (Unit))))) → ((Nat × LD) → ((Nat × LD) → ((Nat × LD) → Prop))))))),(∃ x4 : (Int → (Int → ((Bool × ((Unit) × ((Unit) × ((Unit) × (Unit))))) → ((Bool × (Nat × (Nat × (Nat ×
 (Unit))))) → ((Nat × LD) → ((Nat × LD) → ((Nat × LD) → Nat))))))),(((rh [(hB 7700000 [(aB false),(.n Mir.D.nil),(.n Mir.D.nil),(.n Mir.D.nil)]),(hB 7700303 [(aB (a0 == 1)),(.row
 7701704 0),(.row 7702304 0),(.row 7701204 0)]),(7701204,(.row false true 0 3 1 [])),(7701704,(.row false true 0 9 1 [])),(7702304,(.row false true 0 9 1 []))]) ∧ (x3 x1 0
 (false,((),((),((),())))) ((a0 == 1),(0,(0,(0,())))) (0,[]) (0,[]) (0,[]))) ∧ (∀ x5 : Int,(∀ x6 : Int,(∀ x7 : (Bool × ((Unit) × ((Unit) × ((Unit) × (Unit))))),(∀ x8 : (Bool × (Nat
 × (Nat × (Nat × (Unit))))),(∀ x9 : (Nat × LD),(∀ x10 : (Nat × LD),(∀ x11 : (Nat × LD),((x3 x5 x6 x7 x8 x9 x10 x11) → (∀ x12 : (Nat → Mir.AV),(sel (decide (x6 < x0)) (sel (x2 == 0)
 (sel (a0 == 2) (∃ x13 : Int,(∃ x14 : Int,(∃ x15 : Int,((Runs Fs2 84 [(aS a1),(aI x5),(aI 2)] [] (.tup [(aI x13),(aI x14),(aI x15)]) []) ∧ (sel (x15 != 0) (R (.tup [(.agg [(.n
 (.bool false)),(.o (.sl 1 [])),(.o (.sl 1 [])),(.o (.sl 1 []))]),(.n (.int .i64 x15))])) ((rn 0) ∧ ((rn 1) ∨ (@Eq LD [(Mir.D.int .i64 x13)] [])) ∧ (((((Prod.fst x11) : Nat) =
 x8.2.2.2.1) ∧ (rn 3)) ∧ (rn 1)) ∧ (((((List.length (Prod.snd x11)) + (List.length [(Mir.D.int .i64 x13)])) * 8) : Nat) ≤ 140737488355328) ∧ (∃ x16 : ByteArray,(∃ x17 : Int,(∃ x18 :
 Int,((Runs Fs2 106 [(aS a1),(aI x14)] [] (.tup [(aS x16),(aI x17),(aI x18)]) []) ∧ (sel (x18 != 0) (R (.tup [(.agg [(.n (.bool false)),(.o (.sl 1 [])),(.o (.sl 1 [])),(.o (.sl 1
 []))]),(.n (.int .i64 x18))])) ((rn 0) ∧ ((rn 1) ∨ (@Eq LD [(Mir.D.str x16)] [])) ∧ (((((Prod.fst x9) : Nat) = x8.2.1) ∧ (rn 9)) ∧ (rn 1)) ∧ (((((List.length (Prod.snd x9)) +
 (List.length [(Mir.D.str x16)])) * 16) : Nat) ≤ 140737488355328) ∧ (sel (a0 == 1) (∃ x19 : ByteArray,(∃ x20 : Int,(∃ x21 : Int,((Runs Fs2 106 [(aS a1),(aI x17)] [] (.tup [(aS
 x19),(aI x20),(aI x21)]) []) ∧ (sel (x21 != 0) (R (.tup [(.agg [(.n (.bool false)),(.o (.sl 1 [])),(.o (.sl 1 [])),(.o (.sl 1 []))]),(.n (.int .i64 x21))])) ((rn 0) ∧ ((rn 1) ∨
 (@Eq LD [(Mir.D.str x19)] [])) ∧ (((((Prod.fst x10) : Nat) = x8.2.2.1) ∧ (rn 9)) ∧ (rn 1)) ∧ (((((List.length (Prod.snd x10)) + (List.length [(Mir.D.str x19)])) * 16) : Nat) ≤
 140737488355328) ∧ (rq (aI a0)) ∧ (rq (aS a1)) ∧ (rq (.ptr 7700000 0)) ∧ (rq (.ptr 7700303 0)) ∧ (rq (aI x0)) ∧ (rq (aI x2)) ∧ (rh [(hB 7700000 [(aB x7.1),(.n Mir.D.nil),(.n
 Mir.D.nil),(.n Mir.D.nil)]),(hB 7700303 [(aB x8.1),(.row 7701704 (x8.2.1 + 1)),(.row 7702304 (x8.2.2.1 + 1)),(.row 7701204 (x8.2.2.2.1 + 1))]),(7701204,(.row false true (x8.2.2.2.1
 + 1) 3 1 ((Prod.snd x11) ++ [(Mir.D.int .i64 x13)]))),(7701704,(.row false true (x8.2.1 + 1) 9 1 ((Prod.snd x9) ++ [(Mir.D.str x16)]))),(7702304,(.row false true (x8.2.2.1 + 1) 9 1
 ((Prod.snd x10) ++ [(Mir.D.str x19)])))]) ∧ (x3 x20 (IntKind.wrap .i64 (x6 + 1)) (x7.1,((),((),((),())))) (x8.1,((x8.2.1 + 1),((x8.2.2.1 + 1),((x8.2.2.2.1 + 1),())))) ((x8.2.1 +
 1),((Prod.snd x9) ++ [(Mir.D.str x16)])) ((x8.2.2.1 + 1),((Prod.snd x10) ++ [(Mir.D.str x19)])) ((x8.2.2.2.1 + 1),((Prod.snd x11) ++ [(Mir.D.int .i64 x13)]))) ∧ (((x4 x20
 (IntKind.wrap .i64 (x6 + 1)) (x7.1,((),((),((),())))) (x8.1,((x8.2.1 + 1),((x8.2.2.1 + 1),((x8.2.2.2.1 + 1),())))) ((x8.2.1 + 1),((Prod.snd x9) ++ [(Mir.D.str x16)])) ((x8.2.2.1 +
 1),((Prod.snd x10) ++ [(Mir.D.str x19)])) ((x8.2.2.2.1 + 1),((Prod.snd x11) ++ [(Mir.D.int .i64 x13)]))) : Nat) < (x4 x5 x6 x7 x8 x9 x10 x11)))))))) ((rq (aI a0)) ∧ (rq (aS a1)) ∧
 (rq (.ptr 7700000 0)) ∧ (rq (.ptr 7700303 0)) ∧ (rq (aI x0)) ∧ (rq (aI x2)) ∧ (rh [(hB 7700000 [(aB x7.1),(.n Mir.D.nil),(.n Mir.D.nil),(.n Mir.D.nil)]),(hB 7700303 [(aB
 x8.1),(.row 7701704 (x8.2.1 + 1)),(.row 7702304 x8.2.2.1),(.row 7701204 (x8.2.2.2.1 + 1))]),(7701204,(.row false true (x8.2.2.2.1 + 1) 3 1 ((Prod.snd x11) ++ [(Mir.D.int .i64
 x13)]))),(7701704,(.row false true (x8.2.1 + 1) 9 1 ((Prod.snd x9) ++ [(Mir.D.str x16)]))),(7702304,(.row false true (Prod.fst x10) 9 1 (Prod.snd x10)))]) ∧ (x3 x17 (IntKind.wrap
 .i64 (x6 + 1)) (x7.1,((),((),((),())))) (x8.1,((x8.2.1 + 1),(x8.2.2.1,((x8.2.2.2.1 + 1),())))) ((x8.2.1 + 1),((Prod.snd x9) ++ [(Mir.D.str x16)])) ((Prod.fst x10),(Prod.snd x10))
 ((x8.2.2.2.1 + 1),((Prod.snd x11) ++ [(Mir.D.int .i64 x13)]))) ∧ (((x4 x17 (IntKind.wrap .i64 (x6 + 1)) (x7.1,((),((),((),())))) (x8.1,((x8.2.1 + 1),(x8.2.2.1,((x8.2.2.2.1 +
 1),())))) ((x8.2.1 + 1),((Prod.snd x9) ++ [(Mir.D.str x16)])) ((Prod.fst x10),(Prod.snd x10)) ((x8.2.2.2.1 + 1),((Prod.snd x11) ++ [(Mir.D.int .i64 x13)]))) : Nat) < (x4 x5 x6 x7
 x8 x9 x10 x11)))))))))))))))) (∃ x22 : ByteArray,(∃ x23 : Int,(∃ x24 : Int,((Runs Fs2 106 [(aS a1),(aI x5)] [] (.tup [(aS x22),(aI x23),(aI x24)]) []) ∧ (sel (x24 != 0) (R (.tup
 [(.agg [(.n (.bool false)),(.o (.sl 1 [])),(.o (.sl 1 [])),(.o (.sl 1 []))]),(.n (.int .i64 x24))])) ((rn 0) ∧ ((rn 1) ∨ (@Eq LD [(Mir.D.str x22)] [])) ∧ (((((Prod.fst x9) : Nat) =
 x8.2.1) ∧ (rn 9)) ∧ (rn 1)) ∧ (((((List.length (Prod.snd x9)) + (List.length [(Mir.D.str x22)])) * 16) : Nat) ≤ 140737488355328) ∧ (sel (a0 == 1) (∃ x25 : ByteArray,(∃ x26 : Int,(∃
 x27 : Int,((Runs Fs2 106 [(aS a1),(aI x23)] [] (.tup [(aS x25),(aI x26),(aI x27)]) []) ∧ (sel (x27 != 0) (R (.tup [(.agg [(.n (.bool false)),(.o (.sl 1 [])),(.o (.sl 1 [])),(.o
 (.sl 1 []))]),(.n (.int .i64 x27))])) ((rn 0) ∧ ((rn 1) ∨ (@Eq LD [(Mir.D.str x25)] [])) ∧ (((((Prod.fst x10) : Nat) = x8.2.2.1) ∧ (rn 9)) ∧ (rn 1)) ∧ (((((List.length (Prod.snd
 x10)) + (List.length [(Mir.D.str x25)])) * 16) : Nat) ≤ 140737488355328) ∧ (rq (aI a0)) ∧ (rq (aS a1)) ∧ (rq (.ptr 7700000 0)) ∧ (rq (.ptr 7700303 0)) ∧ (rq (aI x0)) ∧ (rq (aI x2))
 ∧ (rh [(hB 7700000 [(aB x7.1),(.n Mir.D.nil),(.n Mir.D.nil),(.n Mir.D.nil)]),(hB 7700303 [(aB x8.1),(.row 7701704 (x8.2.1 + 1)),(.row 7702304 (x8.2.2.1 + 1)),(.row 7701204
 x8.2.2.2.1)]),(7701204,(.row false true (Prod.fst x11) 3 1 (Prod.snd x11))),(7701704,(.row false true (x8.2.1 + 1) 9 1 ((Prod.snd x9) ++ [(Mir.D.str x22)]))),(7702304,(.row false
 true (x8.2.2.1 + 1) 9 1 ((Prod.snd x10) ++ [(Mir.D.str x25)])))]) ∧ (x3 x26 (IntKind.wrap .i64 (x6 + 1)) (x7.1,((),((),((),())))) (x8.1,((x8.2.1 + 1),((x8.2.2.1 +
 1),(x8.2.2.2.1,())))) ((x8.2.1 + 1),((Prod.snd x9) ++ [(Mir.D.str x22)])) ((x8.2.2.1 + 1),((Prod.snd x10) ++ [(Mir.D.str x25)])) ((Prod.fst x11),(Prod.snd x11))) ∧ (((x4 x26
 (IntKind.wrap .i64 (x6 + 1)) (x7.1,((),((),((),())))) (x8.1,((x8.2.1 + 1),((x8.2.2.1 + 1),(x8.2.2.2.1,())))) ((x8.2.1 + 1),((Prod.snd x9) ++ [(Mir.D.str x22)])) ((x8.2.2.1 +
 1),((Prod.snd x10) ++ [(Mir.D.str x25)])) ((Prod.fst x11),(Prod.snd x11))) : Nat) < (x4 x5 x6 x7 x8 x9 x10 x11)))))))) ((rq (aI a0)) ∧ (rq (aS a1)) ∧ (rq (.ptr 7700000 0)) ∧ (rq
 (.ptr 7700303 0)) ∧ (rq (aI x0)) ∧ (rq (aI x2)) ∧ (rh [(hB 7700000 [(aB x7.1),(.n Mir.D.nil),(.n Mir.D.nil),(.n Mir.D.nil)]),(hB 7700303 [(aB x8.1),(.row 7701704 (x8.2.1 +
 1)),(.row 7702304 x8.2.2.1),(.row 7701204 x8.2.2.2.1)]),(7701204,(.row false true (Prod.fst x11) 3 1 (Prod.snd x11))),(7701704,(.row false true (x8.2.1 + 1) 9 1 ((Prod.snd x9) ++
 [(Mir.D.str x22)]))),(7702304,(.row false true (Prod.fst x10) 9 1 (Prod.snd x10)))]) ∧ (x3 x23 (IntKind.wrap .i64 (x6 + 1)) (x7.1,((),((),((),())))) (x8.1,((x8.2.1 +
 1),(x8.2.2.1,(x8.2.2.2.1,())))) ((x8.2.1 + 1),((Prod.snd x9) ++ [(Mir.D.str x22)])) ((Prod.fst x10),(Prod.snd x10)) ((Prod.fst x11),(Prod.snd x11))) ∧ (((x4 x23 (IntKind.wrap .i64
 (x6 + 1)) (x7.1,((),((),((),())))) (x8.1,((x8.2.1 + 1),(x8.2.2.1,(x8.2.2.2.1,())))) ((x8.2.1 + 1),((Prod.snd x9) ++ [(Mir.D.str x22)])) ((Prod.fst x10),(Prod.snd x10)) ((Prod.fst
 x11),(Prod.snd x11))) : Nat) < (x4 x5 x6 x7 x8 x9 x10 x11))))))))))) (sel (a0 == 2) (sel (x2 == 0) (∃ x28 : Int,(∃ x29 : Int,(∃ x30 : Int,((Runs Fs2 84 [(aS a1),(aI x5),(aI 2)] []
 (.tup [(aI x28),(aI x29),(aI x30)]) []) ∧ (rn 0) ∧ ((rn 1) ∨ (@Eq LD [(Mir.D.int .i64 x28)] [])) ∧ (((((Prod.fst x11) : Nat) = x8.2.2.2.1) ∧ (rn 3)) ∧ (rn 1)) ∧ (((((List.length
 (Prod.snd x11)) + (List.length [(Mir.D.int .i64 x28)])) * 8) : Nat) ≤ 140737488355328) ∧ (sel (x30 != 0) (R (.tup [(.agg [(.n (.bool false)),(.o (.sl 1 [])),(.o (.sl 1 [])),(.o
 (.sl 1 []))]),(.n (.int .i64 x30))])) (sel (x29 != (((ByteArray.size a1) : Nat) : Int)) (R (.tup [(.agg [(.n (.bool false)),(.o (.sl 1 [])),(.o (.sl 1 [])),(.o (.sl 1 []))]),(.n
 (.int .i64 4))])) (((Prod.fst x9) = x8.2.1) ∧ ((Prod.fst x10) = x8.2.2.1) ∧ ((x8.2.2.2.1 + 1) = (x8.2.2.2.1 + 1)) ∧ (∃ x31 : Bool,((Runs Fs2 78 [(.agg [(aB x8.1),(aL (Prod.snd
 x9)),(aL (Prod.snd x10)),(aL ((Prod.snd x11) ++ [(Mir.D.int .i64 x28)]))]),(aB true)] [] (aB x31) []) ∧ (sel (Bool.not x31) (R (.tup [(.agg [(.n (.bool false)),(.o (.sl 1 [])),(.o
 (.sl 1 [])),(.o (.sl 1 []))]),(.n (.int .i64 4))])) (((Prod.fst x9) = x8.2.1) ∧ ((Prod.fst x10) = x8.2.2.1) ∧ ((x8.2.2.2.1 + 1) = (x8.2.2.2.1 + 1)) ∧ (R (.tup [(.agg [(.n (.bool
 x8.1)),(.o (.sl 1 (Prod.snd x9))),(.o (.sl 1 (Prod.snd x10))),(.o (.sl 1 ((Prod.snd x11) ++ [(Mir.D.int .i64 x28)])))]),(.n (.int .i64 0))]))))))))))))) (sel (x2 != 0) (R (.tup
 [(.agg [(.n (.bool false)),(.o (.sl 1 [])),(.o (.sl 1 [])),(.o (.sl 1 []))]),(.n (.int .i64 x2))])) (sel (x5 != (((ByteArray.size a1) : Nat) : Int)) (R (.tup [(.agg [(.n (.bool
 false)),(.o (.sl 1 [])),(.o (.sl 1 [])),(.o (.sl 1 []))]),(.n (.int .i64 4))])) (((Prod.fst x9) = x8.2.1) ∧ ((Prod.fst x10) = x8.2.2.1) ∧ ((Prod.fst x11) = x8.2.2.2.1) ∧ (∃ x32 :
 Bool,((Runs Fs2 78 [(.agg [(aB x8.1),(aL (Prod.snd x9)),(aL (Prod.snd x10)),(aL (Prod.snd x11))]),(aB true)] [] (aB x32) []) ∧ (sel (Bool.not x32) (R (.tup [(.agg [(.n (.bool
 false)),(.o (.sl 1 [])),(.o (.sl 1 [])),(.o (.sl 1 []))]),(.n (.int .i64 4))])) (((Prod.fst x9) = x8.2.1) ∧ ((Prod.fst x10) = x8.2.2.1) ∧ ((Prod.fst x11) = x8.2.2.2.1) ∧ (R (.tup
 [(.agg [(.n (.bool x8.1)),(.o (.sl 1 (Prod.snd x9))),(.o (.sl 1 (Prod.snd x10))),(.o (.sl 1 (Prod.snd x11)))]),(.n (.int .i64 0))])))))))))) (sel (x2 != 0) (R (.tup [(.agg [(.n
 (.bool false)),(.o (.sl 1 [])),(.o (.sl 1 [])),(.o (.sl 1 []))]),(.n (.int .i64 x2))])) (sel (x5 != (((ByteArray.size a1) : Nat) : Int)) (R (.tup [(.agg [(.n (.bool false)),(.o
 (.sl 1 [])),(.o (.sl 1 [])),(.o (.sl 1 []))]),(.n (.int .i64 4))])) (((Prod.fst x9) = x8.2.1) ∧ ((Prod.fst x10) = x8.2.2.1) ∧ ((Prod.fst x11) = x8.2.2.2.1) ∧ (∃ x33 : Bool,((Runs
 Fs2 78 [(.agg [(aB x8.1),(aL (Prod.snd x9)),(aL (Prod.snd x10)),(aL (Prod.snd x11))]),(aB true)] [] (aB x33) []) ∧ (sel (Bool.not x33) (R (.tup [(.agg [(.n (.bool false)),(.o (.sl
 1 [])),(.o (.sl 1 [])),(.o (.sl 1 []))]),(.n (.int .i64 4))])) (((Prod.fst x9) = x8.2.1) ∧ ((Prod.fst x10) = x8.2.2.1) ∧ ((Prod.fst x11) = x8.2.2.2.1) ∧ (R (.tup [(.agg [(.n (.bool
 x8.1)),(.o (.sl 1 (Prod.snd x9))),(.o (.sl 1 (Prod.snd x10))),(.o (.sl 1 (Prod.snd x11)))]),(.n (.int .i64 0))]))))))))))) (sel (a0 == 2) (sel (x2 == 0) (∃ x34 : Int,(∃ x35 :
 Int,(∃ x36 : Int,((Runs Fs2 84 [(aS a1),(aI x5),(aI 2)] [] (.tup [(aI x34),(aI x35),(aI x36)]) []) ∧ (rn 0) ∧ ((rn 1) ∨ (@Eq LD [(Mir.D.int .i64 x34)] [])) ∧ (((((Prod.fst x11) :
 Nat) = x8.2.2.2.1) ∧ (rn 3)) ∧ (rn 1)) ∧ (((((List.length (Prod.snd x11)) + (List.length [(Mir.D.int .i64 x34)])) * 8) : Nat) ≤ 140737488355328) ∧ (sel (x36 != 0) (R (.tup [(.agg
 [(.n (.bool false)),(.o (.sl 1 [])),(.o (.sl 1 [])),(.o (.sl 1 []))]),(.n (.int .i64 x36))])) (sel (x35 != (((ByteArray.size a1) : Nat) : Int)) (R (.tup [(.agg [(.n (.bool
 false)),(.o (.sl 1 [])),(.o (.sl 1 [])),(.o (.sl 1 []))]),(.n (.int .i64 4))])) (((Prod.fst x9) = x8.2.1) ∧ ((Prod.fst x10) = x8.2.2.1) ∧ ((x8.2.2.2.1 + 1) = (x8.2.2.2.1 + 1)) ∧ (∃
 x37 : Bool,((Runs Fs2 78 [(.agg [(aB x8.1),(aL (Prod.snd x9)),(aL (Prod.snd x10)),(aL ((Prod.snd x11) ++ [(Mir.D.int .i64 x34)]))]),(aB true)] [] (aB x37) []) ∧ (sel (Bool.not x37)
 (R (.tup [(.agg [(.n (.bool false)),(.o (.sl 1 [])),(.o (.sl 1 [])),(.o (.sl 1 []))]),(.n (.int .i64 4))])) (((Prod.fst x9) = x8.2.1) ∧ ((Prod.fst x10) = x8.2.2.1) ∧ ((x8.2.2.2.1 +
 1) = (x8.2.2.2.1 + 1)) ∧ (R (.tup [(.agg [(.n (.bool x8.1)),(.o (.sl 1 (Prod.snd x9))),(.o (.sl 1 (Prod.snd x10))),(.o (.sl 1 ((Prod.snd x11) ++ [(Mir.D.int .i64 x34)])))]),(.n
 (.int .i64 0))]))))))))))))) (sel (x2 != 0) (R (.tup [(.agg [(.n (.bool false)),(.o (.sl 1 [])),(.o (.sl 1 [])),(.o (.sl 1 []))]),(.n (.int .i64 x2))])) (sel (x5 !=
 (((ByteArray.size a1) : Nat) : Int)) (R (.tup [(.agg [(.n (.bool false)),(.o (.sl 1 [])),(.o (.sl 1 [])),(.o (.sl 1 []))]),(.n (.int .i64 4))])) (((Prod.fst x9) = x8.2.1) ∧
 ((Prod.fst x10) = x8.2.2.1) ∧ ((Prod.fst x11) = x8.2.2.2.1) ∧ (∃ x38 : Bool,((Runs Fs2 78 [(.agg [(aB x8.1),(aL (Prod.snd x9)),(aL (Prod.snd x10)),(aL (Prod.snd x11))]),(aB true)]
 [] (aB x38) []) ∧ (sel (Bool.not x38) (R (.tup [(.agg [(.n (.bool false)),(.o (.sl 1 [])),(.o (.sl 1 [])),(.o (.sl 1 []))]),(.n (.int .i64 4))])) (((Prod.fst x9) = x8.2.1) ∧
 ((Prod.fst x10) = x8.2.2.1) ∧ ((Prod.fst x11) = x8.2.2.2.1) ∧ (R (.tup [(.agg [(.n (.bool x8.1)),(.o (.sl 1 (Prod.snd x9))),(.o (.sl 1 (Prod.snd x10))),(.o (.sl 1 (Prod.snd
 x11)))]),(.n (.int .i64 0))])))))))))) (sel (x2 != 0) (R (.tup [(.agg [(.n (.bool false)),(.o (.sl 1 [])),(.o (.sl 1 [])),(.o (.sl 1 []))]),(.n (.int .i64 x2))])) (sel (x5 !=
 (((ByteArray.size a1) : Nat) : Int)) (R (.tup [(.agg [(.n (.bool false)),(.o (.sl 1 [])),(.o (.sl 1 [])),(.o (.sl 1 []))]),(.n (.int .i64 4))])) (((Prod.fst x9) = x8.2.1) ∧
 ((Prod.fst x10) = x8.2.2.1) ∧ ((Prod.fst x11) = x8.2.2.2.1) ∧ (∃ x39 : Bool,((Runs Fs2 78 [(.agg [(aB x8.1),(aL (Prod.snd x9)),(aL (Prod.snd x10)),(aL (Prod.snd x11))]),(aB true)]
 [] (aB x39) []) ∧ (sel (Bool.not x39) (R (.tup [(.agg [(.n (.bool false)),(.o (.sl 1 [])),(.o (.sl 1 [])),(.o (.sl 1 []))]),(.n (.int .i64 4))])) (((Prod.fst x9) = x8.2.1) ∧
 ((Prod.fst x10) = x8.2.2.1) ∧ ((Prod.fst x11) = x8.2.2.2.1) ∧ (R (.tup [(.agg [(.n (.bool x8.1)),(.o (.sl 1 (Prod.snd x9))),(.o (.sl 1 (Prod.snd x10))),(.o (.sl 1 (Prod.snd
 x11)))]),(.n (.int .i64 0))])))))))))))))))))))))))))))) (∃ x40 : Int,(∃ x41 : Int,(∃ x42 : Int,((Runs Fs2 84 [(aS a1),(aI 0),(aI 1)] [] (.tup [(aI x40),(aI x41),(aI x42)]) []) ∧
 (∃ x43 : (Int → (Int → ((Bool × ((Unit) × ((Unit) × ((Unit) × (Unit))))) → ((Bool × (Nat × (Nat × (Nat × (Unit))))) → ((Nat × LD) → ((Nat × LD) → ((Nat × LD) → Prop))))))),(∃ x44 :
 (Int → (Int → ((Bool × ((Unit) × ((Unit) × ((Unit) × (Unit))))) → ((Bool × (Nat × (Nat × (Nat × (Unit))))) → ((Nat × LD) → ((Nat × LD) → ((Nat × LD) → Nat))))))),(((rh [(hB 7700000
 [(aB false),(.n Mir.D.nil),(.n Mir.D.nil),(.n Mir.D.nil)]),(hB 7700303 [(aB (a0 == 1)),(.row 7701704 0),(.row 7702304 0),(.row 7701204 0)]),(7701204,(.row false true 0 3 1
 [])),(7701704,(.row false true 0 9 1 [])),(7702304,(.row false true 0 9 1 []))]) ∧ (x43 x41 0 (false,((),((),((),())))) ((a0 == 1),(0,(0,(0,())))) (0,[]) (0,[]) (0,[]))) ∧ (∀ x45 :
 Int,(∀ x46 : Int,(∀ x47 : (Bool × ((Unit) × ((Unit) × ((Unit) × (Unit))))),(∀ x48 : (Bool × (Nat × (Nat × (Nat × (Unit))))),(∀ x49 : (Nat × LD),(∀ x50 : (Nat × LD),(∀ x51 : (Nat ×
 LD),((x43 x45 x46 x47 x48 x49 x50 x51) → (∀ x52 : (Nat → Mir.AV),(sel (decide (x46 < x40)) (sel (x42 == 0) (sel (a0 == 2) (∃ x53 : Int,(∃ x54 : Int,(∃ x55 : Int,((Runs Fs2 84 [(aS
 a1),(aI x45),(aI 2)] [] (.tup [(aI x53),(aI x54),(aI x55)]) []) ∧ (sel (x55 != 0) (R (.tup [(.agg [(.n (.bool false)),(.o (.sl 1 [])),(.o (.sl 1 [])),(.o (.sl 1 []))]),(.n (.int
 .i64 x55))])) ((rn 0) ∧ ((rn 1) ∨ (@Eq LD [(Mir.D.int .i64 x53)] [])) ∧ (((((Prod.fst x51) : Nat) = x48.2.2.2.1) ∧ (rn 3)) ∧ (rn 1)) ∧ (((((List.length (Prod.snd x51)) +
 (List.length [(Mir.D.int .i64 x53)])) * 8) : Nat) ≤ 140737488355328) ∧ (∃ x56 : ByteArray,(∃ x57 : Int,(∃ x58 : Int,((Runs Fs2 106 [(aS a1),(aI x54)] [] (.tup [(aS x56),(aI
 x57),(aI x58)]) []) ∧ (sel (x58 != 0) (R (.tup [(.agg [(.n (.bool false)),(.o (.sl 1 [])),(.o (.sl 1 [])),(.o (.sl 1 []))]),(.n (.int .i64 x58))])) ((rn 0) ∧ ((rn 1) ∨ (@Eq LD
 [(Mir.D.str x56)] [])) ∧ (((((Prod.fst x49) : Nat) = x48.2.1) ∧ (rn 9)) ∧ (rn 1)) ∧ (((((List.length (Prod.snd x49)) + (List.length [(Mir.D.str x56)])) * 16) : Nat) ≤
 140737488355328) ∧ (sel (a0 == 1) (∃ x59 : ByteArray,(∃ x60 : Int,(∃ x61 : Int,((Runs Fs2 106 [(aS a1),(aI x57)] [] (.tup [(aS x59),(aI x60),(aI x61)]) []) ∧ (sel (x61 != 0) (R
 (.tup [(.agg [(.n (.bool false)),(.o (.sl 1 [])),(.o (.sl 1 [])),(.o (.sl 1 []))]),(.n (.int .i64 x61))])) ((rn 0) ∧ ((rn 1) ∨ (@Eq LD [(Mir.D.str x59)] [])) ∧ (((((Prod.fst x50) :
 Nat) = x48.2.2.1) ∧ (rn 9)) ∧ (rn 1)) ∧ (((((List.length (Prod.snd x50)) + (List.length [(Mir.D.str x59)])) * 16) : Nat) ≤ 140737488355328) ∧ (rq (aI a0)) ∧ (rq (aS a1)) ∧ (rq
 (.ptr 7700000 0)) ∧ (rq (.ptr 7700303 0)) ∧ (rq (aI x40)) ∧ (rq (aI x42)) ∧ (rh [(hB 7700000 [(aB x47.1),(.n Mir.D.nil),(.n Mir.D.nil),(.n Mir.D.nil)]),(hB 7700303 [(aB
 x48.1),(.row 7701704 (x48.2.1 + 1)),(.row 7702304 (x48.2.2.1 + 1)),(.row 7701204 (x48.2.2.2.1 + 1))]),(7701204,(.row false true (x48.2.2.2.1 + 1) 3 1 ((Prod.snd x51) ++ [(Mir.D.int
 .i64 x53)]))),(7701704,(.row false true (x48.2.1 + 1) 9 1 ((Prod.snd x49) ++ [(Mir.D.str x56)]))),(7702304,(.row false true (x48.2.2.1 + 1) 9 1 ((Prod.snd x50) ++ [(Mir.D.str
 x59)])))]) ∧ (x43 x60 (IntKind.wrap .i64 (x46 + 1)) (x47.1,((),((),((),())))) (x48.1,((x48.2.1 + 1),((x48.2.2.1 + 1),((x48.2.2.2.1 + 1),())))) ((x48.2.1 + 1),((Prod.snd x49) ++
 [(Mir.D.str x56)])) ((x48.2.2.1 + 1),((Prod.snd x50) ++ [(Mir.D.str x59)])) ((x48.2.2.2.1 + 1),((Prod.snd x51) ++ [(Mir.D.int .i64 x53)]))) ∧ (((x44 x60 (IntKind.wrap .i64 (x46 +
 1)) (x47.1,((),((),((),())))) (x48.1,((x48.2.1 + 1),((x48.2.2.1 + 1),((x48.2.2.2.1 + 1),())))) ((x48.2.1 + 1),((Prod.snd x49) ++ [(Mir.D.str x56)])) ((x48.2.2.1 + 1),((Prod.snd
 x50) ++ [(Mir.D.str x59)])) ((x48.2.2.2.1 + 1),((Prod.snd x51) ++ [(Mir.D.int .i64 x53)]))) : Nat) < (x44 x45 x46 x47 x48 x49 x50 x51)))))))) ((rq (aI a0)) ∧ (rq (aS a1)) ∧ (rq
 (.ptr 7700000 0)) ∧ (rq (.ptr 7700303 0)) ∧ (rq (aI x40)) ∧ (rq (aI x42)) ∧ (rh [(hB 7700000 [(aB x47.1),(.n Mir.D.nil),(.n Mir.D.nil),(.n Mir.D.nil)]),(hB 7700303 [(aB
 x48.1),(.row 7701704 (x48.2.1 + 1)),(.row 7702304 x48.2.2.1),(.row 7701204 (x48.2.2.2.1 + 1))]),(7701204,(.row false true (x48.2.2.2.1 + 1) 3 1 ((Prod.snd x51) ++ [(Mir.D.int .i64
 x53)]))),(7701704,(.row false true (x48.2.1 + 1) 9 1 ((Prod.snd x49) ++ [(Mir.D.str x56)]))),(7702304,(.row false true (Prod.fst x50) 9 1 (Prod.snd x50)))]) ∧ (x43 x57
 (IntKind.wrap .i64 (x46 + 1)) (x47.1,((),((),((),())))) (x48.1,((x48.2.1 + 1),(x48.2.2.1,((x48.2.2.2.1 + 1),())))) ((x48.2.1 + 1),((Prod.snd x49) ++ [(Mir.D.str x56)])) ((Prod.fst
 x50),(Prod.snd x50)) ((x48.2.2.2.1 + 1),((Prod.snd x51) ++ [(Mir.D.int .i64 x53)]))) ∧ (((x44 x57 (IntKind.wrap .i64 (x46 + 1)) (x47.1,((),((),((),())))) (x48.1,((x48.2.1 +
 1),(x48.2.2.1,((x48.2.2.2.1 + 1),())))) ((x48.2.1 + 1),((Prod.snd x49) ++ [(Mir.D.str x56)])) ((Prod.fst x50),(Prod.snd x50)) ((x48.2.2.2.1 + 1),((Prod.snd x51) ++ [(Mir.D.int .i64
 x53)]))) : Nat) < (x44 x45 x46 x47 x48 x49 x50 x51)))))))))))))))) (∃ x62 : ByteArray,(∃ x63 : Int,(∃ x64 : Int,((Runs Fs2 106 [(aS a1),(aI x45)] [] (.tup [(aS x62),(aI x63),(aI
 x64)]) []) ∧ (sel (x64 != 0) (R (.tup [(.agg [(.n (.bool false)),(.o (.sl 1 [])),(.o (.sl 1 [])),(.o (.sl 1 []))]),(.n (.int .i64 x64))])) ((rn 0) ∧ ((rn 1) ∨ (@Eq LD [(Mir.D.str
 x62)] [])) ∧ (((((Prod.fst x49) : Nat) = x48.2.1) ∧ (rn 9)) ∧ (rn 1)) ∧ (((((List.length (Prod.snd x49)) + (List.length [(Mir.D.str x62)])) * 16) : Nat) ≤ 140737488355328) ∧ (sel
 (a0 == 1) (∃ x65 : ByteArray,(∃ x66 : Int,(∃ x67 : Int,((Runs Fs2 106 [(aS a1),(aI x63)] [] (.tup [(aS x65),(aI x66),(aI x67)]) []) ∧ (sel (x67 != 0) (R (.tup [(.agg [(.n (.bool
 false)),(.o (.sl 1 [])),(.o (.sl 1 [])),(.o (.sl 1 []))]),(.n (.int .i64 x67))])) ((rn 0) ∧ ((rn 1) ∨ (@Eq LD [(Mir.D.str x65)] [])) ∧ (((((Prod.fst x50) : Nat) = x48.2.2.1) ∧ (rn
 9)) ∧ (rn 1)) ∧ (((((List.length (Prod.snd x50)) + (List.length [(Mir.D.str x65)])) * 16) : Nat) ≤ 140737488355328) ∧ (rq (aI a0)) ∧ (rq (aS a1)) ∧ (rq (.ptr 7700000 0)) ∧ (rq
 (.ptr 7700303 0)) ∧ (rq (aI x40)) ∧ (rq (aI x42)) ∧ (rh [(hB 7700000 [(aB x47.1),(.n Mir.D.nil),(.n Mir.D.nil),(.n Mir.D.nil)]),(hB 7700303 [(aB x48.1),(.row 7701704 (x48.2.1 +
 1)),(.row 7702304 (x48.2.2.1 + 1)),(.row 7701204 x48.2.2.2.1)]),(7701204,(.row false true (Prod.fst x51) 3 1 (Prod.snd x51))),(7701704,(.row false true (x48.2.1 + 1) 9 1 ((Prod.snd
 x49) ++ [(Mir.D.str x62)]))),(7702304,(.row false true (x48.2.2.1 + 1) 9 1 ((Prod.snd x50) ++ [(Mir.D.str x65)])))]) ∧ (x43 x66 (IntKind.wrap .i64 (x46 + 1))
 (x47.1,((),((),((),())))) (x48.1,((x48.2.1 + 1),((x48.2.2.1 + 1),(x48.2.2.2.1,())))) ((x48.2.1 + 1),((Prod.snd x49) ++ [(Mir.D.str x62)])) ((x48.2.2.1 + 1),((Prod.snd x50) ++
 [(Mir.D.str x65)])) ((Prod.fst x51),(Prod.snd x51))) ∧ (((x44 x66 (IntKind.wrap .i64 (x46 + 1)) (x47.1,((),((),((),())))) (x48.1,((x48.2.1 + 1),((x48.2.2.1 + 1),(x48.2.2.2.1,()))))
 ((x48.2.1 + 1),((Prod.snd x49) ++ [(Mir.D.str x62)])) ((x48.2.2.1 + 1),((Prod.snd x50) ++ [(Mir.D.str x65)])) ((Prod.fst x51),(Prod.snd x51))) : Nat) < (x44 x45 x46 x47 x48 x49 x50
 x51)))))))) ((rq (aI a0)) ∧ (rq (aS a1)) ∧ (rq (.ptr 7700000 0)) ∧ (rq (.ptr 7700303 0)) ∧ (rq (aI x40)) ∧ (rq (aI x42)) ∧ (rh [(hB 7700000 [(aB x47.1),(.n Mir.D.nil),(.n
 Mir.D.nil),(.n Mir.D.nil)]),(hB 7700303 [(aB x48.1),(.row 7701704 (x48.2.1 + 1)),(.row 7702304 x48.2.2.1),(.row 7701204 x48.2.2.2.1)]),(7701204,(.row false true (Prod.fst x51) 3 1
 (Prod.snd x51))),(7701704,(.row false true (x48.2.1 + 1) 9 1 ((Prod.snd x49) ++ [(Mir.D.str x62)]))),(7702304,(.row false true (Prod.fst x50) 9 1 (Prod.snd x50)))]) ∧ (x43 x63
 (IntKind.wrap .i64 (x46 + 1)) (x47.1,((),((),((),())))) (x48.1,((x48.2.1 + 1),(x48.2.2.1,(x48.2.2.2.1,())))) ((x48.2.1 + 1),((Prod.snd x49) ++ [(Mir.D.str x62)])) ((Prod.fst
 x50),(Prod.snd x50)) ((Prod.fst x51),(Prod.snd x51))) ∧ (((x44 x63 (IntKind.wrap .i64 (x46 + 1)) (x47.1,((),((),((),())))) (x48.1,((x48.2.1 + 1),(x48.2.2.1,(x48.2.2.2.1,()))))
 ((x48.2.1 + 1),((Prod.snd x49) ++ [(Mir.D.str x62)])) ((Prod.fst x50),(Prod.snd x50)) ((Prod.fst x51),(Prod.snd x51))) : Nat) < (x44 x45 x46 x47 x48 x49 x50 x51))))))))))) (sel (a0
 == 2) (sel (x42 == 0) (∃ x68 : Int,(∃ x69 : Int,(∃ x70 : Int,((Runs Fs2 84 [(aS a1),(aI x45),(aI 2)] [] (.tup [(aI x68),(aI x69),(aI x70)]) []) ∧ (rn 0) ∧ ((rn 1) ∨ (@Eq LD
 [(Mir.D.int .i64 x68)] [])) ∧ (((((Prod.fst x51) : Nat) = x48.2.2.2.1) ∧ (rn 3)) ∧ (rn 1)) ∧ (((((List.length (Prod.snd x51)) + (List.length [(Mir.D.int .i64 x68)])) * 8) : Nat) ≤
 140737488355328) ∧ (sel (x70 != 0) (R (.tup [(.agg [(.n (.bool false)),(.o (.sl 1 [])),(.o (.sl 1 [])),(.o (.sl 1 []))]),(.n (.int .i64 x70))])) (sel (x69 != (((ByteArray.size a1)
 : Nat) : Int)) (R (.tup [(.agg [(.n (.bool false)),(.o (.sl 1 [])),(.o (.sl 1 [])),(.o (.sl 1 []))]),(.n (.int .i64 4))])) (((Prod.fst x49) = x48.2.1) ∧ ((Prod.fst x50) =
 x48.2.2.1) ∧ ((x48.2.2.2.1 + 1) = (x48.2.2.2.1 + 1)) ∧ (∃ x71 : Bool,((Runs Fs2 78 [(.agg [(aB x48.1),(aL (Prod.snd x49)),(aL (Prod.snd x50)),(aL ((Prod.snd x51) ++ [(Mir.D.int
 .i64 x68)]))]),(aB true)] [] (aB x71) []) ∧ (sel (Bool.not x71) (R (.tup [(.agg [(.n (.bool false)),(.o (.sl 1 [])),(.o (.sl 1 [])),(.o (.sl 1 []))]),(.n (.int .i64 4))]))
 (((Prod.fst x49) = x48.2.1) ∧ ((Prod.fst x50) = x48.2.2.1) ∧ ((x48.2.2.2.1 + 1) = (x48.2.2.2.1 + 1)) ∧ (R (.tup [(.agg [(.n (.bool x48.1)),(.o (.sl 1 (Prod.snd x49))),(.o (.sl 1
 (Prod.snd x50))),(.o (.sl 1 ((Prod.snd x51) ++ [(Mir.D.int .i64 x68)])))]),(.n (.int .i64 0))]))))))))))))) (sel (x42 != 0) (R (.tup [(.agg [(.n (.bool false)),(.o (.sl 1 [])),(.o
 (.sl 1 [])),(.o (.sl 1 []))]),(.n (.int .i64 x42))])) (sel (x45 != (((ByteArray.size a1) : Nat) : Int)) (R (.tup [(.agg [(.n (.bool false)),(.o (.sl 1 [])),(.o (.sl 1 [])),(.o (.sl
 1 []))]),(.n (.int .i64 4))])) (((Prod.fst x49) = x48.2.1) ∧ ((Prod.fst x50) = x48.2.2.1) ∧ ((Prod.fst x51) = x48.2.2.2.1) ∧ (∃ x72 : Bool,((Runs Fs2 78 [(.agg [(aB x48.1),(aL
 (Prod.snd x49)),(aL (Prod.snd x50)),(aL (Prod.snd x51))]),(aB true)] [] (aB x72) []) ∧ (sel (Bool.not x72) (R (.tup [(.agg [(.n (.bool false)),(.o (.sl 1 [])),(.o (.sl 1 [])),(.o
 (.sl 1 []))]),(.n (.int .i64 4))])) (((Prod.fst x49) = x48.2.1) ∧ ((Prod.fst x50) = x48.2.2.1) ∧ ((Prod.fst x51) = x48.2.2.2.1) ∧ (R (.tup [(.agg [(.n (.bool x48.1)),(.o (.sl 1
 (Prod.snd x49))),(.o (.sl 1 (Prod.snd x50))),(.o (.sl 1 (Prod.snd x51)))]),(.n (.int .i64 0))])))))))))) (sel (x42 != 0) (R (.tup [(.agg [(.n (.bool false)),(.o (.sl 1 [])),(.o
 (.sl 1 [])),(.o (.sl 1 []))]),(.n (.int .i64 x42))])) (sel (x45 != (((ByteArray.size a1) : Nat) : Int)) (R (.tup [(.agg [(.n (.bool false)),(.o (.sl 1 [])),(.o (.sl 1 [])),(.o (.sl
 1 []))]),(.n (.int .i64 4))])) (((Prod.fst x49) = x48.2.1) ∧ ((Prod.fst x50) = x48.2.2.1) ∧ ((Prod.fst x51) = x48.2.2.2.1) ∧ (∃ x73 : Bool,((Runs Fs2 78 [(.agg [(aB x48.1),(aL
 (Prod.snd x49)),(aL (Prod.snd x50)),(aL (Prod.snd x51))]),(aB true)] [] (aB x73) []) ∧ (sel (Bool.not x73) (R (.tup [(.agg [(.n (.bool false)),(.o (.sl 1 [])),(.o (.sl 1 [])),(.o
 (.sl 1 []))]),(.n (.int .i64 4))])) (((Prod.fst x49) = x48.2.1) ∧ ((Prod.fst x50) = x48.2.2.1) ∧ ((Prod.fst x51) = x48.2.2.2.1) ∧ (R (.tup [(.agg [(.n (.bool x48.1)),(.o (.sl 1
 (Prod.snd x49))),(.o (.sl 1 (Prod.snd x50))),(.o (.sl 1 (Prod.snd x51)))]),(.n (.int .i64 0))]))))))))))) (sel (a0 == 2) (sel (x42 == 0) (∃ x74 : Int,(∃ x75 : Int,(∃ x76 :
 Int,((Runs Fs2 84 [(aS a1),(aI x45),(aI 2)] [] (.tup [(aI x74),(aI x75),(aI x76)]) []) ∧ (rn 0) ∧ ((rn 1) ∨ (@Eq LD [(Mir.D.int .i64 x74)] [])) ∧ (((((Prod.fst x51) : Nat) =
 x48.2.2.2.1) ∧ (rn 3)) ∧ (rn 1)) ∧ (((((List.length (Prod.snd x51)) + (List.length [(Mir.D.int .i64 x74)])) * 8) : Nat) ≤ 140737488355328) ∧ (sel (x76 != 0) (R (.tup [(.agg [(.n
 (.bool false)),(.o (.sl 1 [])),(.o (.sl 1 [])),(.o (.sl 1 []))]),(.n (.int .i64 x76))])) (sel (x75 != (((ByteArray.size a1) : Nat) : Int)) (R (.tup [(.agg [(.n (.bool false)),(.o
 (.sl 1 [])),(.o (.sl 1 [])),(.o (.sl 1 []))]),(.n (.int .i64 4))])) (((Prod.fst x49) = x48.2.1) ∧ ((Prod.fst x50) = x48.2.2.1) ∧ ((x48.2.2.2.1 + 1) = (x48.2.2.2.1 + 1)) ∧ (∃ x77 :
 Bool,((Runs Fs2 78 [(.agg [(aB x48.1),(aL (Prod.snd x49)),(aL (Prod.snd x50)),(aL ((Prod.snd x51) ++ [(Mir.D.int .i64 x74)]))]),(aB true)] [] (aB x77) []) ∧ (sel (Bool.not x77) (R
 (.tup [(.agg [(.n (.bool false)),(.o (.sl 1 [])),(.o (.sl 1 [])),(.o (.sl 1 []))]),(.n (.int .i64 4))])) (((Prod.fst x49) = x48.2.1) ∧ ((Prod.fst x50) = x48.2.2.1) ∧ ((x48.2.2.2.1
 + 1) = (x48.2.2.2.1 + 1)) ∧ (R (.tup [(.agg [(.n (.bool x48.1)),(.o (.sl 1 (Prod.snd x49))),(.o (.sl 1 (Prod.snd x50))),(.o (.sl 1 ((Prod.snd x51) ++ [(Mir.D.int .i64
 x74)])))]),(.n (.int .i64 0))]))))))))))))) (sel (x42 != 0) (R (.tup [(.agg [(.n (.bool false)),(.o (.sl 1 [])),(.o (.sl 1 [])),(.o (.sl 1 []))]),(.n (.int .i64 x42))])) (sel (x45
 != (((ByteArray.size a1) : Nat) : Int)) (R (.tup [(.agg [(.n (.bool false)),(.o (.sl 1 [])),(.o (.sl 1 [])),(.o (.sl 1 []))]),(.n (.int .i64 4))])) (((Prod.fst x49) = x48.2.1) ∧
 ((Prod.fst x50) = x48.2.2.1) ∧ ((Prod.fst x51) = x48.2.2.2.1) ∧ (∃ x78 : Bool,((Runs Fs2 78 [(.agg [(aB x48.1),(aL (Prod.snd x49)),(aL (Prod.snd x50)),(aL (Prod.snd x51))]),(aB
 true)] [] (aB x78) []) ∧ (sel (Bool.not x78) (R (.tup [(.agg [(.n (.bool false)),(.o (.sl 1 [])),(.o (.sl 1 [])),(.o (.sl 1 []))]),(.n (.int .i64 4))])) (((Prod.fst x49) = x48.2.1)
 ∧ ((Prod.fst x50) = x48.2.2.1) ∧ ((Prod.fst x51) = x48.2.2.2.1) ∧ (R (.tup [(.agg [(.n (.bool x48.1)),(.o (.sl 1 (Prod.snd x49))),(.o (.sl 1 (Prod.snd x50))),(.o (.sl 1 (Prod.snd
 x51)))]),(.n (.int .i64 0))])))))))))) (sel (x42 != 0) (R (.tup [(.agg [(.n (.bool false)),(.o (.sl 1 [])),(.o (.sl 1 [])),(.o (.sl 1 []))]),(.n (.int .i64 x42))])) (sel (x45 !=
 (((ByteArray.size a1) : Nat) : Int)) (R (.tup [(.agg [(.n (.bool false)),(.o (.sl 1 [])),(.o (.sl 1 [])),(.o (.sl 1 []))]),(.n (.int .i64 4))])) (((Prod.fst x49) = x48.2.1) ∧
 ((Prod.fst x50) = x48.2.2.1) ∧ ((Prod.fst x51) = x48.2.2.2.1) ∧ (∃ x79 : Bool,((Runs Fs2 78 [(.agg [(aB x48.1),(aL (Prod.snd x49)),(aL (Prod.snd x50)),(aL (Prod.snd x51))]),(aB
 true)] [] (aB x79) []) ∧ (sel (Bool.not x79) (R (.tup [(.agg [(.n (.bool false)),(.o (.sl 1 [])),(.o (.sl 1 [])),(.o (.sl 1 []))]),(.n (.int .i64 4))])) (((Prod.fst x49) = x48.2.1)
 ∧ ((Prod.fst x50) = x48.2.2.1) ∧ ((Prod.fst x51) = x48.2.2.2.1) ∧ (R (.tup [(.agg [(.n (.bool x48.1)),(.o (.sl 1 (Prod.snd x49))),(.o (.sl 1 (Prod.snd x50))),(.o (.sl 1 (Prod.snd
 x51)))]),(.n (.int .i64 0))]))))))))))))))))))))))))))))
theorem vc77 (a0 : Int) (a1 : ByteArray) (R : Mir.AV → Prop) : Vc Fs2 c77.body (argsQ c77 [(.n (.int .i64 a0)), (.n (.str a1))]) [] (endQ c77 R) = V77 a0 a1 R := by kernel_rfl
def V78 (a0_0 : Bool) (a0_1 : LD) (a0_2 : LD) (a0_3 : LD) (a1 : Bool) (R : Mir.AV → Prop) : Prop :=
 (∃ x0 : Bool,((Runs Fs2 107 [(.agg [(aB a0_0),(aL a0_1),(aL a0_2),(aL a0_3)])] [] (aB x0) []) ∧ (sel x0 (sel (decide ((a0_1.length : Int) ≤ 8)) (sel a1 (R (.n (.bool true))) (R (.n
 (.bool (decide ((a0_1.length : Int) ≥ 4)))))) (R (.n (.bool false)))) (R (.n (.bool false))))))
theorem vc78 (a0_0 : Bool) (a0_1 : LD) (a0_2 : LD) (a0_3 : LD) (a1 : Bool) (R : Mir.AV → Prop) : Vc Fs2 c78.body (argsQ c78 [(.agg [(.n (.bool a0_0)), (.o (.sl 1 a0_1)), (.o (.sl 1 a0_2)), (.o (.sl 1 a0_3))]), (.n (.bool a1))]) [] (endQ c78 R) = V78 a0_0 a0_1 a0_2 a0_3 a1 R := by kernel_rfl
def V99 (a0 : Int) (a1 : ByteArray) (R : Mir.AV → Prop) : Prop :=
 (sel (a0 != 1) (sel (a0 != 2) (R (.tup [(.agg [(.n (.bool false)),(.o (.sl 1 [])),(.o (.sl 1 [])),(.o (.sl 1 []))]),(.n (.int .i64 81))])) (∃ x0 : Int,(∃ x1 : ByteArray,(∃ x2 :
 Int,(∃ x3 : Int,((Runs Fs2 121 [(.ptr 9900302 0),(aI 1)] [(hB 9900302 [(aS a1),(aI 0),(aI 0)])] (aI x0) [(hB 9900302 [(aS x1),(aI x2),(aI x3)])]) ∧ (∃ x4 : (Int → ((ByteArray ×
 (Int × (Int × (Unit)))) → ((Bool × (Nat × (Nat × (Nat × (Unit))))) → ((Nat × LD) → ((Nat × LD) → ((Nat × LD) → Prop)))))),(∃ x5 : (Int → ((ByteArray × (Int × (Int × (Unit)))) →
 ((Bool × (Nat × (Nat × (Nat × (Unit))))) → ((Nat × LD) → ((Nat × LD) → ((Nat × LD) → Nat)))))),(((rh [(hB 9900000 [(aB false),(.n Mir.D.nil),(.n Mir.D.nil),(.n Mir.D.nil)]),(hB
 9900302 [(aS x1),(aI x2),(aI x3)]),(hB 9900403 [(aB (a0 == 1)),(.row 9990001 0),(.row 9990002 0),(.row 9990003 0)]),(9990001,(.row false true 0 9 1 [])),(9990002,(.row false true 0
 9 1 [])),(9990003,(.row false true 0 3 1 []))]) ∧ (x4 0 (x1,(x2,(x3,()))) ((a0 == 1),(0,(0,(0,())))) (0,[]) (0,[]) (0,[]))) ∧ (∀ x6 : Int,(∀ x7 : (ByteArray × (Int × (Int ×
 (Unit)))),(∀ x8 : (Bool × (Nat × (Nat × (Nat × (Unit))))),(∀ x9 : (Nat × LD),(∀ x10 : (Nat × LD),(∀ x11 : (Nat × LD),((x4 x6 x7 x8 x9 x10 x11) → (∀ x12 : (Nat → Mir.AV),(sel
 (decide (x6 < x0)) (sel (x7.2.2.1 == 0) (sel x8.1 (∃ x13 : ByteArray,(∃ x14 : ByteArray,(∃ x15 : Int,(∃ x16 : Int,((Runs Fs2 122 [(.ptr 9900302 0)] [(hB 9900302 [(aS x7.1),(aI
 x7.2.1),(aI x7.2.2.1)])] (aS x13) [(hB 9900302 [(aS x14),(aI x15),(aI x16)])]) ∧ (rn 0) ∧ ((rn 1) ∨ (@Eq LD [(Mir.D.str x13)] [])) ∧ (((((Prod.fst x9) : Nat) = x8.2.1) ∧ (rn 9)) ∧
 (rn 1)) ∧ (((((List.length (Prod.snd x9)) + (List.length [(Mir.D.str x13)])) * 16) : Nat) ≤ 140737488355328) ∧ (∃ x17 : ByteArray,(∃ x18 : ByteArray,(∃ x19 : Int,(∃ x20 :
 Int,((Runs Fs2 122 [(.ptr 9900302 0)] [(hB 9900302 [(aS x14),(aI x15),(aI x16)])] (aS x17) [(hB 9900302 [(aS x18),(aI x19),(aI x20)])]) ∧ (rn 0) ∧ ((rn 1) ∨ (@Eq LD [(Mir.D.str
 x17)] [])) ∧ (((((Prod.fst x10) : Nat) = x8.2.2.1) ∧ (rn 9)) ∧ (rn 1)) ∧ (((((List.length (Prod.snd x10)) + (List.length [(Mir.D.str x17)])) * 16) : Nat) ≤ 140737488355328) ∧ (rq
 (aS a1)) ∧ (rq (.ptr 9900000 0)) ∧ (rq (.ptr 9900302 0)) ∧ (rq (.ptr 9900403 0)) ∧ (rq (aI x0)) ∧ (rh [(hB 9900000 [(aB false),(.n Mir.D.nil),(.n Mir.D.nil),(.n Mir.D.nil)]),(hB
 9900302 [(aS x18),(aI x19),(aI x20)]),(hB 9900403 [(aB x8.1),(.row 9990001 (x8.2.1 + 1)),(.row 9990002 (x8.2.2.1 + 1)),(.row 9990003 x8.2.2.2.1)]),(9990001,(.row false true (x8.2.1
 + 1) 9 1 ((Prod.snd x9) ++ [(Mir.D.str x13)]))),(9990002,(.row false true (x8.2.2.1 + 1) 9 1 ((Prod.snd x10) ++ [(Mir.D.str x17)]))),(9990003,(.row false true (Prod.fst x11) 3 1
 (Prod.snd x11)))]) ∧ (x4 (IntKind.wrap .i64 (x6 + 1)) (x18,(x19,(x20,()))) (x8.1,((x8.2.1 + 1),((x8.2.2.1 + 1),(x8.2.2.2.1,())))) ((x8.2.1 + 1),((Prod.snd x9) ++ [(Mir.D.str
 x13)])) ((x8.2.2.1 + 1),((Prod.snd x10) ++ [(Mir.D.str x17)])) ((Prod.fst x11),(Prod.snd x11))) ∧ (((x5 (IntKind.wrap .i64 (x6 + 1)) (x18,(x19,(x20,()))) (x8.1,((x8.2.1 +
 1),((x8.2.2.1 + 1),(x8.2.2.2.1,())))) ((x8.2.1 + 1),((Prod.snd x9) ++ [(Mir.D.str x13)])) ((x8.2.2.1 + 1),((Prod.snd x10) ++ [(Mir.D.str x17)])) ((Prod.fst x11),(Prod.snd x11))) :
 Nat) < (x5 x6 x7 x8 x9 x10 x11)))))))))))) (∃ x21 : Int,(∃ x22 : ByteArray,(∃ x23 : Int,(∃ x24 : Int,((Runs Fs2 121 [(.ptr 9900302 0),(aI 2)] [(hB 9900302 [(aS x7.1),(aI
 x7.2.1),(aI x7.2.2.1)])] (aI x21) [(hB 9900302 [(aS x22),(aI x23),(aI x24)])]) ∧ (rn 0) ∧ ((rn 1) ∨ (@Eq LD [(Mir.D.int .i64 x21)] [])) ∧ (((((Prod.fst x11) : Nat) = x8.2.2.2.1) ∧
 (rn 3)) ∧ (rn 1)) ∧ (((((List.length (Prod.snd x11)) + (List.length [(Mir.D.int .i64 x21)])) * 8) : Nat) ≤ 140737488355328) ∧ (∃ x25 : ByteArray,(∃ x26 : ByteArray,(∃ x27 : Int,(∃
 x28 : Int,((Runs Fs2 122 [(.ptr 9900302 0)] [(hB 9900302 [(aS x22),(aI x23),(aI x24)])] (aS x25) [(hB 9900302 [(aS x26),(aI x27),(aI x28)])]) ∧ (rn 0) ∧ ((rn 1) ∨ (@Eq LD
 [(Mir.D.str x25)] [])) ∧ (((((Prod.fst x9) : Nat) = x8.2.1) ∧ (rn 9)) ∧ (rn 1)) ∧ (((((List.length (Prod.snd x9)) + (List.length [(Mir.D.str x25)])) * 16) : Nat) ≤ 140737488355328)
 ∧ (rq (aS a1)) ∧ (rq (.ptr 9900000 0)) ∧ (rq (.ptr 9900302 0)) ∧ (rq (.ptr 9900403 0)) ∧ (rq (aI x0)) ∧ (rh [(hB 9900000 [(aB false),(.n Mir.D.nil),(.n Mir.D.nil),(.n
 Mir.D.nil)]),(hB 9900302 [(aS x26),(aI x27),(aI x28)]),(hB 9900403 [(aB x8.1),(.row 9990001 (x8.2.1 + 1)),(.row 9990002 x8.2.2.1),(.row 9990003 (x8.2.2.2.1 + 1))]),(9990001,(.row
 false true (x8.2.1 + 1) 9 1 ((Prod.snd x9) ++ [(Mir.D.str x25)]))),(9990002,(.row false true (Prod.fst x10) 9 1 (Prod.snd x10))),(9990003,(.row false true (x8.2.2.2.1 + 1) 3 1
 ((Prod.snd x11) ++ [(Mir.D.int .i64 x21)])))]) ∧ (x4 (IntKind.wrap .i64 (x6 + 1)) (x26,(x27,(x28,()))) (x8.1,((x8.2.1 + 1),(x8.2.2.1,((x8.2.2.2.1 + 1),())))) ((x8.2.1 +
 1),((Prod.snd x9) ++ [(Mir.D.str x25)])) ((Prod.fst x10),(Prod.snd x10)) ((x8.2.2.2.1 + 1),((Prod.snd x11) ++ [(Mir.D.int .i64 x21)]))) ∧ (((x5 (IntKind.wrap .i64 (x6 + 1))
 (x26,(x27,(x28,()))) (x8.1,((x8.2.1 + 1),(x8.2.2.1,((x8.2.2.2.1 + 1),())))) ((x8.2.1 + 1),((Prod.snd x9) ++ [(Mir.D.str x25)])) ((Prod.fst x10),(Prod.snd x10)) ((x8.2.2.2.1 +
 1),((Prod.snd x11) ++ [(Mir.D.int .i64 x21)]))) : Nat) < (x5 x6 x7 x8 x9 x10 x11))))))))))))) (sel (Bool.not x8.1) (∃ x29 : Int,(∃ x30 : ByteArray,(∃ x31 : Int,(∃ x32 : Int,((Runs
 Fs2 121 [(.ptr 9900302 0),(aI 2)] [(hB 9900302 [(aS x7.1),(aI x7.2.1),(aI x7.2.2.1)])] (aI x29) [(hB 9900302 [(aS x30),(aI x31),(aI x32)])]) ∧ (rn 0) ∧ ((rn 1) ∨ (@Eq LD
 [(Mir.D.int .i64 x29)] [])) ∧ (((((Prod.fst x11) : Nat) = x8.2.2.2.1) ∧ (rn 3)) ∧ (rn 1)) ∧ (((((List.length (Prod.snd x11)) + (List.length [(Mir.D.int .i64 x29)])) * 8) : Nat) ≤
 140737488355328) ∧ (sel (x32 != 0) (R (.tup [(.agg [(.n (.bool false)),(.o (.sl 1 [])),(.o (.sl 1 [])),(.o (.sl 1 []))]),(.n (.int .i64 x32))])) (sel (x31 != (((ByteArray.size a1)
 : Nat) : Int)) (R (.tup [(.agg [(.n (.bool false)),(.o (.sl 1 [])),(.o (.sl 1 [])),(.o (.sl 1 []))]),(.n (.int .i64 4))])) (((Prod.fst x9) = x8.2.1) ∧ ((Prod.fst x10) = x8.2.2.1) ∧
 ((x8.2.2.2.1 + 1) = (x8.2.2.2.1 + 1)) ∧ (∃ x33 : Bool,((Runs Fs2 100 [(.agg [(aB x8.1),(aL (Prod.snd x9)),(aL (Prod.snd x10)),(aL ((Prod.snd x11) ++ [(Mir.D.int .i64 x29)]))]),(aB
 true)] [] (aB x33) []) ∧ (sel (Bool.not x33) (R (.tup [(.agg [(.n (.bool false)),(.o (.sl 1 [])),(.o (.sl 1 [])),(.o (.sl 1 []))]),(.n (.int .i64 4))])) (((Prod.fst x9) = x8.2.1) ∧
 ((Prod.fst x10) = x8.2.2.1) ∧ ((x8.2.2.2.1 + 1) = (x8.2.2.2.1 + 1)) ∧ (R (.tup [(.agg [(.n (.bool x8.1)),(.o (.sl 1 (Prod.snd x9))),(.o (.sl 1 (Prod.snd x10))),(.o (.sl 1
 ((Prod.snd x11) ++ [(Mir.D.int .i64 x29)])))]),(.n (.int .i64 0))])))))))))))))) (sel (x7.2.2.1 != 0) (R (.tup [(.agg [(.n (.bool false)),(.o (.sl 1 [])),(.o (.sl 1 [])),(.o (.sl 1
 []))]),(.n (.int .i64 x7.2.2.1))])) (sel (x7.2.1 != (((ByteArray.size a1) : Nat) : Int)) (R (.tup [(.agg [(.n (.bool false)),(.o (.sl 1 [])),(.o (.sl 1 [])),(.o (.sl 1 []))]),(.n
 (.int .i64 4))])) (((Prod.fst x9) = x8.2.1) ∧ ((Prod.fst x10) = x8.2.2.1) ∧ ((Prod.fst x11) = x8.2.2.2.1) ∧ (∃ x34 : Bool,((Runs Fs2 100 [(.agg [(aB x8.1),(aL (Prod.snd x9)),(aL
 (Prod.snd x10)),(aL (Prod.snd x11))]),(aB true)] [] (aB x34) []) ∧ (sel (Bool.not x34) (R (.tup [(.agg [(.n (.bool false)),(.o (.sl 1 [])),(.o (.sl 1 [])),(.o (.sl 1 []))]),(.n
 (.int .i64 4))])) (((Prod.fst x9) = x8.2.1) ∧ ((Prod.fst x10) = x8.2.2.1) ∧ ((Prod.fst x11) = x8.2.2.2.1) ∧ (R (.tup [(.agg [(.n (.bool x8.1)),(.o (.sl 1 (Prod.snd x9))),(.o (.sl 1
 (Prod.snd x10))),(.o (.sl 1 (Prod.snd x11)))]),(.n (.int .i64 0))]))))))))))) (sel (Bool.not x8.1) (∃ x35 : Int,(∃ x36 : ByteArray,(∃ x37 : Int,(∃ x38 : Int,((Runs Fs2 121 [(.ptr
 9900302 0),(aI 2)] [(hB 9900302 [(aS x7.1),(aI x7.2.1),(aI x7.2.2.1)])] (aI x35) [(hB 9900302 [(aS x36),(aI x37),(aI x38)])]) ∧ (rn 0) ∧ ((rn 1) ∨ (@Eq LD [(Mir.D.int .i64 x35)]
 [])) ∧ (((((Prod.fst x11) : Nat) = x8.2.2.2.1) ∧ (rn 3)) ∧ (rn 1)) ∧ (((((List.length (Prod.snd x11)) + (List.length [(Mir.D.int .i64 x35)])) * 8) : Nat) ≤ 140737488355328) ∧ (sel
 (x38 != 0) (R (.tup [(.agg [(.n (.bool false)),(.o (.sl 1 [])),(.o (.sl 1 [])),(.o (.sl 1 []))]),(.n (.int .i64 x38))])) (sel (x37 != (((ByteArray.size a1) : Nat) : Int)) (R (.tup
 [(.agg [(.n (.bool false)),(.o (.sl 1 [])),(.o (.sl 1 [])),(.o (.sl 1 []))]),(.n (.int .i64 4))])) (((Prod.fst x9) = x8.2.1) ∧ ((Prod.fst x10) = x8.2.2.1) ∧ ((x8.2.2.2.1 + 1) =
 (x8.2.2.2.1 + 1)) ∧ (∃ x39 : Bool,((Runs Fs2 100 [(.agg [(aB x8.1),(aL (Prod.snd x9)),(aL (Prod.snd x10)),(aL ((Prod.snd x11) ++ [(Mir.D.int .i64 x35)]))]),(aB true)] [] (aB x39)
 []) ∧ (sel (Bool.not x39) (R (.tup [(.agg [(.n (.bool false)),(.o (.sl 1 [])),(.o (.sl 1 [])),(.o (.sl 1 []))]),(.n (.int .i64 4))])) (((Prod.fst x9) = x8.2.1) ∧ ((Prod.fst x10) =
 x8.2.2.1) ∧ ((x8.2.2.2.1 + 1) = (x8.2.2.2.1 + 1)) ∧ (R (.tup [(.agg [(.n (.bool x8.1)),(.o (.sl 1 (Prod.snd x9))),(.o (.sl 1 (Prod.snd x10))),(.o (.sl 1 ((Prod.snd x11) ++
 [(Mir.D.int .i64 x35)])))]),(.n (.int .i64 0))])))))))))))))) (sel (x7.2.2.1 != 0) (R (.tup [(.agg [(.n (.bool false)),(.o (.sl 1 [])),(.o (.sl 1 [])),(.o (.sl 1 []))]),(.n (.int
 .i64 x7.2.2.1))])) (sel (x7.2.1 != (((ByteArray.size a1) : Nat) : Int)) (R (.tup [(.agg [(.n (.bool false)),(.o (.sl 1 [])),(.o (.sl 1 [])),(.o (.sl 1 []))]),(.n (.int .i64 4))]))
 (((Prod.fst x9) = x8.2.1) ∧ ((Prod.fst x10) = x8.2.2.1) ∧ ((Prod.fst x11) = x8.2.2.2.1) ∧ (∃ x40 : Bool,((Runs Fs2 100 [(.agg [(aB x8.1),(aL (Prod.snd x9)),(aL (Prod.snd x10)),(aL
 (Prod.snd x11))]),(aB true)] [] (aB x40) []) ∧ (sel (Bool.not x40) (R (.tup [(.agg [(.n (.bool false)),(.o (.sl 1 [])),(.o (.sl 1 [])),(.o (.sl 1 []))]),(.n (.int .i64 4))]))
 (((Prod.fst x9) = x8.2.1) ∧ ((Prod.fst x10) = x8.2.2.1) ∧ ((Prod.fst x11) = x8.2.2.2.1) ∧ (R (.tup [(.agg [(.n (.bool x8.1)),(.o (.sl 1 (Prod.snd x9))),(.o (.sl 1 (Prod.snd
 x10))),(.o (.sl 1 (Prod.snd x11)))]),(.n (.int .i64 0))])))))))))))))))))))))))))))) (∃ x41 : Int,(∃ x42 : ByteArray,(∃ x43 : Int,(∃ x44 : Int,((Runs Fs2 121 [(.ptr 9900302 0),(aI
 1)] [(hB 9900302 [(aS a1),(aI 0),(aI 0)])] (aI x41) [(hB 9900302 [(aS x42),(aI x43),(aI x44)])]) ∧ (∃ x45 : (Int → ((ByteArray × (Int × (Int × (Unit)))) → ((Bool × (Nat × (Nat ×
 (Nat × (Unit))))) → ((Nat × LD) → ((Nat × LD) → ((Nat × LD) → Prop)))))),(∃ x46 : (Int → ((ByteArray × (Int × (Int × (Unit)))) → ((Bool × (Nat × (Nat × (Nat × (Unit))))) → ((Nat ×
 LD) → ((Nat × LD) → ((Nat × LD) → Nat)))))),(((rh [(hB 9900000 [(aB false),(.n Mir.D.nil),(.n Mir.D.nil),(.n Mir.D.nil)]),(hB 9900302 [(aS x42),(aI x43),(aI x44)]),(hB 9900403 [(aB
 (a0 == 1)),(.row 9990001 0),(.row 9990002 0),(.row 9990003 0)]),(9990001,(.row false true 0 9 1 [])),(9990002,(.row false true 0 9 1 [])),(9990003,(.row false true 0 3 1 []))]) ∧
 (x45 0 (x42,(x43,(x44,()))) ((a0 == 1),(0,(0,(0,())))) (0,[]) (0,[]) (0,[]))) ∧ (∀ x47 : Int,(∀ x48 : (ByteArray × (Int × (Int × (Unit)))),(∀ x49 : (Bool × (Nat × (Nat × (Nat ×
 (Unit))))),(∀ x50 : (Nat × LD),(∀ x51 : (Nat × LD),(∀ x52 : (Nat × LD),((x45 x47 x48 x49 x50 x51 x52) → (∀ x53 : (Nat → Mir.AV),(sel (decide (x47 < x41)) (sel (x48.2.2.1 == 0) (sel
 x49.1 (∃ x54 : ByteArray,(∃ x55 : ByteArray,(∃ x56 : Int,(∃ x57 : Int,((Runs Fs2 122 [(.ptr 9900302 0)] [(hB 9900302 [(aS x48.1),(aI x48.2.1),(aI x48.2.2.1)])] (aS x54) [(hB
 9900302 [(aS x55),(aI x56),(aI x57)])]) ∧ (rn 0) ∧ ((rn 1) ∨ (@Eq LD [(Mir.D.str x54)] [])) ∧ (((((Prod.fst x50) : Nat) = x49.2.1) ∧ (rn 9)) ∧ (rn 1)) ∧ (((((List.length (Prod.snd
 x50)) + (List.length [(Mir.D.str x54)])) * 16) : Nat) ≤ 140737488355328) ∧ (∃ x58 : ByteArray,(∃ x59 : ByteArray,(∃ x60 : Int,(∃ x61 : Int,((Runs Fs2 122 [(.ptr 9900302 0)] [(hB
 9900302 [(aS x55),(aI x56),(aI x57)])] (aS x58) [(hB 9900302 [(aS x59),(aI x60),(aI x61)])]) ∧ (rn 0) ∧ ((rn 1) ∨ (@Eq LD [(Mir.D.str x58)] [])) ∧ (((((Prod.fst x51) : Nat) =
 x49.2.2.1) ∧ (rn 9)) ∧ (rn 1)) ∧ (((((List.length (Prod.snd x51)) + (List.length [(Mir.D.str x58)])) * 16) : Nat) ≤ 140737488355328) ∧ (rq (aS a1)) ∧ (rq (.ptr 9900000 0)) ∧ (rq
 (.ptr 9900302 0)) ∧ (rq (.ptr 9900403 0)) ∧ (rq (aI x41)) ∧ (rh [(hB 9900000 [(aB false),(.n Mir.D.nil),(.n Mir.D.nil),(.n Mir.D.nil)]),(hB 9900302 [(aS x59),(aI x60),(aI
 x61)]),(hB 9900403 [(aB x49.1),(.row 9990001 (x49.2.1 + 1)),(.row 9990002 (x49.2.2.1 + 1)),(.row 9990003 x49.2.2.2.1)]),(9990001,(.row false true (x49.2.1 + 1) 9 1 ((Prod.snd x50)
 ++ [(Mir.D.str x54)]))),(9990002,(.row false true (x49.2.2.1 + 1) 9 1 ((Prod.snd x51) ++ [(Mir.D.str x58)]))),(9990003,(.row false true (Prod.fst x52) 3 1 (Prod.snd x52)))]) ∧ (x45
 (IntKind.wrap .i64 (x47 + 1)) (x59,(x60,(x61,()))) (x49.1,((x49.2.1 + 1),((x49.2.2.1 + 1),(x49.2.2.2.1,())))) ((x49.2.1 + 1),((Prod.snd x50) ++ [(Mir.D.str x54)])) ((x49.2.2.1 +
 1),((Prod.snd x51) ++ [(Mir.D.str x58)])) ((Prod.fst x52),(Prod.snd x52))) ∧ (((x46 (IntKind.wrap .i64 (x47 + 1)) (x59,(x60,(x61,()))) (x49.1,((x49.2.1 + 1),((x49.2.2.1 +
 1),(x49.2.2.2.1,())))) ((x49.2.1 + 1),((Prod.snd x50) ++ [(Mir.D.str x54)])) ((x49.2.2.1 + 1),((Prod.snd x51) ++ [(Mir.D.str x58)])) ((Prod.fst x52),(Prod.snd x52))) : Nat) < (x46
 x47 x48 x49 x50 x51 x52)))))))))))) (∃ x62 : Int,(∃ x63 : ByteArray,(∃ x64 : Int,(∃ x65 : Int,((Runs Fs2 121 [(.ptr 9900302 0),(aI 2)] [(hB 9900302 [(aS x48.1),(aI x48.2.1),(aI
 x48.2.2.1)])] (aI x62) [(hB 9900302 [(aS x63),(aI x64),(aI x65)])]) ∧ (rn 0) ∧ ((rn 1) ∨ (@Eq LD [(Mir.D.int .i64 x62)] [])) ∧ (((((Prod.fst x52) : Nat) = x49.2.2.2.1) ∧ (rn 3)) ∧
 (rn 1)) ∧ (((((List.length (Prod.snd x52)) + (List.length [(Mir.D.int .i64 x62)])) * 8) : Nat) ≤ 140737488355328) ∧ (∃ x66 : ByteArray,(∃ x67 : ByteArray,(∃ x68 : Int,(∃ x69 :
 Int,((Runs Fs2 122 [(.ptr 9900302 0)] [(hB 9900302 [(aS x63),(aI x64),(aI x65)])] (aS x66) [(hB 9900302 [(aS x67),(aI x68),(aI x69)])]) ∧ (rn 0) ∧ ((rn 1) ∨ (@Eq LD [(Mir.D.str
 x66)] [])) ∧ (((((Prod.fst x50) : Nat) = x49.2.1) ∧ (rn 9)) ∧ (rn 1)) ∧ (((((List.length (Prod.snd x50)) + (List.length [(Mir.D.str x66)])) * 16) : Nat) ≤ 140737488355328) ∧ (rq
 (aS a1)) ∧ (rq (.ptr 9900000 0)) ∧ (rq (.ptr 9900302 0)) ∧ (rq (.ptr 9900403 0)) ∧ (rq (aI x41)) ∧ (rh [(hB 9900000 [(aB false),(.n Mir.D.nil),(.n Mir.D.nil),(.n Mir.D.nil)]),(hB
 9900302 [(aS x67),(aI x68),(aI x69)]),(hB 9900403 [(aB x49.1),(.row 9990001 (x49.2.1 + 1)),(.row 9990002 x49.2.2.1),(.row 9990003 (x49.2.2.2.1 + 1))]),(9990001,(.row false true
 (x49.2.1 + 1) 9 1 ((Prod.snd x50) ++ [(Mir.D.str x66)]))),(9990002,(.row false true (Prod.fst x51) 9 1 (Prod.snd x51))),(9990003,(.row false true (x49.2.2.2.1 + 1) 3 1 ((Prod.snd
 x52) ++ [(Mir.D.int .i64 x62)])))]) ∧ (x45 (IntKind.wrap .i64 (x47 + 1)) (x67,(x68,(x69,()))) (x49.1,((x49.2.1 + 1),(x49.2.2.1,((x49.2.2.2.1 + 1),())))) ((x49.2.1 + 1),((Prod.snd
 x50) ++ [(Mir.D.str x66)])) ((Prod.fst x51),(Prod.snd x51)) ((x49.2.2.2.1 + 1),((Prod.snd x52) ++ [(Mir.D.int .i64 x62)]))) ∧ (((x46 (IntKind.wrap .i64 (x47 + 1))
 (x67,(x68,(x69,()))) (x49.1,((x49.2.1 + 1),(x49.2.2.1,((x49.2.2.2.1 + 1),())))) ((x49.2.1 + 1),((Prod.snd x50) ++ [(Mir.D.str x66)])) ((Prod.fst x51),(Prod.snd x51)) ((x49.2.2.2.1
 + 1),((Prod.snd x52) ++ [(Mir.D.int .i64 x62)]))) : Nat) < (x46 x47 x48 x49 x50 x51 x52))))))))))))) (sel (Bool.not x49.1) (∃ x70 : Int,(∃ x71 : ByteArray,(∃ x72 : Int,(∃ x73 :
 Int,((Runs Fs2 121 [(.ptr 9900302 0),(aI 2)] [(hB 9900302 [(aS x48.1),(aI x48.2.1),(aI x48.2.2.1)])] (aI x70) [(hB 9900302 [(aS x71),(aI x72),(aI x73)])]) ∧ (rn 0) ∧ ((rn 1) ∨ (@Eq
 LD [(Mir.D.int .i64 x70)] [])) ∧ (((((Prod.fst x52) : Nat) = x49.2.2.2.1) ∧ (rn 3)) ∧ (rn 1)) ∧ (((((List.length (Prod.snd x52)) + (List.length [(Mir.D.int .i64 x70)])) * 8) : Nat)
 ≤ 140737488355328) ∧ (sel (x73 != 0) (R (.tup [(.agg [(.n (.bool false)),(.o (.sl 1 [])),(.o (.sl 1 [])),(.o (.sl 1 []))]),(.n (.int .i64 x73))])) (sel (x72 != (((ByteArray.size
 a1) : Nat) : Int)) (R (.tup [(.agg [(.n (.bool false)),(.o (.sl 1 [])),(.o (.sl 1 [])),(.o (.sl 1 []))]),(.n (.int .i64 4))])) (((Prod.fst x50) = x49.2.1) ∧ ((Prod.fst x51) =
 x49.2.2.1) ∧ ((x49.2.2.2.1 + 1) = (x49.2.2.2.1 + 1)) ∧ (∃ x74 : Bool,((Runs Fs2 100 [(.agg [(aB x49.1),(aL (Prod.snd x50)),(aL (Prod.snd x51)),(aL ((Prod.snd x52) ++ [(Mir.D.int
 .i64 x70)]))]),(aB true)] [] (aB x74) []) ∧ (sel (Bool.not x74) (R (.tup [(.agg [(.n (.bool false)),(.o (.sl 1 [])),(.o (.sl 1 [])),(.o (.sl 1 []))]),(.n (.int .i64 4))]))
 (((Prod.fst x50) = x49.2.1) ∧ ((Prod.fst x51) = x49.2.2.1) ∧ ((x49.2.2.2.1 + 1) = (x49.2.2.2.1 + 1)) ∧ (R (.tup [(.agg [(.n (.bool x49.1)),(.o (.sl 1 (Prod.snd x50))),(.o (.sl 1
 (Prod.snd x51))),(.o (.sl 1 ((Prod.snd x52) ++ [(Mir.D.int .i64 x70)])))]),(.n (.int .i64 0))])))))))))))))) (sel (x48.2.2.1 != 0) (R (.tup [(.agg [(.n (.bool false)),(.o (.sl 1
 [])),(.o (.sl 1 [])),(.o (.sl 1 []))]),(.n (.int .i64 x48.2.2.1))])) (sel (x48.2.1 != (((ByteArray.size a1) : Nat) : Int)) (R (.tup [(.agg [(.n (.bool false)),(.o (.sl 1 [])),(.o
 (.sl 1 [])),(.o (.sl 1 []))]),(.n (.int .i64 4))])) (((Prod.fst x50) = x49.2.1) ∧ ((Prod.fst x51) = x49.2.2.1) ∧ ((Prod.fst x52) = x49.2.2.2.1) ∧ (∃ x75 : Bool,((Runs Fs2 100
 [(.agg [(aB x49.1),(aL (Prod.snd x50)),(aL (Prod.snd x51)),(aL (Prod.snd x52))]),(aB true)] [] (aB x75) []) ∧ (sel (Bool.not x75) (R (.tup [(.agg [(.n (.bool false)),(.o (.sl 1
 [])),(.o (.sl 1 [])),(.o (.sl 1 []))]),(.n (.int .i64 4))])) (((Prod.fst x50) = x49.2.1) ∧ ((Prod.fst x51) = x49.2.2.1) ∧ ((Prod.fst x52) = x49.2.2.2.1) ∧ (R (.tup [(.agg [(.n
 (.bool x49.1)),(.o (.sl 1 (Prod.snd x50))),(.o (.sl 1 (Prod.snd x51))),(.o (.sl 1 (Prod.snd x52)))]),(.n (.int .i64 0))]))))))))))) (sel (Bool.not x49.1) (∃ x76 : Int,(∃ x77 :
 ByteArray,(∃ x78 : Int,(∃ x79 : Int,((Runs Fs2 121 [(.ptr 9900302 0),(aI 2)] [(hB 9900302 [(aS x48.1),(aI x48.2.1),(aI x48.2.2.1)])] (aI x76) [(hB 9900302 [(aS x77),(aI x78),(aI
 x79)])]) ∧ (rn 0) ∧ ((rn 1) ∨ (@Eq LD [(Mir.D.int .i64 x76)] [])) ∧ (((((Prod.fst x52) : Nat) = x49.2.2.2.1) ∧ (rn 3)) ∧ (rn 1)) ∧ (((((List.length (Prod.snd x52)) + (List.length
 [(Mir.D.int .i64 x76)])) * 8) : Nat) ≤ 140737488355328) ∧ (sel (x79 != 0) (R (.tup [(.agg [(.n (.bool false)),(.o (.sl 1 [])),(.o (.sl 1 [])),(.o (.sl 1 []))]),(.n (.int .i64
 x79))])) (sel (x78 != (((ByteArray.size a1) : Nat) : Int)) (R (.tup [(.agg [(.n (.bool false)),(.o (.sl 1 [])),(.o (.sl 1 [])),(.o (.sl 1 []))]),(.n (.int .i64 4))])) (((Prod.fst
 x50) = x49.2.1) ∧ ((Prod.fst x51) = x49.2.2.1) ∧ ((x49.2.2.2.1 + 1) = (x49.2.2.2.1 + 1)) ∧ (∃ x80 : Bool,((Runs Fs2 100 [(.agg [(aB x49.1),(aL (Prod.snd x50)),(aL (Prod.snd
 x51)),(aL ((Prod.snd x52) ++ [(Mir.D.int .i64 x76)]))]),(aB true)] [] (aB x80) []) ∧ (sel (Bool.not x80) (R (.tup [(.agg [(.n (.bool false)),(.o (.sl 1 [])),(.o (.sl 1 [])),(.o
 (.sl 1 []))]),(.n (.int .i64 4))])) (((Prod.fst x50) = x49.2.1) ∧ ((Prod.fst x51) = x49.2.2.1) ∧ ((x49.2.2.2.1 + 1) = (x49.2.2.2.1 + 1)) ∧ (R (.tup [(.agg [(.n (.bool x49.1)),(.o
 (.sl 1 (Prod.snd x50))),(.o (.sl 1 (Prod.snd x51))),(.o (.sl 1 ((Prod.snd x52) ++ [(Mir.D.int .i64 x76)])))]),(.n (.int .i64 0))])))))))))))))) (sel (x48.2.2.1 != 0) (R (.tup
 [(.agg [(.n (.bool false)),(.o (.sl 1 [])),(.o (.sl 1 [])),(.o (.sl 1 []))]),(.n (.int .i64 x48.2.2.1))])) (sel (x48.2.1 != (((ByteArray.size a1) : Nat) : Int)) (R (.tup [(.agg
 [(.n (.bool false)),(.o (.sl 1 [])),(.o (.sl 1 [])),(.o (.sl 1 []))]),(.n (.int .i64 4))])) (((Prod.fst x50) = x49.2.1) ∧ ((Prod.fst x51) = x49.2.2.1) ∧ ((Prod.fst x52) =
 x49.2.2.2.1) ∧ (∃ x81 : Bool,((Runs Fs2 100 [(.agg [(aB x49.1),(aL (Prod.snd x50)),(aL (Prod.snd x51)),(aL (Prod.snd x52))]),(aB true)] [] (aB x81) []) ∧ (sel (Bool.not x81) (R
 (.tup [(.agg [(.n (.bool false)),(.o (.sl 1 [])),(.o (.sl 1 [])),(.o (.sl 1 []))]),(.n (.int .i64 4))])) (((Prod.fst x50) = x49.2.1) ∧ ((Prod.fst x51) = x49.2.2.1) ∧ ((Prod.fst
 x52) = x49.2.2.2.1) ∧ (R (.tup [(.agg [(.n (.bool x49.1)),(.o (.sl 1 (Prod.snd x50))),(.o (.sl 1 (Prod.snd x51))),(.o (.sl 1 (Prod.snd x52)))]),(.n (.int .i64
 0))]))))))))))))))))))))))))))))
theorem vc99 (a0 : Int) (a1 : ByteArray) (R : Mir.AV → Prop) : Vc Fs2 c99.body (argsQ c99 [(.n (.int .i64 a0)), (.n (.str a1))]) [] (endQ c99 R) = V99 a0 a1 R := by kernel_rfl
def V100 (a0_0 : Bool) (a0_1 : LD) (a0_2 : LD) (a0_3 : LD) (a1 : Bool) (R : Mir.AV → Prop) : Prop :=
 (∃ x0 : Bool,((Runs Fs2 101 [(.agg [(aB a0_0),(aL a0_1),(aL a0_2),(aL a0_3)])] [] (aB x0) []) ∧ (sel x0 (sel (decide ((a0_1.length : Int) ≤ 8)) (sel a1 (R (.n (.bool true))) (R (.n
 (.bool (decide ((a0_1.length : Int) ≥ 4)))))) (R (.n (.bool false)))) (R (.n (.bool false))))))
theorem vc100 (a0_0 : Bool) (a0_1 : LD) (a0_2 : LD) (a0_3 : LD) (a1 : Bool) (R : Mir.AV → Prop) : Vc Fs2 c100.body (argsQ c100 [(.agg [(.n (.bool a0_0)), (.o (.sl 1 a0_1)), (.o (.sl 1 a0_2)), (.o (.sl 1 a0_3))]), (.n (.bool a1))]) [] (endQ c100 R) = V100 a0_0 a0_1 a0_2 a0_3 a1 R := by kernel_rfl
def V101 (a0_0 : Bool) (a0_1 : LD) (a0_2 : LD) (a0_3 : LD) (R : Mir.AV → Prop) : Prop :=
 (sel (decide ((a0_1.length : Int) > 9)) (R (.n (.bool false))) (∃ x0 : (Int → Prop),(∃ x1 : (Int → Nat),(((rh [(hB 10100000 [(aB a0_0),(aL a0_1),(aL a0_2),(aL a0_3)])]) ∧ (x0 0)) ∧
 (∀ x2 : Int,((x0 x2) → (∀ x3 : (Nat → Mir.AV),(sel (decide (x2 < (a0_1.length : Int))) ((rn 1) ∧ ((0 : Int) ≤ x2) ∧ (∃ x4 : Mir.D,((a0_1[Int.toNat x2]? = some x4) ∧ (∃ x5 :
 ByteArray,(((D.cells x4)[0]? = some (Mir.D.str x5)) ∧ (sel (decide ((((ByteArray.size x5) : Nat) : Int) < 1)) (R (.n (.bool false))) (sel (decide ((((ByteArray.size x5) : Nat) :
 Int) > 32)) (R (.n (.bool false))) (sel (decide (x2 > 0)) ((rn 1) ∧ ((0 : Int) ≤ (IntKind.wrap .i64 (x2 - 1))) ∧ (∃ x6 : Mir.D,((a0_1[Int.toNat (IntKind.wrap .i64 (x2 - 1))]? =
 some x6) ∧ (∃ x7 : ByteArray,(((D.cells x6)[0]? = some (Mir.D.str x7)) ∧ (sel ((Op.bytesLess (ByteArray.toList x5) (ByteArray.toList x7)) || ((ByteArray.toList x5) ==
 (ByteArray.toList x7))) (R (.n (.bool false))) ((rq (.ptr 10100000 0)) ∧ (rq (aI (a0_1.length : Int))) ∧ (rq (aL a0_1)) ∧ (rq (aI (a0_1.length : Int))) ∧ (rh [(hB 10100000 [(aB
 a0_0),(aL a0_1),(aL a0_2),(aL a0_3)])]) ∧ (x0 (IntKind.wrap .i64 (x2 + 1))) ∧ (((x1 (IntKind.wrap .i64 (x2 + 1))) : Nat) < (x1 x2))))))))) ((rq (.ptr 10100000 0)) ∧ (rq (aI
 (a0_1.length : Int))) ∧ (rq (aL a0_1)) ∧ (rq (aI (a0_1.length : Int))) ∧ (rh [(hB 10100000 [(aB a0_0),(aL a0_1),(aL a0_2),(aL a0_3)])]) ∧ (x0 (IntKind.wrap .i64 (x2 + 1))) ∧ (((x1
 (IntKind.wrap .i64 (x2 + 1))) : Nat) < (x1 x2))))))))))) (sel a0_0 (sel ((a0_3.length : Int) == 0) (sel ((a0_2.length : Int) == (a0_1.length : Int)) (∃ x8 : Bool,((Runs Fs2 74 [(aL
 a0_2),(.fn 123 [])] [] (aB x8) []) ∧ (R (.n (.bool (Bool.not x8)))))) (R (.n (.bool false)))) (R (.n (.bool false)))) (sel ((a0_2.length : Int) == 0) (sel (decide ((a0_1.length :
 Int) ≥ 1)) (sel ((a0_3.length : Int) == (IntKind.wrap .i64 ((a0_1.length : Int) + 1))) (∃ x9 : Bool,((Runs Fs2 124 [(aL a0_3),(.fn 125 [])] [] (aB x9) []) ∧ (R (.n (.bool (Bool.not
 x9)))))) (R (.n (.bool false)))) (R (.n (.bool false)))) (R (.n (.bool false)))))))))))))
theorem vc101 (a0_0 : Bool) (a0_1 : LD) (a0_2 : LD) (a0_3 : LD) (R : Mir.AV → Prop) : Vc Fs2 c101.body (argsQ c101 [(.agg [(.n (.bool a0_0)), (.o (.sl 1 a0_1)), (.o (.sl 1 a0_2)), (.o (.sl 1 a0_3))])]) [] (endQ c101 R) = V101 a0_0 a0_1 a0_2 a0_3 R := by kernel_rfl
def V103 (a0 : ByteArray) (a1 : ByteArray) (a2 : ByteArray) (R : Mir.AV → Prop) : Prop :=
 (sel (Bool.not (Op.bytesLess (ByteArray.toList a0) (ByteArray.toList a1))) (sel ((ByteArray.toList a2) == (ByteArray.toList (ByteArray.mk (List.toArray [])))) (R (.n (.bool true)))
 (R (.n (.bool (Op.bytesLess (ByteArray.toList a0) (ByteArray.toList a2)))))) (R (.n (.bool false))))
theorem vc103 (a0 : ByteArray) (a1 : ByteArray) (a2 : ByteArray) (R : Mir.AV → Prop) : Vc Fs2 c103.body (argsQ c103 [(.n (.str a0)), (.n (.str a1)), (.n (.str a2))]) [] (endQ c103 R) = V103 a0 a1 a2 R := by kernel_rfl
def V104 (a0 : LD) (R : Mir.AV → Prop) : Prop :=
 (∃ x0 : Int,((Runs Fs2 128 [(aL a0)] [] (aI x0) []) ∧ (∃ x1 : (Int → (Int → Prop)),(∃ x2 : (Int → (Int → Nat)),(((rh []) ∧ (x1 0 0)) ∧ (∀ x3 : Int,(∀ x4 : Int,((x1 x3 x4) → (∀ x5 :
 (Nat → Mir.AV),(sel (decide (x4 < x0)) (∃ x6 : Bool,((Runs Fs2 129 [(aL a0),(.fn 130 [(.ptr 10400401 0)])] [(hB 10400401 [(aI x4)])] (aB x6) [(hB 10400401 [(aI x4)])]) ∧ (sel
 (Bool.not x6) ((rq (aL a0)) ∧ (rq (aI x0)) ∧ (rh []) ∧ (x1 (IntKind.wrap .i64 (x3 + 1)) (IntKind.wrap .i64 (x4 + 1))) ∧ (((x2 (IntKind.wrap .i64 (x3 + 1)) (IntKind.wrap .i64 (x4 +
 1))) : Nat) < (x2 x3 x4))) ((rq (aL a0)) ∧ (rq (aI x0)) ∧ (rh []) ∧ (x1 x3 (IntKind.wrap .i64 (x4 + 1))) ∧ (((x2 x3 (IntKind.wrap .i64 (x4 + 1))) : Nat) < (x2 x3 x4)))))) (R (.n
 (.int .i64 x3)))))))))))))
theorem vc104 (a0 : LD) (R : Mir.AV → Prop) : Vc Fs2 c104.body (argsQ c104 [(.o (.sl 1 a0))]) [] (endQ c104 R) = V104 a0 R := by kernel_rfl
def V107 (a0_0 : Bool) (a0_1 : LD) (a0_2 : LD) (a0_3 : LD) (R : Mir.AV → Prop) : Prop :=
 (sel (decide ((a0_1.length : Int) > 9)) (R (.n (.bool false))) (∃ x0 : (Int → Prop),(∃ x1 : (Int → Nat),(((rh [(hB 10700000 [(aB a0_0),(aL a0_1),(aL a0_2),(aL a0_3)])]) ∧ (x0 0)) ∧
 (∀ x2 : Int,((x0 x2) → (∀ x3 : (Nat → Mir.AV),(sel (decide (x2 < (a0_1.length : Int))) ((rn 1) ∧ ((0 : Int) ≤ x2) ∧ (∃ x4 : Mir.D,((a0_1[Int.toNat x2]? = some x4) ∧ (∃ x5 :
 ByteArray,(((D.cells x4)[0]? = some (Mir.D.str x5)) ∧ (sel (decide ((((ByteArray.size x5) : Nat) : Int) < 1)) (R (.n (.bool false))) (sel (decide ((((ByteArray.size x5) : Nat) :
 Int) > 32)) (R (.n (.bool false))) (sel (decide (x2 > 0)) ((rn 1) ∧ ((0 : Int) ≤ (IntKind.wrap .i64 (x2 - 1))) ∧ (∃ x6 : Mir.D,((a0_1[Int.toNat (IntKind.wrap .i64 (x2 - 1))]? =
 some x6) ∧ (∃ x7 : ByteArray,(((D.cells x6)[0]? = some (Mir.D.str x7)) ∧ (sel ((Op.bytesLess (ByteArray.toList x5) (ByteArray.toList x7)) || ((ByteArray.toList x5) ==
 (ByteArray.toList x7))) (R (.n (.bool false))) ((rq (.ptr 10700000 0)) ∧ (rq (aL a0_1)) ∧ (rq (aI (a0_1.length : Int))) ∧ (rh [(hB 10700000 [(aB a0_0),(aL a0_1),(aL a0_2),(aL
 a0_3)])]) ∧ (x0 (IntKind.wrap .i64 (x2 + 1))) ∧ (((x1 (IntKind.wrap .i64 (x2 + 1))) : Nat) < (x1 x2))))))))) ((rq (.ptr 10700000 0)) ∧ (rq (aL a0_1)) ∧ (rq (aI (a0_1.length :
 Int))) ∧ (rh [(hB 10700000 [(aB a0_0),(aL a0_1),(aL a0_2),(aL a0_3)])]) ∧ (x0 (IntKind.wrap .i64 (x2 + 1))) ∧ (((x1 (IntKind.wrap .i64 (x2 + 1))) : Nat) < (x1 x2))))))))))) (∃ x8 :
 (Int → Prop),(∃ x9 : (Int → Nat),(((rh [(hB 10700000 [(aB a0_0),(aL a0_1),(aL a0_2),(aL a0_3)])]) ∧ (x8 0)) ∧ (∀ x10 : Int,((x8 x10) → (∀ x11 : (Nat → Mir.AV),(sel (decide (x10 <
 (a0_2.length : Int))) ((rn 1) ∧ ((0 : Int) ≤ x10) ∧ (∃ x12 : Mir.D,((a0_2[Int.toNat x10]? = some x12) ∧ (∃ x13 : ByteArray,(((D.cells x12)[0]? = some (Mir.D.str x13)) ∧ (sel
 (decide ((((ByteArray.size x13) : Nat) : Int) > 200)) (R (.n (.bool false))) ((rq (.ptr 10700000 0)) ∧ (rq (aL a0_2)) ∧ (rq (aI (a0_2.length : Int))) ∧ (rh [(hB 10700000 [(aB
 a0_0),(aL a0_1),(aL a0_2),(aL a0_3)])]) ∧ (x8 (IntKind.wrap .i64 (x10 + 1))) ∧ (((x9 (IntKind.wrap .i64 (x10 + 1))) : Nat) < (x9 x10))))))))) (∃ x14 : (Int → Prop),(∃ x15 : (Int →
 Nat),(((rh [(hB 10700000 [(aB a0_0),(aL a0_1),(aL a0_2),(aL a0_3)])]) ∧ (x14 0)) ∧ (∀ x16 : Int,((x14 x16) → (∀ x17 : (Nat → Mir.AV),(sel (decide (x16 < (a0_3.length : Int))) ((rn
 1) ∧ ((0 : Int) ≤ x16) ∧ (∃ x18 : Mir.D,((a0_3[Int.toNat x16]? = some x18) ∧ (∃ x19 : Int,(((D.cells x18)[0]? = some (Mir.D.int .i64 x19)) ∧ (sel (decide (x19 < 10)) (R (.n (.bool
 false))) (sel (decide (x19 > 2047)) (R (.n (.bool false))) ((rq (.ptr 10700000 0)) ∧ (rq (aL a0_3)) ∧ (rq (aI (a0_3.length : Int))) ∧ (rh [(hB 10700000 [(aB a0_0),(aL a0_1),(aL
 a0_2),(aL a0_3)])]) ∧ (x14 (IntKind.wrap .i64 (x16 + 1))) ∧ (((x15 (IntKind.wrap .i64 (x16 + 1))) : Nat) < (x15 x16)))))))))) (sel a0_0 (sel ((a0_2.length : Int) == (a0_1.length :
 Int)) (R (.n (.bool ((a0_3.length : Int) == 0)))) (R (.n (.bool false)))) (sel ((a0_2.length : Int) == 0) (sel (decide ((a0_1.length : Int) ≥ 1)) (R (.n (.bool ((a0_3.length : Int)
 == (IntKind.wrap .i64 ((a0_1.length : Int) + 1)))))) (R (.n (.bool false)))) (R (.n (.bool false)))))))))))))))))))))))))))
theorem vc107 (a0_0 : Bool) (a0_1 : LD) (a0_2 : LD) (a0_3 : LD) (R : Mir.AV → Prop) : Vc Fs2 c107.body (argsQ c107 [(.agg [(.n (.bool a0_0)), (.o (.sl 1 a0_1)), (.o (.sl 1 a0_2)), (.o (.sl 1 a0_3))])]) [] (endQ c107 R) = V107 a0_0 a0_1 a0_2 a0_3 R := by kernel_rfl
def V11 (a0_0 : LD) (a0_1 : LD) (a0_2 : LD) (a0_3 : Int) (a0_4 : Int) (a1 : ByteArray) (R : Mir.AV → Prop) : Prop :=
 (∃ x0 : Bool,((Runs Fs2 34 [(.agg [(aL a0_0),(aL a0_1),(aL a0_2),(aI a0_3),(aI a0_4)])] [] (aB x0) []) ∧ (sel (Bool.not x0) (∃ x1 : Bool,((Runs Fs2 35 [] [] (aB x1) []) ∧ (R (.n
 (.bool x1))))) (∃ x2 : ByteArray,(∃ x3 : Int,((Runs Fs2 36 [(.agg [(aL a0_0),(aL a0_1),(aL a0_2),(aI a0_3),(aI a0_4)]),(aS a1)] [] (.tup [(aS x2),(aI x3)]) []) ∧ (∃ x4 :
 Bool,((Runs Fs2 37 [(.agg [(aL a0_0),(aL a0_1),(aL a0_2),(aI a0_3),(aI a0_4)])] [] (aB x4) []) ∧ (sel (Bool.not x4) (∃ x5 : Bool,((Runs Fs2 35 [] [] (aB x5) []) ∧ (sel x5 (sel (x3
 == 1) (R (.n (.bool ((ByteArray.toList x2) == (ByteArray.toList (ByteArray.mk (List.toArray []))))))) (R (.n (.bool false)))) (R (.n (.bool false)))))) (sel (decide
 ((((ByteArray.size a1) : Nat) : Int) < 1)) (∃ x6 : Bool,((Runs Fs2 35 [] [] (aB x6) []) ∧ (sel x6 (sel (x3 == 1) (R (.n (.bool ((ByteArray.toList x2) == (ByteArray.toList
 (ByteArray.mk (List.toArray []))))))) (R (.n (.bool false)))) (R (.n (.bool false)))))) (sel (decide ((((ByteArray.size a1) : Nat) : Int) > 32)) (∃ x7 : Bool,((Runs Fs2 35 [] []
 (aB x7) []) ∧ (sel x7 (sel (x3 == 1) (R (.n (.bool ((ByteArray.toList x2) == (ByteArray.toList (ByteArray.mk (List.toArray []))))))) (R (.n (.bool false)))) (R (.n (.bool
 false)))))) (∃ x8 : Unit,(∃ x9 : Nat,(∃ x10 : Nat,(∃ x11 : Int,(∃ x12 : Bool,(∃ x13 : Nat,(∃ x14 : LD,(∃ x15 : Nat,(∃ x16 : LD,((Runs Fs2 38 [(.agg [(aL a0_0),(aL a0_1),(aL
 a0_2),(aI a0_3),(aI a0_4)])] [] (.ptr 3800101 0) [(hB 3800101 [(.row 3890001 x9),(.row 3890002 x10),(aI x11),(aB x12)]),(hR 3890001 x13 129 2 x14),(hR 3890002 x15 3 1 x16)]) ∧ (sel
 x12 (∃ x17 : Bool,((Runs Fs2 35 [] [] (aB x17) []) ∧ (sel x17 (sel (x3 == 0) (R (.n (.bool true))) (sel ((ByteArray.toList x2) == (ByteArray.toList (ByteArray.mk (List.toArray
 [])))) (sel (x3 == 80) (R (.n (.bool true))) (R (.n (.bool (x3 == 81))))) (R (.n (.bool false))))) (R (.n (.bool false)))))) ((x13 = x9) ∧ (∃ x18 : ByteArray,(∃ x19 : Int,((Runs
 Fs2 39 [(.o (Mir.D.sl 2 x14)),(aS a1)] [] (.tup [(aS x18),(aI x19)]) []) ∧ (∃ x20 : Bool,((Runs Fs2 35 [] [] (aB x20) []) ∧ (sel x20 (sel (x3 == x19) (R (.n (.bool
 ((ByteArray.toList x2) == (ByteArray.toList x18))))) (R (.n (.bool false)))) (R (.n (.bool false))))))))))))))))))))))))))))))))
theorem vc11 (a0_0 : LD) (a0_1 : LD) (a0_2 : LD) (a0_3 : Int) (a0_4 : Int) (a1 : ByteArray) (R : Mir.AV → Prop) : Vc Fs2 c11.body (argsQ c11 [(.agg [(.o (.sl 1 a0_0)), (.o (.sl 1 a0_1)), (.o (.sl 1 a0_2)), (.n (.int .i64 a0_3)), (.n (.int .i64 a0_4))]), (.n (.str a1))]) [] (endQ c11 R) = V11 a0_0 a0_1 a0_2 a0_3 a0_4 a1 R := by kernel_rfl
def V12 (a0_0 : LD) (a0_1 : LD) (a0_2 : LD) (a0_3 : Int) (a0_4 : Int) (a1 : Int) (a2 : Bool) (R : Mir.AV → Prop) : Prop :=
 (∃ x0 : Bool,((Runs Fs2 34 [(.agg [(aL a0_0),(aL a0_1),(aL a0_2),(aI a0_3),(aI a0_4)])] [] (aB x0) []) ∧ (sel (Bool.not x0) (∃ x1 : Bool,((Runs Fs2 35 [] [] (aB x1) []) ∧ (R (.n
 (.bool x1))))) (∃ x2 : Bool,(∃ x3 : LD,(∃ x4 : LD,(∃ x5 : LD,(∃ x6 : Int,((Runs Fs2 40 [(.agg [(aL a0_0),(aL a0_1),(aL a0_2),(aI a0_3),(aI a0_4)]),(aI a1),(aB a2)] [] (.tup [(.agg
 [(aB x2),(aL x3),(aL x4),(aL x5)]),(aI x6)]) []) ∧ (∃ x7 : Bool,((Runs Fs2 37 [(.agg [(aL a0_0),(aL a0_1),(aL a0_2),(aI a0_3),(aI a0_4)])] [] (aB x7) []) ∧ (sel (Bool.not x7) (∃ x8
 : Bool,((Runs Fs2 35 [] [] (aB x8) []) ∧ (sel x8 (∃ x9 : Bool,((Runs Fs2 41 [(.agg [(aL a0_0),(aL a0_1),(aL a0_2),(aI a0_3),(aI a0_4)])] [] (aB x9) []) ∧ (sel (Bool.not x9) (sel
 (x6 == 1) (∃ x10 : Bool,((Runs Fs2 42 [(.agg [(aB x2),(aL x3),(aL x4),(aL x5)]),(.agg [(aB false),(aL []),(aL []),(aL [])])] [] (aB x10) []) ∧ (R (.n (.bool x10))))) (R (.n (.bool
 false)))) (R (.n (.bool false)))))) (R (.n (.bool false)))))) (∃ x11 : Bool,(∃ x12 : LD,(∃ x13 : LD,(∃ x14 : LD,(∃ x15 : Bool,((Runs Fs2 43 [(.agg [(aL a0_0),(aL a0_1),(aL
 a0_2),(aI a0_3),(aI a0_4)]),(aI a1),(aB a2)] [] (.tup [(.agg [(aB x11),(aL x12),(aL x13),(aL x14)]),(aB x15)]) []) ∧ (sel (Bool.not x15) (∃ x16 : Bool,((Runs Fs2 35 [] [] (aB x16)
 []) ∧ (sel x16 (∃ x17 : Bool,((Runs Fs2 41 [(.agg [(aL a0_0),(aL a0_1),(aL a0_2),(aI a0_3),(aI a0_4)])] [] (aB x17) []) ∧ (sel x17 (sel (x6 == 81) (∃ x18 : Bool,((Runs Fs2 42
 [(.agg [(aB x2),(aL x3),(aL x4),(aL x5)]),(.agg [(aB false),(aL []),(aL []),(aL [])])] [] (aB x18) []) ∧ (R (.n (.bool x18))))) (R (.n (.bool false)))) (R (.n (.bool false)))))) (R
 (.n (.bool false)))))) (∃ x19 : Bool,((Runs Fs2 35 [] [] (aB x19) []) ∧ (sel x19 (∃ x20 : Bool,((Runs Fs2 41 [(.agg [(aL a0_0),(aL a0_1),(aL a0_2),(aI a0_3),(aI a0_4)])] [] (aB
 x20) []) ∧ (sel x20 (sel (x6 == 0) (∃ x21 : Bool,((Runs Fs2 42 [(.agg [(aB x2),(aL x3),(aL x4),(aL x5)]),(.agg [(aB x11),(aL x12),(aL x13),(aL x14)])] [] (aB x21) []) ∧ (R (.n
 (.bool x21))))) (R (.n (.bool false)))) (R (.n (.bool false)))))) (R (.n (.bool false)))))))))))))))))))))))))
theorem vc12 (a0_0 : LD) (a0_1 : LD) (a0_2 : LD) (a0_3 : Int) (a0_4 : Int) (a1 : Int) (a2 : Bool) (R : Mir.AV → Prop) : Vc Fs2 c12.body (argsQ c12 [(.agg [(.o (.sl 1 a0_0)), (.o (.sl 1 a0_1)), (.o (.sl 1 a0_2)), (.n (.int .i64 a0_3)), (.n (.int .i64 a0_4))]), (.n (.int .i64 a1)), (.n (.bool a2))]) [] (endQ c12 R) = V12 a0_0 a0_1 a0_2 a0_3 a0_4 a1 a2 R := by kernel_rfl
def V13 (a0_0 : LD) (a0_1 : LD) (a0_2 : LD) (a0_3 : Int) (a0_4 : Int) (a1 : Int) (R : Mir.AV → Prop) : Prop :=
 (∃ x0 : Bool,((Runs Fs2 44 [(.agg [(aL a0_0),(aL a0_1),(aL a0_2),(aI a0_3),(aI a0_4)])] [] (aB x0) []) ∧ (sel (Bool.not x0) (∃ x1 : Bool,((Runs Fs2 45 [] [] (aB x1) []) ∧ (R (.n
 (.bool x1))))) (∃ x2 : Int,(∃ x3 : Int,(∃ x4 : Int,(∃ x5 : Int,((Runs Fs2 46 [(.agg [(aL a0_0),(aL a0_1),(aL a0_2),(aI a0_3),(aI a0_4)]),(aL [])] [] (.tup [(.agg [(aI x2),(aI
 x3),(aI x4)]),(aI x5)]) []) ∧ (sel (x5 != 0) (∃ x6 : Bool,((Runs Fs2 45 [] [] (aB x6) []) ∧ (R (.n (.bool x6))))) ((((IntKind.wrap .i64 ((a0_1.length : Int) - 10)) : Int) ≠ 0) ∧
 (((IntKind.wrap .i64 ((a0_1.length : Int) - 10)) : Int) ≠ 0) ∧ ((rn 1) ∨ (@Eq LD a0_1 [])) ∧ (((rn 0) ∧ (rn 4)) ∧ (rn 1)) ∧ ((((0 + (List.length a0_1)) * 1) : Nat) ≤
 140737488355328) ∧ ((rn 1) ∧ (rn 1)) ∧ ((0 : Int) ≤ (IntKind.wrap .i64 (10 + (Int.tmod (IntKind.wrap .i64 ((IntKind.wrap .i64 ((Int.tmod a1 (IntKind.wrap .i64 ((a0_1.length : Int)
 - 10))) + (a0_1.length : Int))) - 10)) (IntKind.wrap .i64 ((a0_1.length : Int) - 10)))))) ∧ (((IntKind.wrap .i64 (10 + (Int.tmod (IntKind.wrap .i64 ((IntKind.wrap .i64 ((Int.tmod
 a1 (IntKind.wrap .i64 ((a0_1.length : Int) - 10))) + (a0_1.length : Int))) - 10)) (IntKind.wrap .i64 ((a0_1.length : Int) - 10))))) : Int) < (([] ++ a0_1).length : Int)) ∧ ((rn 1)
 ∧ (rn 1)) ∧ (∃ x7 : Mir.D,((([] ++ a0_1)[Int.toNat (IntKind.wrap .i64 (10 + (Int.tmod (IntKind.wrap .i64 ((IntKind.wrap .i64 ((Int.tmod a1 (IntKind.wrap .i64 ((a0_1.length : Int) -
 10))) + (a0_1.length : Int))) - 10)) (IntKind.wrap .i64 ((a0_1.length : Int) - 10)))))]? = some x7) ∧ (∃ x8 : Bool,(((D.cells x7)[0]? = some (Mir.D.bool x8)) ∧ ((rn 1) ∧ (rn 1)) ∧
 ((0 : Int) ≤ (IntKind.wrap .i64 (10 + (Int.tmod (IntKind.wrap .i64 ((IntKind.wrap .i64 ((Int.tmod a1 (IntKind.wrap .i64 ((a0_1.length : Int) - 10))) + (a0_1.length : Int))) - 10))
 (IntKind.wrap .i64 ((a0_1.length : Int) - 10)))))) ∧ (((IntKind.wrap .i64 (10 + (Int.tmod (IntKind.wrap .i64 ((IntKind.wrap .i64 ((Int.tmod a1 (IntKind.wrap .i64 ((a0_1.length :
 Int) - 10))) + (a0_1.length : Int))) - 10)) (IntKind.wrap .i64 ((a0_1.length : Int) - 10))))) : Int) < (([] ++ a0_1).length : Int)) ∧ ((((rn 1) ∧ (rn 0)) ∧ (rn 1)) ∧ (rn 1)) ∧
 (((Int.toNat (IntKind.wrap .i64 (10 + (Int.tmod (IntKind.wrap .i64 ((IntKind.wrap .i64 ((Int.tmod a1 (IntKind.wrap .i64 ((a0_1.length : Int) - 10))) + (a0_1.length : Int))) - 10))
 (IntKind.wrap .i64 ((a0_1.length : Int) - 10)))))) : Nat) < (List.length ([] ++ a0_1))) ∧ (1 = 1) ∧ (∃ x9 : Int,(∃ x10 : Int,(∃ x11 : Int,(∃ x12 : Int,((Runs Fs2 46 [(.agg [(aL
 a0_0),(aL (List.set ([] ++ a0_1) (Int.toNat (IntKind.wrap .i64 (10 + (Int.tmod (IntKind.wrap .i64 ((IntKind.wrap .i64 ((Int.tmod a1 (IntKind.wrap .i64 ((a0_1.length : Int) - 10)))
 + (a0_1.length : Int))) - 10)) (IntKind.wrap .i64 ((a0_1.length : Int) - 10)))))) (Mir.D.bool (Bool.not x8)))),(aL a0_2),(aI a0_3),(aI a0_4)]),(aL [])] [] (.tup [(.agg [(aI x9),(aI
 x10),(aI x11)]),(aI x12)]) []) ∧ (1 = 1) ∧ (0 = 0) ∧ (∃ x13 : Int,(∃ x14 : Int,(∃ x15 : Int,(∃ x16 : Int,((Runs Fs2 46 [(.agg [(aL a0_0),(aL (List.set ([] ++ a0_1) (Int.toNat
 (IntKind.wrap .i64 (10 + (Int.tmod (IntKind.wrap .i64 ((IntKind.wrap .i64 ((Int.tmod a1 (IntKind.wrap .i64 ((a0_1.length : Int) - 10))) + (a0_1.length : Int))) - 10)) (IntKind.wrap
 .i64 ((a0_1.length : Int) - 10)))))) (Mir.D.bool (Bool.not x8)))),(aL a0_2),(aI a0_3),(aI a0_4)]),(aL [(Mir.D.int .i64 (IntKind.wrap .i64 (10 + (Int.tmod (IntKind.wrap .i64
 ((IntKind.wrap .i64 ((Int.tmod a1 (IntKind.wrap .i64 ((a0_1.length : Int) - 10))) + (a0_1.length : Int))) - 10)) (IntKind.wrap .i64 ((a0_1.length : Int) - 10))))))])] [] (.tup
 [(.agg [(aI x13),(aI x14),(aI x15)]),(aI x16)]) []) ∧ (∃ x17 : Bool,((Runs Fs2 45 [] [] (aB x17) []) ∧ (sel x17 (sel (x12 == 81) ((rn 1) ∧ ((0 : Int) ≤ (IntKind.wrap .i64 (10 +
 (Int.tmod (IntKind.wrap .i64 ((IntKind.wrap .i64 ((Int.tmod a1 (IntKind.wrap .i64 ((a0_1.length : Int) - 10))) + (a0_1.length : Int))) - 10)) (IntKind.wrap .i64 ((a0_1.length :
 Int) - 10)))))) ∧ (∃ x18 : Mir.D,((a0_1[Int.toNat (IntKind.wrap .i64 (10 + (Int.tmod (IntKind.wrap .i64 ((IntKind.wrap .i64 ((Int.tmod a1 (IntKind.wrap .i64 ((a0_1.length : Int) -
 10))) + (a0_1.length : Int))) - 10)) (IntKind.wrap .i64 ((a0_1.length : Int) - 10)))))]? = some x18) ∧ (∃ x19 : Bool,(((D.cells x18)[0]? = some (Mir.D.bool x19)) ∧ (sel ((x16 == 0)
 == (Bool.not x19)) ((1 = 1) ∧ (∃ x20 : Bool,((Runs Fs2 37 [(.agg [(aL a0_0),(aL (List.set ([] ++ a0_1) (Int.toNat (IntKind.wrap .i64 (10 + (Int.tmod (IntKind.wrap .i64
 ((IntKind.wrap .i64 ((Int.tmod a1 (IntKind.wrap .i64 ((a0_1.length : Int) - 10))) + (a0_1.length : Int))) - 10)) (IntKind.wrap .i64 ((a0_1.length : Int) - 10)))))) (Mir.D.bool
 (Bool.not x8)))),(aL a0_2),(aI a0_3),(aI a0_4)])] [] (aB x20) []) ∧ (R (.n (.bool x20)))))) (R (.n (.bool false))))))))) (R (.n (.bool false)))) (R (.n (.bool
 false))))))))))))))))))))))))))))))
theorem vc13 (a0_0 : LD) (a0_1 : LD) (a0_2 : LD) (a0_3 : Int) (a0_4 : Int) (a1 : Int) (R : Mir.AV → Prop) : Vc Fs2 c13.body (argsQ c13 [(.agg [(.o (.sl 1 a0_0)), (.o (.sl 1 a0_1)), (.o (.sl 1 a0_2)), (.n (.int .i64 a0_3)), (.n (.int .i64 a0_4))]), (.n (.int .i64 a1))]) [] (endQ c13 R) = V13 a0_0 a0_1 a0_2 a0_3 a0_4 a1 R := by kernel_rfl
def V75 (a0 : ByteArray) (R : Mir.AV → Prop) : Prop :=
 (R (.n (.bool (decide ((((ByteArray.size a0) : Nat) : Int) > 4096)))))
theorem vc75 (a0 : ByteArray) (R : Mir.AV → Prop) : Vc Fs2 c75.body (argsQ c75 [(.n (.str a0))]) [] (endQ c75 R) = V75 a0 R := by kernel_rfl
def V123 (a0 : ByteArray) (R : Mir.AV → Prop) : Prop :=
 (R (.n (.bool (decide ((((ByteArray.size a0) : Nat) : Int) > 200)))))
theorem vc123 (a0 : ByteArray) (R : Mir.AV → Prop) : Vc Fs2 c123.body (argsQ c123 [(.n (.str a0))]) [] (endQ c123 R) = V123 a0 R := by kernel_rfl
def V125 (a0 : Int) (R : Mir.AV → Prop) : Prop :=
 (sel (decide (a0 < 10)) (R (.n (.bool true))) (R (.n (.bool (decide (a0 ≥ 2048))))))
theorem vc125 (a0 : Int) (R : Mir.AV → Prop) : Vc Fs2 c125.body (argsQ c125 [(.n (.int .i64 a0))]) [] (endQ c125 R) = V125 a0 R := by kernel_rfl
def V102 (a0 : LD) (a1 : ByteArray) (R : Mir.AV → Prop) : Prop :=
 (∃ x0 : Int,((Runs Fs2 126 [(aI (a0.length : Int)),(.fn 127 [(.ptr 10200000 0),(.ptr 10200001 0)])] [(hB 10200000 [(aL a0)]),(hB 10200001 [(aS a1)])] (aI x0) [(hB 10200000 [(aL
 a0)]),(hB 10200001 [(aS a1)])]) ∧ (R (.n (.int .i64 x0)))))
theorem vc102 (a0 : LD) (a1 : ByteArray) (R : Mir.AV → Prop) : Vc Fs2 c102.body (argsQ c102 [(.o (.sl 1 a0)), (.n (.str a1))]) [] (endQ c102 R) = V102 a0 a1 R := by kernel_rfl
def V128 (a0 : LD) (R : Mir.AV → Prop) : Prop :=
 (∃ x0 : (Int → (Int → Prop)),(∃ x1 : (Int → (Int → Nat)),(((rh []) ∧ (x0 0 0)) ∧ (∀ x2 : Int,(∀ x3 : Int,((x0 x2 x3) → (∀ x4 : (Nat → Mir.AV),(sel (decide (x3 < (a0.length : Int)))
 ((rn 1) ∧ ((0 : Int) ≤ x3) ∧ (∃ x5 : Mir.D,((a0[Int.toNat x3]? = some x5) ∧ (∃ x6 : LD,(((D.cells x5)[0]? = some (Mir.D.sl 1 x6)) ∧ (rq (aL a0)) ∧ (rq (aI (a0.length : Int))) ∧ (rh
 []) ∧ (x0 (mmI true x2 (x6.length : Int)) (IntKind.wrap .i64 (x3 + 1))) ∧ (((x1 (mmI true x2 (x6.length : Int)) (IntKind.wrap .i64 (x3 + 1))) : Nat) < (x1 x2 x3))))))) (R (.n (.int
 .i64 x2)))))))))))
theorem vc128 (a0 : LD) (R : Mir.AV → Prop) : Vc Fs2 c128.body (argsQ c128 [(.o (.sl 1 a0))]) [] (endQ c128 R) = V128 a0 R := by kernel_rfl
def V131 (a0 : LD) (a1 : Int) (R : Mir.AV → Prop) : Prop :=
 (sel (decide (a1 < (a0.length : Int))) ((rn 1) ∧ ((0 : Int) ≤ a1) ∧ (∃ x0 : Mir.D,((a0[Int.toNat a1]? = some x0) ∧ (∃ x1 : Bool,(((D.cells x0)[0]? = some (Mir.D.bool x1)) ∧ (R (.n
 (.bool x1)))))))) (R (.n (.bool false))))
theorem vc131 (a0 : LD) (a1 : Int) (R : Mir.AV → Prop) : Vc Fs2 c131.body (argsQ c131 [(.o (.sl 1 a0)), (.n (.int .i64 a1))]) [] (endQ c131 R) = V131 a0 a1 R := by kernel_rfl
def V126h (n : Int) (a : LD) (x : ByteArray) (R : Mir.AV → Heap → Prop) : Prop :=
 (∃ x0 : (Int → (Int → Prop)),(∃ x1 : (Int → (Int → Nat)),(((rh [(hB 10200000 [(aL a)]),(hB 10200001 [(aS x)])]) ∧ (x0 0 n)) ∧ (∀ x2 : Int,(∀ x3 : Int,((x0 x2 x3) → (∀ x4 : (Nat →
 Mir.AV),(sel (decide (x2 < x3)) (((0 : Int) ≤ 1) ∧ (∃ x5 : Bool,((Runs Fs2 127 [(aI (IntKind.wrap .i64 (Int.fdiv (IntKind.wrap .u64 (IntKind.wrap .i64 (x2 + x3))) (2 ^ (Min.min
 (Int.toNat 1) (Go.IntKind.bits .u64)))))),(.ptr 10200000 0),(.ptr 10200001 0)] [(hB 10200000 [(aL a)]),(hB 10200001 [(aS x)])] (aB x5) [(hB 10200000 [(aL a)]),(hB 10200001 [(aS
 x)])]) ∧ (sel (Bool.not x5) ((rq (.fn 127 [(.ptr 10200000 0),(.ptr 10200001 0)])) ∧ (rh [(hB 10200000 [(aL a)]),(hB 10200001 [(aS x)])]) ∧ (x0 (IntKind.wrap .i64 ((IntKind.wrap
 .i64 (Int.fdiv (IntKind.wrap .u64 (IntKind.wrap .i64 (x2 + x3))) (2 ^ (Min.min (Int.toNat 1) (Go.IntKind.bits .u64))))) + 1)) x3) ∧ (((x1 (IntKind.wrap .i64 ((IntKind.wrap .i64
 (Int.fdiv (IntKind.wrap .u64 (IntKind.wrap .i64 (x2 + x3))) (2 ^ (Min.min (Int.toNat 1) (Go.IntKind.bits .u64))))) + 1)) x3) : Nat) < (x1 x2 x3))) ((rq (.fn 127 [(.ptr 10200000
 0),(.ptr 10200001 0)])) ∧ (rh [(hB 10200000 [(aL a)]),(hB 10200001 [(aS x)])]) ∧ (x0 x2 (IntKind.wrap .i64 (Int.fdiv (IntKind.wrap .u64 (IntKind.wrap .i64 (x2 + x3))) (2 ^ (Min.min
 (Int.toNat 1) (Go.IntKind.bits .u64)))))) ∧ (((x1 x2 (IntKind.wrap .i64 (Int.fdiv (IntKind.wrap .u64 (IntKind.wrap .i64 (x2 + x3))) (2 ^ (Min.min (Int.toNat 1) (Go.IntKind.bits
 .u64)))))) : Nat) < (x1 x2 x3))))))) (R (.n (.int .i64 x2)) [(hB 10200000 [(.o (.sl 1 a))]),(hB 10200001 [(.n (.str x))])])))))))))
theorem vc126h (n : Int) (a : LD) (x : ByteArray) (R : Mir.AV → Heap → Prop) : Vc Fs2 c126.body (argsQ c126 [.n (.int .i64 n), .fn 127 [.ptr 10200000 0, .ptr 10200001 0]]) [(10200000, .box [.o (.sl 1 a)]), (10200001, .box [.n (.str x)])] (endQH c126 [(10200000, .box [.o (.sl 1 a)]), (10200001, .box [.n (.str x)])] R) = V126h n a x R := by kernel_rfl
def V127h (i : Int) (a : LD) (x : ByteArray) (R : Mir.AV → Heap → Prop) : Prop :=
 ((rn 1) ∧ ((0 : Int) ≤ i) ∧ (∃ x0 : Mir.D,((a[Int.toNat i]? = some x0) ∧ (∃ x1 : ByteArray,(((D.cells x0)[0]? = some (Mir.D.str x1)) ∧ (R (.n (.bool (Bool.not (Op.bytesLess
 (ByteArray.toList x1) (ByteArray.toList x))))) [(hB 10200000 [(.o (.sl 1 a))]),(hB 10200001 [(.n (.str x))])]))))))
theorem vc127h (i : Int) (a : LD) (x : ByteArray) (R : Mir.AV → Heap → Prop) : Vc Fs2 c127.body (argsQ c127 [.n (.int .i64 i), .ptr 10200000 0, .ptr 10200001 0]) [(10200000, .box [.o (.sl 1 a)]), (10200001, .box [.n (.str x)])] (endQH c127 [(10200000, .box [.o (.sl 1 a)]), (10200001, .box [.n (.str x)])] R) = V127h i a x R := by kernel_rfl
def V130h (a : LD) (i : Int) (R : Mir.AV → Heap → Prop) : Prop :=
 (∃ x0 : Bool,((Runs Fs2 131 [(aL a),(aI i)] [] (aB x0) []) ∧ (R (.n (.bool (Bool.not x0))) [(hB 10400401 [(.n (.int .i64 i))])])))
theorem vc130h (a : LD) (i : Int) (R : Mir.AV → Heap → Prop) : Vc Fs2 c130.body (argsQ c130 [.o (.sl 1 a), .ptr 10400401 0]) [(10400401, .box [.n (.int .i64 i)])] (endQH c130 [(10400401, .box [.n (.int .i64 i)])] R) = V130h a i R := by kernel_rfl
def V144h (l : LD) (i : Int) (R : Mir.AV → Heap → Prop) : Prop :=
 (∃ x0 : (Int → Prop),(∃ x1 : (Int → Nat),(((rh [(hB 10400401 [(aI i)])]) ∧ (x0 0)) ∧ (∀ x2 : Int,((x0 x2) → (∀ x3 : (Nat → Mir.AV),(sel (decide (x2 < (l.length : Int))) ((rn 1) ∧
 ((0 : Int) ≤ x2) ∧ (∃ x4 : Mir.D,((l[Int.toNat x2]? = some x4) ∧ (∃ x5 : LD,(((D.cells x4)[0]? = some (Mir.D.sl 1 x5)) ∧ (∃ x6 : Bool,((Runs Fs2 130 [(aL x5),(.ptr 10400401 0)]
 [(hB 10400401 [(aI i)])] (aB x6) [(hB 10400401 [(aI i)])]) ∧ (sel x6 (R (.n (.int .i64 x2)) [(hB 10400401 [(.n (.int .i64 i))])]) ((rq (aL l)) ∧ (rq (.fn 130 [(.ptr 10400401 0)]))
 ∧ (rq (aI (l.length : Int))) ∧ (rh [(hB 10400401 [(aI i)])]) ∧ (x0 (IntKind.wrap .i64 (x2 + 1))) ∧ (((x1 (IntKind.wrap .i64 (x2 + 1))) : Nat) < (x1 x2))))))))))) (R (.n (.int .i64
 (-1))) [(hB 10400401 [(.n (.int .i64 i))])]))))))))
theorem vc144h (l : LD) (i : Int) (R : Mir.AV → Heap → Prop) : Vc Fs2 c144.body (argsQ c144 [.o (.sl 1 l), .fn 130 [.ptr 10400401 0]]) [(10400401, .box [.n (.int .i64 i)])] (endQH c144 [(10400401, .box [.n (.int .i64 i)])] R) = V144h l i R := by kernel_rfl
def V129h (l : LD) (i : Int) (R : Mir.AV → Heap → Prop) : Prop :=
 (∃ x0 : Int,((Runs Fs2 144 [(aL l),(.fn 130 [(.ptr 10400401 0)])] [(hB 10400401 [(aI i)])] (aI x0) [(hB 10400401 [(aI i)])]) ∧ (R (.n (.bool (decide (x0 ≥ 0)))) [(hB 10400401 [(.n
 (.int .i64 i))])])))
theorem vc129h (l : LD) (i : Int) (R : Mir.AV → Heap → Prop) : Vc Fs2 c129.body (argsQ c129 [.o (.sl 1 l), .fn 130 [.ptr 10400401 0]]) [(10400401, .box [.n (.int .i64 i)])] (endQH c129 [(10400401, .box [.n (.int .i64 i)])] R) = V129h l i R := by kernel_rfl
def V74p (l : LD) (R : Mir.AV → Prop) : Prop :=
 (∃ x0 : Int,((Runs Fs2 105 [(aL l),(.fn 75 [])] [] (aI x0) []) ∧ (R (.n (.bool (decide (x0 ≥ 0)))))))
theorem vc74p (l : LD) (R : Mir.AV → Prop) : Vc Fs2 c74.body (argsQ c74 [.o (.sl 1 l), .fn 75 []]) [] (endQ c74 R) = V74p l R := by kernel_rfl
def V105p (l : LD) (R : Mir.AV → Prop) : Prop :=
 (∃ x0 : (Int → Prop),(∃ x1 : (Int → Nat),(((rh []) ∧ (x0 0)) ∧ (∀ x2 : Int,((x0 x2) → (∀ x3 : (Nat → Mir.AV),(sel (decide (x2 < (l.length : Int))) ((rn 1) ∧ ((0 : Int) ≤ x2) ∧ (∃
 x4 : Mir.D,((l[Int.toNat x2]? = some x4) ∧ (∃ x5 : ByteArray,(((D.cells x4)[0]? = some (Mir.D.str x5)) ∧ (∃ x6 : Bool,((Runs Fs2 75 [(aS x5)] [] (aB x6) []) ∧ (sel x6 (R (.n (.int
 .i64 x2))) ((rq (aL l)) ∧ (rq (.fn 75 [])) ∧ (rq (aI (l.length : Int))) ∧ (rh []) ∧ (x0 (IntKind.wrap .i64 (x2 + 1))) ∧ (((x1 (IntKind.wrap .i64 (x2 + 1))) : Nat) < (x1
 x2))))))))))) (R (.n (.int .i64 (-1)))))))))))
theorem vc105p (l : LD) (R : Mir.AV → Prop) : Vc Fs2 c105.body (argsQ c105 [.o (.sl 1 l), .fn 75 []]) [] (endQ c105 R) = V105p l R := by kernel_rfl
def V74q (l : LD) (R : Mir.AV → Prop) : Prop :=
 (∃ x0 : Int,((Runs Fs2 105 [(aL l),(.fn 123 [])] [] (aI x0) []) ∧ (R (.n (.bool (decide (x0 ≥ 0)))))))
theorem vc74q (l : LD) (R : Mir.AV → Prop) : Vc Fs2 c74.body (argsQ c74 [.o (.sl 1 l), .fn 123 []]) [] (endQ c74 R) = V74q l R := by kernel_rfl
def V105q (l : LD) (R : Mir.AV → Prop) : Prop :=
 (∃ x0 : (Int → Prop),(∃ x1 : (Int → Nat),(((rh []) ∧ (x0 0)) ∧ (∀ x2 : Int,((x0 x2) → (∀ x3 : (Nat → Mir.AV),(sel (decide (x2 < (l.length : Int))) ((rn 1) ∧ ((0 : Int) ≤ x2) ∧ (∃
 x4 : Mir.D,((l[Int.toNat x2]? = some x4) ∧ (∃ x5 : ByteArray,(((D.cells x4)[0]? = some (Mir.D.str x5)) ∧ (∃ x6 : Bool,((Runs Fs2 123 [(aS x5)] [] (aB x6) []) ∧ (sel x6 (R (.n (.int
 .i64 x2))) ((rq (aL l)) ∧ (rq (.fn 123 [])) ∧ (rq (aI (l.length : Int))) ∧ (rh []) ∧ (x0 (IntKind.wrap .i64 (x2 + 1))) ∧ (((x1 (IntKind.wrap .i64 (x2 + 1))) : Nat) < (x1
 x2))))))))))) (R (.n (.int .i64 (-1)))))))))))
theorem vc105q (l : LD) (R : Mir.AV → Prop) : Vc Fs2 c105.body (argsQ c105 [.o (.sl 1 l), .fn 123 []]) [] (endQ c105 R) = V105q l R := by kernel_rfl
def V124p (l : LD) (R : Mir.AV → Prop) : Prop :=
 (∃ x0 : Int,((Runs Fs2 143 [(aL l),(.fn 125 [])] [] (aI x0) []) ∧ (R (.n (.bool (decide (x0 ≥ 0)))))))
theorem vc124p (l : LD) (R : Mir.AV → Prop) : Vc Fs2 c124.body (argsQ c124 [.o (.sl 1 l), .fn 125 []]) [] (endQ c124 R) = V124p l R := by kernel_rfl
def V143p (l : LD) (R : Mir.AV → Prop) : Prop :=
 (∃ x0 : (Int → Prop),(∃ x1 : (Int → Nat),(((rh []) ∧ (x0 0)) ∧ (∀ x2 : Int,((x0 x2) → (∀ x3 : (Nat → Mir.AV),(sel (decide (x2 < (l.length : Int))) ((rn 1) ∧ ((0 : Int) ≤ x2) ∧ (∃
 x4 : Mir.D,((l[Int.toNat x2]? = some x4) ∧ (∃ x5 : Int,(((D.cells x4)[0]? = some (Mir.D.int .i64 x5)) ∧ (∃ x6 : Bool,((Runs Fs2 125 [(aI x5)] [] (aB x6) []) ∧ (sel x6 (R (.n (.int
 .i64 x2))) ((rq (aL l)) ∧ (rq (.fn 125 [])) ∧ (rq (aI (l.length : Int))) ∧ (rh []) ∧ (x0 (IntKind.wrap .i64 (x2 + 1))) ∧ (((x1 (IntKind.wrap .i64 (x2 + 1))) : Nat) < (x1
 x2))))))))))) (R (.n (.int .i64 (-1)))))))))))
theorem vc143p (l : LD) (R : Mir.AV → Prop) : Vc Fs2 c143.body (argsQ c143 [.o (.sl 1 l), .fn 125 []]) [] (endQ c143 R) = V143p l R := by kernel_rfl
def V132h (k : ByteArray) (lo : ByteArray) (hi : ByteArray) (R : Mir.AV → Heap → Prop) : Prop :=
 (sel (Op.bytesLess (ByteArray.toList k) (ByteArray.toList lo)) (R (.n (.bool true)) [(hB 10800000 [(.n (.str lo))]),(hB 10800001 [(.n (.str hi))])]) (sel (Bool.not
 ((ByteArray.toList hi) == (ByteArray.toList (ByteArray.mk (List.toArray []))))) (R (.n (.bool (Bool.not (Op.bytesLess (ByteArray.toList k) (ByteArray.toList hi))))) [(hB 10800000
 [(.n (.str lo))]),(hB 10800001 [(.n (.str hi))])]) (R (.n (.bool false)) [(hB 10800000 [(.n (.str lo))]),(hB 10800001 [(.n (.str hi))])])))
theorem vc132h (k : ByteArray) (lo : ByteArray) (hi : ByteArray) (R : Mir.AV → Heap → Prop) : Vc Fs2 c132.body (argsQ c132 [.n (.str k), .ptr 10800000 0, .ptr 10800001 0]) [(10800000, .box [.n (.str lo)]), (10800001, .box [.n (.str hi)])] (endQH c132 [(10800000, .box [.n (.str lo)]), (10800001, .box [.n (.str hi)])] R) = V132h k lo hi R := by kernel_rfl
def V74r (l : LD) (lo : ByteArray) (hi : ByteArray) (R : Mir.AV → Heap → Prop) : Prop :=
 (∃ x0 : Int,((Runs Fs2 105 [(aL l),(.fn 132 [(.ptr 10800000 0),(.ptr 10800001 0)])] [(hB 10800000 [(aS lo)]),(hB 10800001 [(aS hi)])] (aI x0) [(hB 10800000 [(aS lo)]),(hB 10800001
 [(aS hi)])]) ∧ (R (.n (.bool (decide (x0 ≥ 0)))) [(hB 10800000 [(.n (.str lo))]),(hB 10800001 [(.n (.str hi))])])))
theorem vc74r (l : LD) (lo : ByteArray) (hi : ByteArray) (R : Mir.AV → Heap → Prop) : Vc Fs2 c74.body (argsQ c74 [.o (.sl 1 l), .fn 132 [.ptr 10800000 0, .ptr 10800001 0]]) [(10800000, .box [.n (.str lo)]), (10800001, .box [.n (.str hi)])] (endQH c74 [(10800000, .box [.n (.str lo)]), (10800001, .box [.n (.str hi)])] R) = V74r l lo hi R := by kernel_rfl
def V105r (l : LD) (lo : ByteArray) (hi : ByteArray) (R : Mir.AV → Heap → Prop) : Prop :=
 (∃ x0 : (Int → Prop),(∃ x1 : (Int → Nat),(((rh [(hB 10800000 [(aS lo)]),(hB 10800001 [(aS hi)])]) ∧ (x0 0)) ∧ (∀ x2 : Int,((x0 x2) → (∀ x3 : (Nat → Mir.AV),(sel (decide (x2 <
 (l.length : Int))) ((rn 1) ∧ ((0 : Int) ≤ x2) ∧ (∃ x4 : Mir.D,((l[Int.toNat x2]? = some x4) ∧ (∃ x5 : ByteArray,(((D.cells x4)[0]? = some (Mir.D.str x5)) ∧ (∃ x6 : Bool,((Runs Fs2
 132 [(aS x5),(.ptr 10800000 0),(.ptr 10800001 0)] [(hB 10800000 [(aS lo)]),(hB 10800001 [(aS hi)])] (aB x6) [(hB 10800000 [(aS lo)]),(hB 10800001 [(aS hi)])]) ∧ (sel x6 (R (.n
 (.int .i64 x2)) [(hB 10800000 [(.n (.str lo))]),(hB 10800001 [(.n (.str hi))])]) ((rq (aL l)) ∧ (rq (.fn 132 [(.ptr 10800000 0),(.ptr 10800001 0)])) ∧ (rq (aI (l.length : Int))) ∧
 (rh [(hB 10800000 [(aS lo)]),(hB 10800001 [(aS hi)])]) ∧ (x0 (IntKind.wrap .i64 (x2 + 1))) ∧ (((x1 (IntKind.wrap .i64 (x2 + 1))) : Nat) < (x1 x2))))))))))) (R (.n (.int .i64 (-1)))
 [(hB 10800000 [(.n (.str lo))]),(hB 10800001 [(.n (.str hi))])]))))))))
theorem vc105r (l : LD) (lo : ByteArray) (hi : ByteArray) (R : Mir.AV → Heap → Prop) : Vc Fs2 c105.body (argsQ c105 [.o (.sl 1 l), .fn 132 [.ptr 10800000 0, .ptr 10800001 0]]) [(10800000, .box [.n (.str lo)]), (10800001, .box [.n (.str hi)])] (endQH c105 [(10800000, .box [.n (.str lo)]), (10800001, .box [.n (.str hi)])] R) = V105r l lo hi R := by kernel_rfl
def V121h (s : ByteArray) (n : Int) (e : Int) (k : Int) (R : Mir.AV → Heap → Prop) : Prop :=
 (sel (e != 0) (R (.n (.int .i64 0)) [(hB 9900302 [(.n (.str s)),(.n (.int .i64 n)),(.n (.int .i64 e))])]) (∃ x0 : Int,(∃ x1 : Int,(∃ x2 : Int,((Runs Fs2 48 [(aS s),(aI n),(aI k)]
 [] (.tup [(aI x0),(aI x1),(aI x2)]) []) ∧ (R (.n (.int .i64 x0)) [(hB 9900302 [(.n (.str s)),(.n (.int .i64 x1)),(.n (.int .i64 x2))])]))))))
theorem vc121h (s : ByteArray) (n : Int) (e : Int) (k : Int) (R : Mir.AV → Heap → Prop) : Vc Fs2 c121.body (argsQ c121 [.ptr 9900302 0, .n (.int .i64 k)]) [(9900302, .box [.n (.str s), .n (.int .i64 n), .n (.int .i64 e)])] (endQH c121 [(9900302, .box [.n (.str s), .n (.int .i64 n), .n (.int .i64 e)])] R) = V121h s n e k R := by kernel_rfl
def V122h (s : ByteArray) (n : Int) (e : Int) (R : Mir.AV → Heap → Prop) : Prop :=
 (sel (e != 0) (R (.n (.str (ByteArray.mk (List.toArray [])))) [(hB 9900302 [(.n (.str s)),(.n (.int .i64 n)),(.n (.int .i64 e))])]) (∃ x0 : ByteArray,(∃ x1 : Int,(∃ x2 : Int,((Runs
 Fs2 65 [(aS s),(aI n)] [] (.tup [(aS x0),(aI x1),(aI x2)]) []) ∧ (R (.n (.str x0)) [(hB 9900302 [(.n (.str s)),(.n (.int .i64 x1)),(.n (.int .i64 x2))])]))))))
theorem vc122h (s : ByteArray) (n : Int) (e : Int) (R : Mir.AV → Heap → Prop) : Vc Fs2 c122.body (argsQ c122 [.ptr 9900302 0]) [(9900302, .box [.n (.str s), .n (.int .i64 n), .n (.int .i64 e)])] (endQH c122 [(9900302, .box [.n (.str s), .n (.int .i64 n), .n (.int .i64 e)])] R) = V122h s n e R := by kernel_rfl
def V68a (ba : LD) (no : LD) (pa : LD) (ro : Int) (ge : Int) (block : Int) (root : Bool) (R : Mir.AV → Heap → Prop) : Prop :=
 (sel (decide (block < 10)) (R (.tup [(.agg [(.n (.bool false)),(.o (.sl 1 [])),(.o (.sl 1 [])),(.o (.sl 1 []))]),(.n (.bool false))]) [(hB 3600302 [(.o (.sl 1 ba)),(.o (.sl 1
 no)),(.o (.sl 1 pa)),(.n (.int .i64 ro)),(.n (.int .i64 ge)),(.n (.str (ByteArray.mk (List.toArray [])))),(.n (.int .i64 0)),(.n (.int .i64 0)),(.n Mir.D.nil),(.n (.str
 (ByteArray.mk (List.toArray [])))),(.n (.bool false)),(.n (.bool false))])]) (sel (decide (block ≥ (no.length : Int))) (R (.tup [(.agg [(.n (.bool false)),(.o (.sl 1 [])),(.o (.sl
 1 [])),(.o (.sl 1 []))]),(.n (.bool false))]) [(hB 3600302 [(.o (.sl 1 ba)),(.o (.sl 1 no)),(.o (.sl 1 pa)),(.n (.int .i64 ro)),(.n (.int .i64 ge)),(.n (.str (ByteArray.mk
 (List.toArray [])))),(.n (.int .i64 0)),(.n (.int .i64 0)),(.n Mir.D.nil),(.n (.str (ByteArray.mk (List.toArray [])))),(.n (.bool false)),(.n (.bool false))])]) ((rn 1) ∧ ((0 :
 Int) ≤ block) ∧ (∃ x0 : Mir.D,((no[Int.toNat block]? = some x0) ∧ (∃ x1 : Bool,(((D.cells x0)[0]? = some (Mir.D.bool x1)) ∧ (sel (Bool.not x1) (R (.tup [(.agg [(.n (.bool
 false)),(.o (.sl 1 [])),(.o (.sl 1 [])),(.o (.sl 1 []))]),(.n (.bool false))]) [(hB 3600302 [(.o (.sl 1 ba)),(.o (.sl 1 no)),(.o (.sl 1 pa)),(.n (.int .i64 ro)),(.n (.int .i64
 ge)),(.n (.str (ByteArray.mk (List.toArray [])))),(.n (.int .i64 0)),(.n (.int .i64 0)),(.n Mir.D.nil),(.n (.str (ByteArray.mk (List.toArray [])))),(.n (.bool false)),(.n (.bool
 false))])]) ((rn 1) ∧ ((0 : Int) ≤ block) ∧ (∃ x2 : Mir.D,((pa[Int.toNat block]? = some x2) ∧ (∃ x3 : ByteArray,(((D.cells x2)[0]? = some (Mir.D.str x3)) ∧ (0 = 0) ∧ (∃ x4 : Int,(∃
 x5 : Int,(∃ x6 : ByteArray,(∃ x7 : Int,((Runs Fs2 47 [(aS x3),(aL [(Mir.D.int .i64 1),(Mir.D.int .i64 2)])] [] (.tup [(.agg [(aI x4),(aI x5),(aS x6)]),(aI x7)]) []) ∧ (sel (x7 !=
 0) (R (.tup [(.agg [(.n (.bool false)),(.o (.sl 1 [])),(.o (.sl 1 [])),(.o (.sl 1 []))]),(.n (.bool false))]) [(hB 3600302 [(.o (.sl 1 ba)),(.o (.sl 1 no)),(.o (.sl 1 pa)),(.n
 (.int .i64 ro)),(.n (.int .i64 ge)),(.n (.str (ByteArray.mk (List.toArray [])))),(.n (.int .i64 0)),(.n (.int .i64 0)),(.n Mir.D.nil),(.n (.str (ByteArray.mk (List.toArray
 [])))),(.n (.bool false)),(.n (.bool false))])]) (sel (decide (x5 > ge)) (R (.tup [(.agg [(.n (.bool false)),(.o (.sl 1 [])),(.o (.sl 1 [])),(.o (.sl 1 []))]),(.n (.bool false))])
 [(hB 3600302 [(.o (.sl 1 ba)),(.o (.sl 1 no)),(.o (.sl 1 pa)),(.n (.int .i64 ro)),(.n (.int .i64 ge)),(.n (.str (ByteArray.mk (List.toArray [])))),(.n (.int .i64 0)),(.n (.int .i64
 0)),(.n Mir.D.nil),(.n (.str (ByteArray.mk (List.toArray [])))),(.n (.bool false)),(.n (.bool false))])]) (∃ x8 : Bool,(∃ x9 : LD,(∃ x10 : LD,(∃ x11 : LD,(∃ x12 : Int,((Runs Fs2 99
 [(aI x4),(aS x6)] [] (.tup [(.agg [(aB x8),(aL x9),(aL x10),(aL x11)]),(aI x12)]) []) ∧ (sel (x12 != 0) (R (.tup [(.agg [(.n (.bool false)),(.o (.sl 1 [])),(.o (.sl 1 [])),(.o (.sl
 1 []))]),(.n (.bool false))]) [(hB 3600302 [(.o (.sl 1 ba)),(.o (.sl 1 no)),(.o (.sl 1 pa)),(.n (.int .i64 ro)),(.n (.int .i64 ge)),(.n (.str (ByteArray.mk (List.toArray [])))),(.n
 (.int .i64 0)),(.n (.int .i64 0)),(.n Mir.D.nil),(.n (.str (ByteArray.mk (List.toArray [])))),(.n (.bool false)),(.n (.bool false))])]) (∃ x13 : Bool,((Runs Fs2 100 [(.agg [(aB
 x8),(aL x9),(aL x10),(aL x11)]),(aB root)] [] (aB x13) []) ∧ (sel (Bool.not x13) (R (.tup [(.agg [(.n (.bool false)),(.o (.sl 1 [])),(.o (.sl 1 [])),(.o (.sl 1 []))]),(.n (.bool
 false))]) [(hB 3600302 [(.o (.sl 1 ba)),(.o (.sl 1 no)),(.o (.sl 1 pa)),(.n (.int .i64 ro)),(.n (.int .i64 ge)),(.n (.str (ByteArray.mk (List.toArray [])))),(.n (.int .i64 0)),(.n
 (.int .i64 0)),(.n Mir.D.nil),(.n (.str (ByteArray.mk (List.toArray [])))),(.n (.bool false)),(.n (.bool false))])]) (R (.tup [(.agg [(.n (.bool x8)),(.o (.sl 1 x9)),(.o (.sl 1
 x10)),(.o (.sl 1 x11))]),(.n (.bool true))]) [(hB 3600302 [(.o (.sl 1 ba)),(.o (.sl 1 no)),(.o (.sl 1 pa)),(.n (.int .i64 ro)),(.n (.int .i64 ge)),(.n (.str (ByteArray.mk
 (List.toArray [])))),(.n (.int .i64 0)),(.n (.int .i64 0)),(.n Mir.D.nil),(.n (.str (ByteArray.mk (List.toArray [])))),(.n (.bool false)),(.n (.bool
 false))])])))))))))))))))))))))))))))))))
theorem vc68a (ba : LD) (no : LD) (pa : LD) (ro : Int) (ge : Int) (block : Int) (root : Bool) (R : Mir.AV → Heap → Prop) : Vc Fs2 c68.body (argsQ c68 [.ptr 3600302 0, .n (.int .i64 block), .n (.bool root)]) [(3600302, .box [.o (.sl 1 ba), .o (.sl 1 no), .o (.sl 1 pa), .n (.int .i64 ro), .n (.int .i64 ge), .n (.str (ByteArray.mk (List.toArray []))), .n (.int .i64 0), .n (.int .i64 0), .n .nil, .n (.str (ByteArray.mk (List.toArray []))), .n (.bool false), .n (.bool false)])] (endQH c68 [(3600302, .box [.o (.sl 1 ba), .o (.sl 1 no), .o (.sl 1 pa), .n (.int .i64 ro), .n (.int .i64 ge), .n (.str (ByteArray.mk (List.toArray []))), .n (.int .i64 0), .n (.int .i64 0), .n .nil, .n (.str (ByteArray.mk (List.toArray []))), .n (.bool false), .n (.bool false)])] R) = V68a ba no pa ro ge block root R := by kernel_rfl
def V68b (ba : LD) (no : LD) (pa : LD) (ro : Int) (ge : Int) (block : Int) (root : Bool) (R : Mir.AV → Heap → Prop) : Prop :=
 (sel (decide (block < 10)) (R (.tup [(.agg [(.n (.bool false)),(.o (.sl 1 [])),(.o (.sl 1 [])),(.o (.sl 1 []))]),(.n (.bool false))]) [(hB 4000302 [(.o (.sl 1 ba)),(.o (.sl 1
 no)),(.o (.sl 1 pa)),(.n (.int .i64 ro)),(.n (.int .i64 ge)),(.n (.str (ByteArray.mk (List.toArray [])))),(.n (.int .i64 0)),(.n (.int .i64 0)),(.n Mir.D.nil),(.n (.str
 (ByteArray.mk (List.toArray [])))),(.n (.bool false)),(.n (.bool false))])]) (sel (decide (block ≥ (no.length : Int))) (R (.tup [(.agg [(.n (.bool false)),(.o (.sl 1 [])),(.o (.sl
 1 [])),(.o (.sl 1 []))]),(.n (.bool false))]) [(hB 4000302 [(.o (.sl 1 ba)),(.o (.sl 1 no)),(.o (.sl 1 pa)),(.n (.int .i64 ro)),(.n (.int .i64 ge)),(.n (.str (ByteArray.mk
 (List.toArray [])))),(.n (.int .i64 0)),(.n (.int .i64 0)),(.n Mir.D.nil),(.n (.str (ByteArray.mk (List.toArray [])))),(.n (.bool false)),(.n (.bool false))])]) ((rn 1) ∧ ((0 :
 Int) ≤ block) ∧ (∃ x0 : Mir.D,((no[Int.toNat block]? = some x0) ∧ (∃ x1 : Bool,(((D.cells x0)[0]? = some (Mir.D.bool x1)) ∧ (sel (Bool.not x1) (R (.tup [(.agg [(.n (.bool
 false)),(.o (.sl 1 [])),(.o (.sl 1 [])),(.o (.sl 1 []))]),(.n (.bool false))]) [(hB 4000302 [(.o (.sl 1 ba)),(.o (.sl 1 no)),(.o (.sl 1 pa)),(.n (.int .i64 ro)),(.n (.int .i64
 ge)),(.n (.str (ByteArray.mk (List.toArray [])))),(.n (.int .i64 0)),(.n (.int .i64 0)),(.n Mir.D.nil),(.n (.str (ByteArray.mk (List.toArray [])))),(.n (.bool false)),(.n (.bool
 false))])]) ((rn 1) ∧ ((0 : Int) ≤ block) ∧ (∃ x2 : Mir.D,((pa[Int.toNat block]? = some x2) ∧ (∃ x3 : ByteArray,(((D.cells x2)[0]? = some (Mir.D.str x3)) ∧ (0 = 0) ∧ (∃ x4 : Int,(∃
 x5 : Int,(∃ x6 : ByteArray,(∃ x7 : Int,((Runs Fs2 47 [(aS x3),(aL [(Mir.D.int .i64 1),(Mir.D.int .i64 2)])] [] (.tup [(.agg [(aI x4),(aI x5),(aS x6)]),(aI x7)]) []) ∧ (sel (x7 !=
 0) (R (.tup [(.agg [(.n (.bool false)),(.o (.sl 1 [])),(.o (.sl 1 [])),(.o (.sl 1 []))]),(.n (.bool false))]) [(hB 4000302 [(.o (.sl 1 ba)),(.o (.sl 1 no)),(.o (.sl 1 pa)),(.n
 (.int .i64 ro)),(.n (.int .i64 ge)),(.n (.str (ByteArray.mk (List.toArray [])))),(.n (.int .i64 0)),(.n (.int .i64 0)),(.n Mir.D.nil),(.n (.str (ByteArray.mk (List.toArray
 [])))),(.n (.bool false)),(.n (.bool false))])]) (sel (decide (x5 > ge)) (R (.tup [(.agg [(.n (.bool false)),(.o (.sl 1 [])),(.o (.sl 1 [])),(.o (.sl 1 []))]),(.n (.bool false))])
 [(hB 4000302 [(.o (.sl 1 ba)),(.o (.sl 1 no)),(.o (.sl 1 pa)),(.n (.int .i64 ro)),(.n (.int .i64 ge)),(.n (.str (ByteArray.mk (List.toArray [])))),(.n (.int .i64 0)),(.n (.int .i64
 0)),(.n Mir.D.nil),(.n (.str (ByteArray.mk (List.toArray [])))),(.n (.bool false)),(.n (.bool false))])]) (∃ x8 : Bool,(∃ x9 : LD,(∃ x10 : LD,(∃ x11 : LD,(∃ x12 : Int,((Runs Fs2 99
 [(aI x4),(aS x6)] [] (.tup [(.agg [(aB x8),(aL x9),(aL x10),(aL x11)]),(aI x12)]) []) ∧ (sel (x12 != 0) (R (.tup [(.agg [(.n (.bool false)),(.o (.sl 1 [])),(.o (.sl 1 [])),(.o (.sl
 1 []))]),(.n (.bool false))]) [(hB 4000302 [(.o (.sl 1 ba)),(.o (.sl 1 no)),(.o (.sl 1 pa)),(.n (.int .i64 ro)),(.n (.int .i64 ge)),(.n (.str (ByteArray.mk (List.toArray [])))),(.n
 (.int .i64 0)),(.n (.int .i64 0)),(.n Mir.D.nil),(.n (.str (ByteArray.mk (List.toArray [])))),(.n (.bool false)),(.n (.bool false))])]) (∃ x13 : Bool,((Runs Fs2 100 [(.agg [(aB
 x8),(aL x9),(aL x10),(aL x11)]),(aB root)] [] (aB x13) []) ∧ (sel (Bool.not x13) (R (.tup [(.agg [(.n (.bool false)),(.o (.sl 1 [])),(.o (.sl 1 [])),(.o (.sl 1 []))]),(.n (.bool
 false))]) [(hB 4000302 [(.o (.sl 1 ba)),(.o (.sl 1 no)),(.o (.sl 1 pa)),(.n (.int .i64 ro)),(.n (.int .i64 ge)),(.n (.str (ByteArray.mk (List.toArray [])))),(.n (.int .i64 0)),(.n
 (.int .i64 0)),(.n Mir.D.nil),(.n (.str (ByteArray.mk (List.toArray [])))),(.n (.bool false)),(.n (.bool false))])]) (R (.tup [(.agg [(.n (.bool x8)),(.o (.sl 1 x9)),(.o (.sl 1
 x10)),(.o (.sl 1 x11))]),(.n (.bool true))]) [(hB 4000302 [(.o (.sl 1 ba)),(.o (.sl 1 no)),(.o (.sl 1 pa)),(.n (.int .i64 ro)),(.n (.int .i64 ge)),(.n (.str (ByteArray.mk
 (List.toArray [])))),(.n (.int .i64 0)),(.n (.int .i64 0)),(.n Mir.D.nil),(.n (.str (ByteArray.mk (List.toArray [])))),(.n (.bool false)),(.n (.bool
 false))])])))))))))))))))))))))))))))))))
theorem vc68b (ba : LD) (no : LD) (pa : LD) (ro : Int) (ge : Int) (block : Int) (root : Bool) (R : Mir.AV → Heap → Prop) : Vc Fs2 c68.body (argsQ c68 [.ptr 4000302 0, .n (.int .i64 block), .n (.bool root)]) [(4000302, .box [.o (.sl 1 ba), .o (.sl 1 no), .o (.sl 1 pa), .n (.int .i64 ro), .n (.int .i64 ge), .n (.str (ByteArray.mk (List.toArray []))), .n (.int .i64 0), .n (.int .i64 0), .n .nil, .n (.str (ByteArray.mk (List.toArray []))), .n (.bool false), .n (.bool false)])] (endQH c68 [(4000302, .box [.o (.sl 1 ba), .o (.sl 1 no), .o (.sl 1 pa), .n (.int .i64 ro), .n (.int .i64 ge), .n (.str (ByteArray.mk (List.toArray []))), .n (.int .i64 0), .n (.int .i64 0), .n .nil, .n (.str (ByteArray.mk (List.toArray []))), .n (.bool false), .n (.bool false)])] R) = V68b ba no pa ro ge block root R := by kernel_rfl
def V38o (ba : LD) (no : LD) (pa : LD) (ro : Int) (ge : Int) (R : Mir.AV → Heap → Prop) : Prop :=
 (sel (ro != 0) (∃ x0 : Nat,(∃ x1 : Nat,(∃ x2 : Int,(∃ x3 : Bool,(∃ x4 : Nat,(∃ x5 : LD,(∃ x6 : Nat,(∃ x7 : LD,((Runs Fs2 72 [(.ptr 3800101 0),(.agg [(aL ba),(aL no),(aL pa),(aI
 ro),(aI ge)]),(aI ro),(aI 1),(aS (ByteArray.mk (List.toArray []))),(aS (ByteArray.mk (List.toArray [])))] [(hB 3800101 [(.row 3890001 0),(.row 3890002 0),(aI 0),(aB false)]),(hR
 3890001 0 129 2 []),(hR 3890002 0 3 1 [])] (.tup []) [(hB 3800101 [(.row 3890001 x0),(.row 3890002 x1),(aI x2),(aB x3)]),(hR 3890001 x4 129 2 x5),(hR 3890002 x6 3 1 x7)]) ∧ (R
 (.ptr 3800101 0) [(hB 3800101 [(.row 3890001 x0),(.row 3890002 x1),(.n (.int .i64 x2)),(.n (.bool x3))]),(hR 3890001 x4 129 2 x5),(hR 3890002 x6 3 1 x7)])))))))))) (R (.ptr 3800101
 0) [(hB 3800101 [(.row 3890001 0),(.row 3890002 0),(.n (.int .i64 0)),(.n (.bool false))]),(hR 3890001 0 129 2 []),(hR 3890002 0 3 1 [])]))
theorem vc38o (ba : LD) (no : LD) (pa : LD) (ro : Int) (ge : Int) (R : Mir.AV → Heap → Prop) : Vc Fs2 c38.body (argsQ c38 [(.agg [.o (.sl 1 ba), .o (.sl 1 no), .o (.sl 1 pa), .n (.int .i64 ro), .n (.int .i64 ge)])]) [] (endQO c38 R) = V38o ba no pa ro ge R := by kernel_rfl
def V79o (ba : LD) (no : LD) (pa : LD) (ro : Int) (ge : Int) (R : Mir.AV → Heap → Prop) : Prop :=
 (∃ x0 : Bool,((Runs Fs2 41 [(.agg [(aL ba),(aL no),(aL pa),(aI ro),(aI ge)])] [] (aB x0) []) ∧ (sel (Bool.not x0) (R (.tup [.nilp,(.n (.int .i64 1))]) []) (((0 : Int) ≤ (no.length
 : Int)) ∧ ((((Int.toNat (no.length : Int)) * 1) : Nat) ≤ 140737488355328) ∧ (sel (ro != 0) (∃ x1 : Nat,(∃ x2 : LD,(∃ x3 : LD,(∃ x4 : LD,(∃ x5 : LD,(∃ x6 : Int,(∃ x7 : Int,(∃ x8 :
 Int,(∃ x9 : Int,(∃ x10 : Int,(∃ x11 : Nat,(∃ x12 : Bool,((Runs Fs2 108 [(.ptr 7900307 0),(aI ro),(aI 1),(aS (ByteArray.mk (List.toArray []))),(aS (ByteArray.mk (List.toArray [])))]
 [(hR 7900305 0 4 1 (List.replicate (Int.toNat (no.length : Int)) (Mir.D.bool false))),(hB 7900307 [(aL ba),(aL no),(aL pa),(aI ro),(aI ge),(aI 0),(aI 0),(aI 0),(.row 7900305 0),(aB
 false)])] (.tup []) [(hR 7900305 x1 4 1 x2),(hB 7900307 [(aL x3),(aL x4),(aL x5),(aI x6),(aI x7),(aI x8),(aI x9),(aI x10),(.row 7900305 x11),(aB x12)])]) ∧ (sel x12 (R (.tup
 [.nilp,(.n (.int .i64 81))]) []) (R (.tup [(.ptr 7900307 0),(.n (.int .i64 0))]) [(hR 7900305 x1 4 1 x2),(hB 7900307 [(.o (.sl 1 x3)),(.o (.sl 1 x4)),(.o (.sl 1 x5)),(.n (.int .i64
 x6)),(.n (.int .i64 x7)),(.n (.int .i64 x8)),(.n (.int .i64 x9)),(.n (.int .i64 x10)),(.row 7900305 x11),(.n (.bool x12))])]))))))))))))))) (R (.tup [(.ptr 7900307 0),(.n (.int
 .i64 0))]) [(hR 7900305 0 4 1 (List.replicate (Int.toNat (no.length : Int)) (Mir.D.bool false))),(hB 7900307 [(.o (.sl 1 ba)),(.o (.sl 1 no)),(.o (.sl 1 pa)),(.n (.int .i64
 ro)),(.n (.int .i64 ge)),(.n (.int .i64 0)),(.n (.int .i64 0)),(.n (.int .i64 0)),(.row 7900305 0),(.n (.bool false))])]))))))
theorem vc79o (ba : LD) (no : LD) (pa : LD) (ro : Int) (ge : Int) (R : Mir.AV → Heap → Prop) : Vc Fs2 c79.body (argsQ c79 [(.agg [.o (.sl 1 ba), .o (.sl 1 no), .o (.sl 1 pa), .n (.int .i64 ro), .n (.int .i64 ge)])]) [] (endQO c79 R) = V79o ba no pa ro ge R := by kernel_rfl
def V72h (ba : LD) (no : LD) (pa : LD) (ro : Int) (ge : Int) (block : Int) (deep : Int) (low : ByteArray) (high : ByteArray) (va : Nat) (vb : Nat) (he : Int) (bad : Bool) (P : LD) (B : LD) (R : Mir.AV → Heap → Prop) : Prop :=
 ((rn vb) ∧ (∃ x0 : (Int → ((Nat × (Nat × (Int × (Bool × (Unit))))) → Prop)),(∃ x1 : (Int → ((Nat × (Nat × (Int × (Bool × (Unit))))) → Nat)),(((rh [(hB 3800101 [(.row 3890001
 va),(.row 3890002 vb),(aI he),(aB bad)]),(hR 3890001 va 129 2 P),(hR 3890002 vb 3 1 B),(hB 7200000 [(aL ba),(aL no),(aL pa),(aI ro),(aI ge)])]) ∧ (x0 0 (va,(vb,(he,(bad,())))))) ∧
 (∀ x2 : Int,(∀ x3 : (Nat × (Nat × (Int × (Bool × (Unit))))),((x0 x2 x3) → (∀ x4 : (Nat → Mir.AV),(sel (decide (x2 < (B.length : Int))) (((rn vb) ∧ (rn 1)) ∧ ((0 : Int) ≤ x2) ∧ ((x2
 : Int) < (B.length : Int)) ∧ ((rn vb) ∧ (rn 1)) ∧ (∃ x5 : Mir.D,((B[Int.toNat x2]? = some x5) ∧ (∃ x6 : Int,(((D.cells x5)[0]? = some (Mir.D.int .i64 x6)) ∧ (sel (x6 == block) ((rq
 (.ptr 3800101 0)) ∧ (rq (aI block)) ∧ (rq (aI deep)) ∧ (rq (aS low)) ∧ (rq (aS high)) ∧ (rq (.ptr 7200000 0)) ∧ (rq (.row 3890002 vb)) ∧ (rq (aI (B.length : Int))) ∧ (rh [(hB
 3800101 [(.row 3890001 x3.1),(.row 3890002 x3.2.1),(aI x3.2.2.1),(aB true)]),(hR 3890001 va 129 2 P),(hR 3890002 vb 3 1 B),(hB 7200000 [(aL ba),(aL no),(aL pa),(aI ro),(aI ge)])])
 ∧ (x0 (IntKind.wrap .i64 (x2 + 1)) (x3.1,(x3.2.1,(x3.2.2.1,(true,()))))) ∧ (((x1 (IntKind.wrap .i64 (x2 + 1)) (x3.1,(x3.2.1,(x3.2.2.1,(true,()))))) : Nat) < (x1 x2 x3))) ((rq (.ptr
 3800101 0)) ∧ (rq (aI block)) ∧ (rq (aI deep)) ∧ (rq (aS low)) ∧ (rq (aS high)) ∧ (rq (.ptr 7200000 0)) ∧ (rq (.row 3890002 vb)) ∧ (rq (aI (B.length : Int))) ∧ (rh [(hB 3800101
 [(.row 3890001 x3.1),(.row 3890002 x3.2.1),(aI x3.2.2.1),(aB x3.2.2.2.1)]),(hR 3890001 va 129 2 P),(hR 3890002 vb 3 1 B),(hB 7200000 [(aL ba),(aL no),(aL pa),(aI ro),(aI ge)])]) ∧
 (x0 (IntKind.wrap .i64 (x2 + 1)) (x3.1,(x3.2.1,(x3.2.2.1,(x3.2.2.2.1,()))))) ∧ (((x1 (IntKind.wrap .i64 (x2 + 1)) (x3.1,(x3.2.1,(x3.2.2.1,(x3.2.2.2.1,()))))) : Nat) < (x1 x2
 x3))))))))) (∃ x7 : Bool,(∃ x8 : LD,(∃ x9 : LD,(∃ x10 : LD,(∃ x11 : Bool,((Runs Fs2 43 [(.agg [(aL ba),(aL no),(aL pa),(aI ro),(aI ge)]),(aI block),(aB (deep == 1))] [] (.tup
 [(.agg [(aB x7),(aL x8),(aL x9),(aL x10)]),(aB x11)]) []) ∧ (sel x3.2.2.2.1 (R (.tup []) [(hB 3800101 [(.row 3890001 x3.1),(.row 3890002 x3.2.1),(.n (.int .i64 x3.2.2.1)),(.n
 (.bool true))]),(hR 3890001 va 129 2 P),(hR 3890002 vb 3 1 B)]) (sel (Bool.not x11) (R (.tup []) [(hB 3800101 [(.row 3890001 x3.1),(.row 3890002 x3.2.1),(.n (.int .i64
 x3.2.2.1)),(.n (.bool true))]),(hR 3890001 va 129 2 P),(hR 3890002 vb 3 1 B)]) (sel (decide (deep > 8)) (R (.tup []) [(hB 3800101 [(.row 3890001 x3.1),(.row 3890002 x3.2.1),(.n
 (.int .i64 x3.2.2.1)),(.n (.bool true))]),(hR 3890001 va 129 2 P),(hR 3890002 vb 3 1 B)]) (sel x7 (sel ((x8.length : Int) == 0) (R (.tup []) [(hB 3800101 [(.row 3890001 x3.1),(.row
 3890002 x3.2.1),(.n (.int .i64 x3.2.2.1)),(.n (.bool true))]),(hR 3890001 va 129 2 P),(hR 3890002 vb 3 1 B)]) ((rn 0) ∧ ((rn 1) ∨ (@Eq LD [(Mir.D.int .i64 block)] [])) ∧ ((((vb :
 Nat) = x3.2.1) ∧ (rn 3)) ∧ (rn 1)) ∧ (((((List.length B) + (List.length [(Mir.D.int .i64 block)])) * 8) : Nat) ≤ 140737488355328) ∧ (∃ x12 : (Int → ((Nat × (Nat × (Int × (Bool ×
 (Unit))))) → ((Nat × LD) → Prop))),(∃ x13 : (Int → ((Nat × (Nat × (Int × (Bool × (Unit))))) → ((Nat × LD) → Nat))),(((rh [(hB 3800101 [(.row 3890001 x3.1),(.row 3890002 (x3.2.1 +
 1)),(aI x3.2.2.1),(aB x3.2.2.2.1)]),(hR 3890001 va 129 2 P),(hR 3890002 (x3.2.1 + 1) 3 1 (B ++ [(Mir.D.int .i64 block)])),(hB 7200000 [(aL ba),(aL no),(aL pa),(aI ro),(aI ge)]),(hB
 7200708 [(aB x7),(aL x8),(aL x9),(aL x10)]),(7201006,(.row true true 0 3 1 [(Mir.D.int .i64 block)]))]) ∧ (x12 0 (x3.1,((x3.2.1 + 1),(x3.2.2.1,(x3.2.2.2.1,())))) (va,P))) ∧ (∀ x14
 : Int,(∀ x15 : (Nat × (Nat × (Int × (Bool × (Unit))))),(∀ x16 : (Nat × LD),((x12 x14 x15 x16) → (∀ x17 : (Nat → Mir.AV),(sel (decide (x14 < (x8.length : Int))) ((rn 1) ∧ ((0 : Int)
 ≤ x14) ∧ (∃ x18 : Mir.D,((x8[Int.toNat x14]? = some x18) ∧ (∃ x19 : ByteArray,(((D.cells x18)[0]? = some (Mir.D.str x19)) ∧ (∃ x20 : Bool,((Runs Fs2 103 [(aS x19),(aS low),(aS
 high)] [] (aB x20) []) ∧ (sel (Bool.not x20) (sel x7 ((rn 1) ∧ ((0 : Int) ≤ x14) ∧ (∃ x21 : Mir.D,((x9[Int.toNat x14]? = some x21) ∧ (∃ x22 : ByteArray,(((D.cells x21)[0]? = some
 (Mir.D.str x22)) ∧ (rn 0) ∧ ((rn 2) ∨ (@Eq LD [(Mir.D.rcd [(Mir.D.str x19),(Mir.D.str x22)])] [])) ∧ (((((Prod.fst x16) : Nat) = x15.1) ∧ (rn 129)) ∧ (rn 2)) ∧ (((((List.length
 (Prod.snd x16)) + (List.length [(Mir.D.rcd [(Mir.D.str x19),(Mir.D.str x22)])])) * 32) : Nat) ≤ 140737488355328) ∧ (rq (.ptr 3800101 0)) ∧ (rq (aI deep)) ∧ (rq (aS low)) ∧ (rq (aS
 high)) ∧ (rq (.ptr 7200000 0)) ∧ (rq (.ptr 7200708 0)) ∧ (rq (aL x8)) ∧ (rq (aI (x8.length : Int))) ∧ (rh [(hB 3800101 [(.row 3890001 (x15.1 + 1)),(.row 3890002 x15.2.1),(aI
 x15.2.2.1),(aB true)]),(hR 3890001 (x15.1 + 1) 129 2 ((Prod.snd x16) ++ [(Mir.D.rcd [(Mir.D.str x19),(Mir.D.str x22)])])),(hR 3890002 (x3.2.1 + 1) 3 1 (B ++ [(Mir.D.int .i64
 block)])),(hB 7200000 [(aL ba),(aL no),(aL pa),(aI ro),(aI ge)]),(hB 7200708 [(aB x7),(aL x8),(aL x9),(aL x10)]),(7201006,(.row true true 0 3 1 [(Mir.D.int .i64 block)]))]) ∧ (x12
 (IntKind.wrap .i64 (x14 + 1)) ((x15.1 + 1),(x15.2.1,(x15.2.2.1,(true,())))) ((x15.1 + 1),((Prod.snd x16) ++ [(Mir.D.rcd [(Mir.D.str x19),(Mir.D.str x22)])]))) ∧ (((x13
 (IntKind.wrap .i64 (x14 + 1)) ((x15.1 + 1),(x15.2.1,(x15.2.2.1,(true,())))) ((x15.1 + 1),((Prod.snd x16) ++ [(Mir.D.rcd [(Mir.D.str x19),(Mir.D.str x22)])]))) : Nat) < (x13 x14 x15
 x16))))))) ((rq (.ptr 3800101 0)) ∧ (rq (aI deep)) ∧ (rq (aS low)) ∧ (rq (aS high)) ∧ (rq (.ptr 7200000 0)) ∧ (rq (.ptr 7200708 0)) ∧ (rq (aL x8)) ∧ (rq (aI (x8.length : Int))) ∧
 (rh [(hB 3800101 [(.row 3890001 x15.1),(.row 3890002 x15.2.1),(aI x15.2.2.1),(aB true)]),(hR 3890001 (Prod.fst x16) 129 2 (Prod.snd x16)),(hR 3890002 (x3.2.1 + 1) 3 1 (B ++
 [(Mir.D.int .i64 block)])),(hB 7200000 [(aL ba),(aL no),(aL pa),(aI ro),(aI ge)]),(hB 7200708 [(aB x7),(aL x8),(aL x9),(aL x10)]),(7201006,(.row true true 0 3 1 [(Mir.D.int .i64
 block)]))]) ∧ (x12 (IntKind.wrap .i64 (x14 + 1)) (x15.1,(x15.2.1,(x15.2.2.1,(true,())))) ((Prod.fst x16),(Prod.snd x16))) ∧ (((x13 (IntKind.wrap .i64 (x14 + 1))
 (x15.1,(x15.2.1,(x15.2.2.1,(true,())))) ((Prod.fst x16),(Prod.snd x16))) : Nat) < (x13 x14 x15 x16)))) (sel x7 ((rn 1) ∧ ((0 : Int) ≤ x14) ∧ (∃ x23 : Mir.D,((x9[Int.toNat x14]? =
 some x23) ∧ (∃ x24 : ByteArray,(((D.cells x23)[0]? = some (Mir.D.str x24)) ∧ (rn 0) ∧ ((rn 2) ∨ (@Eq LD [(Mir.D.rcd [(Mir.D.str x19),(Mir.D.str x24)])] [])) ∧ (((((Prod.fst x16) :
 Nat) = x15.1) ∧ (rn 129)) ∧ (rn 2)) ∧ (((((List.length (Prod.snd x16)) + (List.length [(Mir.D.rcd [(Mir.D.str x19),(Mir.D.str x24)])])) * 32) : Nat) ≤ 140737488355328) ∧ (rq (.ptr
 3800101 0)) ∧ (rq (aI deep)) ∧ (rq (aS low)) ∧ (rq (aS high)) ∧ (rq (.ptr 7200000 0)) ∧ (rq (.ptr 7200708 0)) ∧ (rq (aL x8)) ∧ (rq (aI (x8.length : Int))) ∧ (rh [(hB 3800101 [(.row
 3890001 (x15.1 + 1)),(.row 3890002 x15.2.1),(aI x15.2.2.1),(aB x15.2.2.2.1)]),(hR 3890001 (x15.1 + 1) 129 2 ((Prod.snd x16) ++ [(Mir.D.rcd [(Mir.D.str x19),(Mir.D.str x24)])])),(hR
 3890002 (x3.2.1 + 1) 3 1 (B ++ [(Mir.D.int .i64 block)])),(hB 7200000 [(aL ba),(aL no),(aL pa),(aI ro),(aI ge)]),(hB 7200708 [(aB x7),(aL x8),(aL x9),(aL x10)]),(7201006,(.row true
 true 0 3 1 [(Mir.D.int .i64 block)]))]) ∧ (x12 (IntKind.wrap .i64 (x14 + 1)) ((x15.1 + 1),(x15.2.1,(x15.2.2.1,(x15.2.2.2.1,())))) ((x15.1 + 1),((Prod.snd x16) ++ [(Mir.D.rcd
 [(Mir.D.str x19),(Mir.D.str x24)])]))) ∧ (((x13 (IntKind.wrap .i64 (x14 + 1)) ((x15.1 + 1),(x15.2.1,(x15.2.2.1,(x15.2.2.2.1,())))) ((x15.1 + 1),((Prod.snd x16) ++ [(Mir.D.rcd
 [(Mir.D.str x19),(Mir.D.str x24)])]))) : Nat) < (x13 x14 x15 x16))))))) ((rq (.ptr 3800101 0)) ∧ (rq (aI deep)) ∧ (rq (aS low)) ∧ (rq (aS high)) ∧ (rq (.ptr 7200000 0)) ∧ (rq (.ptr
 7200708 0)) ∧ (rq (aL x8)) ∧ (rq (aI (x8.length : Int))) ∧ (rh [(hB 3800101 [(.row 3890001 x15.1),(.row 3890002 x15.2.1),(aI x15.2.2.1),(aB x15.2.2.2.1)]),(hR 3890001 (Prod.fst
 x16) 129 2 (Prod.snd x16)),(hR 3890002 (x3.2.1 + 1) 3 1 (B ++ [(Mir.D.int .i64 block)])),(hB 7200000 [(aL ba),(aL no),(aL pa),(aI ro),(aI ge)]),(hB 7200708 [(aB x7),(aL x8),(aL
 x9),(aL x10)]),(7201006,(.row true true 0 3 1 [(Mir.D.int .i64 block)]))]) ∧ (x12 (IntKind.wrap .i64 (x14 + 1)) (x15.1,(x15.2.1,(x15.2.2.1,(x15.2.2.2.1,())))) ((Prod.fst
 x16),(Prod.snd x16))) ∧ (((x13 (IntKind.wrap .i64 (x14 + 1)) (x15.1,(x15.2.1,(x15.2.2.1,(x15.2.2.2.1,())))) ((Prod.fst x16),(Prod.snd x16))) : Nat) < (x13 x14 x15 x16))))))))))))
 (sel x7 (sel (x15.2.2.1 != 0) (sel (x15.2.2.1 != deep) (R (.tup []) [(hB 3800101 [(.row 3890001 x15.1),(.row 3890002 x15.2.1),(.n (.int .i64 deep)),(.n (.bool true))]),(hR 3890001
 (Prod.fst x16) 129 2 (Prod.snd x16)),(hR 3890002 (x3.2.1 + 1) 3 1 (B ++ [(Mir.D.int .i64 block)]))]) (R (.tup []) [(hB 3800101 [(.row 3890001 x15.1),(.row 3890002 x15.2.1),(.n
 (.int .i64 deep)),(.n (.bool x15.2.2.2.1))]),(hR 3890001 (Prod.fst x16) 129 2 (Prod.snd x16)),(hR 3890002 (x3.2.1 + 1) 3 1 (B ++ [(Mir.D.int .i64 block)]))])) (R (.tup []) [(hB
 3800101 [(.row 3890001 x15.1),(.row 3890002 x15.2.1),(.n (.int .i64 deep)),(.n (.bool x15.2.2.2.1))]),(hR 3890001 (Prod.fst x16) 129 2 (Prod.snd x16)),(hR 3890002 (x3.2.1 + 1) 3 1
 (B ++ [(Mir.D.int .i64 block)]))])) (∃ x25 : (Int → ((Nat × (Nat × (Int × (Bool × (Unit))))) → ((Nat × LD) → ((Nat × LD) → Prop)))),(∃ x26 : (Int → ((Nat × (Nat × (Int × (Bool ×
 (Unit))))) → ((Nat × LD) → ((Nat × LD) → Nat)))),(((rh [(hB 3800101 [(.row 3890001 x15.1),(.row 3890002 x15.2.1),(aI x15.2.2.1),(aB x15.2.2.2.1)]),(hR 3890001 (Prod.fst x16) 129 2
 (Prod.snd x16)),(hR 3890002 (x3.2.1 + 1) 3 1 (B ++ [(Mir.D.int .i64 block)])),(hB 7200000 [(aL ba),(aL no),(aL pa),(aI ro),(aI ge)]),(hB 7200708 [(aB x7),(aL x8),(aL x9),(aL
 x10)]),(7201006,(.row true true 0 3 1 [(Mir.D.int .i64 block)]))]) ∧ (x25 0 (x15.1,(x15.2.1,(x15.2.2.1,(x15.2.2.2.1,())))) ((Prod.fst x16),(Prod.snd x16)) ((x3.2.1 + 1),(B ++
 [(Mir.D.int .i64 block)])))) ∧ (∀ x27 : Int,(∀ x28 : (Nat × (Nat × (Int × (Bool × (Unit))))),(∀ x29 : (Nat × LD),(∀ x30 : (Nat × LD),((x25 x27 x28 x29 x30) → (∀ x31 : (Nat →
 Mir.AV),(sel (decide (x27 < (x10.length : Int))) ((rn 1) ∧ ((0 : Int) ≤ x27) ∧ (∃ x32 : Mir.D,((x10[Int.toNat x27]? = some x32) ∧ (∃ x33 : Int,(((D.cells x32)[0]? = some (Mir.D.int
 .i64 x33)) ∧ (sel (decide (x27 > 0)) ((rn 1) ∧ ((0 : Int) ≤ (IntKind.wrap .i64 (x27 - 1))) ∧ (∃ x34 : Mir.D,((x8[Int.toNat (IntKind.wrap .i64 (x27 - 1))]? = some x34) ∧ (∃ x35 :
 ByteArray,(((D.cells x34)[0]? = some (Mir.D.str x35)) ∧ (sel (decide (x27 < (x8.length : Int))) ((rn 1) ∧ ((0 : Int) ≤ x27) ∧ (∃ x36 : Mir.D,((x8[Int.toNat x27]? = some x36) ∧ (∃
 x37 : ByteArray,(((D.cells x36)[0]? = some (Mir.D.str x37)) ∧ (sel (Bool.not x28.2.2.2.1) (∃ x38 : Nat,(∃ x39 : Nat,(∃ x40 : Int,(∃ x41 : Bool,(∃ x42 : Nat,(∃ x43 : LD,(∃ x44 :
 Nat,(∃ x45 : LD,((Runs Fs2 72 [(.ptr 3800101 0),(.agg [(aL ba),(aL no),(aL pa),(aI ro),(aI ge)]),(aI x33),(aI (IntKind.wrap .i64 (deep + 1))),(aS x35),(aS x37)] [(hB 3800101 [(.row
 3890001 x28.1),(.row 3890002 x28.2.1),(aI x28.2.2.1),(aB x28.2.2.2.1)]),(hR 3890001 (Prod.fst x29) 129 2 (Prod.snd x29)),(hR 3890002 (Prod.fst x30) 3 1 (Prod.snd x30))] (.tup [])
 [(hB 3800101 [(.row 3890001 x38),(.row 3890002 x39),(aI x40),(aB x41)]),(hR 3890001 x42 129 2 x43),(hR 3890002 x44 3 1 x45)]) ∧ (rq (.ptr 3800101 0)) ∧ (rq (aI deep)) ∧ (rq (aS
 low)) ∧ (rq (aS high)) ∧ (rq (.ptr 7200000 0)) ∧ (rq (.ptr 7200708 0)) ∧ (rq (aL x10)) ∧ (rq (aI (x10.length : Int))) ∧ (rh [(hB 3800101 [(.row 3890001 x38),(.row 3890002 x39),(aI
 x40),(aB x41)]),(hR 3890001 x42 129 2 x43),(hR 3890002 x44 3 1 x45),(hB 7200000 [(aL ba),(aL no),(aL pa),(aI ro),(aI ge)]),(hB 7200708 [(aB x7),(aL x8),(aL x9),(aL
 x10)]),(7201006,(.row true true 0 3 1 [(Mir.D.int .i64 block)]))]) ∧ (x25 (IntKind.wrap .i64 (x27 + 1)) (x38,(x39,(x40,(x41,())))) (x42,x43) (x44,x45)) ∧ (((x26 (IntKind.wrap .i64
 (x27 + 1)) (x38,(x39,(x40,(x41,())))) (x42,x43) (x44,x45)) : Nat) < (x26 x27 x28 x29 x30))))))))))) ((rq (.ptr 3800101 0)) ∧ (rq (aI deep)) ∧ (rq (aS low)) ∧ (rq (aS high)) ∧ (rq
 (.ptr 7200000 0)) ∧ (rq (.ptr 7200708 0)) ∧ (rq (aL x10)) ∧ (rq (aI (x10.length : Int))) ∧ (rh [(hB 3800101 [(.row 3890001 x28.1),(.row 3890002 x28.2.1),(aI x28.2.2.1),(aB
 x28.2.2.2.1)]),(hR 3890001 (Prod.fst x29) 129 2 (Prod.snd x29)),(hR 3890002 (Prod.fst x30) 3 1 (Prod.snd x30)),(hB 7200000 [(aL ba),(aL no),(aL pa),(aI ro),(aI ge)]),(hB 7200708
 [(aB x7),(aL x8),(aL x9),(aL x10)]),(7201006,(.row true true 0 3 1 [(Mir.D.int .i64 block)]))]) ∧ (x25 (IntKind.wrap .i64 (x27 + 1)) (x28.1,(x28.2.1,(x28.2.2.1,(x28.2.2.2.1,()))))
 ((Prod.fst x29),(Prod.snd x29)) ((Prod.fst x30),(Prod.snd x30))) ∧ (((x26 (IntKind.wrap .i64 (x27 + 1)) (x28.1,(x28.2.1,(x28.2.2.1,(x28.2.2.2.1,())))) ((Prod.fst x29),(Prod.snd
 x29)) ((Prod.fst x30),(Prod.snd x30))) : Nat) < (x26 x27 x28 x29 x30))))))))) (sel (Bool.not x28.2.2.2.1) (∃ x46 : Nat,(∃ x47 : Nat,(∃ x48 : Int,(∃ x49 : Bool,(∃ x50 : Nat,(∃ x51 :
 LD,(∃ x52 : Nat,(∃ x53 : LD,((Runs Fs2 72 [(.ptr 3800101 0),(.agg [(aL ba),(aL no),(aL pa),(aI ro),(aI ge)]),(aI x33),(aI (IntKind.wrap .i64 (deep + 1))),(aS x35),(aS high)] [(hB
 3800101 [(.row 3890001 x28.1),(.row 3890002 x28.2.1),(aI x28.2.2.1),(aB x28.2.2.2.1)]),(hR 3890001 (Prod.fst x29) 129 2 (Prod.snd x29)),(hR 3890002 (Prod.fst x30) 3 1 (Prod.snd
 x30))] (.tup []) [(hB 3800101 [(.row 3890001 x46),(.row 3890002 x47),(aI x48),(aB x49)]),(hR 3890001 x50 129 2 x51),(hR 3890002 x52 3 1 x53)]) ∧ (rq (.ptr 3800101 0)) ∧ (rq (aI
 deep)) ∧ (rq (aS low)) ∧ (rq (aS high)) ∧ (rq (.ptr 7200000 0)) ∧ (rq (.ptr 7200708 0)) ∧ (rq (aL x10)) ∧ (rq (aI (x10.length : Int))) ∧ (rh [(hB 3800101 [(.row 3890001 x46),(.row
 3890002 x47),(aI x48),(aB x49)]),(hR 3890001 x50 129 2 x51),(hR 3890002 x52 3 1 x53),(hB 7200000 [(aL ba),(aL no),(aL pa),(aI ro),(aI ge)]),(hB 7200708 [(aB x7),(aL x8),(aL x9),(aL
 x10)]),(7201006,(.row true true 0 3 1 [(Mir.D.int .i64 block)]))]) ∧ (x25 (IntKind.wrap .i64 (x27 + 1)) (x46,(x47,(x48,(x49,())))) (x50,x51) (x52,x53)) ∧ (((x26 (IntKind.wrap .i64
 (x27 + 1)) (x46,(x47,(x48,(x49,())))) (x50,x51) (x52,x53)) : Nat) < (x26 x27 x28 x29 x30))))))))))) ((rq (.ptr 3800101 0)) ∧ (rq (aI deep)) ∧ (rq (aS low)) ∧ (rq (aS high)) ∧ (rq
 (.ptr 7200000 0)) ∧ (rq (.ptr 7200708 0)) ∧ (rq (aL x10)) ∧ (rq (aI (x10.length : Int))) ∧ (rh [(hB 3800101 [(.row 3890001 x28.1),(.row 3890002 x28.2.1),(aI x28.2.2.1),(aB
 x28.2.2.2.1)]),(hR 3890001 (Prod.fst x29) 129 2 (Prod.snd x29)),(hR 3890002 (Prod.fst x30) 3 1 (Prod.snd x30)),(hB 7200000 [(aL ba),(aL no),(aL pa),(aI ro),(aI ge)]),(hB 7200708
 [(aB x7),(aL x8),(aL x9),(aL x10)]),(7201006,(.row true true 0 3 1 [(Mir.D.int .i64 block)]))]) ∧ (x25 (IntKind.wrap .i64 (x27 + 1)) (x28.1,(x28.2.1,(x28.2.2.1,(x28.2.2.2.1,()))))
 ((Prod.fst x29),(Prod.snd x29)) ((Prod.fst x30),(Prod.snd x30))) ∧ (((x26 (IntKind.wrap .i64 (x27 + 1)) (x28.1,(x28.2.1,(x28.2.2.1,(x28.2.2.2.1,())))) ((Prod.fst x29),(Prod.snd
 x29)) ((Prod.fst x30),(Prod.snd x30))) : Nat) < (x26 x27 x28 x29 x30)))))))))) (sel (decide (x27 < (x8.length : Int))) ((rn 1) ∧ ((0 : Int) ≤ x27) ∧ (∃ x54 : Mir.D,((x8[Int.toNat
 x27]? = some x54) ∧ (∃ x55 : ByteArray,(((D.cells x54)[0]? = some (Mir.D.str x55)) ∧ (sel (Bool.not x28.2.2.2.1) (∃ x56 : Nat,(∃ x57 : Nat,(∃ x58 : Int,(∃ x59 : Bool,(∃ x60 :
 Nat,(∃ x61 : LD,(∃ x62 : Nat,(∃ x63 : LD,((Runs Fs2 72 [(.ptr 3800101 0),(.agg [(aL ba),(aL no),(aL pa),(aI ro),(aI ge)]),(aI x33),(aI (IntKind.wrap .i64 (deep + 1))),(aS low),(aS
 x55)] [(hB 3800101 [(.row 3890001 x28.1),(.row 3890002 x28.2.1),(aI x28.2.2.1),(aB x28.2.2.2.1)]),(hR 3890001 (Prod.fst x29) 129 2 (Prod.snd x29)),(hR 3890002 (Prod.fst x30) 3 1
 (Prod.snd x30))] (.tup []) [(hB 3800101 [(.row 3890001 x56),(.row 3890002 x57),(aI x58),(aB x59)]),(hR 3890001 x60 129 2 x61),(hR 3890002 x62 3 1 x63)]) ∧ (rq (.ptr 3800101 0)) ∧
 (rq (aI deep)) ∧ (rq (aS low)) ∧ (rq (aS high)) ∧ (rq (.ptr 7200000 0)) ∧ (rq (.ptr 7200708 0)) ∧ (rq (aL x10)) ∧ (rq (aI (x10.length : Int))) ∧ (rh [(hB 3800101 [(.row 3890001
 x56),(.row 3890002 x57),(aI x58),(aB x59)]),(hR 3890001 x60 129 2 x61),(hR 3890002 x62 3 1 x63),(hB 7200000 [(aL ba),(aL no),(aL pa),(aI ro),(aI ge)]),(hB 7200708 [(aB x7),(aL
 x8),(aL x9),(aL x10)]),(7201006,(.row true true 0 3 1 [(Mir.D.int .i64 block)]))]) ∧ (x25 (IntKind.wrap .i64 (x27 + 1)) (x56,(x57,(x58,(x59,())))) (x60,x61) (x62,x63)) ∧ (((x26
 (IntKind.wrap .i64 (x27 + 1)) (x56,(x57,(x58,(x59,())))) (x60,x61) (x62,x63)) : Nat) < (x26 x27 x28 x29 x30))))))))))) ((rq (.ptr 3800101 0)) ∧ (rq (aI deep)) ∧ (rq (aS low)) ∧ (rq
 (aS high)) ∧ (rq (.ptr 7200000 0)) ∧ (rq (.ptr 7200708 0)) ∧ (rq (aL x10)) ∧ (rq (aI (x10.length : Int))) ∧ (rh [(hB 3800101 [(.row 3890001 x28.1),(.row 3890002 x28.2.1),(aI
 x28.2.2.1),(aB x28.2.2.2.1)]),(hR 3890001 (Prod.fst x29) 129 2 (Prod.snd x29)),(hR 3890002 (Prod.fst x30) 3 1 (Prod.snd x30)),(hB 7200000 [(aL ba),(aL no),(aL pa),(aI ro),(aI
 ge)]),(hB 7200708 [(aB x7),(aL x8),(aL x9),(aL x10)]),(7201006,(.row true true 0 3 1 [(Mir.D.int .i64 block)]))]) ∧ (x25 (IntKind.wrap .i64 (x27 + 1))
 (x28.1,(x28.2.1,(x28.2.2.1,(x28.2.2.2.1,())))) ((Prod.fst x29),(Prod.snd x29)) ((Prod.fst x30),(Prod.snd x30))) ∧ (((x26 (IntKind.wrap .i64 (x27 + 1))
 (x28.1,(x28.2.1,(x28.2.2.1,(x28.2.2.2.1,())))) ((Prod.fst x29),(Prod.snd x29)) ((Prod.fst x30),(Prod.snd x30))) : Nat) < (x26 x27 x28 x29 x30))))))))) (sel (Bool.not x28.2.2.2.1)
 (∃ x64 : Nat,(∃ x65 : Nat,(∃ x66 : Int,(∃ x67 : Bool,(∃ x68 : Nat,(∃ x69 : LD,(∃ x70 : Nat,(∃ x71 : LD,((Runs Fs2 72 [(.ptr 3800101 0),(.agg [(aL ba),(aL no),(aL pa),(aI ro),(aI
 ge)]),(aI x33),(aI (IntKind.wrap .i64 (deep + 1))),(aS low),(aS high)] [(hB 3800101 [(.row 3890001 x28.1),(.row 3890002 x28.2.1),(aI x28.2.2.1),(aB x28.2.2.2.1)]),(hR 3890001
 (Prod.fst x29) 129 2 (Prod.snd x29)),(hR 3890002 (Prod.fst x30) 3 1 (Prod.snd x30))] (.tup []) [(hB 3800101 [(.row 3890001 x64),(.row 3890002 x65),(aI x66),(aB x67)]),(hR 3890001
 x68 129 2 x69),(hR 3890002 x70 3 1 x71)]) ∧ (rq (.ptr 3800101 0)) ∧ (rq (aI deep)) ∧ (rq (aS low)) ∧ (rq (aS high)) ∧ (rq (.ptr 7200000 0)) ∧ (rq (.ptr 7200708 0)) ∧ (rq (aL x10))
 ∧ (rq (aI (x10.length : Int))) ∧ (rh [(hB 3800101 [(.row 3890001 x64),(.row 3890002 x65),(aI x66),(aB x67)]),(hR 3890001 x68 129 2 x69),(hR 3890002 x70 3 1 x71),(hB 7200000 [(aL
 ba),(aL no),(aL pa),(aI ro),(aI ge)]),(hB 7200708 [(aB x7),(aL x8),(aL x9),(aL x10)]),(7201006,(.row true true 0 3 1 [(Mir.D.int .i64 block)]))]) ∧ (x25 (IntKind.wrap .i64 (x27 +
 1)) (x64,(x65,(x66,(x67,())))) (x68,x69) (x70,x71)) ∧ (((x26 (IntKind.wrap .i64 (x27 + 1)) (x64,(x65,(x66,(x67,())))) (x68,x69) (x70,x71)) : Nat) < (x26 x27 x28 x29 x30)))))))))))
 ((rq (.ptr 3800101 0)) ∧ (rq (aI deep)) ∧ (rq (aS low)) ∧ (rq (aS high)) ∧ (rq (.ptr 7200000 0)) ∧ (rq (.ptr 7200708 0)) ∧ (rq (aL x10)) ∧ (rq (aI (x10.length : Int))) ∧ (rh [(hB
 3800101 [(.row 3890001 x28.1),(.row 3890002 x28.2.1),(aI x28.2.2.1),(aB x28.2.2.2.1)]),(hR 3890001 (Prod.fst x29) 129 2 (Prod.snd x29)),(hR 3890002 (Prod.fst x30) 3 1 (Prod.snd
 x30)),(hB 7200000 [(aL ba),(aL no),(aL pa),(aI ro),(aI ge)]),(hB 7200708 [(aB x7),(aL x8),(aL x9),(aL x10)]),(7201006,(.row true true 0 3 1 [(Mir.D.int .i64 block)]))]) ∧ (x25
 (IntKind.wrap .i64 (x27 + 1)) (x28.1,(x28.2.1,(x28.2.2.1,(x28.2.2.2.1,())))) ((Prod.fst x29),(Prod.snd x29)) ((Prod.fst x30),(Prod.snd x30))) ∧ (((x26 (IntKind.wrap .i64 (x27 + 1))
 (x28.1,(x28.2.1,(x28.2.2.1,(x28.2.2.2.1,())))) ((Prod.fst x29),(Prod.snd x29)) ((Prod.fst x30),(Prod.snd x30))) : Nat) < (x26 x27 x28 x29 x30))))))))))) (R (.tup []) [(hB 3800101
 [(.row 3890001 x28.1),(.row 3890002 x28.2.1),(.n (.int .i64 x28.2.2.1)),(.n (.bool x28.2.2.2.1))]),(hR 3890001 (Prod.fst x29) 129 2 (Prod.snd x29)),(hR 3890002 (Prod.fst x30) 3 1
 (Prod.snd x30))]))))))))))))))))))))))) ((rn 0) ∧ ((rn 1) ∨ (@Eq LD [(Mir.D.int .i64 block)] [])) ∧ ((((vb : Nat) = x3.2.1) ∧ (rn 3)) ∧ (rn 1)) ∧ (((((List.length B) + (List.length
 [(Mir.D.int .i64 block)])) * 8) : Nat) ≤ 140737488355328) ∧ (∃ x72 : (Int → ((Nat × (Nat × (Int × (Bool × (Unit))))) → ((Nat × LD) → Prop))),(∃ x73 : (Int → ((Nat × (Nat × (Int ×
 (Bool × (Unit))))) → ((Nat × LD) → Nat))),(((rh [(hB 3800101 [(.row 3890001 x3.1),(.row 3890002 (x3.2.1 + 1)),(aI x3.2.2.1),(aB x3.2.2.2.1)]),(hR 3890001 va 129 2 P),(hR 3890002
 (x3.2.1 + 1) 3 1 (B ++ [(Mir.D.int .i64 block)])),(hB 7200000 [(aL ba),(aL no),(aL pa),(aI ro),(aI ge)]),(hB 7200708 [(aB x7),(aL x8),(aL x9),(aL x10)]),(7201006,(.row true true 0
 3 1 [(Mir.D.int .i64 block)]))]) ∧ (x72 0 (x3.1,((x3.2.1 + 1),(x3.2.2.1,(x3.2.2.2.1,())))) (va,P))) ∧ (∀ x74 : Int,(∀ x75 : (Nat × (Nat × (Int × (Bool × (Unit))))),(∀ x76 : (Nat ×
 LD),((x72 x74 x75 x76) → (∀ x77 : (Nat → Mir.AV),(sel (decide (x74 < (x8.length : Int))) ((rn 1) ∧ ((0 : Int) ≤ x74) ∧ (∃ x78 : Mir.D,((x8[Int.toNat x74]? = some x78) ∧ (∃ x79 :
 ByteArray,(((D.cells x78)[0]? = some (Mir.D.str x79)) ∧ (∃ x80 : Bool,((Runs Fs2 103 [(aS x79),(aS low),(aS high)] [] (aB x80) []) ∧ (sel (Bool.not x80) (sel x7 ((rn 1) ∧ ((0 :
 Int) ≤ x74) ∧ (∃ x81 : Mir.D,((x9[Int.toNat x74]? = some x81) ∧ (∃ x82 : ByteArray,(((D.cells x81)[0]? = some (Mir.D.str x82)) ∧ (rn 0) ∧ ((rn 2) ∨ (@Eq LD [(Mir.D.rcd [(Mir.D.str
 x79),(Mir.D.str x82)])] [])) ∧ (((((Prod.fst x76) : Nat) = x75.1) ∧ (rn 129)) ∧ (rn 2)) ∧ (((((List.length (Prod.snd x76)) + (List.length [(Mir.D.rcd [(Mir.D.str x79),(Mir.D.str
 x82)])])) * 32) : Nat) ≤ 140737488355328) ∧ (rq (.ptr 3800101 0)) ∧ (rq (aI deep)) ∧ (rq (aS low)) ∧ (rq (aS high)) ∧ (rq (.ptr 7200000 0)) ∧ (rq (.ptr 7200708 0)) ∧ (rq (aL x8)) ∧
 (rq (aI (x8.length : Int))) ∧ (rh [(hB 3800101 [(.row 3890001 (x75.1 + 1)),(.row 3890002 x75.2.1),(aI x75.2.2.1),(aB true)]),(hR 3890001 (x75.1 + 1) 129 2 ((Prod.snd x76) ++
 [(Mir.D.rcd [(Mir.D.str x79),(Mir.D.str x82)])])),(hR 3890002 (x3.2.1 + 1) 3 1 (B ++ [(Mir.D.int .i64 block)])),(hB 7200000 [(aL ba),(aL no),(aL pa),(aI ro),(aI ge)]),(hB 7200708
 [(aB x7),(aL x8),(aL x9),(aL x10)]),(7201006,(.row true true 0 3 1 [(Mir.D.int .i64 block)]))]) ∧ (x72 (IntKind.wrap .i64 (x74 + 1)) ((x75.1 + 1),(x75.2.1,(x75.2.2.1,(true,()))))
 ((x75.1 + 1),((Prod.snd x76) ++ [(Mir.D.rcd [(Mir.D.str x79),(Mir.D.str x82)])]))) ∧ (((x73 (IntKind.wrap .i64 (x74 + 1)) ((x75.1 + 1),(x75.2.1,(x75.2.2.1,(true,())))) ((x75.1 +
 1),((Prod.snd x76) ++ [(Mir.D.rcd [(Mir.D.str x79),(Mir.D.str x82)])]))) : Nat) < (x73 x74 x75 x76))))))) ((rq (.ptr 3800101 0)) ∧ (rq (aI deep)) ∧ (rq (aS low)) ∧ (rq (aS high)) ∧
 (rq (.ptr 7200000 0)) ∧ (rq (.ptr 7200708 0)) ∧ (rq (aL x8)) ∧ (rq (aI (x8.length : Int))) ∧ (rh [(hB 3800101 [(.row 3890001 x75.1),(.row 3890002 x75.2.1),(aI x75.2.2.1),(aB
 true)]),(hR 3890001 (Prod.fst x76) 129 2 (Prod.snd x76)),(hR 3890002 (x3.2.1 + 1) 3 1 (B ++ [(Mir.D.int .i64 block)])),(hB 7200000 [(aL ba),(aL no),(aL pa),(aI ro),(aI ge)]),(hB
 7200708 [(aB x7),(aL x8),(aL x9),(aL x10)]),(7201006,(.row true true 0 3 1 [(Mir.D.int .i64 block)]))]) ∧ (x72 (IntKind.wrap .i64 (x74 + 1)) (x75.1,(x75.2.1,(x75.2.2.1,(true,()))))
 ((Prod.fst x76),(Prod.snd x76))) ∧ (((x73 (IntKind.wrap .i64 (x74 + 1)) (x75.1,(x75.2.1,(x75.2.2.1,(true,())))) ((Prod.fst x76),(Prod.snd x76))) : Nat) < (x73 x74 x75 x76)))) (sel
 x7 ((rn 1) ∧ ((0 : Int) ≤ x74) ∧ (∃ x83 : Mir.D,((x9[Int.toNat x74]? = some x83) ∧ (∃ x84 : ByteArray,(((D.cells x83)[0]? = some (Mir.D.str x84)) ∧ (rn 0) ∧ ((rn 2) ∨ (@Eq LD
 [(Mir.D.rcd [(Mir.D.str x79),(Mir.D.str x84)])] [])) ∧ (((((Prod.fst x76) : Nat) = x75.1) ∧ (rn 129)) ∧ (rn 2)) ∧ (((((List.length (Prod.snd x76)) + (List.length [(Mir.D.rcd
 [(Mir.D.str x79),(Mir.D.str x84)])])) * 32) : Nat) ≤ 140737488355328) ∧ (rq (.ptr 3800101 0)) ∧ (rq (aI deep)) ∧ (rq (aS low)) ∧ (rq (aS high)) ∧ (rq (.ptr 7200000 0)) ∧ (rq (.ptr
 7200708 0)) ∧ (rq (aL x8)) ∧ (rq (aI (x8.length : Int))) ∧ (rh [(hB 3800101 [(.row 3890001 (x75.1 + 1)),(.row 3890002 x75.2.1),(aI x75.2.2.1),(aB x75.2.2.2.1)]),(hR 3890001 (x75.1
 + 1) 129 2 ((Prod.snd x76) ++ [(Mir.D.rcd [(Mir.D.str x79),(Mir.D.str x84)])])),(hR 3890002 (x3.2.1 + 1) 3 1 (B ++ [(Mir.D.int .i64 block)])),(hB 7200000 [(aL ba),(aL no),(aL
 pa),(aI ro),(aI ge)]),(hB 7200708 [(aB x7),(aL x8),(aL x9),(aL x10)]),(7201006,(.row true true 0 3 1 [(Mir.D.int .i64 block)]))]) ∧ (x72 (IntKind.wrap .i64 (x74 + 1)) ((x75.1 +
 1),(x75.2.1,(x75.2.2.1,(x75.2.2.2.1,())))) ((x75.1 + 1),((Prod.snd x76) ++ [(Mir.D.rcd [(Mir.D.str x79),(Mir.D.str x84)])]))) ∧ (((x73 (IntKind.wrap .i64 (x74 + 1)) ((x75.1 +
 1),(x75.2.1,(x75.2.2.1,(x75.2.2.2.1,())))) ((x75.1 + 1),((Prod.snd x76) ++ [(Mir.D.rcd [(Mir.D.str x79),(Mir.D.str x84)])]))) : Nat) < (x73 x74 x75 x76))))))) ((rq (.ptr 3800101
 0)) ∧ (rq (aI deep)) ∧ (rq (aS low)) ∧ (rq (aS high)) ∧ (rq (.ptr 7200000 0)) ∧ (rq (.ptr 7200708 0)) ∧ (rq (aL x8)) ∧ (rq (aI (x8.length : Int))) ∧ (rh [(hB 3800101 [(.row 3890001
 x75.1),(.row 3890002 x75.2.1),(aI x75.2.2.1),(aB x75.2.2.2.1)]),(hR 3890001 (Prod.fst x76) 129 2 (Prod.snd x76)),(hR 3890002 (x3.2.1 + 1) 3 1 (B ++ [(Mir.D.int .i64 block)])),(hB
 7200000 [(aL ba),(aL no),(aL pa),(aI ro),(aI ge)]),(hB 7200708 [(aB x7),(aL x8),(aL x9),(aL x10)]),(7201006,(.row true true 0 3 1 [(Mir.D.int .i64 block)]))]) ∧ (x72 (IntKind.wrap
 .i64 (x74 + 1)) (x75.1,(x75.2.1,(x75.2.2.1,(x75.2.2.2.1,())))) ((Prod.fst x76),(Prod.snd x76))) ∧ (((x73 (IntKind.wrap .i64 (x74 + 1))
 (x75.1,(x75.2.1,(x75.2.2.1,(x75.2.2.2.1,())))) ((Prod.fst x76),(Prod.snd x76))) : Nat) < (x73 x74 x75 x76)))))))))))) (sel x7 (sel (x75.2.2.1 != 0) (sel (x75.2.2.1 != deep) (R
 (.tup []) [(hB 3800101 [(.row 3890001 x75.1),(.row 3890002 x75.2.1),(.n (.int .i64 deep)),(.n (.bool true))]),(hR 3890001 (Prod.fst x76) 129 2 (Prod.snd x76)),(hR 3890002 (x3.2.1 +
 1) 3 1 (B ++ [(Mir.D.int .i64 block)]))]) (R (.tup []) [(hB 3800101 [(.row 3890001 x75.1),(.row 3890002 x75.2.1),(.n (.int .i64 deep)),(.n (.bool x75.2.2.2.1))]),(hR 3890001
 (Prod.fst x76) 129 2 (Prod.snd x76)),(hR 3890002 (x3.2.1 + 1) 3 1 (B ++ [(Mir.D.int .i64 block)]))])) (R (.tup []) [(hB 3800101 [(.row 3890001 x75.1),(.row 3890002 x75.2.1),(.n
 (.int .i64 deep)),(.n (.bool x75.2.2.2.1))]),(hR 3890001 (Prod.fst x76) 129 2 (Prod.snd x76)),(hR 3890002 (x3.2.1 + 1) 3 1 (B ++ [(Mir.D.int .i64 block)]))])) (∃ x85 : (Int → ((Nat
 × (Nat × (Int × (Bool × (Unit))))) → ((Nat × LD) → ((Nat × LD) → Prop)))),(∃ x86 : (Int → ((Nat × (Nat × (Int × (Bool × (Unit))))) → ((Nat × LD) → ((Nat × LD) → Nat)))),(((rh [(hB
 3800101 [(.row 3890001 x75.1),(.row 3890002 x75.2.1),(aI x75.2.2.1),(aB x75.2.2.2.1)]),(hR 3890001 (Prod.fst x76) 129 2 (Prod.snd x76)),(hR 3890002 (x3.2.1 + 1) 3 1 (B ++
 [(Mir.D.int .i64 block)])),(hB 7200000 [(aL ba),(aL no),(aL pa),(aI ro),(aI ge)]),(hB 7200708 [(aB x7),(aL x8),(aL x9),(aL x10)]),(7201006,(.row true true 0 3 1 [(Mir.D.int .i64
 block)]))]) ∧ (x85 0 (x75.1,(x75.2.1,(x75.2.2.1,(x75.2.2.2.1,())))) ((Prod.fst x76),(Prod.snd x76)) ((x3.2.1 + 1),(B ++ [(Mir.D.int .i64 block)])))) ∧ (∀ x87 : Int,(∀ x88 : (Nat ×
 (Nat × (Int × (Bool × (Unit))))),(∀ x89 : (Nat × LD),(∀ x90 : (Nat × LD),((x85 x87 x88 x89 x90) → (∀ x91 : (Nat → Mir.AV),(sel (decide (x87 < (x10.length : Int))) ((rn 1) ∧ ((0 :
 Int) ≤ x87) ∧ (∃ x92 : Mir.D,((x10[Int.toNat x87]? = some x92) ∧ (∃ x93 : Int,(((D.cells x92)[0]? = some (Mir.D.int .i64 x93)) ∧ (sel (decide (x87 > 0)) ((rn 1) ∧ ((0 : Int) ≤
 (IntKind.wrap .i64 (x87 - 1))) ∧ (∃ x94 : Mir.D,((x8[Int.toNat (IntKind.wrap .i64 (x87 - 1))]? = some x94) ∧ (∃ x95 : ByteArray,(((D.cells x94)[0]? = some (Mir.D.str x95)) ∧ (sel
 (decide (x87 < (x8.length : Int))) ((rn 1) ∧ ((0 : Int) ≤ x87) ∧ (∃ x96 : Mir.D,((x8[Int.toNat x87]? = some x96) ∧ (∃ x97 : ByteArray,(((D.cells x96)[0]? = some (Mir.D.str x97)) ∧
 (sel (Bool.not x88.2.2.2.1) (∃ x98 : Nat,(∃ x99 : Nat,(∃ x100 : Int,(∃ x101 : Bool,(∃ x102 : Nat,(∃ x103 : LD,(∃ x104 : Nat,(∃ x105 : LD,((Runs Fs2 72 [(.ptr 3800101 0),(.agg [(aL
 ba),(aL no),(aL pa),(aI ro),(aI ge)]),(aI x93),(aI (IntKind.wrap .i64 (deep + 1))),(aS x95),(aS x97)] [(hB 3800101 [(.row 3890001 x88.1),(.row 3890002 x88.2.1),(aI x88.2.2.1),(aB
 x88.2.2.2.1)]),(hR 3890001 (Prod.fst x89) 129 2 (Prod.snd x89)),(hR 3890002 (Prod.fst x90) 3 1 (Prod.snd x90))] (.tup []) [(hB 3800101 [(.row 3890001 x98),(.row 3890002 x99),(aI
 x100),(aB x101)]),(hR 3890001 x102 129 2 x103),(hR 3890002 x104 3 1 x105)]) ∧ (rq (.ptr 3800101 0)) ∧ (rq (aI deep)) ∧ (rq (aS low)) ∧ (rq (aS high)) ∧ (rq (.ptr 7200000 0)) ∧ (rq
 (.ptr 7200708 0)) ∧ (rq (aL x10)) ∧ (rq (aI (x10.length : Int))) ∧ (rh [(hB 3800101 [(.row 3890001 x98),(.row 3890002 x99),(aI x100),(aB x101)]),(hR 3890001 x102 129 2 x103),(hR
 3890002 x104 3 1 x105),(hB 7200000 [(aL ba),(aL no),(aL pa),(aI ro),(aI ge)]),(hB 7200708 [(aB x7),(aL x8),(aL x9),(aL x10)]),(7201006,(.row true true 0 3 1 [(Mir.D.int .i64
 block)]))]) ∧ (x85 (IntKind.wrap .i64 (x87 + 1)) (x98,(x99,(x100,(x101,())))) (x102,x103) (x104,x105)) ∧ (((x86 (IntKind.wrap .i64 (x87 + 1)) (x98,(x99,(x100,(x101,()))))
 (x102,x103) (x104,x105)) : Nat) < (x86 x87 x88 x89 x90))))))))))) ((rq (.ptr 3800101 0)) ∧ (rq (aI deep)) ∧ (rq (aS low)) ∧ (rq (aS high)) ∧ (rq (.ptr 7200000 0)) ∧ (rq (.ptr
 7200708 0)) ∧ (rq (aL x10)) ∧ (rq (aI (x10.length : Int))) ∧ (rh [(hB 3800101 [(.row 3890001 x88.1),(.row 3890002 x88.2.1),(aI x88.2.2.1),(aB x88.2.2.2.1)]),(hR 3890001 (Prod.fst
 x89) 129 2 (Prod.snd x89)),(hR 3890002 (Prod.fst x90) 3 1 (Prod.snd x90)),(hB 7200000 [(aL ba),(aL no),(aL pa),(aI ro),(aI ge)]),(hB 7200708 [(aB x7),(aL x8),(aL x9),(aL
 x10)]),(7201006,(.row true true 0 3 1 [(Mir.D.int .i64 block)]))]) ∧ (x85 (IntKind.wrap .i64 (x87 + 1)) (x88.1,(x88.2.1,(x88.2.2.1,(x88.2.2.2.1,())))) ((Prod.fst x89),(Prod.snd
 x89)) ((Prod.fst x90),(Prod.snd x90))) ∧ (((x86 (IntKind.wrap .i64 (x87 + 1)) (x88.1,(x88.2.1,(x88.2.2.1,(x88.2.2.2.1,())))) ((Prod.fst x89),(Prod.snd x89)) ((Prod.fst
 x90),(Prod.snd x90))) : Nat) < (x86 x87 x88 x89 x90))))))))) (sel (Bool.not x88.2.2.2.1) (∃ x106 : Nat,(∃ x107 : Nat,(∃ x108 : Int,(∃ x109 : Bool,(∃ x110 : Nat,(∃ x111 : LD,(∃ x112
 : Nat,(∃ x113 : LD,((Runs Fs2 72 [(.ptr 3800101 0),(.agg [(aL ba),(aL no),(aL pa),(aI ro),(aI ge)]),(aI x93),(aI (IntKind.wrap .i64 (deep + 1))),(aS x95),(aS high)] [(hB 3800101
 [(.row 3890001 x88.1),(.row 3890002 x88.2.1),(aI x88.2.2.1),(aB x88.2.2.2.1)]),(hR 3890001 (Prod.fst x89) 129 2 (Prod.snd x89)),(hR 3890002 (Prod.fst x90) 3 1 (Prod.snd x90))]
 (.tup []) [(hB 3800101 [(.row 3890001 x106),(.row 3890002 x107),(aI x108),(aB x109)]),(hR 3890001 x110 129 2 x111),(hR 3890002 x112 3 1 x113)]) ∧ (rq (.ptr 3800101 0)) ∧ (rq (aI
 deep)) ∧ (rq (aS low)) ∧ (rq (aS high)) ∧ (rq (.ptr 7200000 0)) ∧ (rq (.ptr 7200708 0)) ∧ (rq (aL x10)) ∧ (rq (aI (x10.length : Int))) ∧ (rh [(hB 3800101 [(.row 3890001 x106),(.row
 3890002 x107),(aI x108),(aB x109)]),(hR 3890001 x110 129 2 x111),(hR 3890002 x112 3 1 x113),(hB 7200000 [(aL ba),(aL no),(aL pa),(aI ro),(aI ge)]),(hB 7200708 [(aB x7),(aL x8),(aL
 x9),(aL x10)]),(7201006,(.row true true 0 3 1 [(Mir.D.int .i64 block)]))]) ∧ (x85 (IntKind.wrap .i64 (x87 + 1)) (x106,(x107,(x108,(x109,())))) (x110,x111) (x112,x113)) ∧ (((x86
 (IntKind.wrap .i64 (x87 + 1)) (x106,(x107,(x108,(x109,())))) (x110,x111) (x112,x113)) : Nat) < (x86 x87 x88 x89 x90))))))))))) ((rq (.ptr 3800101 0)) ∧ (rq (aI deep)) ∧ (rq (aS
 low)) ∧ (rq (aS high)) ∧ (rq (.ptr 7200000 0)) ∧ (rq (.ptr 7200708 0)) ∧ (rq (aL x10)) ∧ (rq (aI (x10.length : Int))) ∧ (rh [(hB 3800101 [(.row 3890001 x88.1),(.row 3890002
 x88.2.1),(aI x88.2.2.1),(aB x88.2.2.2.1)]),(hR 3890001 (Prod.fst x89) 129 2 (Prod.snd x89)),(hR 3890002 (Prod.fst x90) 3 1 (Prod.snd x90)),(hB 7200000 [(aL ba),(aL no),(aL pa),(aI
 ro),(aI ge)]),(hB 7200708 [(aB x7),(aL x8),(aL x9),(aL x10)]),(7201006,(.row true true 0 3 1 [(Mir.D.int .i64 block)]))]) ∧ (x85 (IntKind.wrap .i64 (x87 + 1))
 (x88.1,(x88.2.1,(x88.2.2.1,(x88.2.2.2.1,())))) ((Prod.fst x89),(Prod.snd x89)) ((Prod.fst x90),(Prod.snd x90))) ∧ (((x86 (IntKind.wrap .i64 (x87 + 1))
 (x88.1,(x88.2.1,(x88.2.2.1,(x88.2.2.2.1,())))) ((Prod.fst x89),(Prod.snd x89)) ((Prod.fst x90),(Prod.snd x90))) : Nat) < (x86 x87 x88 x89 x90)))))))))) (sel (decide (x87 <
 (x8.length : Int))) ((rn 1) ∧ ((0 : Int) ≤ x87) ∧ (∃ x114 : Mir.D,((x8[Int.toNat x87]? = some x114) ∧ (∃ x115 : ByteArray,(((D.cells x114)[0]? = some (Mir.D.str x115)) ∧ (sel
 (Bool.not x88.2.2.2.1) (∃ x116 : Nat,(∃ x117 : Nat,(∃ x118 : Int,(∃ x119 : Bool,(∃ x120 : Nat,(∃ x121 : LD,(∃ x122 : Nat,(∃ x123 : LD,((Runs Fs2 72 [(.ptr 3800101 0),(.agg [(aL
 ba),(aL no),(aL pa),(aI ro),(aI ge)]),(aI x93),(aI (IntKind.wrap .i64 (deep + 1))),(aS low),(aS x115)] [(hB 3800101 [(.row 3890001 x88.1),(.row 3890002 x88.2.1),(aI x88.2.2.1),(aB
 x88.2.2.2.1)]),(hR 3890001 (Prod.fst x89) 129 2 (Prod.snd x89)),(hR 3890002 (Prod.fst x90) 3 1 (Prod.snd x90))] (.tup []) [(hB 3800101 [(.row 3890001 x116),(.row 3890002 x117),(aI
 x118),(aB x119)]),(hR 3890001 x120 129 2 x121),(hR 3890002 x122 3 1 x123)]) ∧ (rq (.ptr 3800101 0)) ∧ (rq (aI deep)) ∧ (rq (aS low)) ∧ (rq (aS high)) ∧ (rq (.ptr 7200000 0)) ∧ (rq
 (.ptr 7200708 0)) ∧ (rq (aL x10)) ∧ (rq (aI (x10.length : Int))) ∧ (rh [(hB 3800101 [(.row 3890001 x116),(.row 3890002 x117),(aI x118),(aB x119)]),(hR 3890001 x120 129 2 x121),(hR
 3890002 x122 3 1 x123),(hB 7200000 [(aL ba),(aL no),(aL pa),(aI ro),(aI ge)]),(hB 7200708 [(aB x7),(aL x8),(aL x9),(aL x10)]),(7201006,(.row true true 0 3 1 [(Mir.D.int .i64
 block)]))]) ∧ (x85 (IntKind.wrap .i64 (x87 + 1)) (x116,(x117,(x118,(x119,())))) (x120,x121) (x122,x123)) ∧ (((x86 (IntKind.wrap .i64 (x87 + 1)) (x116,(x117,(x118,(x119,()))))
 (x120,x121) (x122,x123)) : Nat) < (x86 x87 x88 x89 x90))))))))))) ((rq (.ptr 3800101 0)) ∧ (rq (aI deep)) ∧ (rq (aS low)) ∧ (rq (aS high)) ∧ (rq (.ptr 7200000 0)) ∧ (rq (.ptr
 7200708 0)) ∧ (rq (aL x10)) ∧ (rq (aI (x10.length : Int))) ∧ (rh [(hB 3800101 [(.row 3890001 x88.1),(.row 3890002 x88.2.1),(aI x88.2.2.1),(aB x88.2.2.2.1)]),(hR 3890001 (Prod.fst
 x89) 129 2 (Prod.snd x89)),(hR 3890002 (Prod.fst x90) 3 1 (Prod.snd x90)),(hB 7200000 [(aL ba),(aL no),(aL pa),(aI ro),(aI ge)]),(hB 7200708 [(aB x7),(aL x8),(aL x9),(aL
 x10)]),(7201006,(.row true true 0 3 1 [(Mir.D.int .i64 block)]))]) ∧ (x85 (IntKind.wrap .i64 (x87 + 1)) (x88.1,(x88.2.1,(x88.2.2.1,(x88.2.2.2.1,())))) ((Prod.fst x89),(Prod.snd
 x89)) ((Prod.fst x90),(Prod.snd x90))) ∧ (((x86 (IntKind.wrap .i64 (x87 + 1)) (x88.1,(x88.2.1,(x88.2.2.1,(x88.2.2.2.1,())))) ((Prod.fst x89),(Prod.snd x89)) ((Prod.fst
 x90),(Prod.snd x90))) : Nat) < (x86 x87 x88 x89 x90))))))))) (sel (Bool.not x88.2.2.2.1) (∃ x124 : Nat,(∃ x125 : Nat,(∃ x126 : Int,(∃ x127 : Bool,(∃ x128 : Nat,(∃ x129 : LD,(∃ x130
 : Nat,(∃ x131 : LD,((Runs Fs2 72 [(.ptr 3800101 0),(.agg [(aL ba),(aL no),(aL pa),(aI ro),(aI ge)]),(aI x93),(aI (IntKind.wrap .i64 (deep + 1))),(aS low),(aS high)] [(hB 3800101
 [(.row 3890001 x88.1),(.row 3890002 x88.2.1),(aI x88.2.2.1),(aB x88.2.2.2.1)]),(hR 3890001 (Prod.fst x89) 129 2 (Prod.snd x89)),(hR 3890002 (Prod.fst x90) 3 1 (Prod.snd x90))]
 (.tup []) [(hB 3800101 [(.row 3890001 x124),(.row 3890002 x125),(aI x126),(aB x127)]),(hR 3890001 x128 129 2 x129),(hR 3890002 x130 3 1 x131)]) ∧ (rq (.ptr 3800101 0)) ∧ (rq (aI
 deep)) ∧ (rq (aS low)) ∧ (rq (aS high)) ∧ (rq (.ptr 7200000 0)) ∧ (rq (.ptr 7200708 0)) ∧ (rq (aL x10)) ∧ (rq (aI (x10.length : Int))) ∧ (rh [(hB 3800101 [(.row 3890001 x124),(.row
 3890002 x125),(aI x126),(aB x127)]),(hR 3890001 x128 129 2 x129),(hR 3890002 x130 3 1 x131),(hB 7200000 [(aL ba),(aL no),(aL pa),(aI ro),(aI ge)]),(hB 7200708 [(aB x7),(aL x8),(aL
 x9),(aL x10)]),(7201006,(.row true true 0 3 1 [(Mir.D.int .i64 block)]))]) ∧ (x85 (IntKind.wrap .i64 (x87 + 1)) (x124,(x125,(x126,(x127,())))) (x128,x129) (x130,x131)) ∧ (((x86
 (IntKind.wrap .i64 (x87 + 1)) (x124,(x125,(x126,(x127,())))) (x128,x129) (x130,x131)) : Nat) < (x86 x87 x88 x89 x90))))))))))) ((rq (.ptr 3800101 0)) ∧ (rq (aI deep)) ∧ (rq (aS
 low)) ∧ (rq (aS high)) ∧ (rq (.ptr 7200000 0)) ∧ (rq (.ptr 7200708 0)) ∧ (rq (aL x10)) ∧ (rq (aI (x10.length : Int))) ∧ (rh [(hB 3800101 [(.row 3890001 x88.1),(.row 3890002
 x88.2.1),(aI x88.2.2.1),(aB x88.2.2.2.1)]),(hR 3890001 (Prod.fst x89) 129 2 (Prod.snd x89)),(hR 3890002 (Prod.fst x90) 3 1 (Prod.snd x90)),(hB 7200000 [(aL ba),(aL no),(aL pa),(aI
 ro),(aI ge)]),(hB 7200708 [(aB x7),(aL x8),(aL x9),(aL x10)]),(7201006,(.row true true 0 3 1 [(Mir.D.int .i64 block)]))]) ∧ (x85 (IntKind.wrap .i64 (x87 + 1))
 (x88.1,(x88.2.1,(x88.2.2.1,(x88.2.2.2.1,())))) ((Prod.fst x89),(Prod.snd x89)) ((Prod.fst x90),(Prod.snd x90))) ∧ (((x86 (IntKind.wrap .i64 (x87 + 1))
 (x88.1,(x88.2.1,(x88.2.2.1,(x88.2.2.2.1,())))) ((Prod.fst x89),(Prod.snd x89)) ((Prod.fst x90),(Prod.snd x90))) : Nat) < (x86 x87 x88 x89 x90))))))))))) (R (.tup []) [(hB 3800101
 [(.row 3890001 x88.1),(.row 3890002 x88.2.1),(.n (.int .i64 x88.2.2.1)),(.n (.bool x88.2.2.2.1))]),(hR 3890001 (Prod.fst x89) 129 2 (Prod.snd x89)),(hR 3890002 (Prod.fst x90) 3 1
 (Prod.snd x90))])))))))))))))))))))))))))))))))))))))))))
theorem vc72h (ba : LD) (no : LD) (pa : LD) (ro : Int) (ge : Int) (block : Int) (deep : Int) (low : ByteArray) (high : ByteArray) (va : Nat) (vb : Nat) (he : Int) (bad : Bool) (P : LD) (B : LD) (R : Mir.AV → Heap → Prop) : Vc Fs2 c72.body (argsQ c72 [.ptr 3800101 0, (.agg [.o (.sl 1 ba), .o (.sl 1 no), .o (.sl 1 pa), .n (.int .i64 ro), .n (.int .i64 ge)]), .n (.int .i64 block), .n (.int .i64 deep), .n (.str low), .n (.str high)]) [(3800101, .box [.row 3890001 va, .row 3890002 vb, .n (.int .i64 he), .n (.bool bad)]), (3890001, .row false false va 129 2 P), (3890002, .row false false vb 3 1 B)] (endQH c72 [(3800101, .box [.row 3890001 va, .row 3890002 vb, .n (.int .i64 he), .n (.bool bad)]), (3890001, .row false false va 129 2 P), (3890002, .row false false vb 3 1 B)] R) = V72h ba no pa ro ge block deep low high va vb he bad P B R := by kernel_rfl
def V108h (ba : LD) (no : LD) (pa : LD) (ro : Int) (ge : Int) (block : Int) (deep : Int) (low : ByteArray) (high : ByteArray) (v : Nat) (U : LD) (np : Int) (he : Int) (nb : Int) (bad : Bool) (R : Mir.AV → Heap → Prop) : Prop :=
 (∃ x0 : Bool,(∃ x1 : LD,(∃ x2 : LD,(∃ x3 : LD,(∃ x4 : Int,((Runs Fs2 40 [(.agg [(aL ba),(aL no),(aL pa),(aI ro),(aI ge)]),(aI block),(aB (deep == 1))] [] (.tup [(.agg [(aB x0),(aL
 x1),(aL x2),(aL x3)]),(aI x4)]) []) ∧ (sel (x4 != 0) (R (.tup []) [(hR 7900305 v 4 1 U),(hB 7900307 [(.o (.sl 1 ba)),(.o (.sl 1 no)),(.o (.sl 1 pa)),(.n (.int .i64 ro)),(.n (.int
 .i64 ge)),(.n (.int .i64 np)),(.n (.int .i64 he)),(.n (.int .i64 nb)),(.row 7900305 v),(.n (.bool true))])]) (sel (decide (deep > 8)) (R (.tup []) [(hR 7900305 v 4 1 U),(hB 7900307
 [(.o (.sl 1 ba)),(.o (.sl 1 no)),(.o (.sl 1 pa)),(.n (.int .i64 ro)),(.n (.int .i64 ge)),(.n (.int .i64 np)),(.n (.int .i64 he)),(.n (.int .i64 nb)),(.row 7900305 v),(.n (.bool
 true))])]) (((rn v) ∧ (rn 1)) ∧ ((0 : Int) ≤ block) ∧ ((block : Int) < (U.length : Int)) ∧ ((rn v) ∧ (rn 1)) ∧ (∃ x5 : Mir.D,((U[Int.toNat block]? = some x5) ∧ (∃ x6 :
 Bool,(((D.cells x5)[0]? = some (Mir.D.bool x6)) ∧ (sel x6 (R (.tup []) [(hR 7900305 v 4 1 U),(hB 7900307 [(.o (.sl 1 ba)),(.o (.sl 1 no)),(.o (.sl 1 pa)),(.n (.int .i64 ro)),(.n
 (.int .i64 ge)),(.n (.int .i64 np)),(.n (.int .i64 he)),(.n (.int .i64 nb)),(.row 7900305 v),(.n (.bool true))])]) (sel x0 (sel ((x1.length : Int) == 0) (R (.tup []) [(hR 7900305 v
 4 1 U),(hB 7900307 [(.o (.sl 1 ba)),(.o (.sl 1 no)),(.o (.sl 1 pa)),(.n (.int .i64 ro)),(.n (.int .i64 ge)),(.n (.int .i64 np)),(.n (.int .i64 he)),(.n (.int .i64 nb)),(.row
 7900305 v),(.n (.bool true))])]) (((rn v) ∧ (rn 1)) ∧ ((0 : Int) ≤ block) ∧ ((block : Int) < (U.length : Int)) ∧ ((((rn v) ∧ (rn 0)) ∧ (rn 1)) ∧ (rn 1)) ∧ (((Int.toNat block) :
 Nat) < (List.length U)) ∧ (∃ x7 : Bool,((Runs Fs2 74 [(aL x1),(.fn 132 [(.ptr 10800000 0),(.ptr 10800001 0)])] [(hB 10800000 [(aS low)]),(hB 10800001 [(aS high)])] (aB x7) [(hB
 10800000 [(aS low)]),(hB 10800001 [(aS high)])]) ∧ (sel x7 (R (.tup []) [(hR 7900305 v 4 1 (List.set U (Int.toNat block) (Mir.D.bool true))),(hB 7900307 [(.o (.sl 1 ba)),(.o (.sl 1
 no)),(.o (.sl 1 pa)),(.n (.int .i64 ro)),(.n (.int .i64 ge)),(.n (.int .i64 np)),(.n (.int .i64 he)),(.n (.int .i64 (IntKind.wrap .i64 (nb + 1)))),(.row 7900305 v),(.n (.bool
 true))])]) (sel x0 (sel bad (R (.tup []) [(hR 7900305 v 4 1 (List.set U (Int.toNat block) (Mir.D.bool true))),(hB 7900307 [(.o (.sl 1 ba)),(.o (.sl 1 no)),(.o (.sl 1 pa)),(.n (.int
 .i64 ro)),(.n (.int .i64 ge)),(.n (.int .i64 (IntKind.wrap .i64 (np + (x1.length : Int))))),(.n (.int .i64 deep)),(.n (.int .i64 (IntKind.wrap .i64 (nb + 1)))),(.row 7900305 v),(.n
 (.bool true))])]) (sel (he != 0) (R (.tup []) [(hR 7900305 v 4 1 (List.set U (Int.toNat block) (Mir.D.bool true))),(hB 7900307 [(.o (.sl 1 ba)),(.o (.sl 1 no)),(.o (.sl 1 pa)),(.n
 (.int .i64 ro)),(.n (.int .i64 ge)),(.n (.int .i64 (IntKind.wrap .i64 (np + (x1.length : Int))))),(.n (.int .i64 deep)),(.n (.int .i64 (IntKind.wrap .i64 (nb + 1)))),(.row 7900305
 v),(.n (.bool (he != deep)))])]) (R (.tup []) [(hR 7900305 v 4 1 (List.set U (Int.toNat block) (Mir.D.bool true))),(hB 7900307 [(.o (.sl 1 ba)),(.o (.sl 1 no)),(.o (.sl 1 pa)),(.n
 (.int .i64 ro)),(.n (.int .i64 ge)),(.n (.int .i64 (IntKind.wrap .i64 (np + (x1.length : Int))))),(.n (.int .i64 deep)),(.n (.int .i64 (IntKind.wrap .i64 (nb + 1)))),(.row 7900305
 v),(.n (.bool false))])]))) (∃ x8 : (Int → ((LD × (LD × (LD × (Int × (Int × (Int × (Int × (Int × (Nat × (Bool × (Unit))))))))))) → ((Nat × LD) → Prop))),(∃ x9 : (Int → ((LD × (LD ×
 (LD × (Int × (Int × (Int × (Int × (Int × (Nat × (Bool × (Unit))))))))))) → ((Nat × LD) → Nat))),(((rh [(hR 7900305 v 4 1 (List.set U (Int.toNat block) (Mir.D.bool true))),(hB
 7900307 [(aL ba),(aL no),(aL pa),(aI ro),(aI ge),(aI np),(aI he),(aI (IntKind.wrap .i64 (nb + 1))),(.row 7900305 v),(aB bad)]),(hB 10800000 [(aS low)]),(hB 10800001 [(aS
 high)]),(hB 10800111 [(aB x0),(aL x1),(aL x2),(aL x3)])]) ∧ (x8 0 (ba,(no,(pa,(ro,(ge,(np,(he,((IntKind.wrap .i64 (nb + 1)),(v,(bad,())))))))))) (v,(List.set U (Int.toNat block)
 (Mir.D.bool true))))) ∧ (∀ x10 : Int,(∀ x11 : (LD × (LD × (LD × (Int × (Int × (Int × (Int × (Int × (Nat × (Bool × (Unit))))))))))),(∀ x12 : (Nat × LD),((x8 x10 x11 x12) → (∀ x13 :
 (Nat → Mir.AV),(sel (decide (x10 < (x3.length : Int))) ((rn 1) ∧ ((0 : Int) ≤ x10) ∧ (∃ x14 : Mir.D,((x3[Int.toNat x10]? = some x14) ∧ (∃ x15 : Int,(((D.cells x14)[0]? = some
 (Mir.D.int .i64 x15)) ∧ (sel (decide (x10 > 0)) ((rn 1) ∧ ((0 : Int) ≤ (IntKind.wrap .i64 (x10 - 1))) ∧ (∃ x16 : Mir.D,((x1[Int.toNat (IntKind.wrap .i64 (x10 - 1))]? = some x16) ∧
 (∃ x17 : ByteArray,(((D.cells x16)[0]? = some (Mir.D.str x17)) ∧ (sel (decide (x10 < (x1.length : Int))) ((rn 1) ∧ ((0 : Int) ≤ x10) ∧ (∃ x18 : Mir.D,((x1[Int.toNat x10]? = some
 x18) ∧ (∃ x19 : ByteArray,(((D.cells x18)[0]? = some (Mir.D.str x19)) ∧ (∃ x20 : Nat,(∃ x21 : LD,(∃ x22 : LD,(∃ x23 : LD,(∃ x24 : LD,(∃ x25 : Int,(∃ x26 : Int,(∃ x27 : Int,(∃ x28 :
 Int,(∃ x29 : Int,(∃ x30 : Nat,(∃ x31 : Bool,((Runs Fs2 108 [(.ptr 7900307 0),(aI x15),(aI (IntKind.wrap .i64 (deep + 1))),(aS x17),(aS x19)] [(hR 7900305 (Prod.fst x12) 4 1
 (Prod.snd x12)),(hB 7900307 [(aL x11.1),(aL x11.2.1),(aL x11.2.2.1),(aI x11.2.2.2.1),(aI x11.2.2.2.2.1),(aI x11.2.2.2.2.2.1),(aI x11.2.2.2.2.2.2.1),(aI x11.2.2.2.2.2.2.2.1),(.row
 7900305 x11.2.2.2.2.2.2.2.2.1),(aB x11.2.2.2.2.2.2.2.2.2.1)])] (.tup []) [(hR 7900305 x20 4 1 x21),(hB 7900307 [(aL x22),(aL x23),(aL x24),(aI x25),(aI x26),(aI x27),(aI x28),(aI
 x29),(.row 7900305 x30),(aB x31)])]) ∧ (sel x31 (R (.tup []) [(hR 7900305 x20 4 1 x21),(hB 7900307 [(.o (.sl 1 x22)),(.o (.sl 1 x23)),(.o (.sl 1 x24)),(.n (.int .i64 x25)),(.n
 (.int .i64 x26)),(.n (.int .i64 x27)),(.n (.int .i64 x28)),(.n (.int .i64 x29)),(.row 7900305 x30),(.n (.bool x31))])]) ((rq (.ptr 7900307 0)) ∧ (rq (aI deep)) ∧ (rq (.ptr 10800000
 0)) ∧ (rq (.ptr 10800001 0)) ∧ (rq (.ptr 10800111 0)) ∧ (rq (aL x3)) ∧ (rq (aI (x3.length : Int))) ∧ (rh [(hR 7900305 x20 4 1 x21),(hB 7900307 [(aL x22),(aL x23),(aL x24),(aI
 x25),(aI x26),(aI x27),(aI x28),(aI x29),(.row 7900305 x30),(aB x31)]),(hB 10800000 [(aS low)]),(hB 10800001 [(aS high)]),(hB 10800111 [(aB x0),(aL x1),(aL x2),(aL x3)])]) ∧ (x8
 (IntKind.wrap .i64 (x10 + 1)) (x22,(x23,(x24,(x25,(x26,(x27,(x28,(x29,(x30,(x31,())))))))))) (x20,x21)) ∧ (((x9 (IntKind.wrap .i64 (x10 + 1))
 (x22,(x23,(x24,(x25,(x26,(x27,(x28,(x29,(x30,(x31,())))))))))) (x20,x21)) : Nat) < (x9 x10 x11 x12)))))))))))))))))))))) (∃ x32 : Nat,(∃ x33 : LD,(∃ x34 : LD,(∃ x35 : LD,(∃ x36 :
 LD,(∃ x37 : Int,(∃ x38 : Int,(∃ x39 : Int,(∃ x40 : Int,(∃ x41 : Int,(∃ x42 : Nat,(∃ x43 : Bool,((Runs Fs2 108 [(.ptr 7900307 0),(aI x15),(aI (IntKind.wrap .i64 (deep + 1))),(aS
 x17),(aS high)] [(hR 7900305 (Prod.fst x12) 4 1 (Prod.snd x12)),(hB 7900307 [(aL x11.1),(aL x11.2.1),(aL x11.2.2.1),(aI x11.2.2.2.1),(aI x11.2.2.2.2.1),(aI x11.2.2.2.2.2.1),(aI
 x11.2.2.2.2.2.2.1),(aI x11.2.2.2.2.2.2.2.1),(.row 7900305 x11.2.2.2.2.2.2.2.2.1),(aB x11.2.2.2.2.2.2.2.2.2.1)])] (.tup []) [(hR 7900305 x32 4 1 x33),(hB 7900307 [(aL x34),(aL
 x35),(aL x36),(aI x37),(aI x38),(aI x39),(aI x40),(aI x41),(.row 7900305 x42),(aB x43)])]) ∧ (sel x43 (R (.tup []) [(hR 7900305 x32 4 1 x33),(hB 7900307 [(.o (.sl 1 x34)),(.o (.sl
 1 x35)),(.o (.sl 1 x36)),(.n (.int .i64 x37)),(.n (.int .i64 x38)),(.n (.int .i64 x39)),(.n (.int .i64 x40)),(.n (.int .i64 x41)),(.row 7900305 x42),(.n (.bool x43))])]) ((rq (.ptr
 7900307 0)) ∧ (rq (aI deep)) ∧ (rq (.ptr 10800000 0)) ∧ (rq (.ptr 10800001 0)) ∧ (rq (.ptr 10800111 0)) ∧ (rq (aL x3)) ∧ (rq (aI (x3.length : Int))) ∧ (rh [(hR 7900305 x32 4 1
 x33),(hB 7900307 [(aL x34),(aL x35),(aL x36),(aI x37),(aI x38),(aI x39),(aI x40),(aI x41),(.row 7900305 x42),(aB x43)]),(hB 10800000 [(aS low)]),(hB 10800001 [(aS high)]),(hB
 10800111 [(aB x0),(aL x1),(aL x2),(aL x3)])]) ∧ (x8 (IntKind.wrap .i64 (x10 + 1)) (x34,(x35,(x36,(x37,(x38,(x39,(x40,(x41,(x42,(x43,())))))))))) (x32,x33)) ∧ (((x9 (IntKind.wrap
 .i64 (x10 + 1)) (x34,(x35,(x36,(x37,(x38,(x39,(x40,(x41,(x42,(x43,())))))))))) (x32,x33)) : Nat) < (x9 x10 x11 x12))))))))))))))))))))))) (sel (decide (x10 < (x1.length : Int)))
 ((rn 1) ∧ ((0 : Int) ≤ x10) ∧ (∃ x44 : Mir.D,((x1[Int.toNat x10]? = some x44) ∧ (∃ x45 : ByteArray,(((D.cells x44)[0]? = some (Mir.D.str x45)) ∧ (∃ x46 : Nat,(∃ x47 : LD,(∃ x48 :
 LD,(∃ x49 : LD,(∃ x50 : LD,(∃ x51 : Int,(∃ x52 : Int,(∃ x53 : Int,(∃ x54 : Int,(∃ x55 : Int,(∃ x56 : Nat,(∃ x57 : Bool,((Runs Fs2 108 [(.ptr 7900307 0),(aI x15),(aI (IntKind.wrap
 .i64 (deep + 1))),(aS low),(aS x45)] [(hR 7900305 (Prod.fst x12) 4 1 (Prod.snd x12)),(hB 7900307 [(aL x11.1),(aL x11.2.1),(aL x11.2.2.1),(aI x11.2.2.2.1),(aI x11.2.2.2.2.1),(aI
 x11.2.2.2.2.2.1),(aI x11.2.2.2.2.2.2.1),(aI x11.2.2.2.2.2.2.2.1),(.row 7900305 x11.2.2.2.2.2.2.2.2.1),(aB x11.2.2.2.2.2.2.2.2.2.1)])] (.tup []) [(hR 7900305 x46 4 1 x47),(hB
 7900307 [(aL x48),(aL x49),(aL x50),(aI x51),(aI x52),(aI x53),(aI x54),(aI x55),(.row 7900305 x56),(aB x57)])]) ∧ (sel x57 (R (.tup []) [(hR 7900305 x46 4 1 x47),(hB 7900307 [(.o
 (.sl 1 x48)),(.o (.sl 1 x49)),(.o (.sl 1 x50)),(.n (.int .i64 x51)),(.n (.int .i64 x52)),(.n (.int .i64 x53)),(.n (.int .i64 x54)),(.n (.int .i64 x55)),(.row 7900305 x56),(.n
 (.bool x57))])]) ((rq (.ptr 7900307 0)) ∧ (rq (aI deep)) ∧ (rq (.ptr 10800000 0)) ∧ (rq (.ptr 10800001 0)) ∧ (rq (.ptr 10800111 0)) ∧ (rq (aL x3)) ∧ (rq (aI (x3.length : Int))) ∧
 (rh [(hR 7900305 x46 4 1 x47),(hB 7900307 [(aL x48),(aL x49),(aL x50),(aI x51),(aI x52),(aI x53),(aI x54),(aI x55),(.row 7900305 x56),(aB x57)]),(hB 10800000 [(aS low)]),(hB
 10800001 [(aS high)]),(hB 10800111 [(aB x0),(aL x1),(aL x2),(aL x3)])]) ∧ (x8 (IntKind.wrap .i64 (x10 + 1)) (x48,(x49,(x50,(x51,(x52,(x53,(x54,(x55,(x56,(x57,()))))))))))
 (x46,x47)) ∧ (((x9 (IntKind.wrap .i64 (x10 + 1)) (x48,(x49,(x50,(x51,(x52,(x53,(x54,(x55,(x56,(x57,())))))))))) (x46,x47)) : Nat) < (x9 x10 x11 x12)))))))))))))))))))))) (∃ x58 :
 Nat,(∃ x59 : LD,(∃ x60 : LD,(∃ x61 : LD,(∃ x62 : LD,(∃ x63 : Int,(∃ x64 : Int,(∃ x65 : Int,(∃ x66 : Int,(∃ x67 : Int,(∃ x68 : Nat,(∃ x69 : Bool,((Runs Fs2 108 [(.ptr 7900307 0),(aI
 x15),(aI (IntKind.wrap .i64 (deep + 1))),(aS low),(aS high)] [(hR 7900305 (Prod.fst x12) 4 1 (Prod.snd x12)),(hB 7900307 [(aL x11.1),(aL x11.2.1),(aL x11.2.2.1),(aI
 x11.2.2.2.1),(aI x11.2.2.2.2.1),(aI x11.2.2.2.2.2.1),(aI x11.2.2.2.2.2.2.1),(aI x11.2.2.2.2.2.2.2.1),(.row 7900305 x11.2.2.2.2.2.2.2.2.1),(aB x11.2.2.2.2.2.2.2.2.2.1)])] (.tup [])
 [(hR 7900305 x58 4 1 x59),(hB 7900307 [(aL x60),(aL x61),(aL x62),(aI x63),(aI x64),(aI x65),(aI x66),(aI x67),(.row 7900305 x68),(aB x69)])]) ∧ (sel x69 (R (.tup []) [(hR 7900305
 x58 4 1 x59),(hB 7900307 [(.o (.sl 1 x60)),(.o (.sl 1 x61)),(.o (.sl 1 x62)),(.n (.int .i64 x63)),(.n (.int .i64 x64)),(.n (.int .i64 x65)),(.n (.int .i64 x66)),(.n (.int .i64
 x67)),(.row 7900305 x68),(.n (.bool x69))])]) ((rq (.ptr 7900307 0)) ∧ (rq (aI deep)) ∧ (rq (.ptr 10800000 0)) ∧ (rq (.ptr 10800001 0)) ∧ (rq (.ptr 10800111 0)) ∧ (rq (aL x3)) ∧
 (rq (aI (x3.length : Int))) ∧ (rh [(hR 7900305 x58 4 1 x59),(hB 7900307 [(aL x60),(aL x61),(aL x62),(aI x63),(aI x64),(aI x65),(aI x66),(aI x67),(.row 7900305 x68),(aB x69)]),(hB
 10800000 [(aS low)]),(hB 10800001 [(aS high)]),(hB 10800111 [(aB x0),(aL x1),(aL x2),(aL x3)])]) ∧ (x8 (IntKind.wrap .i64 (x10 + 1))
 (x60,(x61,(x62,(x63,(x64,(x65,(x66,(x67,(x68,(x69,())))))))))) (x58,x59)) ∧ (((x9 (IntKind.wrap .i64 (x10 + 1)) (x60,(x61,(x62,(x63,(x64,(x65,(x66,(x67,(x68,(x69,()))))))))))
 (x58,x59)) : Nat) < (x9 x10 x11 x12)))))))))))))))))))))))) (R (.tup []) [(hR 7900305 (Prod.fst x12) 4 1 (Prod.snd x12)),(hB 7900307 [(.o (.sl 1 x11.1)),(.o (.sl 1 x11.2.1)),(.o
 (.sl 1 x11.2.2.1)),(.n (.int .i64 x11.2.2.2.1)),(.n (.int .i64 x11.2.2.2.2.1)),(.n (.int .i64 x11.2.2.2.2.2.1)),(.n (.int .i64 x11.2.2.2.2.2.2.1)),(.n (.int .i64
 x11.2.2.2.2.2.2.2.1)),(.row 7900305 x11.2.2.2.2.2.2.2.2.1),(.n (.bool x11.2.2.2.2.2.2.2.2.2.1))])])))))))))))))))) (((rn v) ∧ (rn 1)) ∧ ((0 : Int) ≤ block) ∧ ((block : Int) <
 (U.length : Int)) ∧ ((((rn v) ∧ (rn 0)) ∧ (rn 1)) ∧ (rn 1)) ∧ (((Int.toNat block) : Nat) < (List.length U)) ∧ (∃ x70 : Bool,((Runs Fs2 74 [(aL x1),(.fn 132 [(.ptr 10800000 0),(.ptr
 10800001 0)])] [(hB 10800000 [(aS low)]),(hB 10800001 [(aS high)])] (aB x70) [(hB 10800000 [(aS low)]),(hB 10800001 [(aS high)])]) ∧ (sel x70 (R (.tup []) [(hR 7900305 v 4 1
 (List.set U (Int.toNat block) (Mir.D.bool true))),(hB 7900307 [(.o (.sl 1 ba)),(.o (.sl 1 no)),(.o (.sl 1 pa)),(.n (.int .i64 ro)),(.n (.int .i64 ge)),(.n (.int .i64 np)),(.n (.int
 .i64 he)),(.n (.int .i64 (IntKind.wrap .i64 (nb + 1)))),(.row 7900305 v),(.n (.bool true))])]) (sel x0 (sel bad (R (.tup []) [(hR 7900305 v 4 1 (List.set U (Int.toNat block)
 (Mir.D.bool true))),(hB 7900307 [(.o (.sl 1 ba)),(.o (.sl 1 no)),(.o (.sl 1 pa)),(.n (.int .i64 ro)),(.n (.int .i64 ge)),(.n (.int .i64 (IntKind.wrap .i64 (np + (x1.length :
 Int))))),(.n (.int .i64 deep)),(.n (.int .i64 (IntKind.wrap .i64 (nb + 1)))),(.row 7900305 v),(.n (.bool true))])]) (sel (he != 0) (R (.tup []) [(hR 7900305 v 4 1 (List.set U
 (Int.toNat block) (Mir.D.bool true))),(hB 7900307 [(.o (.sl 1 ba)),(.o (.sl 1 no)),(.o (.sl 1 pa)),(.n (.int .i64 ro)),(.n (.int .i64 ge)),(.n (.int .i64 (IntKind.wrap .i64 (np +
 (x1.length : Int))))),(.n (.int .i64 deep)),(.n (.int .i64 (IntKind.wrap .i64 (nb + 1)))),(.row 7900305 v),(.n (.bool (he != deep)))])]) (R (.tup []) [(hR 7900305 v 4 1 (List.set U
 (Int.toNat block) (Mir.D.bool true))),(hB 7900307 [(.o (.sl 1 ba)),(.o (.sl 1 no)),(.o (.sl 1 pa)),(.n (.int .i64 ro)),(.n (.int .i64 ge)),(.n (.int .i64 (IntKind.wrap .i64 (np +
 (x1.length : Int))))),(.n (.int .i64 deep)),(.n (.int .i64 (IntKind.wrap .i64 (nb + 1)))),(.row 7900305 v),(.n (.bool false))])]))) (∃ x71 : (Int → ((LD × (LD × (LD × (Int × (Int ×
 (Int × (Int × (Int × (Nat × (Bool × (Unit))))))))))) → ((Nat × LD) → Prop))),(∃ x72 : (Int → ((LD × (LD × (LD × (Int × (Int × (Int × (Int × (Int × (Nat × (Bool × (Unit))))))))))) →
 ((Nat × LD) → Nat))),(((rh [(hR 7900305 v 4 1 (List.set U (Int.toNat block) (Mir.D.bool true))),(hB 7900307 [(aL ba),(aL no),(aL pa),(aI ro),(aI ge),(aI np),(aI he),(aI
 (IntKind.wrap .i64 (nb + 1))),(.row 7900305 v),(aB bad)]),(hB 10800000 [(aS low)]),(hB 10800001 [(aS high)]),(hB 10800111 [(aB x0),(aL x1),(aL x2),(aL x3)])]) ∧ (x71 0
 (ba,(no,(pa,(ro,(ge,(np,(he,((IntKind.wrap .i64 (nb + 1)),(v,(bad,())))))))))) (v,(List.set U (Int.toNat block) (Mir.D.bool true))))) ∧ (∀ x73 : Int,(∀ x74 : (LD × (LD × (LD × (Int
 × (Int × (Int × (Int × (Int × (Nat × (Bool × (Unit))))))))))),(∀ x75 : (Nat × LD),((x71 x73 x74 x75) → (∀ x76 : (Nat → Mir.AV),(sel (decide (x73 < (x3.length : Int))) ((rn 1) ∧ ((0
 : Int) ≤ x73) ∧ (∃ x77 : Mir.D,((x3[Int.toNat x73]? = some x77) ∧ (∃ x78 : Int,(((D.cells x77)[0]? = some (Mir.D.int .i64 x78)) ∧ (sel (decide (x73 > 0)) ((rn 1) ∧ ((0 : Int) ≤
 (IntKind.wrap .i64 (x73 - 1))) ∧ (∃ x79 : Mir.D,((x1[Int.toNat (IntKind.wrap .i64 (x73 - 1))]? = some x79) ∧ (∃ x80 : ByteArray,(((D.cells x79)[0]? = some (Mir.D.str x80)) ∧ (sel
 (decide (x73 < (x1.length : Int))) ((rn 1) ∧ ((0 : Int) ≤ x73) ∧ (∃ x81 : Mir.D,((x1[Int.toNat x73]? = some x81) ∧ (∃ x82 : ByteArray,(((D.cells x81)[0]? = some (Mir.D.str x82)) ∧
 (∃ x83 : Nat,(∃ x84 : LD,(∃ x85 : LD,(∃ x86 : LD,(∃ x87 : LD,(∃ x88 : Int,(∃ x89 : Int,(∃ x90 : Int,(∃ x91 : Int,(∃ x92 : Int,(∃ x93 : Nat,(∃ x94 : Bool,((Runs Fs2 108 [(.ptr
 7900307 0),(aI x78),(aI (IntKind.wrap .i64 (deep + 1))),(aS x80),(aS x82)] [(hR 7900305 (Prod.fst x75) 4 1 (Prod.snd x75)),(hB 7900307 [(aL x74.1),(aL x74.2.1),(aL x74.2.2.1),(aI
 x74.2.2.2.1),(aI x74.2.2.2.2.1),(aI x74.2.2.2.2.2.1),(aI x74.2.2.2.2.2.2.1),(aI x74.2.2.2.2.2.2.2.1),(.row 7900305 x74.2.2.2.2.2.2.2.2.1),(aB x74.2.2.2.2.2.2.2.2.2.1)])] (.tup [])
 [(hR 7900305 x83 4 1 x84),(hB 7900307 [(aL x85),(aL x86),(aL x87),(aI x88),(aI x89),(aI x90),(aI x91),(aI x92),(.row 7900305 x93),(aB x94)])]) ∧ (sel x94 (R (.tup []) [(hR 7900305
 x83 4 1 x84),(hB 7900307 [(.o (.sl 1 x85)),(.o (.sl 1 x86)),(.o (.sl 1 x87)),(.n (.int .i64 x88)),(.n (.int .i64 x89)),(.n (.int .i64 x90)),(.n (.int .i64 x91)),(.n (.int .i64
 x92)),(.row 7900305 x93),(.n (.bool x94))])]) ((rq (.ptr 7900307 0)) ∧ (rq (aI deep)) ∧ (rq (.ptr 10800000 0)) ∧ (rq (.ptr 10800001 0)) ∧ (rq (.ptr 10800111 0)) ∧ (rq (aL x3)) ∧
 (rq (aI (x3.length : Int))) ∧ (rh [(hR 7900305 x83 4 1 x84),(hB 7900307 [(aL x85),(aL x86),(aL x87),(aI x88),(aI x89),(aI x90),(aI x91),(aI x92),(.row 7900305 x93),(aB x94)]),(hB
 10800000 [(aS low)]),(hB 10800001 [(aS high)]),(hB 10800111 [(aB x0),(aL x1),(aL x2),(aL x3)])]) ∧ (x71 (IntKind.wrap .i64 (x73 + 1))
 (x85,(x86,(x87,(x88,(x89,(x90,(x91,(x92,(x93,(x94,())))))))))) (x83,x84)) ∧ (((x72 (IntKind.wrap .i64 (x73 + 1)) (x85,(x86,(x87,(x88,(x89,(x90,(x91,(x92,(x93,(x94,()))))))))))
 (x83,x84)) : Nat) < (x72 x73 x74 x75)))))))))))))))))))))) (∃ x95 : Nat,(∃ x96 : LD,(∃ x97 : LD,(∃ x98 : LD,(∃ x99 : LD,(∃ x100 : Int,(∃ x101 : Int,(∃ x102 : Int,(∃ x103 : Int,(∃
 x104 : Int,(∃ x105 : Nat,(∃ x106 : Bool,((Runs Fs2 108 [(.ptr 7900307 0),(aI x78),(aI (IntKind.wrap .i64 (deep + 1))),(aS x80),(aS high)] [(hR 7900305 (Prod.fst x75) 4 1 (Prod.snd
 x75)),(hB 7900307 [(aL x74.1),(aL x74.2.1),(aL x74.2.2.1),(aI x74.2.2.2.1),(aI x74.2.2.2.2.1),(aI x74.2.2.2.2.2.1),(aI x74.2.2.2.2.2.2.1),(aI x74.2.2.2.2.2.2.2.1),(.row 7900305
 x74.2.2.2.2.2.2.2.2.1),(aB x74.2.2.2.2.2.2.2.2.2.1)])] (.tup []) [(hR 7900305 x95 4 1 x96),(hB 7900307 [(aL x97),(aL x98),(aL x99),(aI x100),(aI x101),(aI x102),(aI x103),(aI
 x104),(.row 7900305 x105),(aB x106)])]) ∧ (sel x106 (R (.tup []) [(hR 7900305 x95 4 1 x96),(hB 7900307 [(.o (.sl 1 x97)),(.o (.sl 1 x98)),(.o (.sl 1 x99)),(.n (.int .i64 x100)),(.n
 (.int .i64 x101)),(.n (.int .i64 x102)),(.n (.int .i64 x103)),(.n (.int .i64 x104)),(.row 7900305 x105),(.n (.bool x106))])]) ((rq (.ptr 7900307 0)) ∧ (rq (aI deep)) ∧ (rq (.ptr
 10800000 0)) ∧ (rq (.ptr 10800001 0)) ∧ (rq (.ptr 10800111 0)) ∧ (rq (aL x3)) ∧ (rq (aI (x3.length : Int))) ∧ (rh [(hR 7900305 x95 4 1 x96),(hB 7900307 [(aL x97),(aL x98),(aL
 x99),(aI x100),(aI x101),(aI x102),(aI x103),(aI x104),(.row 7900305 x105),(aB x106)]),(hB 10800000 [(aS low)]),(hB 10800001 [(aS high)]),(hB 10800111 [(aB x0),(aL x1),(aL x2),(aL
 x3)])]) ∧ (x71 (IntKind.wrap .i64 (x73 + 1)) (x97,(x98,(x99,(x100,(x101,(x102,(x103,(x104,(x105,(x106,())))))))))) (x95,x96)) ∧ (((x72 (IntKind.wrap .i64 (x73 + 1))
 (x97,(x98,(x99,(x100,(x101,(x102,(x103,(x104,(x105,(x106,())))))))))) (x95,x96)) : Nat) < (x72 x73 x74 x75))))))))))))))))))))))) (sel (decide (x73 < (x1.length : Int))) ((rn 1) ∧
 ((0 : Int) ≤ x73) ∧ (∃ x107 : Mir.D,((x1[Int.toNat x73]? = some x107) ∧ (∃ x108 : ByteArray,(((D.cells x107)[0]? = some (Mir.D.str x108)) ∧ (∃ x109 : Nat,(∃ x110 : LD,(∃ x111 :
 LD,(∃ x112 : LD,(∃ x113 : LD,(∃ x114 : Int,(∃ x115 : Int,(∃ x116 : Int,(∃ x117 : Int,(∃ x118 : Int,(∃ x119 : Nat,(∃ x120 : Bool,((Runs Fs2 108 [(.ptr 7900307 0),(aI x78),(aI
 (IntKind.wrap .i64 (deep + 1))),(aS low),(aS x108)] [(hR 7900305 (Prod.fst x75) 4 1 (Prod.snd x75)),(hB 7900307 [(aL x74.1),(aL x74.2.1),(aL x74.2.2.1),(aI x74.2.2.2.1),(aI
 x74.2.2.2.2.1),(aI x74.2.2.2.2.2.1),(aI x74.2.2.2.2.2.2.1),(aI x74.2.2.2.2.2.2.2.1),(.row 7900305 x74.2.2.2.2.2.2.2.2.1),(aB x74.2.2.2.2.2.2.2.2.2.1)])] (.tup []) [(hR 7900305 x109
 4 1 x110),(hB 7900307 [(aL x111),(aL x112),(aL x113),(aI x114),(aI x115),(aI x116),(aI x117),(aI x118),(.row 7900305 x119),(aB x120)])]) ∧ (sel x120 (R (.tup []) [(hR 7900305 x109
 4 1 x110),(hB 7900307 [(.o (.sl 1 x111)),(.o (.sl 1 x112)),(.o (.sl 1 x113)),(.n (.int .i64 x114)),(.n (.int .i64 x115)),(.n (.int .i64 x116)),(.n (.int .i64 x117)),(.n (.int .i64
 x118)),(.row 7900305 x119),(.n (.bool x120))])]) ((rq (.ptr 7900307 0)) ∧ (rq (aI deep)) ∧ (rq (.ptr 10800000 0)) ∧ (rq (.ptr 10800001 0)) ∧ (rq (.ptr 10800111 0)) ∧ (rq (aL x3)) ∧
 (rq (aI (x3.length : Int))) ∧ (rh [(hR 7900305 x109 4 1 x110),(hB 7900307 [(aL x111),(aL x112),(aL x113),(aI x114),(aI x115),(aI x116),(aI x117),(aI x118),(.row 7900305 x119),(aB
 x120)]),(hB 10800000 [(aS low)]),(hB 10800001 [(aS high)]),(hB 10800111 [(aB x0),(aL x1),(aL x2),(aL x3)])]) ∧ (x71 (IntKind.wrap .i64 (x73 + 1))
 (x111,(x112,(x113,(x114,(x115,(x116,(x117,(x118,(x119,(x120,())))))))))) (x109,x110)) ∧ (((x72 (IntKind.wrap .i64 (x73 + 1))
 (x111,(x112,(x113,(x114,(x115,(x116,(x117,(x118,(x119,(x120,())))))))))) (x109,x110)) : Nat) < (x72 x73 x74 x75)))))))))))))))))))))) (∃ x121 : Nat,(∃ x122 : LD,(∃ x123 : LD,(∃
 x124 : LD,(∃ x125 : LD,(∃ x126 : Int,(∃ x127 : Int,(∃ x128 : Int,(∃ x129 : Int,(∃ x130 : Int,(∃ x131 : Nat,(∃ x132 : Bool,((Runs Fs2 108 [(.ptr 7900307 0),(aI x78),(aI
 (IntKind.wrap .i64 (deep + 1))),(aS low),(aS high)] [(hR 7900305 (Prod.fst x75) 4 1 (Prod.snd x75)),(hB 7900307 [(aL x74.1),(aL x74.2.1),(aL x74.2.2.1),(aI x74.2.2.2.1),(aI
 x74.2.2.2.2.1),(aI x74.2.2.2.2.2.1),(aI x74.2.2.2.2.2.2.1),(aI x74.2.2.2.2.2.2.2.1),(.row 7900305 x74.2.2.2.2.2.2.2.2.1),(aB x74.2.2.2.2.2.2.2.2.2.1)])] (.tup []) [(hR 7900305 x121
 4 1 x122),(hB 7900307 [(aL x123),(aL x124),(aL x125),(aI x126),(aI x127),(aI x128),(aI x129),(aI x130),(.row 7900305 x131),(aB x132)])]) ∧ (sel x132 (R (.tup []) [(hR 7900305 x121
 4 1 x122),(hB 7900307 [(.o (.sl 1 x123)),(.o (.sl 1 x124)),(.o (.sl 1 x125)),(.n (.int .i64 x126)),(.n (.int .i64 x127)),(.n (.int .i64 x128)),(.n (.int .i64 x129)),(.n (.int .i64
 x130)),(.row 7900305 x131),(.n (.bool x132))])]) ((rq (.ptr 7900307 0)) ∧ (rq (aI deep)) ∧ (rq (.ptr 10800000 0)) ∧ (rq (.ptr 10800001 0)) ∧ (rq (.ptr 10800111 0)) ∧ (rq (aL x3)) ∧
 (rq (aI (x3.length : Int))) ∧ (rh [(hR 7900305 x121 4 1 x122),(hB 7900307 [(aL x123),(aL x124),(aL x125),(aI x126),(aI x127),(aI x128),(aI x129),(aI x130),(.row 7900305 x131),(aB
 x132)]),(hB 10800000 [(aS low)]),(hB 10800001 [(aS high)]),(hB 10800111 [(aB x0),(aL x1),(aL x2),(aL x3)])]) ∧ (x71 (IntKind.wrap .i64 (x73 + 1))
 (x123,(x124,(x125,(x126,(x127,(x128,(x129,(x130,(x131,(x132,())))))))))) (x121,x122)) ∧ (((x72 (IntKind.wrap .i64 (x73 + 1))
 (x123,(x124,(x125,(x126,(x127,(x128,(x129,(x130,(x131,(x132,())))))))))) (x121,x122)) : Nat) < (x72 x73 x74 x75)))))))))))))))))))))))) (R (.tup []) [(hR 7900305 (Prod.fst x75) 4 1
 (Prod.snd x75)),(hB 7900307 [(.o (.sl 1 x74.1)),(.o (.sl 1 x74.2.1)),(.o (.sl 1 x74.2.2.1)),(.n (.int .i64 x74.2.2.2.1)),(.n (.int .i64 x74.2.2.2.2.1)),(.n (.int .i64
 x74.2.2.2.2.2.1)),(.n (.int .i64 x74.2.2.2.2.2.2.1)),(.n (.int .i64 x74.2.2.2.2.2.2.2.1)),(.row 7900305 x74.2.2.2.2.2.2.2.2.1),(.n (.bool
 x74.2.2.2.2.2.2.2.2.2.1))])]))))))))))))))))))))))))))))))
theorem vc108h (ba : LD) (no : LD) (pa : LD) (ro : Int) (ge : Int) (block : Int) (deep : Int) (low : ByteArray) (high : ByteArray) (v : Nat) (U : LD) (np : Int) (he : Int) (nb : Int) (bad : Bool) (R : Mir.AV → Heap → Prop) : Vc Fs2 c108.body (argsQ c108 [.ptr 7900307 0, .n (.int .i64 block), .n (.int .i64 deep), .n (.str low), .n (.str high)]) [(7900305, .row false false v 4 1 U), (7900307, .box [.o (.sl 1 ba), .o (.sl 1 no), .o (.sl 1 pa), .n (.int .i64 ro), .n (.int .i64 ge), .n (.int .i64 np), .n (.int .i64 he), .n (.int .i64 nb), .row 7900305 v, .n (.bool bad)])] (endQH c108 [(7900305, .row false false v 4 1 U), (7900307, .box [.o (.sl 1 ba), .o (.sl 1 no), .o (.sl 1 pa), .n (.int .i64 ro), .n (.int .i64 ge), .n (.int .i64 np), .n (.int .i64 he), .n (.int .i64 nb), .row 7900305 v, .n (.bool bad)])] R) = V108h ba no pa ro ge block deep low high v U np he nb bad R := by kernel_rfl

end Go.Proofs.YtmmnobdpccdeoaaDoor.M
