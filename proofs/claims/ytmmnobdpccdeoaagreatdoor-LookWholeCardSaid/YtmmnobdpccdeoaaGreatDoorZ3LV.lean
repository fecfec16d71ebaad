import Derived.Test.YtmmnobdpccdeoaaGreatDoorZ3L
namespace Go.Proofs.YtmmnobdpccdeoaaGreatDoor.M
set_option linter.unusedVariables false
set_option linter.unusedSimpArgs false
open Go Go.Mir
set_option linter.unusedVariables false
def V13 (a0_0 : LD) (a0_1 : LD) (a0_2 : LD) (a0_3 : Int) (a0_4 : Int) (R : Mir.AV → Prop) : Prop :=
 (sel (decide ((a0_1.length : Int) ≤ 300)) (R (.n (.bool (decide ((a0_2.length : Int) ≤ 300))))) (R (.n (.bool false))))
theorem vc13 (a0_0 : LD) (a0_1 : LD) (a0_2 : LD) (a0_3 : Int) (a0_4 : Int) (R : Mir.AV → Prop) : Vc Fs2 c13.body (argsQ c13 [(.agg [(.o (.sl 1 a0_0)), (.o (.sl 1 a0_1)), (.o (.sl 1 a0_2)), (.n (.int .i64 a0_3)), (.n (.int .i64 a0_4))])]) [] (endQ c13 R) = V13 a0_0 a0_1 a0_2 a0_3 a0_4 R := by kernel_rfl
def V14  (R : Mir.AV → Prop) : Prop :=
 (∃ x0 : LD,(∃ x1 : LD,((Runs Fs2 21 [(aI 24)] [] (.agg [(aL x0),(aL x1)]) []) ∧ ((0 : Int) ≤ 24) ∧ ((((Int.toNat 24) * 16) : Nat) ≤ 140737488355328) ∧ (0 = 0) ∧ (∃ x2 :
 ByteArray,(∃ x3 : Int,((Runs Fs2 20 [(.agg [(aL x0),(aL x1),(aL (List.replicate (Int.toNat 24) (Mir.D.str (ByteArray.mk (List.toArray []))))),(aI 0),(aI 1)]),(aS (ByteArray.mk
 (List.toArray [97])))] [] (.tup [(aS x2),(aI x3)]) []) ∧ (0 = 0) ∧ (∃ x4 : Bool,((Runs Fs2 24 [(.agg [(aL x0),(aL x1),(aL (List.replicate (Int.toNat 24) (Mir.D.str (ByteArray.mk
 (List.toArray []))))),(aI 0),(aI 1)])] [] (aB x4) []) ∧ (sel x4 (R (.n (.bool (x3 == 80)))) (R (.n (.bool false))))))))))))
theorem vc14  (R : Mir.AV → Prop) : Vc Fs2 c14.body (argsQ c14 []) [] (endQ c14 R) = V14  R := by kernel_rfl
def V20 (a0_0 : LD) (a0_1 : LD) (a0_2 : LD) (a0_3 : Int) (a0_4 : Int) (a1 : ByteArray) (R : Mir.AV → Prop) : Prop :=
 (∃ x0 : Bool,((Runs Fs2 24 [(.agg [(aL a0_0),(aL a0_1),(aL a0_2),(aI a0_3),(aI a0_4)])] [] (aB x0) []) ∧ (sel (Bool.not x0) (R (.tup [(.n (.str (ByteArray.mk (List.toArray
 [])))),(.n (.int .i64 1))])) (sel (decide ((((ByteArray.size a1) : Nat) : Int) < 1)) (R (.tup [(.n (.str (ByteArray.mk (List.toArray [])))),(.n (.int .i64 1))])) (sel (decide
 ((((ByteArray.size a1) : Nat) : Int) > 32)) (R (.tup [(.n (.str (ByteArray.mk (List.toArray [])))),(.n (.int .i64 1))])) (sel (a0_3 == 0) (R (.tup [(.n (.str (ByteArray.mk
 (List.toArray [])))),(.n (.int .i64 80))])) (∃ x1 : (Int → (Int → ((LD × (LD × (LD × (Int × (Int × (ByteArray × (Int × (Int × ((Unit) × (ByteArray × (Bool × (Bool ×
 (Unit))))))))))))) → Prop))),(∃ x2 : (Int → (Int → ((LD × (LD × (LD × (Int × (Int × (ByteArray × (Int × (Int × ((Unit) × (ByteArray × (Bool × (Bool × (Unit))))))))))))) →
 Nat))),(((rh [(hB 2000000 [(aL a0_0),(aL a0_1),(aL a0_2),(aI a0_3),(aI a0_4)]),(hB 2000302 [(aL a0_0),(aL a0_1),(aL a0_2),(aI a0_3),(aI a0_4),(aS (ByteArray.mk (List.toArray
 []))),(aI 0),(aI 0),(.n Mir.D.nil),(aS (ByteArray.mk (List.toArray []))),(aB false),(aB false)])]) ∧ (x1 a0_3 0 (a0_0,(a0_1,(a0_2,(a0_3,(a0_4,((ByteArray.mk (List.toArray
 [])),(0,(0,((),((ByteArray.mk (List.toArray [])),(false,(false,())))))))))))))) ∧ (∀ x3 : Int,(∀ x4 : Int,(∀ x5 : (LD × (LD × (LD × (Int × (Int × (ByteArray × (Int × (Int × ((Unit)
 × (ByteArray × (Bool × (Bool × (Unit))))))))))))),((x1 x3 x4 x5) → (∀ x6 : (Nat → Mir.AV),(sel (decide (x4 < 8)) (∃ x7 : Bool,(∃ x8 : LD,(∃ x9 : LD,(∃ x10 : LD,(∃ x11 : Bool,(∃ x12
 : LD,(∃ x13 : LD,(∃ x14 : LD,(∃ x15 : Int,(∃ x16 : Int,(∃ x17 : ByteArray,(∃ x18 : Int,(∃ x19 : Int,(∃ x20 : ByteArray,(∃ x21 : Bool,(∃ x22 : Bool,((Runs Fs2 28 [(.ptr 2000302
 0),(aI x3),(aB (x3 == x5.2.2.2.1))] [(hB 2000302 [(aL x5.1),(aL x5.2.1),(aL x5.2.2.1),(aI x5.2.2.2.1),(aI x5.2.2.2.2.1),(aS x5.2.2.2.2.2.1),(aI x5.2.2.2.2.2.2.1),(aI
 x5.2.2.2.2.2.2.2.1),(.n Mir.D.nil),(aS x5.2.2.2.2.2.2.2.2.2.1),(aB x5.2.2.2.2.2.2.2.2.2.2.1),(aB x5.2.2.2.2.2.2.2.2.2.2.2.1)])] (.tup [(.agg [(aB x7),(aL x8),(aL x9),(aL x10)]),(aB
 x11)]) [(hB 2000302 [(aL x12),(aL x13),(aL x14),(aI x15),(aI x16),(aS x17),(aI x18),(aI x19),(.n Mir.D.nil),(aS x20),(aB x21),(aB x22)])]) ∧ (sel (Bool.not x11) (R (.tup [(.n (.str
 (ByteArray.mk (List.toArray [])))),(.n (.int .i64 81))])) (sel (Bool.not x7) (∃ x23 : Int,((Runs Fs2 29 [(.agg [(aB x7),(aL x8),(aL x9),(aL x10)]),(aS a1)] [] (aI x23) []) ∧ (rn 1)
 ∧ ((0 : Int) ≤ x23) ∧ (∃ x24 : Mir.D,((x10[Int.toNat x23]? = some x24) ∧ (∃ x25 : Int,(((D.cells x24)[0]? = some (Mir.D.int .i64 x25)) ∧ (rq (aS a1)) ∧ (rq (.ptr 2000302 0)) ∧ (rh
 [(hB 2000000 [(aL a0_0),(aL a0_1),(aL a0_2),(aI a0_3),(aI a0_4)]),(hB 2000302 [(aL x12),(aL x13),(aL x14),(aI x15),(aI x16),(aS x17),(aI x18),(aI x19),(.n Mir.D.nil),(aS x20),(aB
 x21),(aB x22)])]) ∧ (x1 x25 (IntKind.wrap .i64 (x4 + 1)) (x12,(x13,(x14,(x15,(x16,(x17,(x18,(x19,((),(x20,(x21,(x22,()))))))))))))) ∧ (((x2 x25 (IntKind.wrap .i64 (x4 + 1))
 (x12,(x13,(x14,(x15,(x16,(x17,(x18,(x19,((),(x20,(x21,(x22,()))))))))))))) : Nat) < (x2 x3 x4 x5)))))))) (∃ x26 : Int,(∃ x27 : Bool,((Runs Fs2 30 [(.agg [(aB x7),(aL x8),(aL
 x9),(aL x10)]),(aS a1)] [] (.tup [(aI x26),(aB x27)]) []) ∧ (sel (Bool.not x27) (R (.tup [(.n (.str (ByteArray.mk (List.toArray [])))),(.n (.int .i64 80))])) ((rn 1) ∧ ((0 : Int) ≤
 x26) ∧ (∃ x28 : Mir.D,((x9[Int.toNat x26]? = some x28) ∧ (∃ x29 : ByteArray,(((D.cells x28)[0]? = some (Mir.D.str x29)) ∧ (R (.tup [(.n (.str x29)),(.n (.int .i64
 0))])))))))))))))))))))))))))))))) (R (.tup [(.n (.str (ByteArray.mk (List.toArray [])))),(.n (.int .i64 81))])))))))))))))))))
theorem vc20 (a0_0 : LD) (a0_1 : LD) (a0_2 : LD) (a0_3 : Int) (a0_4 : Int) (a1 : ByteArray) (R : Mir.AV → Prop) : Vc Fs2 c20.body (argsQ c20 [(.agg [(.o (.sl 1 a0_0)), (.o (.sl 1 a0_1)), (.o (.sl 1 a0_2)), (.n (.int .i64 a0_3)), (.n (.int .i64 a0_4))]), (.n (.str a1))]) [] (endQ c20 R) = V20 a0_0 a0_1 a0_2 a0_3 a0_4 a1 R := by kernel_rfl
def V16 (a0_0 : LD) (a0_1 : LD) (a0_2 : LD) (a0_3 : Int) (a0_4 : Int) (R : Mir.AV → Prop) : Prop :=
 (∃ x0 : Bool,((Runs Fs2 26 [(.agg [(aL a0_0),(aL a0_1)])] [] (aB x0) []) ∧ (sel (Bool.not x0) (R (.n (.bool false))) (sel ((a0_2.length : Int) != (a0_1.length : Int)) (R (.n (.bool
 false))) (sel (decide (a0_4 < 1)) (R (.n (.bool false))) (sel (decide (a0_4 > 1099511627776)) (R (.n (.bool false))) (∃ x1 : (Int → Prop),(∃ x2 : (Int → Nat),(((rh [(hB 1600000
 [(aL a0_0),(aL a0_1),(aL a0_2),(aI a0_3),(aI a0_4)]),(hB 1600107 [(aL a0_0),(aL a0_1)])]) ∧ (x1 0)) ∧ (∀ x3 : Int,((x1 x3) → (∀ x4 : (Nat → Mir.AV),(sel (decide (x3 < (a0_2.length
 : Int))) ((rn 1) ∧ ((0 : Int) ≤ x3) ∧ (∃ x5 : Mir.D,((a0_2[Int.toNat x3]? = some x5) ∧ (∃ x6 : ByteArray,(((D.cells x5)[0]? = some (Mir.D.str x6)) ∧ (sel (decide ((((ByteArray.size
 x6) : Nat) : Int) > 4096)) (R (.n (.bool false))) ((rq (.ptr 1600000 0)) ∧ (rq (aL a0_2)) ∧ (rq (aI (a0_2.length : Int))) ∧ (rh [(hB 1600000 [(aL a0_0),(aL a0_1),(aL a0_2),(aI
 a0_3),(aI a0_4)]),(hB 1600107 [(aL a0_0),(aL a0_1)])]) ∧ (x1 (IntKind.wrap .i64 (x3 + 1))) ∧ (((x2 (IntKind.wrap .i64 (x3 + 1))) : Nat) < (x2 x3))))))))) (sel (a0_3 == 0) (R (.n
 (.bool true))) (sel (decide (a0_3 ≥ 10)) (R (.n (.bool (decide (a0_3 < (a0_1.length : Int)))))) (R (.n (.bool false))))))))))))))))))
theorem vc16 (a0_0 : LD) (a0_1 : LD) (a0_2 : LD) (a0_3 : Int) (a0_4 : Int) (R : Mir.AV → Prop) : Vc Fs2 c16.body (argsQ c16 [(.agg [(.o (.sl 1 a0_0)), (.o (.sl 1 a0_1)), (.o (.sl 1 a0_2)), (.n (.int .i64 a0_3)), (.n (.int .i64 a0_4))])]) [] (endQ c16 R) = V16 a0_0 a0_1 a0_2 a0_3 a0_4 R := by kernel_rfl
def V43 (a0_0 : LD) (a0_1 : LD) (a0_2 : LD) (a0_3 : Int) (a0_4 : Int) (a1 : Int) (a2 : Bool) (R : Mir.AV → Prop) : Prop :=
 (∃ x0 : Bool,((Runs Fs2 24 [(.agg [(aL a0_0),(aL a0_1),(aL a0_2),(aI a0_3),(aI a0_4)])] [] (aB x0) []) ∧ (sel (Bool.not x0) (R (.tup [(.agg [(.n (.bool false)),(.o (.sl 1 [])),(.o
 (.sl 1 [])),(.o (.sl 1 []))]),(.n (.int .i64 1))])) (∃ x1 : Bool,(∃ x2 : LD,(∃ x3 : LD,(∃ x4 : LD,(∃ x5 : Bool,(∃ x6 : LD,(∃ x7 : LD,(∃ x8 : LD,(∃ x9 : Int,(∃ x10 : Int,(∃ x11 :
 ByteArray,(∃ x12 : Int,(∃ x13 : Int,(∃ x14 : ByteArray,(∃ x15 : Bool,(∃ x16 : Bool,((Runs Fs2 28 [(.ptr 4300302 0),(aI a1),(aB a2)] [(hB 4300302 [(aL a0_0),(aL a0_1),(aL a0_2),(aI
 a0_3),(aI a0_4),(aS (ByteArray.mk (List.toArray []))),(aI 0),(aI 0),(.n Mir.D.nil),(aS (ByteArray.mk (List.toArray []))),(aB false),(aB false)])] (.tup [(.agg [(aB x1),(aL x2),(aL
 x3),(aL x4)]),(aB x5)]) [(hB 4300302 [(aL x6),(aL x7),(aL x8),(aI x9),(aI x10),(aS x11),(aI x12),(aI x13),(.n Mir.D.nil),(aS x14),(aB x15),(aB x16)])]) ∧ (sel (Bool.not x5) (R
 (.tup [(.agg [(.n (.bool false)),(.o (.sl 1 [])),(.o (.sl 1 [])),(.o (.sl 1 []))]),(.n (.int .i64 81))])) (R (.tup [(.agg [(.n (.bool x1)),(.o (.sl 1 x2)),(.o (.sl 1 x3)),(.o (.sl
 1 x4))]),(.n (.int .i64 0))])))))))))))))))))))))))
theorem vc43 (a0_0 : LD) (a0_1 : LD) (a0_2 : LD) (a0_3 : Int) (a0_4 : Int) (a1 : Int) (a2 : Bool) (R : Mir.AV → Prop) : Vc Fs2 c43.body (argsQ c43 [(.agg [(.o (.sl 1 a0_0)), (.o (.sl 1 a0_1)), (.o (.sl 1 a0_2)), (.n (.int .i64 a0_3)), (.n (.int .i64 a0_4))]), (.n (.int .i64 a1)), (.n (.bool a2))]) [] (endQ c43 R) = V43 a0_0 a0_1 a0_2 a0_3 a0_4 a1 a2 R := by kernel_rfl
def V24 (a0_0 : LD) (a0_1 : LD) (a0_2 : LD) (a0_3 : Int) (a0_4 : Int) (R : Mir.AV → Prop) : Prop :=
 (∃ x0 : Bool,((Runs Fs2 32 [(.agg [(aL a0_0),(aL a0_1)])] [] (aB x0) []) ∧ (sel (Bool.not x0) (R (.n (.bool false))) (sel ((a0_2.length : Int) != (a0_1.length : Int)) (R (.n (.bool
 false))) (sel (decide (a0_4 < 1)) (R (.n (.bool false))) (sel (decide (a0_4 > 1099511627776)) (R (.n (.bool false))) (sel (a0_3 != 0) (sel (decide (a0_3 < 10)) (R (.n (.bool
 false))) (sel (decide (a0_3 ≥ (a0_1.length : Int))) (R (.n (.bool false))) (∃ x1 : Bool,((Runs Fs2 33 [(aL a0_2),(.fn 34 [])] [] (aB x1) []) ∧ (R (.n (.bool (Bool.not x1)))))))) (∃
 x2 : Bool,((Runs Fs2 33 [(aL a0_2),(.fn 34 [])] [] (aB x2) []) ∧ (R (.n (.bool (Bool.not x2)))))))))))))
theorem vc24 (a0_0 : LD) (a0_1 : LD) (a0_2 : LD) (a0_3 : Int) (a0_4 : Int) (R : Mir.AV → Prop) : Vc Fs2 c24.body (argsQ c24 [(.agg [(.o (.sl 1 a0_0)), (.o (.sl 1 a0_1)), (.o (.sl 1 a0_2)), (.n (.int .i64 a0_3)), (.n (.int .i64 a0_4))])]) [] (endQ c24 R) = V24 a0_0 a0_1 a0_2 a0_3 a0_4 R := by kernel_rfl
def V36 (a0_0 : LD) (a0_1 : LD) (a0_2 : LD) (a0_3 : Int) (a0_4 : Int) (a1 : Int) (a2 : Bool) (R : Mir.AV → Prop) : Prop :=
 (sel (decide (a1 < 10)) (R (.tup [(.agg [(.n (.bool false)),(.o (.sl 1 [])),(.o (.sl 1 [])),(.o (.sl 1 []))]),(.n (.bool false))])) (sel (decide (a1 ≥ (a0_1.length : Int))) (R
 (.tup [(.agg [(.n (.bool false)),(.o (.sl 1 [])),(.o (.sl 1 [])),(.o (.sl 1 []))]),(.n (.bool false))])) (sel (decide (a1 ≥ (a0_2.length : Int))) (R (.tup [(.agg [(.n (.bool
 false)),(.o (.sl 1 [])),(.o (.sl 1 [])),(.o (.sl 1 []))]),(.n (.bool false))])) ((rn 1) ∧ ((0 : Int) ≤ a1) ∧ (∃ x0 : Mir.D,((a0_1[Int.toNat a1]? = some x0) ∧ (∃ x1 :
 Bool,(((D.cells x0)[0]? = some (Mir.D.bool x1)) ∧ (sel (Bool.not x1) (R (.tup [(.agg [(.n (.bool false)),(.o (.sl 1 [])),(.o (.sl 1 [])),(.o (.sl 1 []))]),(.n (.bool false))]))
 ((rn 1) ∧ ((0 : Int) ≤ a1) ∧ (∃ x2 : Mir.D,((a0_2[Int.toNat a1]? = some x2) ∧ (∃ x3 : ByteArray,(((D.cells x2)[0]? = some (Mir.D.str x3)) ∧ (∃ x4 : Int,(∃ x5 : Int,(∃ x6 :
 ByteArray,(∃ x7 : Int,((Runs Fs2 47 [(aS x3)] [] (.tup [(.agg [(aI x4),(aI x5),(aS x6)]),(aI x7)]) []) ∧ (sel (x7 != 0) (R (.tup [(.agg [(.n (.bool false)),(.o (.sl 1 [])),(.o (.sl
 1 [])),(.o (.sl 1 []))]),(.n (.bool false))])) (sel (decide (x5 > a0_4)) (R (.tup [(.agg [(.n (.bool false)),(.o (.sl 1 [])),(.o (.sl 1 [])),(.o (.sl 1 []))]),(.n (.bool false))]))
 (∃ x8 : Bool,(∃ x9 : LD,(∃ x10 : LD,(∃ x11 : LD,(∃ x12 : Int,((Runs Fs2 48 [(aI x4),(aS x6)] [] (.tup [(.agg [(aB x8),(aL x9),(aL x10),(aL x11)]),(aI x12)]) []) ∧ (sel (x12 != 0)
 (R (.tup [(.agg [(.n (.bool false)),(.o (.sl 1 [])),(.o (.sl 1 [])),(.o (.sl 1 []))]),(.n (.bool false))])) (∃ x13 : Bool,((Runs Fs2 49 [(.agg [(aB x8),(aL x9),(aL x10),(aL
 x11)]),(aB a2)] [] (aB x13) []) ∧ (sel (Bool.not x13) (R (.tup [(.agg [(.n (.bool false)),(.o (.sl 1 [])),(.o (.sl 1 [])),(.o (.sl 1 []))]),(.n (.bool false))])) (R (.tup [(.agg
 [(.n (.bool x8)),(.o (.sl 1 x9)),(.o (.sl 1 x10)),(.o (.sl 1 x11))]),(.n (.bool true))])))))))))))))))))))))))))))))))))
theorem vc36 (a0_0 : LD) (a0_1 : LD) (a0_2 : LD) (a0_3 : Int) (a0_4 : Int) (a1 : Int) (a2 : Bool) (R : Mir.AV → Prop) : Vc Fs2 c36.body (argsQ c36 [(.agg [(.o (.sl 1 a0_0)), (.o (.sl 1 a0_1)), (.o (.sl 1 a0_2)), (.n (.int .i64 a0_3)), (.n (.int .i64 a0_4))]), (.n (.int .i64 a1)), (.n (.bool a2))]) [] (endQ c36 R) = V36 a0_0 a0_1 a0_2 a0_3 a0_4 a1 a2 R := by kernel_rfl
def V7 (a0_0 : LD) (a0_1 : LD) (a0_2 : LD) (a0_3 : Int) (a0_4 : Int) (R : Mir.AV → Prop) : Prop :=
 (sel (decide ((a0_1.length : Int) ≤ 300)) (R (.n (.bool (decide ((a0_2.length : Int) ≤ 300))))) (R (.n (.bool false))))
theorem vc7 (a0_0 : LD) (a0_1 : LD) (a0_2 : LD) (a0_3 : Int) (a0_4 : Int) (R : Mir.AV → Prop) : Vc Fs2 c7.body (argsQ c7 [(.agg [(.o (.sl 1 a0_0)), (.o (.sl 1 a0_1)), (.o (.sl 1 a0_2)), (.n (.int .i64 a0_3)), (.n (.int .i64 a0_4))])]) [] (endQ c7 R) = V7 a0_0 a0_1 a0_2 a0_3 a0_4 R := by kernel_rfl
def V21 (a0 : Int) (R : Mir.AV → Prop) : Prop :=
 (∃ x0 : (Int → ((Nat × (Nat × (Unit))) → ((Nat × LD) → ((Nat × LD) → Prop)))),(∃ x1 : (Int → ((Nat × (Nat × (Unit))) → ((Nat × LD) → ((Nat × LD) → Nat)))),(((rh [(hB 2100000 [(.n
 Mir.D.nil),(.n Mir.D.nil)]),(hB 2100101 [(.row 2100505 0),(.row 2100605 0)]),(2100505,(.row false true 0 4 1 [])),(2100605,(.row false true 0 4 1 []))]) ∧ (x0 0 (0,(0,())) (0,[])
 (0,[]))) ∧ (∀ x2 : Int,(∀ x3 : (Nat × (Nat × (Unit))),(∀ x4 : (Nat × LD),(∀ x5 : (Nat × LD),((x0 x2 x3 x4 x5) → (∀ x6 : (Nat → Mir.AV),(sel (decide (x2 < a0)) ((rn 0) ∧ ((rn 1) ∨
 (@Eq LD [(Mir.D.bool (decide (x2 < 10)))] [])) ∧ (((((Prod.fst x4) : Nat) = x3.1) ∧ (rn 4)) ∧ (rn 1)) ∧ (((((List.length (Prod.snd x4)) + (List.length [(Mir.D.bool (decide (x2 <
 10)))])) * 1) : Nat) ≤ 140737488355328) ∧ (rn 0) ∧ ((rn 1) ∨ (@Eq LD [(Mir.D.bool (decide (x2 < 10)))] [])) ∧ (((((Prod.fst x5) : Nat) = x3.2.1) ∧ (rn 4)) ∧ (rn 1)) ∧
 (((((List.length (Prod.snd x5)) + (List.length [(Mir.D.bool (decide (x2 < 10)))])) * 1) : Nat) ≤ 140737488355328) ∧ (rq (aI a0)) ∧ (rq (.ptr 2100000 0)) ∧ (rq (.ptr 2100101 0)) ∧
 (rh [(hB 2100000 [(.n Mir.D.nil),(.n Mir.D.nil)]),(hB 2100101 [(.row 2100505 (x3.1 + 1)),(.row 2100605 (x3.2.1 + 1))]),(2100505,(.row false true (x3.1 + 1) 4 1 ((Prod.snd x4) ++
 [(Mir.D.bool (decide (x2 < 10)))]))),(2100605,(.row false true (x3.2.1 + 1) 4 1 ((Prod.snd x5) ++ [(Mir.D.bool (decide (x2 < 10)))])))]) ∧ (x0 (IntKind.wrap .i64 (x2 + 1)) ((x3.1 +
 1),((x3.2.1 + 1),())) ((x3.1 + 1),((Prod.snd x4) ++ [(Mir.D.bool (decide (x2 < 10)))])) ((x3.2.1 + 1),((Prod.snd x5) ++ [(Mir.D.bool (decide (x2 < 10)))]))) ∧ (((x1 (IntKind.wrap
 .i64 (x2 + 1)) ((x3.1 + 1),((x3.2.1 + 1),())) ((x3.1 + 1),((Prod.snd x4) ++ [(Mir.D.bool (decide (x2 < 10)))])) ((x3.2.1 + 1),((Prod.snd x5) ++ [(Mir.D.bool (decide (x2 < 10)))])))
 : Nat) < (x1 x2 x3 x4 x5))) (((Prod.fst x4) = x3.1) ∧ ((Prod.fst x5) = x3.2.1) ∧ (R (.agg [(.o (.sl 1 (Prod.snd x4))),(.o (.sl 1 (Prod.snd x5)))])))))))))))))
theorem vc21 (a0 : Int) (R : Mir.AV → Prop) : Vc Fs2 c21.body (argsQ c21 [(.n (.int .i64 a0))]) [] (endQ c21 R) = V21 a0 R := by kernel_rfl
def V29 (a0_0 : Bool) (a0_1 : LD) (a0_2 : LD) (a0_3 : LD) (a1 : ByteArray) (R : Mir.AV → Prop) : Prop :=
 (sel a0_0 (R (.n (.int .i64 0))) (∃ x0 : Int,(∃ x1 : Bool,((Runs Fs2 30 [(.agg [(aB a0_0),(aL a0_1),(aL a0_2),(aL a0_3)]),(aS a1)] [] (.tup [(aI x0),(aB x1)]) []) ∧ (sel x1 (R (.n
 (.int .i64 (IntKind.wrap .i64 (x0 + 1))))) (R (.n (.int .i64 x0))))))))
theorem vc29 (a0_0 : Bool) (a0_1 : LD) (a0_2 : LD) (a0_3 : LD) (a1 : ByteArray) (R : Mir.AV → Prop) : Vc Fs2 c29.body (argsQ c29 [(.agg [(.n (.bool a0_0)), (.o (.sl 1 a0_1)), (.o (.sl 1 a0_2)), (.o (.sl 1 a0_3))]), (.n (.str a1))]) [] (endQ c29 R) = V29 a0_0 a0_1 a0_2 a0_3 a1 R := by kernel_rfl
def V30 (a0_0 : Bool) (a0_1 : LD) (a0_2 : LD) (a0_3 : LD) (a1 : ByteArray) (R : Mir.AV → Prop) : Prop :=
 (∃ x0 : Bool,((Runs Fs2 41 [(.agg [(aB a0_0),(aL a0_1),(aL a0_2),(aL a0_3)])] [] (aB x0) []) ∧ (sel (Bool.not x0) (R (.tup [(.n (.int .i64 0)),(.n (.bool false))])) (∃ x1 :
 Int,((Runs Fs2 42 [(aL a0_1),(aS a1)] [] (aI x1) []) ∧ (sel (decide (x1 < (a0_1.length : Int))) ((rn 1) ∧ ((0 : Int) ≤ x1) ∧ (∃ x2 : Mir.D,((a0_1[Int.toNat x1]? = some x2) ∧ (∃ x3
 : ByteArray,(((D.cells x2)[0]? = some (Mir.D.str x3)) ∧ (R (.tup [(.n (.int .i64 x1)),(.n (.bool ((ByteArray.toList x3) == (ByteArray.toList a1))))]))))))) (R (.tup [(.n (.int .i64
 x1)),(.n (.bool false))]))))))))
theorem vc30 (a0_0 : Bool) (a0_1 : LD) (a0_2 : LD) (a0_3 : LD) (a1 : ByteArray) (R : Mir.AV → Prop) : Vc Fs2 c30.body (argsQ c30 [(.agg [(.n (.bool a0_0)), (.o (.sl 1 a0_1)), (.o (.sl 1 a0_2)), (.o (.sl 1 a0_3))]), (.n (.str a1))]) [] (endQ c30 R) = V30 a0_0 a0_1 a0_2 a0_3 a1 R := by kernel_rfl
def V26 (a0_0 : LD) (a0_1 : LD) (R : Mir.AV → Prop) : Prop :=
 (sel ((a0_0.length : Int) != (a0_1.length : Int)) (R (.n (.bool false))) (sel (decide ((a0_1.length : Int) < 24)) (R (.n (.bool false))) (sel (decide ((a0_1.length : Int) > 2048))
 (R (.n (.bool false))) (∃ x0 : (Int → Prop),(∃ x1 : (Int → Nat),(((rh [(hB 2600000 [(aL a0_0),(aL a0_1)])]) ∧ (x0 0)) ∧ (∀ x2 : Int,((x0 x2) → (∀ x3 : (Nat → Mir.AV),(sel (decide
 (x2 < 10)) ((rn 1) ∧ ((0 : Int) ≤ x2) ∧ (∃ x4 : Mir.D,((a0_0[Int.toNat x2]? = some x4) ∧ (∃ x5 : Bool,(((D.cells x4)[0]? = some (Mir.D.bool x5)) ∧ (sel (Bool.not x5) (R (.n (.bool
 false))) ((rn 1) ∧ ((0 : Int) ≤ x2) ∧ (∃ x6 : Mir.D,((a0_1[Int.toNat x2]? = some x6) ∧ (∃ x7 : Bool,(((D.cells x6)[0]? = some (Mir.D.bool x7)) ∧ (sel (Bool.not x7) (R (.n (.bool
 false))) ((rq (.ptr 2600000 0)) ∧ (rh [(hB 2600000 [(aL a0_0),(aL a0_1)])]) ∧ (x0 (IntKind.wrap .i64 (x2 + 1))) ∧ (((x1 (IntKind.wrap .i64 (x2 + 1))) : Nat) < (x1 x2)))))))))))))))
 (R (.n (.bool true)))))))))))))
theorem vc26 (a0_0 : LD) (a0_1 : LD) (R : Mir.AV → Prop) : Vc Fs2 c26.body (argsQ c26 [(.agg [(.o (.sl 1 a0_0)), (.o (.sl 1 a0_1))])]) [] (endQ c26 R) = V26 a0_0 a0_1 R := by kernel_rfl
def V32 (a0_0 : LD) (a0_1 : LD) (R : Mir.AV → Prop) : Prop :=
 (sel ((a0_0.length : Int) != (a0_1.length : Int)) (R (.n (.bool false))) (sel (decide ((a0_1.length : Int) < 24)) (R (.n (.bool false))) (sel (decide ((a0_1.length : Int) > 2048))
 (R (.n (.bool false))) ((rn 1) ∧ ((0 : Int) ≤ 10) ∧ ((10 : Int) ≤ (a0_0.length : Int)) ∧ (rn 1) ∧ ((0 : Int) ≤ 10) ∧ ((10 : Int) ≤ (a0_1.length : Int)) ∧ (0 = 0) ∧ (∃ x0 :
 Int,((Runs Fs2 45 [(aL [(Mir.D.sl 1 (List.drop 0 (List.take (Int.toNat 10) a0_0))),(Mir.D.sl 1 (List.drop 0 (List.take (Int.toNat 10) a0_1)))])] [] (aI x0) []) ∧ (R (.n (.bool (x0
 == 10))))))))))
theorem vc32 (a0_0 : LD) (a0_1 : LD) (R : Mir.AV → Prop) : Vc Fs2 c32.body (argsQ c32 [(.agg [(.o (.sl 1 a0_0)), (.o (.sl 1 a0_1))])]) [] (endQ c32 R) = V32 a0_0 a0_1 R := by kernel_rfl
def V48 (a0 : Int) (a1 : ByteArray) (R : Mir.AV → Prop) : Prop :=
 (sel (a0 != 1) (sel (a0 != 2) (R (.tup [(.agg [(.n (.bool false)),(.o (.sl 1 [])),(.o (.sl 1 [])),(.o (.sl 1 []))]),(.n (.int .i64 81))])) (∃ x0 : Int,(∃ x1 : Int,(∃ x2 :
 Int,((Runs Fs2 65 [(aS a1),(aI 0),(aI 1)] [] (.tup [(aI x0),(aI x1),(aI x2)]) []) ∧ (∃ x3 : (Int → (Int → ((Bool × ((Unit) × ((Unit) × ((Unit) × (Unit))))) → ((Bool × (Nat × (Nat ×
 (Nat × (Unit))))) → ((Nat × LD) → ((Nat × LD) → ((Nat × LD) → Prop))))))),(∃ x4 : (Int → (Int → ((Bool × ((Unit) × ((Unit) × ((Unit) × (Unit))))) → ((Bool × (Nat × (Nat × (Nat ×
 (Unit))))) → ((Nat × LD) → ((Nat × LD) → ((Nat × LD) → Nat))))))),(((rh [(hB 4800000 [(aB false),(.n Mir.D.nil),(.n Mir.D.nil),(.n Mir.D.nil)]),(hB 4800303 [(aB (a0 == 1)),(.row
 4801704 0),(.row 4802304 0),(.row 4801204 0)]),(4801204,(.row false true 0 3 1 [])),(4801704,(.row false true 0 9 1 [])),(4802304,(.row false true 0 9 1 []))]) ∧ (x3 x1 0
 (false,((),((),((),())))) ((a0 == 1),(0,(0,(0,())))) (0,[]) (0,[]) (0,[]))) ∧ (∀ x5 : Int,(∀ x6 : Int,(∀ x7 : (Bool × ((Unit) × ((Unit) × ((Unit) × (Unit))))),(∀ x8 : (Bool × (Nat
 × (Nat × (Nat × (Unit))))),(∀ x9 : (Nat × LD),(∀ x10 : (Nat × LD),(∀ x11 : (Nat × LD),((x3 x5 x6 x7 x8 x9 x10 x11) → (∀ x12 : (Nat → Mir.AV),(sel (decide (x6 < x0)) (sel (x2 == 0)
 (sel (a0 == 2) (∃ x13 : Int,(∃ x14 : Int,(∃ x15 : Int,((Runs Fs2 65 [(aS a1),(aI x5),(aI 2)] [] (.tup [(aI x13),(aI x14),(aI x15)]) []) ∧ (sel (x15 != 0) (R (.tup [(.agg [(.n
 (.bool false)),(.o (.sl 1 [])),(.o (.sl 1 [])),(.o (.sl 1 []))]),(.n (.int .i64 x15))])) ((rn 0) ∧ ((rn 1) ∨ (@Eq LD [(Mir.D.int .i64 x13)] [])) ∧ (((((Prod.fst x11) : Nat) =
 x8.2.2.2.1) ∧ (rn 3)) ∧ (rn 1)) ∧ (((((List.length (Prod.snd x11)) + (List.length [(Mir.D.int .i64 x13)])) * 8) : Nat) ≤ 140737488355328) ∧ (∃ x16 : ByteArray,(∃ x17 : Int,(∃ x18 :
 Int,((Runs Fs2 68 [(aS a1),(aI x14)] [] (.tup [(aS x16),(aI x17),(aI x18)]) []) ∧ (sel (x18 != 0) (R (.tup [(.agg [(.n (.bool false)),(.o (.sl 1 [])),(.o (.sl 1 [])),(.o (.sl 1
 []))]),(.n (.int .i64 x18))])) ((rn 0) ∧ ((rn 1) ∨ (@Eq LD [(Mir.D.str x16)] [])) ∧ (((((Prod.fst x9) : Nat) = x8.2.1) ∧ (rn 9)) ∧ (rn 1)) ∧ (((((List.length (Prod.snd x9)) +
 (List.length [(Mir.D.str x16)])) * 16) : Nat) ≤ 140737488355328) ∧ (sel (a0 == 1) (∃ x19 : ByteArray,(∃ x20 : Int,(∃ x21 : Int,((Runs Fs2 68 [(aS a1),(aI x17)] [] (.tup [(aS
 x19),(aI x20),(aI x21)]) []) ∧ (sel (x21 != 0) (R (.tup [(.agg [(.n (.bool false)),(.o (.sl 1 [])),(.o (.sl 1 [])),(.o (.sl 1 []))]),(.n (.int .i64 x21))])) ((rn 0) ∧ ((rn 1) ∨
 (@Eq LD [(Mir.D.str x19)] [])) ∧ (((((Prod.fst x10) : Nat) = x8.2.2.1) ∧ (rn 9)) ∧ (rn 1)) ∧ (((((List.length (Prod.snd x10)) + (List.length [(Mir.D.str x19)])) * 16) : Nat) ≤
 140737488355328) ∧ (rq (aI a0)) ∧ (rq (aS a1)) ∧ (rq (.ptr 4800000 0)) ∧ (rq (.ptr 4800303 0)) ∧ (rq (aI x0)) ∧ (rq (aI x2)) ∧ (rh [(hB 4800000 [(aB x7.1),(.n Mir.D.nil),(.n
 Mir.D.nil),(.n Mir.D.nil)]),(hB 4800303 [(aB x8.1),(.row 4801704 (x8.2.1 + 1)),(.row 4802304 (x8.2.2.1 + 1)),(.row 4801204 (x8.2.2.2.1 + 1))]),(4801204,(.row false true (x8.2.2.2.1
 + 1) 3 1 ((Prod.snd x11) ++ [(Mir.D.int .i64 x13)]))),(4801704,(.row false true (x8.2.1 + 1) 9 1 ((Prod.snd x9) ++ [(Mir.D.str x16)]))),(4802304,(.row false true (x8.2.2.1 + 1) 9 1
 ((Prod.snd x10) ++ [(Mir.D.str x19)])))]) ∧ (x3 x20 (IntKind.wrap .i64 (x6 + 1)) (x7.1,((),((),((),())))) (x8.1,((x8.2.1 + 1),((x8.2.2.1 + 1),((x8.2.2.2.1 + 1),())))) ((x8.2.1 +
 1),((Prod.snd x9) ++ [(Mir.D.str x16)])) ((x8.2.2.1 + 1),((Prod.snd x10) ++ [(Mir.D.str x19)])) ((x8.2.2.2.1 + 1),((Prod.snd x11) ++ [(Mir.D.int .i64 x13)]))) ∧ (((x4 x20
 (IntKind.wrap .i64 (x6 + 1)) (x7.1,((),((),((),())))) (x8.1,((x8.2.1 + 1),((x8.2.2.1 + 1),((x8.2.2.2.1 + 1),())))) ((x8.2.1 + 1),((Prod.snd x9) ++ [(Mir.D.str x16)])) ((x8.2.2.1 +
 1),((Prod.snd x10) ++ [(Mir.D.str x19)])) ((x8.2.2.2.1 + 1),((Prod.snd x11) ++ [(Mir.D.int .i64 x13)]))) : Nat) < (x4 x5 x6 x7 x8 x9 x10 x11)))))))) ((rq (aI a0)) ∧ (rq (aS a1)) ∧
 (rq (.ptr 4800000 0)) ∧ (rq (.ptr 4800303 0)) ∧ (rq (aI x0)) ∧ (rq (aI x2)) ∧ (rh [(hB 4800000 [(aB x7.1),(.n Mir.D.nil),(.n Mir.D.nil),(.n Mir.D.nil)]),(hB 4800303 [(aB
 x8.1),(.row 4801704 (x8.2.1 + 1)),(.row 4802304 x8.2.2.1),(.row 4801204 (x8.2.2.2.1 + 1))]),(4801204,(.row false true (x8.2.2.2.1 + 1) 3 1 ((Prod.snd x11) ++ [(Mir.D.int .i64
 x13)]))),(4801704,(.row false true (x8.2.1 + 1) 9 1 ((Prod.snd x9) ++ [(Mir.D.str x16)]))),(4802304,(.row false true (Prod.fst x10) 9 1 (Prod.snd x10)))]) ∧ (x3 x17 (IntKind.wrap
 .i64 (x6 + 1)) (x7.1,((),((),((),())))) (x8.1,((x8.2.1 + 1),(x8.2.2.1,((x8.2.2.2.1 + 1),())))) ((x8.2.1 + 1),((Prod.snd x9) ++ [(Mir.D.str x16)])) ((Prod.fst x10),(Prod.snd x10))
 ((x8.2.2.2.1 + 1),((Prod.snd x11) ++ [(Mir.D.int .i64 x13)]))) ∧ (((x4 x17 (IntKind.wrap .i64 (x6 + 1)) (x7.1,((),((),((),())))) (x8.1,((x8.2.1 + 1),(x8.2.2.1,((x8.2.2.2.1 +
 1),())))) ((x8.2.1 + 1),((Prod.snd x9) ++ [(Mir.D.str x16)])) ((Prod.fst x10),(Prod.snd x10)) ((x8.2.2.2.1 + 1),((Prod.snd x11) ++ [(Mir.D.int .i64 x13)]))) : Nat) < (x4 x5 x6 x7
 x8 x9 x10 x11)))))))))))))))) (∃ x22 : ByteArray,(∃ x23 : Int,(∃ x24 : Int,((Runs Fs2 68 [(aS a1),(aI x5)] [] (.tup [(aS x22),(aI x23),(aI x24)]) []) ∧ (sel (x24 != 0) (R (.tup
 [(.agg [(.n (.bool false)),(.o (.sl 1 [])),(.o (.sl 1 [])),(.o (.sl 1 []))]),(.n (.int .i64 x24))])) ((rn 0) ∧ ((rn 1) ∨ (@Eq LD [(Mir.D.str x22)] [])) ∧ (((((Prod.fst x9) : Nat) =
 x8.2.1) ∧ (rn 9)) ∧ (rn 1)) ∧ (((((List.length (Prod.snd x9)) + (List.length [(Mir.D.str x22)])) * 16) : Nat) ≤ 140737488355328) ∧ (sel (a0 == 1) (∃ x25 : ByteArray,(∃ x26 : Int,(∃
 x27 : Int,((Runs Fs2 68 [(aS a1),(aI x23)] [] (.tup [(aS x25),(aI x26),(aI x27)]) []) ∧ (sel (x27 != 0) (R (.tup [(.agg [(.n (.bool false)),(.o (.sl 1 [])),(.o (.sl 1 [])),(.o (.sl
 1 []))]),(.n (.int .i64 x27))])) ((rn 0) ∧ ((rn 1) ∨ (@Eq LD [(Mir.D.str x25)] [])) ∧ (((((Prod.fst x10) : Nat) = x8.2.2.1) ∧ (rn 9)) ∧ (rn 1)) ∧ (((((List.length (Prod.snd x10)) +
 (List.length [(Mir.D.str x25)])) * 16) : Nat) ≤ 140737488355328) ∧ (rq (aI a0)) ∧ (rq (aS a1)) ∧ (rq (.ptr 4800000 0)) ∧ (rq (.ptr 4800303 0)) ∧ (rq (aI x0)) ∧ (rq (aI x2)) ∧ (rh
 [(hB 4800000 [(aB x7.1),(.n Mir.D.nil),(.n Mir.D.nil),(.n Mir.D.nil)]),(hB 4800303 [(aB x8.1),(.row 4801704 (x8.2.1 + 1)),(.row 4802304 (x8.2.2.1 + 1)),(.row 4801204
 x8.2.2.2.1)]),(4801204,(.row false true (Prod.fst x11) 3 1 (Prod.snd x11))),(4801704,(.row false true (x8.2.1 + 1) 9 1 ((Prod.snd x9) ++ [(Mir.D.str x22)]))),(4802304,(.row false
 true (x8.2.2.1 + 1) 9 1 ((Prod.snd x10) ++ [(Mir.D.str x25)])))]) ∧ (x3 x26 (IntKind.wrap .i64 (x6 + 1)) (x7.1,((),((),((),())))) (x8.1,((x8.2.1 + 1),((x8.2.2.1 +
 1),(x8.2.2.2.1,())))) ((x8.2.1 + 1),((Prod.snd x9) ++ [(Mir.D.str x22)])) ((x8.2.2.1 + 1),((Prod.snd x10) ++ [(Mir.D.str x25)])) ((Prod.fst x11),(Prod.snd x11))) ∧ (((x4 x26
 (IntKind.wrap .i64 (x6 + 1)) (x7.1,((),((),((),())))) (x8.1,((x8.2.1 + 1),((x8.2.2.1 + 1),(x8.2.2.2.1,())))) ((x8.2.1 + 1),((Prod.snd x9) ++ [(Mir.D.str x22)])) ((x8.2.2.1 +
 1),((Prod.snd x10) ++ [(Mir.D.str x25)])) ((Prod.fst x11),(Prod.snd x11))) : Nat) < (x4 x5 x6 x7 x8 x9 x10 x11)))))))) ((rq (aI a0)) ∧ (rq (aS a1)) ∧ (rq (.ptr 4800000 0)) ∧ (rq
 (.ptr 4800303 0)) ∧ (rq (aI x0)) ∧ (rq (aI x2)) ∧ (rh [(hB 4800000 [(aB x7.1),(.n Mir.D.nil),(.n Mir.D.nil),(.n Mir.D.nil)]),(hB 4800303 [(aB x8.1),(.row 4801704 (x8.2.1 +
 1)),(.row 4802304 x8.2.2.1),(.row 4801204 x8.2.2.2.1)]),(4801204,(.row false true (Prod.fst x11) 3 1 (Prod.snd x11))),(4801704,(.row false true (x8.2.1 + 1) 9 1 ((Prod.snd x9) ++
 [(Mir.D.str x22)]))),(4802304,(.row false true (Prod.fst x10) 9 1 (Prod.snd x10)))]) ∧ (x3 x23 (IntKind.wrap .i64 (x6 + 1)) (x7.1,((),((),((),())))) (x8.1,((x8.2.1 +
 1),(x8.2.2.1,(x8.2.2.2.1,())))) ((x8.2.1 + 1),((Prod.snd x9) ++ [(Mir.D.str x22)])) ((Prod.fst x10),(Prod.snd x10)) ((Prod.fst x11),(Prod.snd x11))) ∧ (((x4 x23 (IntKind.wrap .i64
 (x6 + 1)) (x7.1,((),((),((),())))) (x8.1,((x8.2.1 + 1),(x8.2.2.1,(x8.2.2.2.1,())))) ((x8.2.1 + 1),((Prod.snd x9) ++ [(Mir.D.str x22)])) ((Prod.fst x10),(Prod.snd x10)) ((Prod.fst
 x11),(Prod.snd x11))) : Nat) < (x4 x5 x6 x7 x8 x9 x10 x11))))))))))) (sel (a0 == 2) (sel (x2 == 0) (∃ x28 : Int,(∃ x29 : Int,(∃ x30 : Int,((Runs Fs2 65 [(aS a1),(aI x5),(aI 2)] []
 (.tup [(aI x28),(aI x29),(aI x30)]) []) ∧ (rn 0) ∧ ((rn 1) ∨ (@Eq LD [(Mir.D.int .i64 x28)] [])) ∧ (((((Prod.fst x11) : Nat) = x8.2.2.2.1) ∧ (rn 3)) ∧ (rn 1)) ∧ (((((List.length
 (Prod.snd x11)) + (List.length [(Mir.D.int .i64 x28)])) * 8) : Nat) ≤ 140737488355328) ∧ (sel (x30 != 0) (R (.tup [(.agg [(.n (.bool false)),(.o (.sl 1 [])),(.o (.sl 1 [])),(.o
 (.sl 1 []))]),(.n (.int .i64 x30))])) (sel (x29 != (((ByteArray.size a1) : Nat) : Int)) (R (.tup [(.agg [(.n (.bool false)),(.o (.sl 1 [])),(.o (.sl 1 [])),(.o (.sl 1 []))]),(.n
 (.int .i64 4))])) (((Prod.fst x9) = x8.2.1) ∧ ((Prod.fst x10) = x8.2.2.1) ∧ ((x8.2.2.2.1 + 1) = (x8.2.2.2.1 + 1)) ∧ (∃ x31 : Bool,((Runs Fs2 49 [(.agg [(aB x8.1),(aL (Prod.snd
 x9)),(aL (Prod.snd x10)),(aL ((Prod.snd x11) ++ [(Mir.D.int .i64 x28)]))]),(aB true)] [] (aB x31) []) ∧ (sel (Bool.not x31) (R (.tup [(.agg [(.n (.bool false)),(.o (.sl 1 [])),(.o
 (.sl 1 [])),(.o (.sl 1 []))]),(.n (.int .i64 4))])) (((Prod.fst x9) = x8.2.1) ∧ ((Prod.fst x10) = x8.2.2.1) ∧ ((x8.2.2.2.1 + 1) = (x8.2.2.2.1 + 1)) ∧ (R (.tup [(.agg [(.n (.bool
 x8.1)),(.o (.sl 1 (Prod.snd x9))),(.o (.sl 1 (Prod.snd x10))),(.o (.sl 1 ((Prod.snd x11) ++ [(Mir.D.int .i64 x28)])))]),(.n (.int .i64 0))]))))))))))))) (sel (x2 != 0) (R (.tup
 [(.agg [(.n (.bool false)),(.o (.sl 1 [])),(.o (.sl 1 [])),(.o (.sl 1 []))]),(.n (.int .i64 x2))])) (sel (x5 != (((ByteArray.size a1) : Nat) : Int)) (R (.tup [(.agg [(.n (.bool
 false)),(.o (.sl 1 [])),(.o (.sl 1 [])),(.o (.sl 1 []))]),(.n (.int .i64 4))])) (((Prod.fst x9) = x8.2.1) ∧ ((Prod.fst x10) = x8.2.2.1) ∧ ((Prod.fst x11) = x8.2.2.2.1) ∧ (∃ x32 :
 Bool,((Runs Fs2 49 [(.agg [(aB x8.1),(aL (Prod.snd x9)),(aL (Prod.snd x10)),(aL (Prod.snd x11))]),(aB true)] [] (aB x32) []) ∧ (sel (Bool.not x32) (R (.tup [(.agg [(.n (.bool
 false)),(.o (.sl 1 [])),(.o (.sl 1 [])),(.o (.sl 1 []))]),(.n (.int .i64 4))])) (((Prod.fst x9) = x8.2.1) ∧ ((Prod.fst x10) = x8.2.2.1) ∧ ((Prod.fst x11) = x8.2.2.2.1) ∧ (R (.tup
 [(.agg [(.n (.bool x8.1)),(.o (.sl 1 (Prod.snd x9))),(.o (.sl 1 (Prod.snd x10))),(.o (.sl 1 (Prod.snd x11)))]),(.n (.int .i64 0))])))))))))) (sel (x2 != 0) (R (.tup [(.agg [(.n
 (.bool false)),(.o (.sl 1 [])),(.o (.sl 1 [])),(.o (.sl 1 []))]),(.n (.int .i64 x2))])) (sel (x5 != (((ByteArray.size a1) : Nat) : Int)) (R (.tup [(.agg [(.n (.bool false)),(.o
 (.sl 1 [])),(.o (.sl 1 [])),(.o (.sl 1 []))]),(.n (.int .i64 4))])) (((Prod.fst x9) = x8.2.1) ∧ ((Prod.fst x10) = x8.2.2.1) ∧ ((Prod.fst x11) = x8.2.2.2.1) ∧ (∃ x33 : Bool,((Runs
 Fs2 49 [(.agg [(aB x8.1),(aL (Prod.snd x9)),(aL (Prod.snd x10)),(aL (Prod.snd x11))]),(aB true)] [] (aB x33) []) ∧ (sel (Bool.not x33) (R (.tup [(.agg [(.n (.bool false)),(.o (.sl
 1 [])),(.o (.sl 1 [])),(.o (.sl 1 []))]),(.n (.int .i64 4))])) (((Prod.fst x9) = x8.2.1) ∧ ((Prod.fst x10) = x8.2.2.1) ∧ ((Prod.fst x11) = x8.2.2.2.1) ∧ (R (.tup [(.agg [(.n (.bool
 x8.1)),(.o (.sl 1 (Prod.snd x9))),(.o (.sl 1 (Prod.snd x10))),(.o (.sl 1 (Prod.snd x11)))]),(.n (.int .i64 0))]))))))))))) (sel (a0 == 2) (sel (x2 == 0) (∃ x34 : Int,(∃ x35 :
 Int,(∃ x36 : Int,((Runs Fs2 65 [(aS a1),(aI x5),(aI 2)] [] (.tup [(aI x34),(aI x35),(aI x36)]) []) ∧ (rn 0) ∧ ((rn 1) ∨ (@Eq LD [(Mir.D.int .i64 x34)] [])) ∧ (((((Prod.fst x11) :
 Nat) = x8.2.2.2.1) ∧ (rn 3)) ∧ (rn 1)) ∧ (((((List.length (Prod.snd x11)) + (List.length [(Mir.D.int .i64 x34)])) * 8) : Nat) ≤ 140737488355328) ∧ (sel (x36 != 0) (R (.tup [(.agg
 [(.n (.bool false)),(.o (.sl 1 [])),(.o (.sl 1 [])),(.o (.sl 1 []))]),(.n (.int .i64 x36))])) (sel (x35 != (((ByteArray.size a1) : Nat) : Int)) (R (.tup [(.agg [(.n (.bool
 false)),(.o (.sl 1 [])),(.o (.sl 1 [])),(.o (.sl 1 []))]),(.n (.int .i64 4))])) (((Prod.fst x9) = x8.2.1) ∧ ((Prod.fst x10) = x8.2.2.1) ∧ ((x8.2.2.2.1 + 1) = (x8.2.2.2.1 + 1)) ∧ (∃
 x37 : Bool,((Runs Fs2 49 [(.agg [(aB x8.1),(aL (Prod.snd x9)),(aL (Prod.snd x10)),(aL ((Prod.snd x11) ++ [(Mir.D.int .i64 x34)]))]),(aB true)] [] (aB x37) []) ∧ (sel (Bool.not x37)
 (R (.tup [(.agg [(.n (.bool false)),(.o (.sl 1 [])),(.o (.sl 1 [])),(.o (.sl 1 []))]),(.n (.int .i64 4))])) (((Prod.fst x9) = x8.2.1) ∧ ((Prod.fst x10) = x8.2.2.1) ∧ ((x8.2.2.2.1 +
 1) = (x8.2.2.2.1 + 1)) ∧ (R (.tup [(.agg [(.n (.bool x8.1)),(.o (.sl 1 (Prod.snd x9))),(.o (.sl 1 (Prod.snd x10))),(.o (.sl 1 ((Prod.snd x11) ++ [(Mir.D.int .i64 x34)])))]),(.n
 (.int .i64 0))]))))))))))))) (sel (x2 != 0) (R (.tup [(.agg [(.n (.bool false)),(.o (.sl 1 [])),(.o (.sl 1 [])),(.o (.sl 1 []))]),(.n (.int .i64 x2))])) (sel (x5 !=
 (((ByteArray.size a1) : Nat) : Int)) (R (.tup [(.agg [(.n (.bool false)),(.o (.sl 1 [])),(.o (.sl 1 [])),(.o (.sl 1 []))]),(.n (.int .i64 4))])) (((Prod.fst x9) = x8.2.1) ∧
 ((Prod.fst x10) = x8.2.2.1) ∧ ((Prod.fst x11) = x8.2.2.2.1) ∧ (∃ x38 : Bool,((Runs Fs2 49 [(.agg [(aB x8.1),(aL (Prod.snd x9)),(aL (Prod.snd x10)),(aL (Prod.snd x11))]),(aB true)]
 [] (aB x38) []) ∧ (sel (Bool.not x38) (R (.tup [(.agg [(.n (.bool false)),(.o (.sl 1 [])),(.o (.sl 1 [])),(.o (.sl 1 []))]),(.n (.int .i64 4))])) (((Prod.fst x9) = x8.2.1) ∧
 ((Prod.fst x10) = x8.2.2.1) ∧ ((Prod.fst x11) = x8.2.2.2.1) ∧ (R (.tup [(.agg [(.n (.bool x8.1)),(.o (.sl 1 (Prod.snd x9))),(.o (.sl 1 (Prod.snd x10))),(.o (.sl 1 (Prod.snd
 x11)))]),(.n (.int .i64 0))])))))))))) (sel (x2 != 0) (R (.tup [(.agg [(.n (.bool false)),(.o (.sl 1 [])),(.o (.sl 1 [])),(.o (.sl 1 []))]),(.n (.int .i64 x2))])) (sel (x5 !=
 (((ByteArray.size a1) : Nat) : Int)) (R (.tup [(.agg [(.n (.bool false)),(.o (.sl 1 [])),(.o (.sl 1 [])),(.o (.sl 1 []))]),(.n (.int .i64 4))])) (((Prod.fst x9) = x8.2.1) ∧
 ((Prod.fst x10) = x8.2.2.1) ∧ ((Prod.fst x11) = x8.2.2.2.1) ∧ (∃ x39 : Bool,((Runs Fs2 49 [(.agg [(aB x8.1),(aL (Prod.snd x9)),(aL (Prod.snd x10)),(aL (Prod.snd x11))]),(aB true)]
 [] (aB x39) []) ∧ (sel (Bool.not x39) (R (.tup [(.agg [(.n (.bool false)),(.o (.sl 1 [])),(.o (.sl 1 [])),(.o (.sl 1 []))]),(.n (.int .i64 4))])) (((Prod.fst x9) = x8.2.1) ∧
 ((Prod.fst x10) = x8.2.2.1) ∧ ((Prod.fst x11) = x8.2.2.2.1) ∧ (R (.tup [(.agg [(.n (.bool x8.1)),(.o (.sl 1 (Prod.snd x9))),(.o (.sl 1 (Prod.snd x10))),(.o (.sl 1 (Prod.snd
 x11)))]),(.n (.int .i64 0))])))))))))))))))))))))))))))) (∃ x40 : Int,(∃ x41 : Int,(∃ x42 : Int,((Runs Fs2 65 [(aS a1),(aI 0),(aI 1)] [] (.tup [(aI x40),(aI x41),(aI x42)]) []) ∧
 (∃ x43 : (Int → (Int → ((Bool × ((Unit) × ((Unit) × ((Unit) × (Unit))))) → ((Bool × (Nat × (Nat × (Nat × (Unit))))) → ((Nat × LD) → ((Nat × LD) → ((Nat × LD) → Prop))))))),(∃ x44 :
 (Int → (Int → ((Bool × ((Unit) × ((Unit) × ((Unit) × (Unit))))) → ((Bool × (Nat × (Nat × (Nat × (Unit))))) → ((Nat × LD) → ((Nat × LD) → ((Nat × LD) → Nat))))))),(((rh [(hB 4800000
 [(aB false),(.n Mir.D.nil),(.n Mir.D.nil),(.n Mir.D.nil)]),(hB 4800303 [(aB (a0 == 1)),(.row 4801704 0),(.row 4802304 0),(.row 4801204 0)]),(4801204,(.row false true 0 3 1
 [])),(4801704,(.row false true 0 9 1 [])),(4802304,(.row false true 0 9 1 []))]) ∧ (x43 x41 0 (false,((),((),((),())))) ((a0 == 1),(0,(0,(0,())))) (0,[]) (0,[]) (0,[]))) ∧ (∀ x45 :
 Int,(∀ x46 : Int,(∀ x47 : (Bool × ((Unit) × ((Unit) × ((Unit) × (Unit))))),(∀ x48 : (Bool × (Nat × (Nat × (Nat × (Unit))))),(∀ x49 : (Nat × LD),(∀ x50 : (Nat × LD),(∀ x51 : (Nat ×
 LD),((x43 x45 x46 x47 x48 x49 x50 x51) → (∀ x52 : (Nat → Mir.AV),(sel (decide (x46 < x40)) (sel (x42 == 0) (sel (a0 == 2) (∃ x53 : Int,(∃ x54 : Int,(∃ x55 : Int,((Runs Fs2 65 [(aS
 a1),(aI x45),(aI 2)] [] (.tup [(aI x53),(aI x54),(aI x55)]) []) ∧ (sel (x55 != 0) (R (.tup [(.agg [(.n (.bool false)),(.o (.sl 1 [])),(.o (.sl 1 [])),(.o (.sl 1 []))]),(.n (.int
 .i64 x55))])) ((rn 0) ∧ ((rn 1) ∨ (@Eq LD [(Mir.D.int .i64 x53)] [])) ∧ (((((Prod.fst x51) : Nat) = x48.2.2.2.1) ∧ (rn 3)) ∧ (rn 1)) ∧ (((((List.length (Prod.snd x51)) +
 (List.length [(Mir.D.int .i64 x53)])) * 8) : Nat) ≤ 140737488355328) ∧ (∃ x56 : ByteArray,(∃ x57 : Int,(∃ x58 : Int,((Runs Fs2 68 [(aS a1),(aI x54)] [] (.tup [(aS x56),(aI x57),(aI
 x58)]) []) ∧ (sel (x58 != 0) (R (.tup [(.agg [(.n (.bool false)),(.o (.sl 1 [])),(.o (.sl 1 [])),(.o (.sl 1 []))]),(.n (.int .i64 x58))])) ((rn 0) ∧ ((rn 1) ∨ (@Eq LD [(Mir.D.str
 x56)] [])) ∧ (((((Prod.fst x49) : Nat) = x48.2.1) ∧ (rn 9)) ∧ (rn 1)) ∧ (((((List.length (Prod.snd x49)) + (List.length [(Mir.D.str x56)])) * 16) : Nat) ≤ 140737488355328) ∧ (sel
 (a0 == 1) (∃ x59 : ByteArray,(∃ x60 : Int,(∃ x61 : Int,((Runs Fs2 68 [(aS a1),(aI x57)] [] (.tup [(aS x59),(aI x60),(aI x61)]) []) ∧ (sel (x61 != 0) (R (.tup [(.agg [(.n (.bool
 false)),(.o (.sl 1 [])),(.o (.sl 1 [])),(.o (.sl 1 []))]),(.n (.int .i64 x61))])) ((rn 0) ∧ ((rn 1) ∨ (@Eq LD [(Mir.D.str x59)] [])) ∧ (((((Prod.fst x50) : Nat) = x48.2.2.1) ∧ (rn
 9)) ∧ (rn 1)) ∧ (((((List.length (Prod.snd x50)) + (List.length [(Mir.D.str x59)])) * 16) : Nat) ≤ 140737488355328) ∧ (rq (aI a0)) ∧ (rq (aS a1)) ∧ (rq (.ptr 4800000 0)) ∧ (rq
 (.ptr 4800303 0)) ∧ (rq (aI x40)) ∧ (rq (aI x42)) ∧ (rh [(hB 4800000 [(aB x47.1),(.n Mir.D.nil),(.n Mir.D.nil),(.n Mir.D.nil)]),(hB 4800303 [(aB x48.1),(.row 4801704 (x48.2.1 +
 1)),(.row 4802304 (x48.2.2.1 + 1)),(.row 4801204 (x48.2.2.2.1 + 1))]),(4801204,(.row false true (x48.2.2.2.1 + 1) 3 1 ((Prod.snd x51) ++ [(Mir.D.int .i64 x53)]))),(4801704,(.row
 false true (x48.2.1 + 1) 9 1 ((Prod.snd x49) ++ [(Mir.D.str x56)]))),(4802304,(.row false true (x48.2.2.1 + 1) 9 1 ((Prod.snd x50) ++ [(Mir.D.str x59)])))]) ∧ (x43 x60
 (IntKind.wrap .i64 (x46 + 1)) (x47.1,((),((),((),())))) (x48.1,((x48.2.1 + 1),((x48.2.2.1 + 1),((x48.2.2.2.1 + 1),())))) ((x48.2.1 + 1),((Prod.snd x49) ++ [(Mir.D.str x56)]))
 ((x48.2.2.1 + 1),((Prod.snd x50) ++ [(Mir.D.str x59)])) ((x48.2.2.2.1 + 1),((Prod.snd x51) ++ [(Mir.D.int .i64 x53)]))) ∧ (((x44 x60 (IntKind.wrap .i64 (x46 + 1))
 (x47.1,((),((),((),())))) (x48.1,((x48.2.1 + 1),((x48.2.2.1 + 1),((x48.2.2.2.1 + 1),())))) ((x48.2.1 + 1),((Prod.snd x49) ++ [(Mir.D.str x56)])) ((x48.2.2.1 + 1),((Prod.snd x50) ++
 [(Mir.D.str x59)])) ((x48.2.2.2.1 + 1),((Prod.snd x51) ++ [(Mir.D.int .i64 x53)]))) : Nat) < (x44 x45 x46 x47 x48 x49 x50 x51)))))))) ((rq (aI a0)) ∧ (rq (aS a1)) ∧ (rq (.ptr
 4800000 0)) ∧ (rq (.ptr 4800303 0)) ∧ (rq (aI x40)) ∧ (rq (aI x42)) ∧ (rh [(hB 4800000 [(aB x47.1),(.n Mir.D.nil),(.n Mir.D.nil),(.n Mir.D.nil)]),(hB 4800303 [(aB x48.1),(.row
 4801704 (x48.2.1 + 1)),(.row 4802304 x48.2.2.1),(.row 4801204 (x48.2.2.2.1 + 1))]),(4801204,(.row false true (x48.2.2.2.1 + 1) 3 1 ((Prod.snd x51) ++ [(Mir.D.int .i64
 x53)]))),(4801704,(.row false true (x48.2.1 + 1) 9 1 ((Prod.snd x49) ++ [(Mir.D.str x56)]))),(4802304,(.row false true (Prod.fst x50) 9 1 (Prod.snd x50)))]) ∧ (x43 x57
 (IntKind.wrap .i64 (x46 + 1)) (x47.1,((),((),((),())))) (x48.1,((x48.2.1 + 1),(x48.2.2.1,((x48.2.2.2.1 + 1),())))) ((x48.2.1 + 1),((Prod.snd x49) ++ [(Mir.D.str x56)])) ((Prod.fst
 x50),(Prod.snd x50)) ((x48.2.2.2.1 + 1),((Prod.snd x51) ++ [(Mir.D.int .i64 x53)]))) ∧ (((x44 x57 (IntKind.wrap .i64 (x46 + 1)) (x47.1,((),((),((),())))) (x48.1,((x48.2.1 +
 1),(x48.2.2.1,((x48.2.2.2.1 + 1),())))) ((x48.2.1 + 1),((Prod.snd x49) ++ [(Mir.D.str x56)])) ((Prod.fst x50),(Prod.snd x50)) ((x48.2.2.2.1 + 1),((Prod.snd x51) ++ [(Mir.D.int .i64
 x53)]))) : Nat) < (x44 x45 x46 x47 x48 x49 x50 x51)))))))))))))))) (∃ x62 : ByteArray,(∃ x63 : Int,(∃ x64 : Int,((Runs Fs2 68 [(aS a1),(aI x45)] [] (.tup [(aS x62),(aI x63),(aI
 x64)]) []) ∧ (sel (x64 != 0) (R (.tup [(.agg [(.n (.bool false)),(.o (.sl 1 [])),(.o (.sl 1 [])),(.o (.sl 1 []))]),(.n (.int .i64 x64))])) ((rn 0) ∧ ((rn 1) ∨ (@Eq LD [(Mir.D.str
 x62)] [])) ∧ (((((Prod.fst x49) : Nat) = x48.2.1) ∧ (rn 9)) ∧ (rn 1)) ∧ (((((List.length (Prod.snd x49)) + (List.length [(Mir.D.str x62)])) * 16) : Nat) ≤ 140737488355328) ∧ (sel
 (a0 == 1) (∃ x65 : ByteArray,(∃ x66 : Int,(∃ x67 : Int,((Runs Fs2 68 [(aS a1),(aI x63)] [] (.tup [(aS x65),(aI x66),(aI x67)]) []) ∧ (sel (x67 != 0) (R (.tup [(.agg [(.n (.bool
 false)),(.o (.sl 1 [])),(.o (.sl 1 [])),(.o (.sl 1 []))]),(.n (.int .i64 x67))])) ((rn 0) ∧ ((rn 1) ∨ (@Eq LD [(Mir.D.str x65)] [])) ∧ (((((Prod.fst x50) : Nat) = x48.2.2.1) ∧ (rn
 9)) ∧ (rn 1)) ∧ (((((List.length (Prod.snd x50)) + (List.length [(Mir.D.str x65)])) * 16) : Nat) ≤ 140737488355328) ∧ (rq (aI a0)) ∧ (rq (aS a1)) ∧ (rq (.ptr 4800000 0)) ∧ (rq
 (.ptr 4800303 0)) ∧ (rq (aI x40)) ∧ (rq (aI x42)) ∧ (rh [(hB 4800000 [(aB x47.1),(.n Mir.D.nil),(.n Mir.D.nil),(.n Mir.D.nil)]),(hB 4800303 [(aB x48.1),(.row 4801704 (x48.2.1 +
 1)),(.row 4802304 (x48.2.2.1 + 1)),(.row 4801204 x48.2.2.2.1)]),(4801204,(.row false true (Prod.fst x51) 3 1 (Prod.snd x51))),(4801704,(.row false true (x48.2.1 + 1) 9 1 ((Prod.snd
 x49) ++ [(Mir.D.str x62)]))),(4802304,(.row false true (x48.2.2.1 + 1) 9 1 ((Prod.snd x50) ++ [(Mir.D.str x65)])))]) ∧ (x43 x66 (IntKind.wrap .i64 (x46 + 1))
 (x47.1,((),((),((),())))) (x48.1,((x48.2.1 + 1),((x48.2.2.1 + 1),(x48.2.2.2.1,())))) ((x48.2.1 + 1),((Prod.snd x49) ++ [(Mir.D.str x62)])) ((x48.2.2.1 + 1),((Prod.snd x50) ++
 [(Mir.D.str x65)])) ((Prod.fst x51),(Prod.snd x51))) ∧ (((x44 x66 (IntKind.wrap .i64 (x46 + 1)) (x47.1,((),((),((),())))) (x48.1,((x48.2.1 + 1),((x48.2.2.1 + 1),(x48.2.2.2.1,()))))
 ((x48.2.1 + 1),((Prod.snd x49) ++ [(Mir.D.str x62)])) ((x48.2.2.1 + 1),((Prod.snd x50) ++ [(Mir.D.str x65)])) ((Prod.fst x51),(Prod.snd x51))) : Nat) < (x44 x45 x46 x47 x48 x49 x50
 x51)))))))) ((rq (aI a0)) ∧ (rq (aS a1)) ∧ (rq (.ptr 4800000 0)) ∧ (rq (.ptr 4800303 0)) ∧ (rq (aI x40)) ∧ (rq (aI x42)) ∧ (rh [(hB 4800000 [(aB x47.1),(.n Mir.D.nil),(.n
 Mir.D.nil),(.n Mir.D.nil)]),(hB 4800303 [(aB x48.1),(.row 4801704 (x48.2.1 + 1)),(.row 4802304 x48.2.2.1),(.row 4801204 x48.2.2.2.1)]),(4801204,(.row false true (Prod.fst x51) 3 1
 (Prod.snd x51))),(4801704,(.row false true (x48.2.1 + 1) 9 1 ((Prod.snd x49) ++ [(Mir.D.str x62)]))),(4802304,(.row false true (Prod.fst x50) 9 1 (Prod.snd x50)))]) ∧ (x43 x63
 (IntKind.wrap .i64 (x46 + 1)) (x47.1,((),((),((),())))) (x48.1,((x48.2.1 + 1),(x48.2.2.1,(x48.2.2.2.1,())))) ((x48.2.1 + 1),((Prod.snd x49) ++ [(Mir.D.str x62)])) ((Prod.fst
 x50),(Prod.snd x50)) ((Prod.fst x51),(Prod.snd x51))) ∧ (((x44 x63 (IntKind.wrap .i64 (x46 + 1)) (x47.1,((),((),((),())))) (x48.1,((x48.2.1 + 1),(x48.2.2.1,(x48.2.2.2.1,()))))
 ((x48.2.1 + 1),((Prod.snd x49) ++ [(Mir.D.str x62)])) ((Prod.fst x50),(Prod.snd x50)) ((Prod.fst x51),(Prod.snd x51))) : Nat) < (x44 x45 x46 x47 x48 x49 x50 x51))))))))))) (sel (a0
 == 2) (sel (x42 == 0) (∃ x68 : Int,(∃ x69 : Int,(∃ x70 : Int,((Runs Fs2 65 [(aS a1),(aI x45),(aI 2)] [] (.tup [(aI x68),(aI x69),(aI x70)]) []) ∧ (rn 0) ∧ ((rn 1) ∨ (@Eq LD
 [(Mir.D.int .i64 x68)] [])) ∧ (((((Prod.fst x51) : Nat) = x48.2.2.2.1) ∧ (rn 3)) ∧ (rn 1)) ∧ (((((List.length (Prod.snd x51)) + (List.length [(Mir.D.int .i64 x68)])) * 8) : Nat) ≤
 140737488355328) ∧ (sel (x70 != 0) (R (.tup [(.agg [(.n (.bool false)),(.o (.sl 1 [])),(.o (.sl 1 [])),(.o (.sl 1 []))]),(.n (.int .i64 x70))])) (sel (x69 != (((ByteArray.size a1)
 : Nat) : Int)) (R (.tup [(.agg [(.n (.bool false)),(.o (.sl 1 [])),(.o (.sl 1 [])),(.o (.sl 1 []))]),(.n (.int .i64 4))])) (((Prod.fst x49) = x48.2.1) ∧ ((Prod.fst x50) =
 x48.2.2.1) ∧ ((x48.2.2.2.1 + 1) = (x48.2.2.2.1 + 1)) ∧ (∃ x71 : Bool,((Runs Fs2 49 [(.agg [(aB x48.1),(aL (Prod.snd x49)),(aL (Prod.snd x50)),(aL ((Prod.snd x51) ++ [(Mir.D.int
 .i64 x68)]))]),(aB true)] [] (aB x71) []) ∧ (sel (Bool.not x71) (R (.tup [(.agg [(.n (.bool false)),(.o (.sl 1 [])),(.o (.sl 1 [])),(.o (.sl 1 []))]),(.n (.int .i64 4))]))
 (((Prod.fst x49) = x48.2.1) ∧ ((Prod.fst x50) = x48.2.2.1) ∧ ((x48.2.2.2.1 + 1) = (x48.2.2.2.1 + 1)) ∧ (R (.tup [(.agg [(.n (.bool x48.1)),(.o (.sl 1 (Prod.snd x49))),(.o (.sl 1
 (Prod.snd x50))),(.o (.sl 1 ((Prod.snd x51) ++ [(Mir.D.int .i64 x68)])))]),(.n (.int .i64 0))]))))))))))))) (sel (x42 != 0) (R (.tup [(.agg [(.n (.bool false)),(.o (.sl 1 [])),(.o
 (.sl 1 [])),(.o (.sl 1 []))]),(.n (.int .i64 x42))])) (sel (x45 != (((ByteArray.size a1) : Nat) : Int)) (R (.tup [(.agg [(.n (.bool false)),(.o (.sl 1 [])),(.o (.sl 1 [])),(.o (.sl
 1 []))]),(.n (.int .i64 4))])) (((Prod.fst x49) = x48.2.1) ∧ ((Prod.fst x50) = x48.2.2.1) ∧ ((Prod.fst x51) = x48.2.2.2.1) ∧ (∃ x72 : Bool,((Runs Fs2 49 [(.agg [(aB x48.1),(aL
 (Prod.snd x49)),(aL (Prod.snd x50)),(aL (Prod.snd x51))]),(aB true)] [] (aB x72) []) ∧ (sel (Bool.not x72) (R (.tup [(.agg [(.n (.bool false)),(.o (.sl 1 [])),(.o (.sl 1 [])),(.o
 (.sl 1 []))]),(.n (.int .i64 4))])) (((Prod.fst x49) = x48.2.1) ∧ ((Prod.fst x50) = x48.2.2.1) ∧ ((Prod.fst x51) = x48.2.2.2.1) ∧ (R (.tup [(.agg [(.n (.bool x48.1)),(.o (.sl 1
 (Prod.snd x49))),(.o (.sl 1 (Prod.snd x50))),(.o (.sl 1 (Prod.snd x51)))]),(.n (.int .i64 0))])))))))))) (sel (x42 != 0) (R (.tup [(.agg [(.n (.bool false)),(.o (.sl 1 [])),(.o
 (.sl 1 [])),(.o (.sl 1 []))]),(.n (.int .i64 x42))])) (sel (x45 != (((ByteArray.size a1) : Nat) : Int)) (R (.tup [(.agg [(.n (.bool false)),(.o (.sl 1 [])),(.o (.sl 1 [])),(.o (.sl
 1 []))]),(.n (.int .i64 4))])) (((Prod.fst x49) = x48.2.1) ∧ ((Prod.fst x50) = x48.2.2.1) ∧ ((Prod.fst x51) = x48.2.2.2.1) ∧ (∃ x73 : Bool,((Runs Fs2 49 [(.agg [(aB x48.1),(aL
 (Prod.snd x49)),(aL (Prod.snd x50)),(aL (Prod.snd x51))]),(aB true)] [] (aB x73) []) ∧ (sel (Bool.not x73) (R (.tup [(.agg [(.n (.bool false)),(.o (.sl 1 [])),(.o (.sl 1 [])),(.o
 (.sl 1 []))]),(.n (.int .i64 4))])) (((Prod.fst x49) = x48.2.1) ∧ ((Prod.fst x50) = x48.2.2.1) ∧ ((Prod.fst x51) = x48.2.2.2.1) ∧ (R (.tup [(.agg [(.n (.bool x48.1)),(.o (.sl 1
 (Prod.snd x49))),(.o (.sl 1 (Prod.snd x50))),(.o (.sl 1 (Prod.snd x51)))]),(.n (.int .i64 0))]))))))))))) (sel (a0 == 2) (sel (x42 == 0) (∃ x74 : Int,(∃ x75 : Int,(∃ x76 :
 Int,((Runs Fs2 65 [(aS a1),(aI x45),(aI 2)] [] (.tup [(aI x74),(aI x75),(aI x76)]) []) ∧ (rn 0) ∧ ((rn 1) ∨ (@Eq LD [(Mir.D.int .i64 x74)] [])) ∧ (((((Prod.fst x51) : Nat) =
 x48.2.2.2.1) ∧ (rn 3)) ∧ (rn 1)) ∧ (((((List.length (Prod.snd x51)) + (List.length [(Mir.D.int .i64 x74)])) * 8) : Nat) ≤ 140737488355328) ∧ (sel (x76 != 0) (R (.tup [(.agg [(.n
 (.bool false)),(.o (.sl 1 [])),(.o (.sl 1 [])),(.o (.sl 1 []))]),(.n (.int .i64 x76))])) (sel (x75 != (((ByteArray.size a1) : Nat) : Int)) (R (.tup [(.agg [(.n (.bool false)),(.o
 (.sl 1 [])),(.o (.sl 1 [])),(.o (.sl 1 []))]),(.n (.int .i64 4))])) (((Prod.fst x49) = x48.2.1) ∧ ((Prod.fst x50) = x48.2.2.1) ∧ ((x48.2.2.2.1 + 1) = (x48.2.2.2.1 + 1)) ∧ (∃ x77 :
 Bool,((Runs Fs2 49 [(.agg [(aB x48.1),(aL (Prod.snd x49)),(aL (Prod.snd x50)),(aL ((Prod.snd x51) ++ [(Mir.D.int .i64 x74)]))]),(aB true)] [] (aB x77) []) ∧ (sel (Bool.not x77) (R
 (.tup [(.agg [(.n (.bool false)),(.o (.sl 1 [])),(.o (.sl 1 [])),(.o (.sl 1 []))]),(.n (.int .i64 4))])) (((Prod.fst x49) = x48.2.1) ∧ ((Prod.fst x50) = x48.2.2.1) ∧ ((x48.2.2.2.1
 + 1) = (x48.2.2.2.1 + 1)) ∧ (R (.tup [(.agg [(.n (.bool x48.1)),(.o (.sl 1 (Prod.snd x49))),(.o (.sl 1 (Prod.snd x50))),(.o (.sl 1 ((Prod.snd x51) ++ [(Mir.D.int .i64
 x74)])))]),(.n (.int .i64 0))]))))))))))))) (sel (x42 != 0) (R (.tup [(.agg [(.n (.bool false)),(.o (.sl 1 [])),(.o (.sl 1 [])),(.o (.sl 1 []))]),(.n (.int .i64 x42))])) (sel (x45
 != (((ByteArray.size a1) : Nat) : Int)) (R (.tup [(.agg [(.n (.bool false)),(.o (.sl 1 [])),(.o (.sl 1 [])),(.o (.sl 1 []))]),(.n (.int .i64 4))])) (((Prod.fst x49) = x48.2.1) ∧
 ((Prod.fst x50) = x48.2.2.1) ∧ ((Prod.fst x51) = x48.2.2.2.1) ∧ (∃ x78 : Bool,((Runs Fs2 49 [(.agg [(aB x48.1),(aL (Prod.snd x49)),(aL (Prod.snd x50)),(aL (Prod.snd x51))]),(aB
 true)] [] (aB x78) []) ∧ (sel (Bool.not x78) (R (.tup [(.agg [(.n (.bool false)),(.o (.sl 1 [])),(.o (.sl 1 [])),(.o (.sl 1 []))]),(.n (.int .i64 4))])) (((Prod.fst x49) = x48.2.1)
 ∧ ((Prod.fst x50) = x48.2.2.1) ∧ ((Prod.fst x51) = x48.2.2.2.1) ∧ (R (.tup [(.agg [(.n (.bool x48.1)),(.o (.sl 1 (Prod.snd x49))),(.o (.sl 1 (Prod.snd x50))),(.o (.sl 1 (Prod.snd
 x51)))]),(.n (.int .i64 0))])))))))))) (sel (x42 != 0) (R (.tup [(.agg [(.n (.bool false)),(.o (.sl 1 [])),(.o (.sl 1 [])),(.o (.sl 1 []))]),(.n (.int .i64 x42))])) (sel (x45 !=
 (((ByteArray.size a1) : Nat) : Int)) (R (.tup [(.agg [(.n (.bool false)),(.o (.sl 1 [])),(.o (.sl 1 [])),(.o (.sl 1 []))]),(.n (.int .i64 4))])) (((Prod.fst x49) = x48.2.1) ∧
 ((Prod.fst x50) = x48.2.2.1) ∧ ((Prod.fst x51) = x48.2.2.2.1) ∧ (∃ x79 : Bool,((Runs Fs2 49 [(.agg [(aB x48.1),(aL (Prod.snd x49)),(aL (Prod.snd x50)),(aL (Prod.snd x51))]),(aB
 true)] [] (aB x79) []) ∧ (sel (Bool.not x79) (R (.tup [(.agg [(.n (.bool false)),(.o (.sl 1 [])),(.o (.sl 1 [])),(.o (.sl 1 []))]),(.n (.int .i64 4))])) (((Prod.fst x49) = x48.2.1)
 ∧ ((Prod.fst x50) = x48.2.2.1) ∧ ((Prod.fst x51) = x48.2.2.2.1) ∧ (R (.tup [(.agg [(.n (.bool x48.1)),(.o (.sl 1 (Prod.snd x49))),(.o (.sl 1 (Prod.snd x50))),(.o (.sl 1 (Prod.snd
 x51)))]),(.n (.int .i64 0))]))))))))))))))))))))))))))))
theorem vc48 (a0 : Int) (a1 : ByteArray) (R : Mir.AV → Prop) : Vc Fs2 c48.body (argsQ c48 [(.n (.int .i64 a0)), (.n (.str a1))]) [] (endQ c48 R) = V48 a0 a1 R := by kernel_rfl
def V49 (a0_0 : Bool) (a0_1 : LD) (a0_2 : LD) (a0_3 : LD) (a1 : Bool) (R : Mir.AV → Prop) : Prop :=
 (∃ x0 : Bool,((Runs Fs2 69 [(.agg [(aB a0_0),(aL a0_1),(aL a0_2),(aL a0_3)])] [] (aB x0) []) ∧ (sel x0 (sel (decide ((a0_1.length : Int) ≤ 8)) (sel a1 (R (.n (.bool true))) (R (.n
 (.bool (decide ((a0_1.length : Int) ≥ 4)))))) (R (.n (.bool false)))) (R (.n (.bool false))))))
theorem vc49 (a0_0 : Bool) (a0_1 : LD) (a0_2 : LD) (a0_3 : LD) (a1 : Bool) (R : Mir.AV → Prop) : Vc Fs2 c49.body (argsQ c49 [(.agg [(.n (.bool a0_0)), (.o (.sl 1 a0_1)), (.o (.sl 1 a0_2)), (.o (.sl 1 a0_3))]), (.n (.bool a1))]) [] (endQ c49 R) = V49 a0_0 a0_1 a0_2 a0_3 a1 R := by kernel_rfl
def V39 (a0 : Int) (a1 : ByteArray) (R : Mir.AV → Prop) : Prop :=
 (sel (a0 != 1) (sel (a0 != 2) (R (.tup [(.agg [(.n (.bool false)),(.o (.sl 1 [])),(.o (.sl 1 [])),(.o (.sl 1 []))]),(.n (.int .i64 81))])) (∃ x0 : Int,(∃ x1 : ByteArray,(∃ x2 :
 Int,(∃ x3 : Int,((Runs Fs2 52 [(.ptr 3900302 0),(aI 1)] [(hB 3900302 [(aS a1),(aI 0),(aI 0)])] (aI x0) [(hB 3900302 [(aS x1),(aI x2),(aI x3)])]) ∧ (∃ x4 : (Int → ((ByteArray × (Int
 × (Int × (Unit)))) → ((Bool × (Nat × (Nat × (Nat × (Unit))))) → ((Nat × LD) → ((Nat × LD) → ((Nat × LD) → Prop)))))),(∃ x5 : (Int → ((ByteArray × (Int × (Int × (Unit)))) → ((Bool ×
 (Nat × (Nat × (Nat × (Unit))))) → ((Nat × LD) → ((Nat × LD) → ((Nat × LD) → Nat)))))),(((rh [(hB 3900000 [(aB false),(.n Mir.D.nil),(.n Mir.D.nil),(.n Mir.D.nil)]),(hB 3900302 [(aS
 x1),(aI x2),(aI x3)]),(hB 3900403 [(aB (a0 == 1)),(.row 3990001 0),(.row 3990002 0),(.row 3990003 0)]),(3990001,(.row false true 0 9 1 [])),(3990002,(.row false true 0 9 1
 [])),(3990003,(.row false true 0 3 1 []))]) ∧ (x4 0 (x1,(x2,(x3,()))) ((a0 == 1),(0,(0,(0,())))) (0,[]) (0,[]) (0,[]))) ∧ (∀ x6 : Int,(∀ x7 : (ByteArray × (Int × (Int ×
 (Unit)))),(∀ x8 : (Bool × (Nat × (Nat × (Nat × (Unit))))),(∀ x9 : (Nat × LD),(∀ x10 : (Nat × LD),(∀ x11 : (Nat × LD),((x4 x6 x7 x8 x9 x10 x11) → (∀ x12 : (Nat → Mir.AV),(sel
 (decide (x6 < x0)) (sel (x7.2.2.1 == 0) (sel x8.1 (∃ x13 : ByteArray,(∃ x14 : ByteArray,(∃ x15 : Int,(∃ x16 : Int,((Runs Fs2 53 [(.ptr 3900302 0)] [(hB 3900302 [(aS x7.1),(aI
 x7.2.1),(aI x7.2.2.1)])] (aS x13) [(hB 3900302 [(aS x14),(aI x15),(aI x16)])]) ∧ (rn 0) ∧ ((rn 1) ∨ (@Eq LD [(Mir.D.str x13)] [])) ∧ (((((Prod.fst x9) : Nat) = x8.2.1) ∧ (rn 9)) ∧
 (rn 1)) ∧ (((((List.length (Prod.snd x9)) + (List.length [(Mir.D.str x13)])) * 16) : Nat) ≤ 140737488355328) ∧ (∃ x17 : ByteArray,(∃ x18 : ByteArray,(∃ x19 : Int,(∃ x20 :
 Int,((Runs Fs2 53 [(.ptr 3900302 0)] [(hB 3900302 [(aS x14),(aI x15),(aI x16)])] (aS x17) [(hB 3900302 [(aS x18),(aI x19),(aI x20)])]) ∧ (rn 0) ∧ ((rn 1) ∨ (@Eq LD [(Mir.D.str
 x17)] [])) ∧ (((((Prod.fst x10) : Nat) = x8.2.2.1) ∧ (rn 9)) ∧ (rn 1)) ∧ (((((List.length (Prod.snd x10)) + (List.length [(Mir.D.str x17)])) * 16) : Nat) ≤ 140737488355328) ∧ (rq
 (aS a1)) ∧ (rq (.ptr 3900000 0)) ∧ (rq (.ptr 3900302 0)) ∧ (rq (.ptr 3900403 0)) ∧ (rq (aI x0)) ∧ (rh [(hB 3900000 [(aB false),(.n Mir.D.nil),(.n Mir.D.nil),(.n Mir.D.nil)]),(hB
 3900302 [(aS x18),(aI x19),(aI x20)]),(hB 3900403 [(aB x8.1),(.row 3990001 (x8.2.1 + 1)),(.row 3990002 (x8.2.2.1 + 1)),(.row 3990003 x8.2.2.2.1)]),(3990001,(.row false true (x8.2.1
 + 1) 9 1 ((Prod.snd x9) ++ [(Mir.D.str x13)]))),(3990002,(.row false true (x8.2.2.1 + 1) 9 1 ((Prod.snd x10) ++ [(Mir.D.str x17)]))),(3990003,(.row false true (Prod.fst x11) 3 1
 (Prod.snd x11)))]) ∧ (x4 (IntKind.wrap .i64 (x6 + 1)) (x18,(x19,(x20,()))) (x8.1,((x8.2.1 + 1),((x8.2.2.1 + 1),(x8.2.2.2.1,())))) ((x8.2.1 + 1),((Prod.snd x9) ++ [(Mir.D.str
 x13)])) ((x8.2.2.1 + 1),((Prod.snd x10) ++ [(Mir.D.str x17)])) ((Prod.fst x11),(Prod.snd x11))) ∧ (((x5 (IntKind.wrap .i64 (x6 + 1)) (x18,(x19,(x20,()))) (x8.1,((x8.2.1 +
 1),((x8.2.2.1 + 1),(x8.2.2.2.1,())))) ((x8.2.1 + 1),((Prod.snd x9) ++ [(Mir.D.str x13)])) ((x8.2.2.1 + 1),((Prod.snd x10) ++ [(Mir.D.str x17)])) ((Prod.fst x11),(Prod.snd x11))) :
 Nat) < (x5 x6 x7 x8 x9 x10 x11)))))))))))) (∃ x21 : Int,(∃ x22 : ByteArray,(∃ x23 : Int,(∃ x24 : Int,((Runs Fs2 52 [(.ptr 3900302 0),(aI 2)] [(hB 3900302 [(aS x7.1),(aI x7.2.1),(aI
 x7.2.2.1)])] (aI x21) [(hB 3900302 [(aS x22),(aI x23),(aI x24)])]) ∧ (rn 0) ∧ ((rn 1) ∨ (@Eq LD [(Mir.D.int .i64 x21)] [])) ∧ (((((Prod.fst x11) : Nat) = x8.2.2.2.1) ∧ (rn 3)) ∧
 (rn 1)) ∧ (((((List.length (Prod.snd x11)) + (List.length [(Mir.D.int .i64 x21)])) * 8) : Nat) ≤ 140737488355328) ∧ (∃ x25 : ByteArray,(∃ x26 : ByteArray,(∃ x27 : Int,(∃ x28 :
 Int,((Runs Fs2 53 [(.ptr 3900302 0)] [(hB 3900302 [(aS x22),(aI x23),(aI x24)])] (aS x25) [(hB 3900302 [(aS x26),(aI x27),(aI x28)])]) ∧ (rn 0) ∧ ((rn 1) ∨ (@Eq LD [(Mir.D.str
 x25)] [])) ∧ (((((Prod.fst x9) : Nat) = x8.2.1) ∧ (rn 9)) ∧ (rn 1)) ∧ (((((List.length (Prod.snd x9)) + (List.length [(Mir.D.str x25)])) * 16) : Nat) ≤ 140737488355328) ∧ (rq (aS
 a1)) ∧ (rq (.ptr 3900000 0)) ∧ (rq (.ptr 3900302 0)) ∧ (rq (.ptr 3900403 0)) ∧ (rq (aI x0)) ∧ (rh [(hB 3900000 [(aB false),(.n Mir.D.nil),(.n Mir.D.nil),(.n Mir.D.nil)]),(hB
 3900302 [(aS x26),(aI x27),(aI x28)]),(hB 3900403 [(aB x8.1),(.row 3990001 (x8.2.1 + 1)),(.row 3990002 x8.2.2.1),(.row 3990003 (x8.2.2.2.1 + 1))]),(3990001,(.row false true (x8.2.1
 + 1) 9 1 ((Prod.snd x9) ++ [(Mir.D.str x25)]))),(3990002,(.row false true (Prod.fst x10) 9 1 (Prod.snd x10))),(3990003,(.row false true (x8.2.2.2.1 + 1) 3 1 ((Prod.snd x11) ++
 [(Mir.D.int .i64 x21)])))]) ∧ (x4 (IntKind.wrap .i64 (x6 + 1)) (x26,(x27,(x28,()))) (x8.1,((x8.2.1 + 1),(x8.2.2.1,((x8.2.2.2.1 + 1),())))) ((x8.2.1 + 1),((Prod.snd x9) ++
 [(Mir.D.str x25)])) ((Prod.fst x10),(Prod.snd x10)) ((x8.2.2.2.1 + 1),((Prod.snd x11) ++ [(Mir.D.int .i64 x21)]))) ∧ (((x5 (IntKind.wrap .i64 (x6 + 1)) (x26,(x27,(x28,())))
 (x8.1,((x8.2.1 + 1),(x8.2.2.1,((x8.2.2.2.1 + 1),())))) ((x8.2.1 + 1),((Prod.snd x9) ++ [(Mir.D.str x25)])) ((Prod.fst x10),(Prod.snd x10)) ((x8.2.2.2.1 + 1),((Prod.snd x11) ++
 [(Mir.D.int .i64 x21)]))) : Nat) < (x5 x6 x7 x8 x9 x10 x11))))))))))))) (sel (Bool.not x8.1) (∃ x29 : Int,(∃ x30 : ByteArray,(∃ x31 : Int,(∃ x32 : Int,((Runs Fs2 52 [(.ptr 3900302
 0),(aI 2)] [(hB 3900302 [(aS x7.1),(aI x7.2.1),(aI x7.2.2.1)])] (aI x29) [(hB 3900302 [(aS x30),(aI x31),(aI x32)])]) ∧ (rn 0) ∧ ((rn 1) ∨ (@Eq LD [(Mir.D.int .i64 x29)] [])) ∧
 (((((Prod.fst x11) : Nat) = x8.2.2.2.1) ∧ (rn 3)) ∧ (rn 1)) ∧ (((((List.length (Prod.snd x11)) + (List.length [(Mir.D.int .i64 x29)])) * 8) : Nat) ≤ 140737488355328) ∧ (sel (x32 !=
 0) (R (.tup [(.agg [(.n (.bool false)),(.o (.sl 1 [])),(.o (.sl 1 [])),(.o (.sl 1 []))]),(.n (.int .i64 x32))])) (sel (x31 != (((ByteArray.size a1) : Nat) : Int)) (R (.tup [(.agg
 [(.n (.bool false)),(.o (.sl 1 [])),(.o (.sl 1 [])),(.o (.sl 1 []))]),(.n (.int .i64 4))])) (((Prod.fst x9) = x8.2.1) ∧ ((Prod.fst x10) = x8.2.2.1) ∧ ((x8.2.2.2.1 + 1) =
 (x8.2.2.2.1 + 1)) ∧ (∃ x33 : Bool,((Runs Fs2 40 [(.agg [(aB x8.1),(aL (Prod.snd x9)),(aL (Prod.snd x10)),(aL ((Prod.snd x11) ++ [(Mir.D.int .i64 x29)]))]),(aB true)] [] (aB x33)
 []) ∧ (sel (Bool.not x33) (R (.tup [(.agg [(.n (.bool false)),(.o (.sl 1 [])),(.o (.sl 1 [])),(.o (.sl 1 []))]),(.n (.int .i64 4))])) (((Prod.fst x9) = x8.2.1) ∧ ((Prod.fst x10) =
 x8.2.2.1) ∧ ((x8.2.2.2.1 + 1) = (x8.2.2.2.1 + 1)) ∧ (R (.tup [(.agg [(.n (.bool x8.1)),(.o (.sl 1 (Prod.snd x9))),(.o (.sl 1 (Prod.snd x10))),(.o (.sl 1 ((Prod.snd x11) ++
 [(Mir.D.int .i64 x29)])))]),(.n (.int .i64 0))])))))))))))))) (sel (x7.2.2.1 != 0) (R (.tup [(.agg [(.n (.bool false)),(.o (.sl 1 [])),(.o (.sl 1 [])),(.o (.sl 1 []))]),(.n (.int
 .i64 x7.2.2.1))])) (sel (x7.2.1 != (((ByteArray.size a1) : Nat) : Int)) (R (.tup [(.agg [(.n (.bool false)),(.o (.sl 1 [])),(.o (.sl 1 [])),(.o (.sl 1 []))]),(.n (.int .i64 4))]))
 (((Prod.fst x9) = x8.2.1) ∧ ((Prod.fst x10) = x8.2.2.1) ∧ ((Prod.fst x11) = x8.2.2.2.1) ∧ (∃ x34 : Bool,((Runs Fs2 40 [(.agg [(aB x8.1),(aL (Prod.snd x9)),(aL (Prod.snd x10)),(aL
 (Prod.snd x11))]),(aB true)] [] (aB x34) []) ∧ (sel (Bool.not x34) (R (.tup [(.agg [(.n (.bool false)),(.o (.sl 1 [])),(.o (.sl 1 [])),(.o (.sl 1 []))]),(.n (.int .i64 4))]))
 (((Prod.fst x9) = x8.2.1) ∧ ((Prod.fst x10) = x8.2.2.1) ∧ ((Prod.fst x11) = x8.2.2.2.1) ∧ (R (.tup [(.agg [(.n (.bool x8.1)),(.o (.sl 1 (Prod.snd x9))),(.o (.sl 1 (Prod.snd
 x10))),(.o (.sl 1 (Prod.snd x11)))]),(.n (.int .i64 0))]))))))))))) (sel (Bool.not x8.1) (∃ x35 : Int,(∃ x36 : ByteArray,(∃ x37 : Int,(∃ x38 : Int,((Runs Fs2 52 [(.ptr 3900302
 0),(aI 2)] [(hB 3900302 [(aS x7.1),(aI x7.2.1),(aI x7.2.2.1)])] (aI x35) [(hB 3900302 [(aS x36),(aI x37),(aI x38)])]) ∧ (rn 0) ∧ ((rn 1) ∨ (@Eq LD [(Mir.D.int .i64 x35)] [])) ∧
 (((((Prod.fst x11) : Nat) = x8.2.2.2.1) ∧ (rn 3)) ∧ (rn 1)) ∧ (((((List.length (Prod.snd x11)) + (List.length [(Mir.D.int .i64 x35)])) * 8) : Nat) ≤ 140737488355328) ∧ (sel (x38 !=
 0) (R (.tup [(.agg [(.n (.bool false)),(.o (.sl 1 [])),(.o (.sl 1 [])),(.o (.sl 1 []))]),(.n (.int .i64 x38))])) (sel (x37 != (((ByteArray.size a1) : Nat) : Int)) (R (.tup [(.agg
 [(.n (.bool false)),(.o (.sl 1 [])),(.o (.sl 1 [])),(.o (.sl 1 []))]),(.n (.int .i64 4))])) (((Prod.fst x9) = x8.2.1) ∧ ((Prod.fst x10) = x8.2.2.1) ∧ ((x8.2.2.2.1 + 1) =
 (x8.2.2.2.1 + 1)) ∧ (∃ x39 : Bool,((Runs Fs2 40 [(.agg [(aB x8.1),(aL (Prod.snd x9)),(aL (Prod.snd x10)),(aL ((Prod.snd x11) ++ [(Mir.D.int .i64 x35)]))]),(aB true)] [] (aB x39)
 []) ∧ (sel (Bool.not x39) (R (.tup [(.agg [(.n (.bool false)),(.o (.sl 1 [])),(.o (.sl 1 [])),(.o (.sl 1 []))]),(.n (.int .i64 4))])) (((Prod.fst x9) = x8.2.1) ∧ ((Prod.fst x10) =
 x8.2.2.1) ∧ ((x8.2.2.2.1 + 1) = (x8.2.2.2.1 + 1)) ∧ (R (.tup [(.agg [(.n (.bool x8.1)),(.o (.sl 1 (Prod.snd x9))),(.o (.sl 1 (Prod.snd x10))),(.o (.sl 1 ((Prod.snd x11) ++
 [(Mir.D.int .i64 x35)])))]),(.n (.int .i64 0))])))))))))))))) (sel (x7.2.2.1 != 0) (R (.tup [(.agg [(.n (.bool false)),(.o (.sl 1 [])),(.o (.sl 1 [])),(.o (.sl 1 []))]),(.n (.int
 .i64 x7.2.2.1))])) (sel (x7.2.1 != (((ByteArray.size a1) : Nat) : Int)) (R (.tup [(.agg [(.n (.bool false)),(.o (.sl 1 [])),(.o (.sl 1 [])),(.o (.sl 1 []))]),(.n (.int .i64 4))]))
 (((Prod.fst x9) = x8.2.1) ∧ ((Prod.fst x10) = x8.2.2.1) ∧ ((Prod.fst x11) = x8.2.2.2.1) ∧ (∃ x40 : Bool,((Runs Fs2 40 [(.agg [(aB x8.1),(aL (Prod.snd x9)),(aL (Prod.snd x10)),(aL
 (Prod.snd x11))]),(aB true)] [] (aB x40) []) ∧ (sel (Bool.not x40) (R (.tup [(.agg [(.n (.bool false)),(.o (.sl 1 [])),(.o (.sl 1 [])),(.o (.sl 1 []))]),(.n (.int .i64 4))]))
 (((Prod.fst x9) = x8.2.1) ∧ ((Prod.fst x10) = x8.2.2.1) ∧ ((Prod.fst x11) = x8.2.2.2.1) ∧ (R (.tup [(.agg [(.n (.bool x8.1)),(.o (.sl 1 (Prod.snd x9))),(.o (.sl 1 (Prod.snd
 x10))),(.o (.sl 1 (Prod.snd x11)))]),(.n (.int .i64 0))])))))))))))))))))))))))))))) (∃ x41 : Int,(∃ x42 : ByteArray,(∃ x43 : Int,(∃ x44 : Int,((Runs Fs2 52 [(.ptr 3900302 0),(aI
 1)] [(hB 3900302 [(aS a1),(aI 0),(aI 0)])] (aI x41) [(hB 3900302 [(aS x42),(aI x43),(aI x44)])]) ∧ (∃ x45 : (Int → ((ByteArray × (Int × (Int × (Unit)))) → ((Bool × (Nat × (Nat ×
 (Nat × (Unit))))) → ((Nat × LD) → ((Nat × LD) → ((Nat × LD) → Prop)))))),(∃ x46 : (Int → ((ByteArray × (Int × (Int × (Unit)))) → ((Bool × (Nat × (Nat × (Nat × (Unit))))) → ((Nat ×
 LD) → ((Nat × LD) → ((Nat × LD) → Nat)))))),(((rh [(hB 3900000 [(aB false),(.n Mir.D.nil),(.n Mir.D.nil),(.n Mir.D.nil)]),(hB 3900302 [(aS x42),(aI x43),(aI x44)]),(hB 3900403 [(aB
 (a0 == 1)),(.row 3990001 0),(.row 3990002 0),(.row 3990003 0)]),(3990001,(.row false true 0 9 1 [])),(3990002,(.row false true 0 9 1 [])),(3990003,(.row false true 0 3 1 []))]) ∧
 (x45 0 (x42,(x43,(x44,()))) ((a0 == 1),(0,(0,(0,())))) (0,[]) (0,[]) (0,[]))) ∧ (∀ x47 : Int,(∀ x48 : (ByteArray × (Int × (Int × (Unit)))),(∀ x49 : (Bool × (Nat × (Nat × (Nat ×
 (Unit))))),(∀ x50 : (Nat × LD),(∀ x51 : (Nat × LD),(∀ x52 : (Nat × LD),((x45 x47 x48 x49 x50 x51 x52) → (∀ x53 : (Nat → Mir.AV),(sel (decide (x47 < x41)) (sel (x48.2.2.1 == 0) (sel
 x49.1 (∃ x54 : ByteArray,(∃ x55 : ByteArray,(∃ x56 : Int,(∃ x57 : Int,((Runs Fs2 53 [(.ptr 3900302 0)] [(hB 3900302 [(aS x48.1),(aI x48.2.1),(aI x48.2.2.1)])] (aS x54) [(hB 3900302
 [(aS x55),(aI x56),(aI x57)])]) ∧ (rn 0) ∧ ((rn 1) ∨ (@Eq LD [(Mir.D.str x54)] [])) ∧ (((((Prod.fst x50) : Nat) = x49.2.1) ∧ (rn 9)) ∧ (rn 1)) ∧ (((((List.length (Prod.snd x50)) +
 (List.length [(Mir.D.str x54)])) * 16) : Nat) ≤ 140737488355328) ∧ (∃ x58 : ByteArray,(∃ x59 : ByteArray,(∃ x60 : Int,(∃ x61 : Int,((Runs Fs2 53 [(.ptr 3900302 0)] [(hB 3900302
 [(aS x55),(aI x56),(aI x57)])] (aS x58) [(hB 3900302 [(aS x59),(aI x60),(aI x61)])]) ∧ (rn 0) ∧ ((rn 1) ∨ (@Eq LD [(Mir.D.str x58)] [])) ∧ (((((Prod.fst x51) : Nat) = x49.2.2.1) ∧
 (rn 9)) ∧ (rn 1)) ∧ (((((List.length (Prod.snd x51)) + (List.length [(Mir.D.str x58)])) * 16) : Nat) ≤ 140737488355328) ∧ (rq (aS a1)) ∧ (rq (.ptr 3900000 0)) ∧ (rq (.ptr 3900302
 0)) ∧ (rq (.ptr 3900403 0)) ∧ (rq (aI x41)) ∧ (rh [(hB 3900000 [(aB false),(.n Mir.D.nil),(.n Mir.D.nil),(.n Mir.D.nil)]),(hB 3900302 [(aS x59),(aI x60),(aI x61)]),(hB 3900403 [(aB
 x49.1),(.row 3990001 (x49.2.1 + 1)),(.row 3990002 (x49.2.2.1 + 1)),(.row 3990003 x49.2.2.2.1)]),(3990001,(.row false true (x49.2.1 + 1) 9 1 ((Prod.snd x50) ++ [(Mir.D.str
 x54)]))),(3990002,(.row false true (x49.2.2.1 + 1) 9 1 ((Prod.snd x51) ++ [(Mir.D.str x58)]))),(3990003,(.row false true (Prod.fst x52) 3 1 (Prod.snd x52)))]) ∧ (x45 (IntKind.wrap
 .i64 (x47 + 1)) (x59,(x60,(x61,()))) (x49.1,((x49.2.1 + 1),((x49.2.2.1 + 1),(x49.2.2.2.1,())))) ((x49.2.1 + 1),((Prod.snd x50) ++ [(Mir.D.str x54)])) ((x49.2.2.1 + 1),((Prod.snd
 x51) ++ [(Mir.D.str x58)])) ((Prod.fst x52),(Prod.snd x52))) ∧ (((x46 (IntKind.wrap .i64 (x47 + 1)) (x59,(x60,(x61,()))) (x49.1,((x49.2.1 + 1),((x49.2.2.1 + 1),(x49.2.2.2.1,()))))
 ((x49.2.1 + 1),((Prod.snd x50) ++ [(Mir.D.str x54)])) ((x49.2.2.1 + 1),((Prod.snd x51) ++ [(Mir.D.str x58)])) ((Prod.fst x52),(Prod.snd x52))) : Nat) < (x46 x47 x48 x49 x50 x51
 x52)))))))))))) (∃ x62 : Int,(∃ x63 : ByteArray,(∃ x64 : Int,(∃ x65 : Int,((Runs Fs2 52 [(.ptr 3900302 0),(aI 2)] [(hB 3900302 [(aS x48.1),(aI x48.2.1),(aI x48.2.2.1)])] (aI x62)
 [(hB 3900302 [(aS x63),(aI x64),(aI x65)])]) ∧ (rn 0) ∧ ((rn 1) ∨ (@Eq LD [(Mir.D.int .i64 x62)] [])) ∧ (((((Prod.fst x52) : Nat) = x49.2.2.2.1) ∧ (rn 3)) ∧ (rn 1)) ∧
 (((((List.length (Prod.snd x52)) + (List.length [(Mir.D.int .i64 x62)])) * 8) : Nat) ≤ 140737488355328) ∧ (∃ x66 : ByteArray,(∃ x67 : ByteArray,(∃ x68 : Int,(∃ x69 : Int,((Runs Fs2
 53 [(.ptr 3900302 0)] [(hB 3900302 [(aS x63),(aI x64),(aI x65)])] (aS x66) [(hB 3900302 [(aS x67),(aI x68),(aI x69)])]) ∧ (rn 0) ∧ ((rn 1) ∨ (@Eq LD [(Mir.D.str x66)] [])) ∧
 (((((Prod.fst x50) : Nat) = x49.2.1) ∧ (rn 9)) ∧ (rn 1)) ∧ (((((List.length (Prod.snd x50)) + (List.length [(Mir.D.str x66)])) * 16) : Nat) ≤ 140737488355328) ∧ (rq (aS a1)) ∧ (rq
 (.ptr 3900000 0)) ∧ (rq (.ptr 3900302 0)) ∧ (rq (.ptr 3900403 0)) ∧ (rq (aI x41)) ∧ (rh [(hB 3900000 [(aB false),(.n Mir.D.nil),(.n Mir.D.nil),(.n Mir.D.nil)]),(hB 3900302 [(aS
 x67),(aI x68),(aI x69)]),(hB 3900403 [(aB x49.1),(.row 3990001 (x49.2.1 + 1)),(.row 3990002 x49.2.2.1),(.row 3990003 (x49.2.2.2.1 + 1))]),(3990001,(.row false true (x49.2.1 + 1) 9
 1 ((Prod.snd x50) ++ [(Mir.D.str x66)]))),(3990002,(.row false true (Prod.fst x51) 9 1 (Prod.snd x51))),(3990003,(.row false true (x49.2.2.2.1 + 1) 3 1 ((Prod.snd x52) ++
 [(Mir.D.int .i64 x62)])))]) ∧ (x45 (IntKind.wrap .i64 (x47 + 1)) (x67,(x68,(x69,()))) (x49.1,((x49.2.1 + 1),(x49.2.2.1,((x49.2.2.2.1 + 1),())))) ((x49.2.1 + 1),((Prod.snd x50) ++
 [(Mir.D.str x66)])) ((Prod.fst x51),(Prod.snd x51)) ((x49.2.2.2.1 + 1),((Prod.snd x52) ++ [(Mir.D.int .i64 x62)]))) ∧ (((x46 (IntKind.wrap .i64 (x47 + 1)) (x67,(x68,(x69,())))
 (x49.1,((x49.2.1 + 1),(x49.2.2.1,((x49.2.2.2.1 + 1),())))) ((x49.2.1 + 1),((Prod.snd x50) ++ [(Mir.D.str x66)])) ((Prod.fst x51),(Prod.snd x51)) ((x49.2.2.2.1 + 1),((Prod.snd x52)
 ++ [(Mir.D.int .i64 x62)]))) : Nat) < (x46 x47 x48 x49 x50 x51 x52))))))))))))) (sel (Bool.not x49.1) (∃ x70 : Int,(∃ x71 : ByteArray,(∃ x72 : Int,(∃ x73 : Int,((Runs Fs2 52 [(.ptr
 3900302 0),(aI 2)] [(hB 3900302 [(aS x48.1),(aI x48.2.1),(aI x48.2.2.1)])] (aI x70) [(hB 3900302 [(aS x71),(aI x72),(aI x73)])]) ∧ (rn 0) ∧ ((rn 1) ∨ (@Eq LD [(Mir.D.int .i64 x70)]
 [])) ∧ (((((Prod.fst x52) : Nat) = x49.2.2.2.1) ∧ (rn 3)) ∧ (rn 1)) ∧ (((((List.length (Prod.snd x52)) + (List.length [(Mir.D.int .i64 x70)])) * 8) : Nat) ≤ 140737488355328) ∧ (sel
 (x73 != 0) (R (.tup [(.agg [(.n (.bool false)),(.o (.sl 1 [])),(.o (.sl 1 [])),(.o (.sl 1 []))]),(.n (.int .i64 x73))])) (sel (x72 != (((ByteArray.size a1) : Nat) : Int)) (R (.tup
 [(.agg [(.n (.bool false)),(.o (.sl 1 [])),(.o (.sl 1 [])),(.o (.sl 1 []))]),(.n (.int .i64 4))])) (((Prod.fst x50) = x49.2.1) ∧ ((Prod.fst x51) = x49.2.2.1) ∧ ((x49.2.2.2.1 + 1) =
 (x49.2.2.2.1 + 1)) ∧ (∃ x74 : Bool,((Runs Fs2 40 [(.agg [(aB x49.1),(aL (Prod.snd x50)),(aL (Prod.snd x51)),(aL ((Prod.snd x52) ++ [(Mir.D.int .i64 x70)]))]),(aB true)] [] (aB x74)
 []) ∧ (sel (Bool.not x74) (R (.tup [(.agg [(.n (.bool false)),(.o (.sl 1 [])),(.o (.sl 1 [])),(.o (.sl 1 []))]),(.n (.int .i64 4))])) (((Prod.fst x50) = x49.2.1) ∧ ((Prod.fst x51)
 = x49.2.2.1) ∧ ((x49.2.2.2.1 + 1) = (x49.2.2.2.1 + 1)) ∧ (R (.tup [(.agg [(.n (.bool x49.1)),(.o (.sl 1 (Prod.snd x50))),(.o (.sl 1 (Prod.snd x51))),(.o (.sl 1 ((Prod.snd x52) ++
 [(Mir.D.int .i64 x70)])))]),(.n (.int .i64 0))])))))))))))))) (sel (x48.2.2.1 != 0) (R (.tup [(.agg [(.n (.bool false)),(.o (.sl 1 [])),(.o (.sl 1 [])),(.o (.sl 1 []))]),(.n (.int
 .i64 x48.2.2.1))])) (sel (x48.2.1 != (((ByteArray.size a1) : Nat) : Int)) (R (.tup [(.agg [(.n (.bool false)),(.o (.sl 1 [])),(.o (.sl 1 [])),(.o (.sl 1 []))]),(.n (.int .i64
 4))])) (((Prod.fst x50) = x49.2.1) ∧ ((Prod.fst x51) = x49.2.2.1) ∧ ((Prod.fst x52) = x49.2.2.2.1) ∧ (∃ x75 : Bool,((Runs Fs2 40 [(.agg [(aB x49.1),(aL (Prod.snd x50)),(aL
 (Prod.snd x51)),(aL (Prod.snd x52))]),(aB true)] [] (aB x75) []) ∧ (sel (Bool.not x75) (R (.tup [(.agg [(.n (.bool false)),(.o (.sl 1 [])),(.o (.sl 1 [])),(.o (.sl 1 []))]),(.n
 (.int .i64 4))])) (((Prod.fst x50) = x49.2.1) ∧ ((Prod.fst x51) = x49.2.2.1) ∧ ((Prod.fst x52) = x49.2.2.2.1) ∧ (R (.tup [(.agg [(.n (.bool x49.1)),(.o (.sl 1 (Prod.snd x50))),(.o
 (.sl 1 (Prod.snd x51))),(.o (.sl 1 (Prod.snd x52)))]),(.n (.int .i64 0))]))))))))))) (sel (Bool.not x49.1) (∃ x76 : Int,(∃ x77 : ByteArray,(∃ x78 : Int,(∃ x79 : Int,((Runs Fs2 52
 [(.ptr 3900302 0),(aI 2)] [(hB 3900302 [(aS x48.1),(aI x48.2.1),(aI x48.2.2.1)])] (aI x76) [(hB 3900302 [(aS x77),(aI x78),(aI x79)])]) ∧ (rn 0) ∧ ((rn 1) ∨ (@Eq LD [(Mir.D.int
 .i64 x76)] [])) ∧ (((((Prod.fst x52) : Nat) = x49.2.2.2.1) ∧ (rn 3)) ∧ (rn 1)) ∧ (((((List.length (Prod.snd x52)) + (List.length [(Mir.D.int .i64 x76)])) * 8) : Nat) ≤
 140737488355328) ∧ (sel (x79 != 0) (R (.tup [(.agg [(.n (.bool false)),(.o (.sl 1 [])),(.o (.sl 1 [])),(.o (.sl 1 []))]),(.n (.int .i64 x79))])) (sel (x78 != (((ByteArray.size a1)
 : Nat) : Int)) (R (.tup [(.agg [(.n (.bool false)),(.o (.sl 1 [])),(.o (.sl 1 [])),(.o (.sl 1 []))]),(.n (.int .i64 4))])) (((Prod.fst x50) = x49.2.1) ∧ ((Prod.fst x51) =
 x49.2.2.1) ∧ ((x49.2.2.2.1 + 1) = (x49.2.2.2.1 + 1)) ∧ (∃ x80 : Bool,((Runs Fs2 40 [(.agg [(aB x49.1),(aL (Prod.snd x50)),(aL (Prod.snd x51)),(aL ((Prod.snd x52) ++ [(Mir.D.int
 .i64 x76)]))]),(aB true)] [] (aB x80) []) ∧ (sel (Bool.not x80) (R (.tup [(.agg [(.n (.bool false)),(.o (.sl 1 [])),(.o (.sl 1 [])),(.o (.sl 1 []))]),(.n (.int .i64 4))]))
 (((Prod.fst x50) = x49.2.1) ∧ ((Prod.fst x51) = x49.2.2.1) ∧ ((x49.2.2.2.1 + 1) = (x49.2.2.2.1 + 1)) ∧ (R (.tup [(.agg [(.n (.bool x49.1)),(.o (.sl 1 (Prod.snd x50))),(.o (.sl 1
 (Prod.snd x51))),(.o (.sl 1 ((Prod.snd x52) ++ [(Mir.D.int .i64 x76)])))]),(.n (.int .i64 0))])))))))))))))) (sel (x48.2.2.1 != 0) (R (.tup [(.agg [(.n (.bool false)),(.o (.sl 1
 [])),(.o (.sl 1 [])),(.o (.sl 1 []))]),(.n (.int .i64 x48.2.2.1))])) (sel (x48.2.1 != (((ByteArray.size a1) : Nat) : Int)) (R (.tup [(.agg [(.n (.bool false)),(.o (.sl 1 [])),(.o
 (.sl 1 [])),(.o (.sl 1 []))]),(.n (.int .i64 4))])) (((Prod.fst x50) = x49.2.1) ∧ ((Prod.fst x51) = x49.2.2.1) ∧ ((Prod.fst x52) = x49.2.2.2.1) ∧ (∃ x81 : Bool,((Runs Fs2 40 [(.agg
 [(aB x49.1),(aL (Prod.snd x50)),(aL (Prod.snd x51)),(aL (Prod.snd x52))]),(aB true)] [] (aB x81) []) ∧ (sel (Bool.not x81) (R (.tup [(.agg [(.n (.bool false)),(.o (.sl 1 [])),(.o
 (.sl 1 [])),(.o (.sl 1 []))]),(.n (.int .i64 4))])) (((Prod.fst x50) = x49.2.1) ∧ ((Prod.fst x51) = x49.2.2.1) ∧ ((Prod.fst x52) = x49.2.2.2.1) ∧ (R (.tup [(.agg [(.n (.bool
 x49.1)),(.o (.sl 1 (Prod.snd x50))),(.o (.sl 1 (Prod.snd x51))),(.o (.sl 1 (Prod.snd x52)))]),(.n (.int .i64 0))]))))))))))))))))))))))))))))
theorem vc39 (a0 : Int) (a1 : ByteArray) (R : Mir.AV → Prop) : Vc Fs2 c39.body (argsQ c39 [(.n (.int .i64 a0)), (.n (.str a1))]) [] (endQ c39 R) = V39 a0 a1 R := by kernel_rfl
def V40 (a0_0 : Bool) (a0_1 : LD) (a0_2 : LD) (a0_3 : LD) (a1 : Bool) (R : Mir.AV → Prop) : Prop :=
 (∃ x0 : Bool,((Runs Fs2 41 [(.agg [(aB a0_0),(aL a0_1),(aL a0_2),(aL a0_3)])] [] (aB x0) []) ∧ (sel x0 (sel (decide ((a0_1.length : Int) ≤ 8)) (sel a1 (R (.n (.bool true))) (R (.n
 (.bool (decide ((a0_1.length : Int) ≥ 4)))))) (R (.n (.bool false)))) (R (.n (.bool false))))))
theorem vc40 (a0_0 : Bool) (a0_1 : LD) (a0_2 : LD) (a0_3 : LD) (a1 : Bool) (R : Mir.AV → Prop) : Vc Fs2 c40.body (argsQ c40 [(.agg [(.n (.bool a0_0)), (.o (.sl 1 a0_1)), (.o (.sl 1 a0_2)), (.o (.sl 1 a0_3))]), (.n (.bool a1))]) [] (endQ c40 R) = V40 a0_0 a0_1 a0_2 a0_3 a1 R := by kernel_rfl
def V41 (a0_0 : Bool) (a0_1 : LD) (a0_2 : LD) (a0_3 : LD) (R : Mir.AV → Prop) : Prop :=
 (sel (decide ((a0_1.length : Int) > 9)) (R (.n (.bool false))) (∃ x0 : (Int → Prop),(∃ x1 : (Int → Nat),(((rh [(hB 4100000 [(aB a0_0),(aL a0_1),(aL a0_2),(aL a0_3)])]) ∧ (x0 0)) ∧
 (∀ x2 : Int,((x0 x2) → (∀ x3 : (Nat → Mir.AV),(sel (decide (x2 < (a0_1.length : Int))) ((rn 1) ∧ ((0 : Int) ≤ x2) ∧ (∃ x4 : Mir.D,((a0_1[Int.toNat x2]? = some x4) ∧ (∃ x5 :
 ByteArray,(((D.cells x4)[0]? = some (Mir.D.str x5)) ∧ (sel (decide ((((ByteArray.size x5) : Nat) : Int) < 1)) (R (.n (.bool false))) (sel (decide ((((ByteArray.size x5) : Nat) :
 Int) > 32)) (R (.n (.bool false))) (sel (decide (x2 > 0)) ((rn 1) ∧ ((0 : Int) ≤ (IntKind.wrap .i64 (x2 - 1))) ∧ (∃ x6 : Mir.D,((a0_1[Int.toNat (IntKind.wrap .i64 (x2 - 1))]? =
 some x6) ∧ (∃ x7 : ByteArray,(((D.cells x6)[0]? = some (Mir.D.str x7)) ∧ (sel ((Op.bytesLess (ByteArray.toList x5) (ByteArray.toList x7)) || ((ByteArray.toList x5) ==
 (ByteArray.toList x7))) (R (.n (.bool false))) ((rq (.ptr 4100000 0)) ∧ (rq (aI (a0_1.length : Int))) ∧ (rq (aL a0_1)) ∧ (rq (aI (a0_1.length : Int))) ∧ (rh [(hB 4100000 [(aB
 a0_0),(aL a0_1),(aL a0_2),(aL a0_3)])]) ∧ (x0 (IntKind.wrap .i64 (x2 + 1))) ∧ (((x1 (IntKind.wrap .i64 (x2 + 1))) : Nat) < (x1 x2))))))))) ((rq (.ptr 4100000 0)) ∧ (rq (aI
 (a0_1.length : Int))) ∧ (rq (aL a0_1)) ∧ (rq (aI (a0_1.length : Int))) ∧ (rh [(hB 4100000 [(aB a0_0),(aL a0_1),(aL a0_2),(aL a0_3)])]) ∧ (x0 (IntKind.wrap .i64 (x2 + 1))) ∧ (((x1
 (IntKind.wrap .i64 (x2 + 1))) : Nat) < (x1 x2))))))))))) (sel a0_0 (sel ((a0_3.length : Int) == 0) (sel ((a0_2.length : Int) == (a0_1.length : Int)) (∃ x8 : Bool,((Runs Fs2 33 [(aL
 a0_2),(.fn 54 [])] [] (aB x8) []) ∧ (R (.n (.bool (Bool.not x8)))))) (R (.n (.bool false)))) (R (.n (.bool false)))) (sel ((a0_2.length : Int) == 0) (sel (decide ((a0_1.length :
 Int) ≥ 1)) (sel ((a0_3.length : Int) == (IntKind.wrap .i64 ((a0_1.length : Int) + 1))) (∃ x9 : Bool,((Runs Fs2 55 [(aL a0_3),(.fn 56 [])] [] (aB x9) []) ∧ (R (.n (.bool (Bool.not
 x9)))))) (R (.n (.bool false)))) (R (.n (.bool false)))) (R (.n (.bool false)))))))))))))
theorem vc41 (a0_0 : Bool) (a0_1 : LD) (a0_2 : LD) (a0_3 : LD) (R : Mir.AV → Prop) : Vc Fs2 c41.body (argsQ c41 [(.agg [(.n (.bool a0_0)), (.o (.sl 1 a0_1)), (.o (.sl 1 a0_2)), (.o (.sl 1 a0_3))])]) [] (endQ c41 R) = V41 a0_0 a0_1 a0_2 a0_3 R := by kernel_rfl
def V37 (a0 : ByteArray) (a1 : ByteArray) (a2 : ByteArray) (R : Mir.AV → Prop) : Prop :=
 (sel (Bool.not (Op.bytesLess (ByteArray.toList a0) (ByteArray.toList a1))) (sel ((ByteArray.toList a2) == (ByteArray.toList (ByteArray.mk (List.toArray [])))) (R (.n (.bool true)))
 (R (.n (.bool (Op.bytesLess (ByteArray.toList a0) (ByteArray.toList a2)))))) (R (.n (.bool false))))
theorem vc37 (a0 : ByteArray) (a1 : ByteArray) (a2 : ByteArray) (R : Mir.AV → Prop) : Vc Fs2 c37.body (argsQ c37 [(.n (.str a0)), (.n (.str a1)), (.n (.str a2))]) [] (endQ c37 R) = V37 a0 a1 a2 R := by kernel_rfl
def V45 (a0 : LD) (R : Mir.AV → Prop) : Prop :=
 (∃ x0 : Int,((Runs Fs2 59 [(aL a0)] [] (aI x0) []) ∧ (∃ x1 : (Int → (Int → Prop)),(∃ x2 : (Int → (Int → Nat)),(((rh []) ∧ (x1 0 0)) ∧ (∀ x3 : Int,(∀ x4 : Int,((x1 x3 x4) → (∀ x5 :
 (Nat → Mir.AV),(sel (decide (x4 < x0)) (∃ x6 : Bool,((Runs Fs2 60 [(aL a0),(.fn 61 [(.ptr 4500401 0)])] [(hB 4500401 [(aI x4)])] (aB x6) [(hB 4500401 [(aI x4)])]) ∧ (sel (Bool.not
 x6) ((rq (aL a0)) ∧ (rq (aI x0)) ∧ (rh []) ∧ (x1 (IntKind.wrap .i64 (x3 + 1)) (IntKind.wrap .i64 (x4 + 1))) ∧ (((x2 (IntKind.wrap .i64 (x3 + 1)) (IntKind.wrap .i64 (x4 + 1))) :
 Nat) < (x2 x3 x4))) ((rq (aL a0)) ∧ (rq (aI x0)) ∧ (rh []) ∧ (x1 x3 (IntKind.wrap .i64 (x4 + 1))) ∧ (((x2 x3 (IntKind.wrap .i64 (x4 + 1))) : Nat) < (x2 x3 x4)))))) (R (.n (.int
 .i64 x3)))))))))))))
theorem vc45 (a0 : LD) (R : Mir.AV → Prop) : Vc Fs2 c45.body (argsQ c45 [(.o (.sl 1 a0))]) [] (endQ c45 R) = V45 a0 R := by kernel_rfl
def V69 (a0_0 : Bool) (a0_1 : LD) (a0_2 : LD) (a0_3 : LD) (R : Mir.AV → Prop) : Prop :=
 (sel (decide ((a0_1.length : Int) > 9)) (R (.n (.bool false))) (∃ x0 : (Int → Prop),(∃ x1 : (Int → Nat),(((rh [(hB 6900000 [(aB a0_0),(aL a0_1),(aL a0_2),(aL a0_3)])]) ∧ (x0 0)) ∧
 (∀ x2 : Int,((x0 x2) → (∀ x3 : (Nat → Mir.AV),(sel (decide (x2 < (a0_1.length : Int))) ((rn 1) ∧ ((0 : Int) ≤ x2) ∧ (∃ x4 : Mir.D,((a0_1[Int.toNat x2]? = some x4) ∧ (∃ x5 :
 ByteArray,(((D.cells x4)[0]? = some (Mir.D.str x5)) ∧ (sel (decide ((((ByteArray.size x5) : Nat) : Int) < 1)) (R (.n (.bool false))) (sel (decide ((((ByteArray.size x5) : Nat) :
 Int) > 32)) (R (.n (.bool false))) (sel (decide (x2 > 0)) ((rn 1) ∧ ((0 : Int) ≤ (IntKind.wrap .i64 (x2 - 1))) ∧ (∃ x6 : Mir.D,((a0_1[Int.toNat (IntKind.wrap .i64 (x2 - 1))]? =
 some x6) ∧ (∃ x7 : ByteArray,(((D.cells x6)[0]? = some (Mir.D.str x7)) ∧ (sel ((Op.bytesLess (ByteArray.toList x5) (ByteArray.toList x7)) || ((ByteArray.toList x5) ==
 (ByteArray.toList x7))) (R (.n (.bool false))) ((rq (.ptr 6900000 0)) ∧ (rq (aL a0_1)) ∧ (rq (aI (a0_1.length : Int))) ∧ (rh [(hB 6900000 [(aB a0_0),(aL a0_1),(aL a0_2),(aL
 a0_3)])]) ∧ (x0 (IntKind.wrap .i64 (x2 + 1))) ∧ (((x1 (IntKind.wrap .i64 (x2 + 1))) : Nat) < (x1 x2))))))))) ((rq (.ptr 6900000 0)) ∧ (rq (aL a0_1)) ∧ (rq (aI (a0_1.length : Int)))
 ∧ (rh [(hB 6900000 [(aB a0_0),(aL a0_1),(aL a0_2),(aL a0_3)])]) ∧ (x0 (IntKind.wrap .i64 (x2 + 1))) ∧ (((x1 (IntKind.wrap .i64 (x2 + 1))) : Nat) < (x1 x2))))))))))) (∃ x8 : (Int →
 Prop),(∃ x9 : (Int → Nat),(((rh [(hB 6900000 [(aB a0_0),(aL a0_1),(aL a0_2),(aL a0_3)])]) ∧ (x8 0)) ∧ (∀ x10 : Int,((x8 x10) → (∀ x11 : (Nat → Mir.AV),(sel (decide (x10 <
 (a0_2.length : Int))) ((rn 1) ∧ ((0 : Int) ≤ x10) ∧ (∃ x12 : Mir.D,((a0_2[Int.toNat x10]? = some x12) ∧ (∃ x13 : ByteArray,(((D.cells x12)[0]? = some (Mir.D.str x13)) ∧ (sel
 (decide ((((ByteArray.size x13) : Nat) : Int) > 200)) (R (.n (.bool false))) ((rq (.ptr 6900000 0)) ∧ (rq (aL a0_2)) ∧ (rq (aI (a0_2.length : Int))) ∧ (rh [(hB 6900000 [(aB
 a0_0),(aL a0_1),(aL a0_2),(aL a0_3)])]) ∧ (x8 (IntKind.wrap .i64 (x10 + 1))) ∧ (((x9 (IntKind.wrap .i64 (x10 + 1))) : Nat) < (x9 x10))))))))) (∃ x14 : (Int → Prop),(∃ x15 : (Int →
 Nat),(((rh [(hB 6900000 [(aB a0_0),(aL a0_1),(aL a0_2),(aL a0_3)])]) ∧ (x14 0)) ∧ (∀ x16 : Int,((x14 x16) → (∀ x17 : (Nat → Mir.AV),(sel (decide (x16 < (a0_3.length : Int))) ((rn
 1) ∧ ((0 : Int) ≤ x16) ∧ (∃ x18 : Mir.D,((a0_3[Int.toNat x16]? = some x18) ∧ (∃ x19 : Int,(((D.cells x18)[0]? = some (Mir.D.int .i64 x19)) ∧ (sel (decide (x19 < 10)) (R (.n (.bool
 false))) (sel (decide (x19 > 2047)) (R (.n (.bool false))) ((rq (.ptr 6900000 0)) ∧ (rq (aL a0_3)) ∧ (rq (aI (a0_3.length : Int))) ∧ (rh [(hB 6900000 [(aB a0_0),(aL a0_1),(aL
 a0_2),(aL a0_3)])]) ∧ (x14 (IntKind.wrap .i64 (x16 + 1))) ∧ (((x15 (IntKind.wrap .i64 (x16 + 1))) : Nat) < (x15 x16)))))))))) (sel a0_0 (sel ((a0_2.length : Int) == (a0_1.length :
 Int)) (R (.n (.bool ((a0_3.length : Int) == 0)))) (R (.n (.bool false)))) (sel ((a0_2.length : Int) == 0) (sel (decide ((a0_1.length : Int) ≥ 1)) (R (.n (.bool ((a0_3.length : Int)
 == (IntKind.wrap .i64 ((a0_1.length : Int) + 1)))))) (R (.n (.bool false)))) (R (.n (.bool false)))))))))))))))))))))))))))
theorem vc69 (a0_0 : Bool) (a0_1 : LD) (a0_2 : LD) (a0_3 : LD) (R : Mir.AV → Prop) : Vc Fs2 c69.body (argsQ c69 [(.agg [(.n (.bool a0_0)), (.o (.sl 1 a0_1)), (.o (.sl 1 a0_2)), (.o (.sl 1 a0_3))])]) [] (endQ c69 R) = V69 a0_0 a0_1 a0_2 a0_3 R := by kernel_rfl
def V34 (a0 : ByteArray) (R : Mir.AV → Prop) : Prop :=
 (R (.n (.bool (decide ((((ByteArray.size a0) : Nat) : Int) > 4096)))))
theorem vc34 (a0 : ByteArray) (R : Mir.AV → Prop) : Vc Fs2 c34.body (argsQ c34 [(.n (.str a0))]) [] (endQ c34 R) = V34 a0 R := by kernel_rfl
def V54 (a0 : ByteArray) (R : Mir.AV → Prop) : Prop :=
 (R (.n (.bool (decide ((((ByteArray.size a0) : Nat) : Int) > 200)))))
theorem vc54 (a0 : ByteArray) (R : Mir.AV → Prop) : Vc Fs2 c54.body (argsQ c54 [(.n (.str a0))]) [] (endQ c54 R) = V54 a0 R := by kernel_rfl
def V56 (a0 : Int) (R : Mir.AV → Prop) : Prop :=
 (sel (decide (a0 < 10)) (R (.n (.bool true))) (R (.n (.bool (decide (a0 ≥ 2048))))))
theorem vc56 (a0 : Int) (R : Mir.AV → Prop) : Vc Fs2 c56.body (argsQ c56 [(.n (.int .i64 a0))]) [] (endQ c56 R) = V56 a0 R := by kernel_rfl
def V42 (a0 : LD) (a1 : ByteArray) (R : Mir.AV → Prop) : Prop :=
 (∃ x0 : Int,((Runs Fs2 57 [(aI (a0.length : Int)),(.fn 58 [(.ptr 4200000 0),(.ptr 4200001 0)])] [(hB 4200000 [(aL a0)]),(hB 4200001 [(aS a1)])] (aI x0) [(hB 4200000 [(aL a0)]),(hB
 4200001 [(aS a1)])]) ∧ (R (.n (.int .i64 x0)))))
theorem vc42 (a0 : LD) (a1 : ByteArray) (R : Mir.AV → Prop) : Vc Fs2 c42.body (argsQ c42 [(.o (.sl 1 a0)), (.n (.str a1))]) [] (endQ c42 R) = V42 a0 a1 R := by kernel_rfl
def V59 (a0 : LD) (R : Mir.AV → Prop) : Prop :=
 (∃ x0 : (Int → (Int → Prop)),(∃ x1 : (Int → (Int → Nat)),(((rh []) ∧ (x0 0 0)) ∧ (∀ x2 : Int,(∀ x3 : Int,((x0 x2 x3) → (∀ x4 : (Nat → Mir.AV),(sel (decide (x3 < (a0.length : Int)))
 ((rn 1) ∧ ((0 : Int) ≤ x3) ∧ (∃ x5 : Mir.D,((a0[Int.toNat x3]? = some x5) ∧ (∃ x6 : LD,(((D.cells x5)[0]? = some (Mir.D.sl 1 x6)) ∧ (rq (aL a0)) ∧ (rq (aI (a0.length : Int))) ∧ (rh
 []) ∧ (x0 (mmI true x2 (x6.length : Int)) (IntKind.wrap .i64 (x3 + 1))) ∧ (((x1 (mmI true x2 (x6.length : Int)) (IntKind.wrap .i64 (x3 + 1))) : Nat) < (x1 x2 x3))))))) (R (.n (.int
 .i64 x2)))))))))))
theorem vc59 (a0 : LD) (R : Mir.AV → Prop) : Vc Fs2 c59.body (argsQ c59 [(.o (.sl 1 a0))]) [] (endQ c59 R) = V59 a0 R := by kernel_rfl
def V62 (a0 : LD) (a1 : Int) (R : Mir.AV → Prop) : Prop :=
 (sel (decide (a1 < (a0.length : Int))) ((rn 1) ∧ ((0 : Int) ≤ a1) ∧ (∃ x0 : Mir.D,((a0[Int.toNat a1]? = some x0) ∧ (∃ x1 : Bool,(((D.cells x0)[0]? = some (Mir.D.bool x1)) ∧ (R (.n
 (.bool x1)))))))) (R (.n (.bool false))))
theorem vc62 (a0 : LD) (a1 : Int) (R : Mir.AV → Prop) : Vc Fs2 c62.body (argsQ c62 [(.o (.sl 1 a0)), (.n (.int .i64 a1))]) [] (endQ c62 R) = V62 a0 a1 R := by kernel_rfl
def V57h (n : Int) (a : LD) (x : ByteArray) (R : Mir.AV → Heap → Prop) : Prop :=
 (∃ x0 : (Int → (Int → Prop)),(∃ x1 : (Int → (Int → Nat)),(((rh [(hB 4200000 [(aL a)]),(hB 4200001 [(aS x)])]) ∧ (x0 0 n)) ∧ (∀ x2 : Int,(∀ x3 : Int,((x0 x2 x3) → (∀ x4 : (Nat →
 Mir.AV),(sel (decide (x2 < x3)) (((0 : Int) ≤ 1) ∧ (∃ x5 : Bool,((Runs Fs2 58 [(aI (IntKind.wrap .i64 (Int.fdiv (IntKind.wrap .u64 (IntKind.wrap .i64 (x2 + x3))) (2 ^ (Min.min
 (Int.toNat 1) (Go.IntKind.bits .u64)))))),(.ptr 4200000 0),(.ptr 4200001 0)] [(hB 4200000 [(aL a)]),(hB 4200001 [(aS x)])] (aB x5) [(hB 4200000 [(aL a)]),(hB 4200001 [(aS x)])]) ∧
 (sel (Bool.not x5) ((rq (.fn 58 [(.ptr 4200000 0),(.ptr 4200001 0)])) ∧ (rh [(hB 4200000 [(aL a)]),(hB 4200001 [(aS x)])]) ∧ (x0 (IntKind.wrap .i64 ((IntKind.wrap .i64 (Int.fdiv
 (IntKind.wrap .u64 (IntKind.wrap .i64 (x2 + x3))) (2 ^ (Min.min (Int.toNat 1) (Go.IntKind.bits .u64))))) + 1)) x3) ∧ (((x1 (IntKind.wrap .i64 ((IntKind.wrap .i64 (Int.fdiv
 (IntKind.wrap .u64 (IntKind.wrap .i64 (x2 + x3))) (2 ^ (Min.min (Int.toNat 1) (Go.IntKind.bits .u64))))) + 1)) x3) : Nat) < (x1 x2 x3))) ((rq (.fn 58 [(.ptr 4200000 0),(.ptr
 4200001 0)])) ∧ (rh [(hB 4200000 [(aL a)]),(hB 4200001 [(aS x)])]) ∧ (x0 x2 (IntKind.wrap .i64 (Int.fdiv (IntKind.wrap .u64 (IntKind.wrap .i64 (x2 + x3))) (2 ^ (Min.min (Int.toNat
 1) (Go.IntKind.bits .u64)))))) ∧ (((x1 x2 (IntKind.wrap .i64 (Int.fdiv (IntKind.wrap .u64 (IntKind.wrap .i64 (x2 + x3))) (2 ^ (Min.min (Int.toNat 1) (Go.IntKind.bits .u64)))))) :
 Nat) < (x1 x2 x3))))))) (R (.n (.int .i64 x2)) [(hB 4200000 [(.o (.sl 1 a))]),(hB 4200001 [(.n (.str x))])])))))))))
theorem vc57h (n : Int) (a : LD) (x : ByteArray) (R : Mir.AV → Heap → Prop) : Vc Fs2 c57.body (argsQ c57 [.n (.int .i64 n), .fn 58 [.ptr 4200000 0, .ptr 4200001 0]]) [(4200000, .box [.o (.sl 1 a)]), (4200001, .box [.n (.str x)])] (endQH c57 [(4200000, .box [.o (.sl 1 a)]), (4200001, .box [.n (.str x)])] R) = V57h n a x R := by kernel_rfl
def V58h (i : Int) (a : LD) (x : ByteArray) (R : Mir.AV → Heap → Prop) : Prop :=
 ((rn 1) ∧ ((0 : Int) ≤ i) ∧ (∃ x0 : Mir.D,((a[Int.toNat i]? = some x0) ∧ (∃ x1 : ByteArray,(((D.cells x0)[0]? = some (Mir.D.str x1)) ∧ (R (.n (.bool (Bool.not (Op.bytesLess
 (ByteArray.toList x1) (ByteArray.toList x))))) [(hB 4200000 [(.o (.sl 1 a))]),(hB 4200001 [(.n (.str x))])]))))))
theorem vc58h (i : Int) (a : LD) (x : ByteArray) (R : Mir.AV → Heap → Prop) : Vc Fs2 c58.body (argsQ c58 [.n (.int .i64 i), .ptr 4200000 0, .ptr 4200001 0]) [(4200000, .box [.o (.sl 1 a)]), (4200001, .box [.n (.str x)])] (endQH c58 [(4200000, .box [.o (.sl 1 a)]), (4200001, .box [.n (.str x)])] R) = V58h i a x R := by kernel_rfl
def V61h (a : LD) (i : Int) (R : Mir.AV → Heap → Prop) : Prop :=
 (∃ x0 : Bool,((Runs Fs2 62 [(aL a),(aI i)] [] (aB x0) []) ∧ (R (.n (.bool (Bool.not x0))) [(hB 4500401 [(.n (.int .i64 i))])])))
theorem vc61h (a : LD) (i : Int) (R : Mir.AV → Heap → Prop) : Vc Fs2 c61.body (argsQ c61 [.o (.sl 1 a), .ptr 4500401 0]) [(4500401, .box [.n (.int .i64 i)])] (endQH c61 [(4500401, .box [.n (.int .i64 i)])] R) = V61h a i R := by kernel_rfl
def V78h (l : LD) (i : Int) (R : Mir.AV → Heap → Prop) : Prop :=
 (∃ x0 : (Int → Prop),(∃ x1 : (Int → Nat),(((rh [(hB 4500401 [(aI i)])]) ∧ (x0 0)) ∧ (∀ x2 : Int,((x0 x2) → (∀ x3 : (Nat → Mir.AV),(sel (decide (x2 < (l.length : Int))) ((rn 1) ∧
 ((0 : Int) ≤ x2) ∧ (∃ x4 : Mir.D,((l[Int.toNat x2]? = some x4) ∧ (∃ x5 : LD,(((D.cells x4)[0]? = some (Mir.D.sl 1 x5)) ∧ (∃ x6 : Bool,((Runs Fs2 61 [(aL x5),(.ptr 4500401 0)] [(hB
 4500401 [(aI i)])] (aB x6) [(hB 4500401 [(aI i)])]) ∧ (sel x6 (R (.n (.int .i64 x2)) [(hB 4500401 [(.n (.int .i64 i))])]) ((rq (aL l)) ∧ (rq (.fn 61 [(.ptr 4500401 0)])) ∧ (rq (aI
 (l.length : Int))) ∧ (rh [(hB 4500401 [(aI i)])]) ∧ (x0 (IntKind.wrap .i64 (x2 + 1))) ∧ (((x1 (IntKind.wrap .i64 (x2 + 1))) : Nat) < (x1 x2))))))))))) (R (.n (.int .i64 (-1))) [(hB
 4500401 [(.n (.int .i64 i))])]))))))))
theorem vc78h (l : LD) (i : Int) (R : Mir.AV → Heap → Prop) : Vc Fs2 c78.body (argsQ c78 [.o (.sl 1 l), .fn 61 [.ptr 4500401 0]]) [(4500401, .box [.n (.int .i64 i)])] (endQH c78 [(4500401, .box [.n (.int .i64 i)])] R) = V78h l i R := by kernel_rfl
def V60h (l : LD) (i : Int) (R : Mir.AV → Heap → Prop) : Prop :=
 (∃ x0 : Int,((Runs Fs2 78 [(aL l),(.fn 61 [(.ptr 4500401 0)])] [(hB 4500401 [(aI i)])] (aI x0) [(hB 4500401 [(aI i)])]) ∧ (R (.n (.bool (decide (x0 ≥ 0)))) [(hB 4500401 [(.n (.int
 .i64 i))])])))
theorem vc60h (l : LD) (i : Int) (R : Mir.AV → Heap → Prop) : Vc Fs2 c60.body (argsQ c60 [.o (.sl 1 l), .fn 61 [.ptr 4500401 0]]) [(4500401, .box [.n (.int .i64 i)])] (endQH c60 [(4500401, .box [.n (.int .i64 i)])] R) = V60h l i R := by kernel_rfl
def V33p (l : LD) (R : Mir.AV → Prop) : Prop :=
 (∃ x0 : Int,((Runs Fs2 46 [(aL l),(.fn 34 [])] [] (aI x0) []) ∧ (R (.n (.bool (decide (x0 ≥ 0)))))))
theorem vc33p (l : LD) (R : Mir.AV → Prop) : Vc Fs2 c33.body (argsQ c33 [.o (.sl 1 l), .fn 34 []]) [] (endQ c33 R) = V33p l R := by kernel_rfl
def V46p (l : LD) (R : Mir.AV → Prop) : Prop :=
 (∃ x0 : (Int → Prop),(∃ x1 : (Int → Nat),(((rh []) ∧ (x0 0)) ∧ (∀ x2 : Int,((x0 x2) → (∀ x3 : (Nat → Mir.AV),(sel (decide (x2 < (l.length : Int))) ((rn 1) ∧ ((0 : Int) ≤ x2) ∧ (∃
 x4 : Mir.D,((l[Int.toNat x2]? = some x4) ∧ (∃ x5 : ByteArray,(((D.cells x4)[0]? = some (Mir.D.str x5)) ∧ (∃ x6 : Bool,((Runs Fs2 34 [(aS x5)] [] (aB x6) []) ∧ (sel x6 (R (.n (.int
 .i64 x2))) ((rq (aL l)) ∧ (rq (.fn 34 [])) ∧ (rq (aI (l.length : Int))) ∧ (rh []) ∧ (x0 (IntKind.wrap .i64 (x2 + 1))) ∧ (((x1 (IntKind.wrap .i64 (x2 + 1))) : Nat) < (x1
 x2))))))))))) (R (.n (.int .i64 (-1)))))))))))
theorem vc46p (l : LD) (R : Mir.AV → Prop) : Vc Fs2 c46.body (argsQ c46 [.o (.sl 1 l), .fn 34 []]) [] (endQ c46 R) = V46p l R := by kernel_rfl
def V33q (l : LD) (R : Mir.AV → Prop) : Prop :=
 (∃ x0 : Int,((Runs Fs2 46 [(aL l),(.fn 54 [])] [] (aI x0) []) ∧ (R (.n (.bool (decide (x0 ≥ 0)))))))
theorem vc33q (l : LD) (R : Mir.AV → Prop) : Vc Fs2 c33.body (argsQ c33 [.o (.sl 1 l), .fn 54 []]) [] (endQ c33 R) = V33q l R := by kernel_rfl
def V46q (l : LD) (R : Mir.AV → Prop) : Prop :=
 (∃ x0 : (Int → Prop),(∃ x1 : (Int → Nat),(((rh []) ∧ (x0 0)) ∧ (∀ x2 : Int,((x0 x2) → (∀ x3 : (Nat → Mir.AV),(sel (decide (x2 < (l.length : Int))) ((rn 1) ∧ ((0 : Int) ≤ x2) ∧ (∃
 x4 : Mir.D,((l[Int.toNat x2]? = some x4) ∧ (∃ x5 : ByteArray,(((D.cells x4)[0]? = some (Mir.D.str x5)) ∧ (∃ x6 : Bool,((Runs Fs2 54 [(aS x5)] [] (aB x6) []) ∧ (sel x6 (R (.n (.int
 .i64 x2))) ((rq (aL l)) ∧ (rq (.fn 54 [])) ∧ (rq (aI (l.length : Int))) ∧ (rh []) ∧ (x0 (IntKind.wrap .i64 (x2 + 1))) ∧ (((x1 (IntKind.wrap .i64 (x2 + 1))) : Nat) < (x1
 x2))))))))))) (R (.n (.int .i64 (-1)))))))))))
theorem vc46q (l : LD) (R : Mir.AV → Prop) : Vc Fs2 c46.body (argsQ c46 [.o (.sl 1 l), .fn 54 []]) [] (endQ c46 R) = V46q l R := by kernel_rfl
def V55p (l : LD) (R : Mir.AV → Prop) : Prop :=
 (∃ x0 : Int,((Runs Fs2 77 [(aL l),(.fn 56 [])] [] (aI x0) []) ∧ (R (.n (.bool (decide (x0 ≥ 0)))))))
theorem vc55p (l : LD) (R : Mir.AV → Prop) : Vc Fs2 c55.body (argsQ c55 [.o (.sl 1 l), .fn 56 []]) [] (endQ c55 R) = V55p l R := by kernel_rfl
def V77p (l : LD) (R : Mir.AV → Prop) : Prop :=
 (∃ x0 : (Int → Prop),(∃ x1 : (Int → Nat),(((rh []) ∧ (x0 0)) ∧ (∀ x2 : Int,((x0 x2) → (∀ x3 : (Nat → Mir.AV),(sel (decide (x2 < (l.length : Int))) ((rn 1) ∧ ((0 : Int) ≤ x2) ∧ (∃
 x4 : Mir.D,((l[Int.toNat x2]? = some x4) ∧ (∃ x5 : Int,(((D.cells x4)[0]? = some (Mir.D.int .i64 x5)) ∧ (∃ x6 : Bool,((Runs Fs2 56 [(aI x5)] [] (aB x6) []) ∧ (sel x6 (R (.n (.int
 .i64 x2))) ((rq (aL l)) ∧ (rq (.fn 56 [])) ∧ (rq (aI (l.length : Int))) ∧ (rh []) ∧ (x0 (IntKind.wrap .i64 (x2 + 1))) ∧ (((x1 (IntKind.wrap .i64 (x2 + 1))) : Nat) < (x1
 x2))))))))))) (R (.n (.int .i64 (-1)))))))))))
theorem vc77p (l : LD) (R : Mir.AV → Prop) : Vc Fs2 c77.body (argsQ c77 [.o (.sl 1 l), .fn 56 []]) [] (endQ c77 R) = V77p l R := by kernel_rfl
def V44h (k : ByteArray) (lo : ByteArray) (hi : ByteArray) (R : Mir.AV → Heap → Prop) : Prop :=
 (sel (Op.bytesLess (ByteArray.toList k) (ByteArray.toList lo)) (R (.n (.bool true)) [(hB 3100000 [(.n (.str lo))]),(hB 3100001 [(.n (.str hi))])]) (sel (Bool.not ((ByteArray.toList
 hi) == (ByteArray.toList (ByteArray.mk (List.toArray []))))) (R (.n (.bool (Bool.not (Op.bytesLess (ByteArray.toList k) (ByteArray.toList hi))))) [(hB 3100000 [(.n (.str lo))]),(hB
 3100001 [(.n (.str hi))])]) (R (.n (.bool false)) [(hB 3100000 [(.n (.str lo))]),(hB 3100001 [(.n (.str hi))])])))
theorem vc44h (k : ByteArray) (lo : ByteArray) (hi : ByteArray) (R : Mir.AV → Heap → Prop) : Vc Fs2 c44.body (argsQ c44 [.n (.str k), .ptr 3100000 0, .ptr 3100001 0]) [(3100000, .box [.n (.str lo)]), (3100001, .box [.n (.str hi)])] (endQH c44 [(3100000, .box [.n (.str lo)]), (3100001, .box [.n (.str hi)])] R) = V44h k lo hi R := by kernel_rfl
def V33r (l : LD) (lo : ByteArray) (hi : ByteArray) (R : Mir.AV → Heap → Prop) : Prop :=
 (∃ x0 : Int,((Runs Fs2 46 [(aL l),(.fn 44 [(.ptr 3100000 0),(.ptr 3100001 0)])] [(hB 3100000 [(aS lo)]),(hB 3100001 [(aS hi)])] (aI x0) [(hB 3100000 [(aS lo)]),(hB 3100001 [(aS
 hi)])]) ∧ (R (.n (.bool (decide (x0 ≥ 0)))) [(hB 3100000 [(.n (.str lo))]),(hB 3100001 [(.n (.str hi))])])))
theorem vc33r (l : LD) (lo : ByteArray) (hi : ByteArray) (R : Mir.AV → Heap → Prop) : Vc Fs2 c33.body (argsQ c33 [.o (.sl 1 l), .fn 44 [.ptr 3100000 0, .ptr 3100001 0]]) [(3100000, .box [.n (.str lo)]), (3100001, .box [.n (.str hi)])] (endQH c33 [(3100000, .box [.n (.str lo)]), (3100001, .box [.n (.str hi)])] R) = V33r l lo hi R := by kernel_rfl
def V46r (l : LD) (lo : ByteArray) (hi : ByteArray) (R : Mir.AV → Heap → Prop) : Prop :=
 (∃ x0 : (Int → Prop),(∃ x1 : (Int → Nat),(((rh [(hB 3100000 [(aS lo)]),(hB 3100001 [(aS hi)])]) ∧ (x0 0)) ∧ (∀ x2 : Int,((x0 x2) → (∀ x3 : (Nat → Mir.AV),(sel (decide (x2 <
 (l.length : Int))) ((rn 1) ∧ ((0 : Int) ≤ x2) ∧ (∃ x4 : Mir.D,((l[Int.toNat x2]? = some x4) ∧ (∃ x5 : ByteArray,(((D.cells x4)[0]? = some (Mir.D.str x5)) ∧ (∃ x6 : Bool,((Runs Fs2
 44 [(aS x5),(.ptr 3100000 0),(.ptr 3100001 0)] [(hB 3100000 [(aS lo)]),(hB 3100001 [(aS hi)])] (aB x6) [(hB 3100000 [(aS lo)]),(hB 3100001 [(aS hi)])]) ∧ (sel x6 (R (.n (.int .i64
 x2)) [(hB 3100000 [(.n (.str lo))]),(hB 3100001 [(.n (.str hi))])]) ((rq (aL l)) ∧ (rq (.fn 44 [(.ptr 3100000 0),(.ptr 3100001 0)])) ∧ (rq (aI (l.length : Int))) ∧ (rh [(hB 3100000
 [(aS lo)]),(hB 3100001 [(aS hi)])]) ∧ (x0 (IntKind.wrap .i64 (x2 + 1))) ∧ (((x1 (IntKind.wrap .i64 (x2 + 1))) : Nat) < (x1 x2))))))))))) (R (.n (.int .i64 (-1))) [(hB 3100000 [(.n
 (.str lo))]),(hB 3100001 [(.n (.str hi))])]))))))))
theorem vc46r (l : LD) (lo : ByteArray) (hi : ByteArray) (R : Mir.AV → Heap → Prop) : Vc Fs2 c46.body (argsQ c46 [.o (.sl 1 l), .fn 44 [.ptr 3100000 0, .ptr 3100001 0]]) [(3100000, .box [.n (.str lo)]), (3100001, .box [.n (.str hi)])] (endQH c46 [(3100000, .box [.n (.str lo)]), (3100001, .box [.n (.str hi)])] R) = V46r l lo hi R := by kernel_rfl
def V52h (s : ByteArray) (n : Int) (e : Int) (k : Int) (R : Mir.AV → Heap → Prop) : Prop :=
 (sel (e != 0) (R (.n (.int .i64 0)) [(hB 3900302 [(.n (.str s)),(.n (.int .i64 n)),(.n (.int .i64 e))])]) (∃ x0 : Int,(∃ x1 : Int,(∃ x2 : Int,((Runs Fs2 71 [(aS s),(aI n),(aI k)]
 [] (.tup [(aI x0),(aI x1),(aI x2)]) []) ∧ (R (.n (.int .i64 x0)) [(hB 3900302 [(.n (.str s)),(.n (.int .i64 x1)),(.n (.int .i64 x2))])]))))))
theorem vc52h (s : ByteArray) (n : Int) (e : Int) (k : Int) (R : Mir.AV → Heap → Prop) : Vc Fs2 c52.body (argsQ c52 [.ptr 3900302 0, .n (.int .i64 k)]) [(3900302, .box [.n (.str s), .n (.int .i64 n), .n (.int .i64 e)])] (endQH c52 [(3900302, .box [.n (.str s), .n (.int .i64 n), .n (.int .i64 e)])] R) = V52h s n e k R := by kernel_rfl
def V53h (s : ByteArray) (n : Int) (e : Int) (R : Mir.AV → Heap → Prop) : Prop :=
 (sel (e != 0) (R (.n (.str (ByteArray.mk (List.toArray [])))) [(hB 3900302 [(.n (.str s)),(.n (.int .i64 n)),(.n (.int .i64 e))])]) (∃ x0 : ByteArray,(∃ x1 : Int,(∃ x2 : Int,((Runs
 Fs2 76 [(aS s),(aI n)] [] (.tup [(aS x0),(aI x1),(aI x2)]) []) ∧ (R (.n (.str x0)) [(hB 3900302 [(.n (.str s)),(.n (.int .i64 x1)),(.n (.int .i64 x2))])]))))))
theorem vc53h (s : ByteArray) (n : Int) (e : Int) (R : Mir.AV → Heap → Prop) : Vc Fs2 c53.body (argsQ c53 [.ptr 3900302 0]) [(3900302, .box [.n (.str s), .n (.int .i64 n), .n (.int .i64 e)])] (endQH c53 [(3900302, .box [.n (.str s), .n (.int .i64 n), .n (.int .i64 e)])] R) = V53h s n e R := by kernel_rfl
def V28a (ba : LD) (no : LD) (pa : LD) (ro : Int) (ge : Int) (block : Int) (root : Bool) (R : Mir.AV → Heap → Prop) : Prop :=
 (sel (decide (block < 10)) (R (.tup [(.agg [(.n (.bool false)),(.o (.sl 1 [])),(.o (.sl 1 [])),(.o (.sl 1 []))]),(.n (.bool false))]) [(hB 2000302 [(.o (.sl 1 ba)),(.o (.sl 1
 no)),(.o (.sl 1 pa)),(.n (.int .i64 ro)),(.n (.int .i64 ge)),(.n (.str (ByteArray.mk (List.toArray [])))),(.n (.int .i64 0)),(.n (.int .i64 0)),(.n Mir.D.nil),(.n (.str
 (ByteArray.mk (List.toArray [])))),(.n (.bool false)),(.n (.bool false))])]) (sel (decide (block ≥ (no.length : Int))) (R (.tup [(.agg [(.n (.bool false)),(.o (.sl 1 [])),(.o (.sl
 1 [])),(.o (.sl 1 []))]),(.n (.bool false))]) [(hB 2000302 [(.o (.sl 1 ba)),(.o (.sl 1 no)),(.o (.sl 1 pa)),(.n (.int .i64 ro)),(.n (.int .i64 ge)),(.n (.str (ByteArray.mk
 (List.toArray [])))),(.n (.int .i64 0)),(.n (.int .i64 0)),(.n Mir.D.nil),(.n (.str (ByteArray.mk (List.toArray [])))),(.n (.bool false)),(.n (.bool false))])]) ((rn 1) ∧ ((0 :
 Int) ≤ block) ∧ (∃ x0 : Mir.D,((no[Int.toNat block]? = some x0) ∧ (∃ x1 : Bool,(((D.cells x0)[0]? = some (Mir.D.bool x1)) ∧ (sel (Bool.not x1) (R (.tup [(.agg [(.n (.bool
 false)),(.o (.sl 1 [])),(.o (.sl 1 [])),(.o (.sl 1 []))]),(.n (.bool false))]) [(hB 2000302 [(.o (.sl 1 ba)),(.o (.sl 1 no)),(.o (.sl 1 pa)),(.n (.int .i64 ro)),(.n (.int .i64
 ge)),(.n (.str (ByteArray.mk (List.toArray [])))),(.n (.int .i64 0)),(.n (.int .i64 0)),(.n Mir.D.nil),(.n (.str (ByteArray.mk (List.toArray [])))),(.n (.bool false)),(.n (.bool
 false))])]) ((rn 1) ∧ ((0 : Int) ≤ block) ∧ (∃ x2 : Mir.D,((pa[Int.toNat block]? = some x2) ∧ (∃ x3 : ByteArray,(((D.cells x2)[0]? = some (Mir.D.str x3)) ∧ (0 = 0) ∧ (∃ x4 : Int,(∃
 x5 : Int,(∃ x6 : ByteArray,(∃ x7 : Int,((Runs Fs2 38 [(aS x3),(aL [(Mir.D.int .i64 1),(Mir.D.int .i64 2)])] [] (.tup [(.agg [(aI x4),(aI x5),(aS x6)]),(aI x7)]) []) ∧ (sel (x7 !=
 0) (R (.tup [(.agg [(.n (.bool false)),(.o (.sl 1 [])),(.o (.sl 1 [])),(.o (.sl 1 []))]),(.n (.bool false))]) [(hB 2000302 [(.o (.sl 1 ba)),(.o (.sl 1 no)),(.o (.sl 1 pa)),(.n
 (.int .i64 ro)),(.n (.int .i64 ge)),(.n (.str (ByteArray.mk (List.toArray [])))),(.n (.int .i64 0)),(.n (.int .i64 0)),(.n Mir.D.nil),(.n (.str (ByteArray.mk (List.toArray
 [])))),(.n (.bool false)),(.n (.bool false))])]) (sel (decide (x5 > ge)) (R (.tup [(.agg [(.n (.bool false)),(.o (.sl 1 [])),(.o (.sl 1 [])),(.o (.sl 1 []))]),(.n (.bool false))])
 [(hB 2000302 [(.o (.sl 1 ba)),(.o (.sl 1 no)),(.o (.sl 1 pa)),(.n (.int .i64 ro)),(.n (.int .i64 ge)),(.n (.str (ByteArray.mk (List.toArray [])))),(.n (.int .i64 0)),(.n (.int .i64
 0)),(.n Mir.D.nil),(.n (.str (ByteArray.mk (List.toArray [])))),(.n (.bool false)),(.n (.bool false))])]) (∃ x8 : Bool,(∃ x9 : LD,(∃ x10 : LD,(∃ x11 : LD,(∃ x12 : Int,((Runs Fs2 39
 [(aI x4),(aS x6)] [] (.tup [(.agg [(aB x8),(aL x9),(aL x10),(aL x11)]),(aI x12)]) []) ∧ (sel (x12 != 0) (R (.tup [(.agg [(.n (.bool false)),(.o (.sl 1 [])),(.o (.sl 1 [])),(.o (.sl
 1 []))]),(.n (.bool false))]) [(hB 2000302 [(.o (.sl 1 ba)),(.o (.sl 1 no)),(.o (.sl 1 pa)),(.n (.int .i64 ro)),(.n (.int .i64 ge)),(.n (.str (ByteArray.mk (List.toArray [])))),(.n
 (.int .i64 0)),(.n (.int .i64 0)),(.n Mir.D.nil),(.n (.str (ByteArray.mk (List.toArray [])))),(.n (.bool false)),(.n (.bool false))])]) (∃ x13 : Bool,((Runs Fs2 40 [(.agg [(aB
 x8),(aL x9),(aL x10),(aL x11)]),(aB root)] [] (aB x13) []) ∧ (sel (Bool.not x13) (R (.tup [(.agg [(.n (.bool false)),(.o (.sl 1 [])),(.o (.sl 1 [])),(.o (.sl 1 []))]),(.n (.bool
 false))]) [(hB 2000302 [(.o (.sl 1 ba)),(.o (.sl 1 no)),(.o (.sl 1 pa)),(.n (.int .i64 ro)),(.n (.int .i64 ge)),(.n (.str (ByteArray.mk (List.toArray [])))),(.n (.int .i64 0)),(.n
 (.int .i64 0)),(.n Mir.D.nil),(.n (.str (ByteArray.mk (List.toArray [])))),(.n (.bool false)),(.n (.bool false))])]) (R (.tup [(.agg [(.n (.bool x8)),(.o (.sl 1 x9)),(.o (.sl 1
 x10)),(.o (.sl 1 x11))]),(.n (.bool true))]) [(hB 2000302 [(.o (.sl 1 ba)),(.o (.sl 1 no)),(.o (.sl 1 pa)),(.n (.int .i64 ro)),(.n (.int .i64 ge)),(.n (.str (ByteArray.mk
 (List.toArray [])))),(.n (.int .i64 0)),(.n (.int .i64 0)),(.n Mir.D.nil),(.n (.str (ByteArray.mk (List.toArray [])))),(.n (.bool false)),(.n (.bool
 false))])])))))))))))))))))))))))))))))))
theorem vc28a (ba : LD) (no : LD) (pa : LD) (ro : Int) (ge : Int) (block : Int) (root : Bool) (R : Mir.AV → Heap → Prop) : Vc Fs2 c28.body (argsQ c28 [.ptr 2000302 0, .n (.int .i64 block), .n (.bool root)]) [(2000302, .box [.o (.sl 1 ba), .o (.sl 1 no), .o (.sl 1 pa), .n (.int .i64 ro), .n (.int .i64 ge), .n (.str (ByteArray.mk (List.toArray []))), .n (.int .i64 0), .n (.int .i64 0), .n .nil, .n (.str (ByteArray.mk (List.toArray []))), .n (.bool false), .n (.bool false)])] (endQH c28 [(2000302, .box [.o (.sl 1 ba), .o (.sl 1 no), .o (.sl 1 pa), .n (.int .i64 ro), .n (.int .i64 ge), .n (.str (ByteArray.mk (List.toArray []))), .n (.int .i64 0), .n (.int .i64 0), .n .nil, .n (.str (ByteArray.mk (List.toArray []))), .n (.bool false), .n (.bool false)])] R) = V28a ba no pa ro ge block root R := by kernel_rfl
def V28b (ba : LD) (no : LD) (pa : LD) (ro : Int) (ge : Int) (block : Int) (root : Bool) (R : Mir.AV → Heap → Prop) : Prop :=
 (sel (decide (block < 10)) (R (.tup [(.agg [(.n (.bool false)),(.o (.sl 1 [])),(.o (.sl 1 [])),(.o (.sl 1 []))]),(.n (.bool false))]) [(hB 4300302 [(.o (.sl 1 ba)),(.o (.sl 1
 no)),(.o (.sl 1 pa)),(.n (.int .i64 ro)),(.n (.int .i64 ge)),(.n (.str (ByteArray.mk (List.toArray [])))),(.n (.int .i64 0)),(.n (.int .i64 0)),(.n Mir.D.nil),(.n (.str
 (ByteArray.mk (List.toArray [])))),(.n (.bool false)),(.n (.bool false))])]) (sel (decide (block ≥ (no.length : Int))) (R (.tup [(.agg [(.n (.bool false)),(.o (.sl 1 [])),(.o (.sl
 1 [])),(.o (.sl 1 []))]),(.n (.bool false))]) [(hB 4300302 [(.o (.sl 1 ba)),(.o (.sl 1 no)),(.o (.sl 1 pa)),(.n (.int .i64 ro)),(.n (.int .i64 ge)),(.n (.str (ByteArray.mk
 (List.toArray [])))),(.n (.int .i64 0)),(.n (.int .i64 0)),(.n Mir.D.nil),(.n (.str (ByteArray.mk (List.toArray [])))),(.n (.bool false)),(.n (.bool false))])]) ((rn 1) ∧ ((0 :
 Int) ≤ block) ∧ (∃ x0 : Mir.D,((no[Int.toNat block]? = some x0) ∧ (∃ x1 : Bool,(((D.cells x0)[0]? = some (Mir.D.bool x1)) ∧ (sel (Bool.not x1) (R (.tup [(.agg [(.n (.bool
 false)),(.o (.sl 1 [])),(.o (.sl 1 [])),(.o (.sl 1 []))]),(.n (.bool false))]) [(hB 4300302 [(.o (.sl 1 ba)),(.o (.sl 1 no)),(.o (.sl 1 pa)),(.n (.int .i64 ro)),(.n (.int .i64
 ge)),(.n (.str (ByteArray.mk (List.toArray [])))),(.n (.int .i64 0)),(.n (.int .i64 0)),(.n Mir.D.nil),(.n (.str (ByteArray.mk (List.toArray [])))),(.n (.bool false)),(.n (.bool
 false))])]) ((rn 1) ∧ ((0 : Int) ≤ block) ∧ (∃ x2 : Mir.D,((pa[Int.toNat block]? = some x2) ∧ (∃ x3 : ByteArray,(((D.cells x2)[0]? = some (Mir.D.str x3)) ∧ (0 = 0) ∧ (∃ x4 : Int,(∃
 x5 : Int,(∃ x6 : ByteArray,(∃ x7 : Int,((Runs Fs2 38 [(aS x3),(aL [(Mir.D.int .i64 1),(Mir.D.int .i64 2)])] [] (.tup [(.agg [(aI x4),(aI x5),(aS x6)]),(aI x7)]) []) ∧ (sel (x7 !=
 0) (R (.tup [(.agg [(.n (.bool false)),(.o (.sl 1 [])),(.o (.sl 1 [])),(.o (.sl 1 []))]),(.n (.bool false))]) [(hB 4300302 [(.o (.sl 1 ba)),(.o (.sl 1 no)),(.o (.sl 1 pa)),(.n
 (.int .i64 ro)),(.n (.int .i64 ge)),(.n (.str (ByteArray.mk (List.toArray [])))),(.n (.int .i64 0)),(.n (.int .i64 0)),(.n Mir.D.nil),(.n (.str (ByteArray.mk (List.toArray
 [])))),(.n (.bool false)),(.n (.bool false))])]) (sel (decide (x5 > ge)) (R (.tup [(.agg [(.n (.bool false)),(.o (.sl 1 [])),(.o (.sl 1 [])),(.o (.sl 1 []))]),(.n (.bool false))])
 [(hB 4300302 [(.o (.sl 1 ba)),(.o (.sl 1 no)),(.o (.sl 1 pa)),(.n (.int .i64 ro)),(.n (.int .i64 ge)),(.n (.str (ByteArray.mk (List.toArray [])))),(.n (.int .i64 0)),(.n (.int .i64
 0)),(.n Mir.D.nil),(.n (.str (ByteArray.mk (List.toArray [])))),(.n (.bool false)),(.n (.bool false))])]) (∃ x8 : Bool,(∃ x9 : LD,(∃ x10 : LD,(∃ x11 : LD,(∃ x12 : Int,((Runs Fs2 39
 [(aI x4),(aS x6)] [] (.tup [(.agg [(aB x8),(aL x9),(aL x10),(aL x11)]),(aI x12)]) []) ∧ (sel (x12 != 0) (R (.tup [(.agg [(.n (.bool false)),(.o (.sl 1 [])),(.o (.sl 1 [])),(.o (.sl
 1 []))]),(.n (.bool false))]) [(hB 4300302 [(.o (.sl 1 ba)),(.o (.sl 1 no)),(.o (.sl 1 pa)),(.n (.int .i64 ro)),(.n (.int .i64 ge)),(.n (.str (ByteArray.mk (List.toArray [])))),(.n
 (.int .i64 0)),(.n (.int .i64 0)),(.n Mir.D.nil),(.n (.str (ByteArray.mk (List.toArray [])))),(.n (.bool false)),(.n (.bool false))])]) (∃ x13 : Bool,((Runs Fs2 40 [(.agg [(aB
 x8),(aL x9),(aL x10),(aL x11)]),(aB root)] [] (aB x13) []) ∧ (sel (Bool.not x13) (R (.tup [(.agg [(.n (.bool false)),(.o (.sl 1 [])),(.o (.sl 1 [])),(.o (.sl 1 []))]),(.n (.bool
 false))]) [(hB 4300302 [(.o (.sl 1 ba)),(.o (.sl 1 no)),(.o (.sl 1 pa)),(.n (.int .i64 ro)),(.n (.int .i64 ge)),(.n (.str (ByteArray.mk (List.toArray [])))),(.n (.int .i64 0)),(.n
 (.int .i64 0)),(.n Mir.D.nil),(.n (.str (ByteArray.mk (List.toArray [])))),(.n (.bool false)),(.n (.bool false))])]) (R (.tup [(.agg [(.n (.bool x8)),(.o (.sl 1 x9)),(.o (.sl 1
 x10)),(.o (.sl 1 x11))]),(.n (.bool true))]) [(hB 4300302 [(.o (.sl 1 ba)),(.o (.sl 1 no)),(.o (.sl 1 pa)),(.n (.int .i64 ro)),(.n (.int .i64 ge)),(.n (.str (ByteArray.mk
 (List.toArray [])))),(.n (.int .i64 0)),(.n (.int .i64 0)),(.n Mir.D.nil),(.n (.str (ByteArray.mk (List.toArray [])))),(.n (.bool false)),(.n (.bool
 false))])])))))))))))))))))))))))))))))))
theorem vc28b (ba : LD) (no : LD) (pa : LD) (ro : Int) (ge : Int) (block : Int) (root : Bool) (R : Mir.AV → Heap → Prop) : Vc Fs2 c28.body (argsQ c28 [.ptr 4300302 0, .n (.int .i64 block), .n (.bool root)]) [(4300302, .box [.o (.sl 1 ba), .o (.sl 1 no), .o (.sl 1 pa), .n (.int .i64 ro), .n (.int .i64 ge), .n (.str (ByteArray.mk (List.toArray []))), .n (.int .i64 0), .n (.int .i64 0), .n .nil, .n (.str (ByteArray.mk (List.toArray []))), .n (.bool false), .n (.bool false)])] (endQH c28 [(4300302, .box [.o (.sl 1 ba), .o (.sl 1 no), .o (.sl 1 pa), .n (.int .i64 ro), .n (.int .i64 ge), .n (.str (ByteArray.mk (List.toArray []))), .n (.int .i64 0), .n (.int .i64 0), .n .nil, .n (.str (ByteArray.mk (List.toArray []))), .n (.bool false), .n (.bool false)])] R) = V28b ba no pa ro ge block root R := by kernel_rfl
end Go.Proofs.YtmmnobdpccdeoaaGreatDoor.M
