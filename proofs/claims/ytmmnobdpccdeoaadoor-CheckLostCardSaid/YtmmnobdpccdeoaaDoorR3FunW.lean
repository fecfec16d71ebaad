import Derived.Test.YtmmnobdpccdeoaaDoorR3Fun
namespace Go.Proofs.YtmmnobdpccdeoaaDoor.M
set_option linter.unusedVariables false
set_option linter.unusedSimpArgs false
open Go Go.Mir
set_option linter.unusedVariables false
def V65 (a0 : ByteArray) (a1 : Int) (R : Mir.AV → Prop) : Prop :=
 (∃ x0 : Int,(∃ x1 : Int,(∃ x2 : Int,((Runs Fs 48 [(aS a0),(aI a1),(aI 2)] [] (.tup [(aI x0),(aI x1),(aI x2)]) []) ∧ (sel (x2 != 0) (R (.tup [(.n (.str (ByteArray.mk (List.toArray
 [])))),(.n (.int .i64 0)),(.n (.int .i64 x2))])) (sel (decide ((IntKind.wrap .i64 ((((ByteArray.size a0) : Nat) : Int) - x1)) < x0)) (R (.tup [(.n (.str (ByteArray.mk (List.toArray
 [])))),(.n (.int .i64 0)),(.n (.int .i64 3))])) (((0 : Int) ≤ (IntKind.wrap .i64 (x1 + x0))) ∧ (((IntKind.wrap .i64 (x1 + x0)) : Int) ≤ (((ByteArray.size a0) : Nat) : Int)) ∧ ((0 :
 Int) ≤ x1) ∧ ((x1 : Int) ≤ (((Int.toNat (IntKind.wrap .i64 (x1 + x0))) : Nat) : Int)) ∧ (R (.tup [(.n (.str (ByteArray.extract a0 (Int.toNat x1) (Int.toNat (IntKind.wrap .i64 (x1 +
 x0)))))),(.n (.int .i64 (IntKind.wrap .i64 (x1 + x0)))),(.n (.int .i64 0))])))))))))
theorem vc65 (a0 : ByteArray) (a1 : Int) (R : Mir.AV → Prop) : Vc Fs c65.body (argsQ c65 [(.n (.str a0)), (.n (.int .i64 a1))]) [] (endQ c65 R) = V65 a0 a1 R := by kernel_rfl
def V106 (a0 : ByteArray) (a1 : Int) (R : Mir.AV → Prop) : Prop :=
 (∃ x0 : Int,(∃ x1 : Int,(∃ x2 : Int,((Runs Fs 84 [(aS a0),(aI a1),(aI 2)] [] (.tup [(aI x0),(aI x1),(aI x2)]) []) ∧ (sel (x2 != 0) (R (.tup [(.n (.str (ByteArray.mk (List.toArray
 [])))),(.n (.int .i64 0)),(.n (.int .i64 x2))])) (sel (decide ((IntKind.wrap .i64 ((((ByteArray.size a0) : Nat) : Int) - x1)) < x0)) (R (.tup [(.n (.str (ByteArray.mk (List.toArray
 [])))),(.n (.int .i64 0)),(.n (.int .i64 3))])) (((0 : Int) ≤ (IntKind.wrap .i64 (x1 + x0))) ∧ (((IntKind.wrap .i64 (x1 + x0)) : Int) ≤ (((ByteArray.size a0) : Nat) : Int)) ∧ ((0 :
 Int) ≤ x1) ∧ ((x1 : Int) ≤ (((Int.toNat (IntKind.wrap .i64 (x1 + x0))) : Nat) : Int)) ∧ (R (.tup [(.n (.str (ByteArray.extract a0 (Int.toNat x1) (Int.toNat (IntKind.wrap .i64 (x1 +
 x0)))))),(.n (.int .i64 (IntKind.wrap .i64 (x1 + x0)))),(.n (.int .i64 0))])))))))))
theorem vc106 (a0 : ByteArray) (a1 : Int) (R : Mir.AV → Prop) : Vc Fs c106.body (argsQ c106 [(.n (.str a0)), (.n (.int .i64 a1))]) [] (endQ c106 R) = V106 a0 a1 R := by kernel_rfl
def V32 (a0 : ByteArray) (R : Mir.AV → Prop) : Prop :=
 (sel (decide ((((ByteArray.size a0) : Nat) : Int) > 480)) (R (.tup [(.o (Mir.D.sl 3 [])),(.n (.int .i64 2))])) (∃ x0 : Int,(∃ x1 : ByteArray,(∃ x2 : Int,(∃ x3 : Int,((Runs Fs 63
 [(.ptr 3200301 0),(.ptr 3200000 0),(.ptr 3200300 0)] [(hB 3200000 [(aS a0)]),(hB 3200300 [(aI 0)]),(hB 3200301 [(aI 0)])] (aI x0) [(hB 3200000 [(aS x1)]),(hB 3200300 [(aI x2)]),(hB
 3200301 [(aI x3)])]) ∧ (∃ x4 : (Nat → (Int → ((ByteArray × (PUnit)) → ((Int × (PUnit)) → ((Int × (PUnit)) → ((Nat × LD) → Prop)))))),(∃ x5 : (Nat → (Int → ((ByteArray × (PUnit)) →
 ((Int × (PUnit)) → ((Int × (PUnit)) → ((Nat × LD) → Nat)))))),(((rh [(hB 3200000 [(aS x1)]),(hB 3200300 [(aI x2)]),(hB 3200301 [(aI x3)]),(3201603,(.row false true 0 111 3 []))]) ∧
 (x4 0 x0 (x1,()) (x2,()) (x3,()) (0,[]))) ∧ (∀ x6 : Nat,(∀ x7 : Int,(∀ x8 : (ByteArray × (PUnit)),(∀ x9 : (Int × (PUnit)),(∀ x10 : (Int × (PUnit)),(∀ x11 : (Nat × LD),((x4 x6 x7 x8
 x9 x10 x11) → (∀ x12 : (Nat → Mir.AV),(sel (decide (x7 > 0)) (sel (x10.1 == 0) (∃ x13 : Int,(∃ x14 : ByteArray,(∃ x15 : Int,(∃ x16 : Int,((Runs Fs 63 [(.ptr 3200301 0),(.ptr
 3200000 0),(.ptr 3200300 0)] [(hB 3200000 [(aS x8.1)]),(hB 3200300 [(aI x9.1)]),(hB 3200301 [(aI x10.1)])] (aI x13) [(hB 3200000 [(aS x14)]),(hB 3200300 [(aI x15)]),(hB 3200301
 [(aI x16)])]) ∧ (sel (x16 == 0) (sel (decide (x13 > 1)) (R (.tup [(.o (Mir.D.sl 3 [])),(.n (.int .i64 4))])) (∃ x17 : ByteArray,(∃ x18 : ByteArray,(∃ x19 : Int,(∃ x20 : Int,((Runs
 Fs 64 [(.ptr 3200301 0),(.ptr 3200000 0),(.ptr 3200300 0)] [(hB 3200000 [(aS x14)]),(hB 3200300 [(aI x15)]),(hB 3200301 [(aI x16)])] (aS x17) [(hB 3200000 [(aS x18)]),(hB 3200300
 [(aI x19)]),(hB 3200301 [(aI x20)])]) ∧ (sel (Bool.not (x13 == 1)) (∃ x21 : ByteArray,(∃ x22 : ByteArray,(∃ x23 : Int,(∃ x24 : Int,((Runs Fs 64 [(.ptr 3200301 0),(.ptr 3200000
 0),(.ptr 3200300 0)] [(hB 3200000 [(aS x18)]),(hB 3200300 [(aI x19)]),(hB 3200301 [(aI x20)])] (aS x21) [(hB 3200000 [(aS x22)]),(hB 3200300 [(aI x23)]),(hB 3200301 [(aI x24)])]) ∧
 (rn 0) ∧ ((rn 3) ∨ (@Eq LD [(Mir.D.rcd [(Mir.D.str x17),(Mir.D.str x21),(Mir.D.bool (x13 == 1))])] [])) ∧ (((((Prod.fst x11) : Nat) = x6) ∧ (rn 111)) ∧ (rn 3)) ∧ (((((List.length
 (Prod.snd x11)) + (List.length [(Mir.D.rcd [(Mir.D.str x17),(Mir.D.str x21),(Mir.D.bool (x13 == 1))])])) * 40) : Nat) ≤ 140737488355328) ∧ (rq (.ptr 3200000 0)) ∧ (rq (.ptr 3200300
 0)) ∧ (rq (.ptr 3200301 0)) ∧ (rq (.fn 63 [(.ptr 3200301 0),(.ptr 3200000 0),(.ptr 3200300 0)])) ∧ (rq (.fn 64 [(.ptr 3200301 0),(.ptr 3200000 0),(.ptr 3200300 0)])) ∧ (rh [(hB
 3200000 [(aS x22)]),(hB 3200300 [(aI x23)]),(hB 3200301 [(aI x24)]),(3201603,(.row false true (x6 + 1) 111 3 ((Prod.snd x11) ++ [(Mir.D.rcd [(Mir.D.str x17),(Mir.D.str
 x21),(Mir.D.bool (x13 == 1))])])))]) ∧ (x4 (x6 + 1) (IntKind.wrap .i64 (x7 - 1)) (x22,()) (x23,()) (x24,()) ((x6 + 1),((Prod.snd x11) ++ [(Mir.D.rcd [(Mir.D.str x17),(Mir.D.str
 x21),(Mir.D.bool (x13 == 1))])]))) ∧ (((x5 (x6 + 1) (IntKind.wrap .i64 (x7 - 1)) (x22,()) (x23,()) (x24,()) ((x6 + 1),((Prod.snd x11) ++ [(Mir.D.rcd [(Mir.D.str x17),(Mir.D.str
 x21),(Mir.D.bool (x13 == 1))])]))) : Nat) < (x5 x6 x7 x8 x9 x10 x11))))))) ((rn 0) ∧ ((rn 3) ∨ (@Eq LD [(Mir.D.rcd [(Mir.D.str x17),(Mir.D.str (ByteArray.mk (List.toArray
 []))),(Mir.D.bool (x13 == 1))])] [])) ∧ (((((Prod.fst x11) : Nat) = x6) ∧ (rn 111)) ∧ (rn 3)) ∧ (((((List.length (Prod.snd x11)) + (List.length [(Mir.D.rcd [(Mir.D.str
 x17),(Mir.D.str (ByteArray.mk (List.toArray []))),(Mir.D.bool (x13 == 1))])])) * 40) : Nat) ≤ 140737488355328) ∧ (rq (.ptr 3200000 0)) ∧ (rq (.ptr 3200300 0)) ∧ (rq (.ptr 3200301
 0)) ∧ (rq (.fn 63 [(.ptr 3200301 0),(.ptr 3200000 0),(.ptr 3200300 0)])) ∧ (rq (.fn 64 [(.ptr 3200301 0),(.ptr 3200000 0),(.ptr 3200300 0)])) ∧ (rh [(hB 3200000 [(aS x18)]),(hB
 3200300 [(aI x19)]),(hB 3200301 [(aI x20)]),(3201603,(.row false true (x6 + 1) 111 3 ((Prod.snd x11) ++ [(Mir.D.rcd [(Mir.D.str x17),(Mir.D.str (ByteArray.mk (List.toArray
 []))),(Mir.D.bool (x13 == 1))])])))]) ∧ (x4 (x6 + 1) (IntKind.wrap .i64 (x7 - 1)) (x18,()) (x19,()) (x20,()) ((x6 + 1),((Prod.snd x11) ++ [(Mir.D.rcd [(Mir.D.str x17),(Mir.D.str
 (ByteArray.mk (List.toArray []))),(Mir.D.bool (x13 == 1))])]))) ∧ (((x5 (x6 + 1) (IntKind.wrap .i64 (x7 - 1)) (x18,()) (x19,()) (x20,()) ((x6 + 1),((Prod.snd x11) ++ [(Mir.D.rcd
 [(Mir.D.str x17),(Mir.D.str (ByteArray.mk (List.toArray []))),(Mir.D.bool (x13 == 1))])]))) : Nat) < (x5 x6 x7 x8 x9 x10 x11)))))))))) (∃ x25 : ByteArray,(∃ x26 : ByteArray,(∃ x27
 : Int,(∃ x28 : Int,((Runs Fs 64 [(.ptr 3200301 0),(.ptr 3200000 0),(.ptr 3200300 0)] [(hB 3200000 [(aS x14)]),(hB 3200300 [(aI x15)]),(hB 3200301 [(aI x16)])] (aS x25) [(hB 3200000
 [(aS x26)]),(hB 3200300 [(aI x27)]),(hB 3200301 [(aI x28)])]) ∧ (sel (Bool.not (x13 == 1)) (∃ x29 : ByteArray,(∃ x30 : ByteArray,(∃ x31 : Int,(∃ x32 : Int,((Runs Fs 64 [(.ptr
 3200301 0),(.ptr 3200000 0),(.ptr 3200300 0)] [(hB 3200000 [(aS x26)]),(hB 3200300 [(aI x27)]),(hB 3200301 [(aI x28)])] (aS x29) [(hB 3200000 [(aS x30)]),(hB 3200300 [(aI
 x31)]),(hB 3200301 [(aI x32)])]) ∧ (rn 0) ∧ ((rn 3) ∨ (@Eq LD [(Mir.D.rcd [(Mir.D.str x25),(Mir.D.str x29),(Mir.D.bool (x13 == 1))])] [])) ∧ (((((Prod.fst x11) : Nat) = x6) ∧ (rn
 111)) ∧ (rn 3)) ∧ (((((List.length (Prod.snd x11)) + (List.length [(Mir.D.rcd [(Mir.D.str x25),(Mir.D.str x29),(Mir.D.bool (x13 == 1))])])) * 40) : Nat) ≤ 140737488355328) ∧ (rq
 (.ptr 3200000 0)) ∧ (rq (.ptr 3200300 0)) ∧ (rq (.ptr 3200301 0)) ∧ (rq (.fn 63 [(.ptr 3200301 0),(.ptr 3200000 0),(.ptr 3200300 0)])) ∧ (rq (.fn 64 [(.ptr 3200301 0),(.ptr 3200000
 0),(.ptr 3200300 0)])) ∧ (rh [(hB 3200000 [(aS x30)]),(hB 3200300 [(aI x31)]),(hB 3200301 [(aI x32)]),(3201603,(.row false true (x6 + 1) 111 3 ((Prod.snd x11) ++ [(Mir.D.rcd
 [(Mir.D.str x25),(Mir.D.str x29),(Mir.D.bool (x13 == 1))])])))]) ∧ (x4 (x6 + 1) (IntKind.wrap .i64 (x7 - 1)) (x30,()) (x31,()) (x32,()) ((x6 + 1),((Prod.snd x11) ++ [(Mir.D.rcd
 [(Mir.D.str x25),(Mir.D.str x29),(Mir.D.bool (x13 == 1))])]))) ∧ (((x5 (x6 + 1) (IntKind.wrap .i64 (x7 - 1)) (x30,()) (x31,()) (x32,()) ((x6 + 1),((Prod.snd x11) ++ [(Mir.D.rcd
 [(Mir.D.str x25),(Mir.D.str x29),(Mir.D.bool (x13 == 1))])]))) : Nat) < (x5 x6 x7 x8 x9 x10 x11))))))) ((rn 0) ∧ ((rn 3) ∨ (@Eq LD [(Mir.D.rcd [(Mir.D.str x25),(Mir.D.str
 (ByteArray.mk (List.toArray []))),(Mir.D.bool (x13 == 1))])] [])) ∧ (((((Prod.fst x11) : Nat) = x6) ∧ (rn 111)) ∧ (rn 3)) ∧ (((((List.length (Prod.snd x11)) + (List.length
 [(Mir.D.rcd [(Mir.D.str x25),(Mir.D.str (ByteArray.mk (List.toArray []))),(Mir.D.bool (x13 == 1))])])) * 40) : Nat) ≤ 140737488355328) ∧ (rq (.ptr 3200000 0)) ∧ (rq (.ptr 3200300
 0)) ∧ (rq (.ptr 3200301 0)) ∧ (rq (.fn 63 [(.ptr 3200301 0),(.ptr 3200000 0),(.ptr 3200300 0)])) ∧ (rq (.fn 64 [(.ptr 3200301 0),(.ptr 3200000 0),(.ptr 3200300 0)])) ∧ (rh [(hB
 3200000 [(aS x26)]),(hB 3200300 [(aI x27)]),(hB 3200301 [(aI x28)]),(3201603,(.row false true (x6 + 1) 111 3 ((Prod.snd x11) ++ [(Mir.D.rcd [(Mir.D.str x25),(Mir.D.str
 (ByteArray.mk (List.toArray []))),(Mir.D.bool (x13 == 1))])])))]) ∧ (x4 (x6 + 1) (IntKind.wrap .i64 (x7 - 1)) (x26,()) (x27,()) (x28,()) ((x6 + 1),((Prod.snd x11) ++ [(Mir.D.rcd
 [(Mir.D.str x25),(Mir.D.str (ByteArray.mk (List.toArray []))),(Mir.D.bool (x13 == 1))])]))) ∧ (((x5 (x6 + 1) (IntKind.wrap .i64 (x7 - 1)) (x26,()) (x27,()) (x28,()) ((x6 +
 1),((Prod.snd x11) ++ [(Mir.D.rcd [(Mir.D.str x25),(Mir.D.str (ByteArray.mk (List.toArray []))),(Mir.D.bool (x13 == 1))])]))) : Nat) < (x5 x6 x7 x8 x9 x10 x11))))))))))))))) (sel
 (x10.1 != 0) (R (.tup [(.o (Mir.D.sl 3 [])),(.n (.int .i64 x10.1))])) (sel (x9.1 != (((ByteArray.size x8.1) : Nat) : Int)) (R (.tup [(.o (Mir.D.sl 3 [])),(.n (.int .i64 4))]))
 (((Prod.fst x11) = x6) ∧ (∃ x33 : Bool,((Runs Fs 59 [(.o (Mir.D.sl 3 (Prod.snd x11))),(.fn 66 [])] [] (aB x33) []) ∧ (sel x33 (R (.tup [(.o (Mir.D.sl 3 [])),(.n (.int .i64 4))]))
 (((Prod.fst x11) = x6) ∧ (R (.tup [(.o (Mir.D.sl 3 (Prod.snd x11))),(.n (.int .i64 0))])))))))))) (sel (x10.1 != 0) (R (.tup [(.o (Mir.D.sl 3 [])),(.n (.int .i64 x10.1))])) (sel
 (x9.1 != (((ByteArray.size x8.1) : Nat) : Int)) (R (.tup [(.o (Mir.D.sl 3 [])),(.n (.int .i64 4))])) (((Prod.fst x11) = x6) ∧ (∃ x34 : Bool,((Runs Fs 59 [(.o (Mir.D.sl 3 (Prod.snd
 x11))),(.fn 66 [])] [] (aB x34) []) ∧ (sel x34 (R (.tup [(.o (Mir.D.sl 3 [])),(.n (.int .i64 4))])) (((Prod.fst x11) = x6) ∧ (R (.tup [(.o (Mir.D.sl 3 (Prod.snd x11))),(.n (.int
 .i64 0))])))))))))))))))))))))))))))
theorem vc32 (a0 : ByteArray) (R : Mir.AV → Prop) : Vc Fs c32.body (argsQ c32 [(.n (.str a0))]) [] (endQ c32 R) = V32 a0 R := by kernel_rfl
def V20  (R : Mir.AV → Prop) : Prop :=
 (∃ x0 : ByteArray,(∃ x1 : Int,((Runs Fs 31 [(.o (Mir.D.sl 3 []))] [] (.tup [(aS x0),(aI x1)]) []) ∧ (sel (x1 == 0) (R (.n (.bool ((ByteArray.toList x0) == (ByteArray.toList
 (ByteArray.mk (List.toArray [0]))))))) (R (.n (.bool false)))))))
theorem vc20  (R : Mir.AV → Prop) : Vc Fs c20.body (argsQ c20 []) [] (endQ c20 R) = V20  R := by kernel_rfl
def V33 (a0 : LD) (a1 : LD) (R : Mir.AV → Prop) : Prop :=
 (sel ((a0.length : Int) != (a1.length : Int)) (R (.n (.bool false))) (∃ x0 : (Int → Prop),(∃ x1 : (Int → Nat),(((rh []) ∧ (x0 0)) ∧ (∀ x2 : Int,((x0 x2) → (∀ x3 : (Nat →
 Mir.AV),(sel (decide (x2 < (a0.length : Int))) ((rn 3) ∧ ((0 : Int) ≤ x2) ∧ (∃ x4 : Mir.D,((a0[Int.toNat x2]? = some x4) ∧ (∃ x5 : ByteArray,(∃ x6 : ByteArray,(∃ x7 : Bool,((@Eq LD
 (List.take 3 (D.cells x4)) [(Mir.D.str x5),(Mir.D.str x6),(Mir.D.bool x7)]) ∧ ((3 : Nat) ≤ (List.length (D.cells x4))) ∧ (rn 3) ∧ ((0 : Int) ≤ x2) ∧ (∃ x8 : Mir.D,((a1[Int.toNat
 x2]? = some x8) ∧ (∃ x9 : ByteArray,(∃ x10 : ByteArray,(∃ x11 : Bool,((@Eq LD (List.take 3 (D.cells x8)) [(Mir.D.str x9),(Mir.D.str x10),(Mir.D.bool x11)]) ∧ ((3 : Nat) ≤
 (List.length (D.cells x8))) ∧ (sel (Bool.not (((ByteArray.toList x5) == (ByteArray.toList x9)) && (((ByteArray.toList x6) == (ByteArray.toList x10)) && ((x7 == x11) && true)))) (R
 (.n (.bool false))) ((rq (.o (Mir.D.sl 3 a0))) ∧ (rq (.o (Mir.D.sl 3 a1))) ∧ (rq (aI (a0.length : Int))) ∧ (rh []) ∧ (x0 (IntKind.wrap .i64 (x2 + 1))) ∧ (((x1 (IntKind.wrap .i64
 (x2 + 1))) : Nat) < (x1 x2))))))))))))))))) (R (.n (.bool true)))))))))))
theorem vc33 (a0 : LD) (a1 : LD) (R : Mir.AV → Prop) : Vc Fs c33.body (argsQ c33 [(.o (.sl 3 a0)), (.o (.sl 3 a1))]) [] (endQ c33 R) = V33 a0 a1 R := by kernel_rfl
def V60 (a0_0 : ByteArray) (a0_1 : ByteArray) (a0_2 : Bool) (R : Mir.AV → Prop) : Prop :=
 (∃ x0 : Bool,((Runs Fs 61 [(.agg [(aS a0_0),(aS a0_1),(aB a0_2)])] [] (aB x0) []) ∧ (R (.n (.bool (Bool.not x0))))))
theorem vc60 (a0_0 : ByteArray) (a0_1 : ByteArray) (a0_2 : Bool) (R : Mir.AV → Prop) : Vc Fs c60.body (argsQ c60 [(.agg [(.n (.str a0_0)), (.n (.str a0_1)), (.n (.bool a0_2))])]) [] (endQ c60 R) = V60 a0_0 a0_1 a0_2 R := by kernel_rfl
def V61 (a0_0 : ByteArray) (a0_1 : ByteArray) (a0_2 : Bool) (R : Mir.AV → Prop) : Prop :=
 (sel (decide ((((ByteArray.size a0_0) : Nat) : Int) ≥ 1)) (sel (decide ((((ByteArray.size a0_0) : Nat) : Int) ≤ 32)) (sel (decide ((((ByteArray.size a0_1) : Nat) : Int) ≤ 200))
 (sel (Bool.not a0_2) (R (.n (.bool true))) (R (.n (.bool ((ByteArray.toList a0_1) == (ByteArray.toList (ByteArray.mk (List.toArray [])))))))) (R (.n (.bool false)))) (R (.n (.bool
 false)))) (R (.n (.bool false))))
theorem vc61 (a0_0 : ByteArray) (a0_1 : ByteArray) (a0_2 : Bool) (R : Mir.AV → Prop) : Vc Fs c61.body (argsQ c61 [(.agg [(.n (.str a0_0)), (.n (.str a0_1)), (.n (.bool a0_2))])]) [] (endQ c61 R) = V61 a0_0 a0_1 a0_2 R := by kernel_rfl
def V66 (a0_0 : ByteArray) (a0_1 : ByteArray) (a0_2 : Bool) (R : Mir.AV → Prop) : Prop :=
 (∃ x0 : Bool,((Runs Fs 61 [(.agg [(aS a0_0),(aS a0_1),(aB a0_2)])] [] (aB x0) []) ∧ (R (.n (.bool (Bool.not x0))))))
theorem vc66 (a0_0 : ByteArray) (a0_1 : ByteArray) (a0_2 : Bool) (R : Mir.AV → Prop) : Vc Fs c66.body (argsQ c66 [(.agg [(.n (.str a0_0)), (.n (.str a0_1)), (.n (.bool a0_2))])]) [] (endQ c66 R) = V66 a0_0 a0_1 a0_2 R := by kernel_rfl
def V59p (a0 : LD) (R : Mir.AV → Prop) : Prop :=
 (∃ x0 : Int,((Runs Fs 98 [(.o (Mir.D.sl 3 a0)),(.fn 60 [])] [] (aI x0) []) ∧ (R (.n (.bool (decide (x0 ≥ 0)))))))
theorem vc59p (a0 : LD) (R : Mir.AV → Prop) : Vc Fs c59.body (argsQ c59 [.o (.sl 3 a0), .fn 60 []]) [] (endQ c59 R) = V59p a0 R := by kernel_rfl
def V98p (a0 : LD) (R : Mir.AV → Prop) : Prop :=
 (∃ x0 : (Int → Prop),(∃ x1 : (Int → Nat),(((rh []) ∧ (x0 0)) ∧ (∀ x2 : Int,((x0 x2) → (∀ x3 : (Nat → Mir.AV),(sel (decide (x2 < (a0.length : Int))) ((rn 3) ∧ ((0 : Int) ≤ x2) ∧ (∃
 x4 : Mir.D,((a0[Int.toNat x2]? = some x4) ∧ (∃ x5 : ByteArray,(∃ x6 : ByteArray,(∃ x7 : Bool,((@Eq LD (List.take 3 (D.cells x4)) [(Mir.D.str x5),(Mir.D.str x6),(Mir.D.bool x7)]) ∧
 ((3 : Nat) ≤ (List.length (D.cells x4))) ∧ (∃ x8 : Bool,((Runs Fs 60 [(.agg [(aS x5),(aS x6),(aB x7)])] [] (aB x8) []) ∧ (sel x8 (R (.n (.int .i64 x2))) ((rq (.o (Mir.D.sl 3 a0)))
 ∧ (rq (.fn 60 [])) ∧ (rq (aI (a0.length : Int))) ∧ (rh []) ∧ (x0 (IntKind.wrap .i64 (x2 + 1))) ∧ (((x1 (IntKind.wrap .i64 (x2 + 1))) : Nat) < (x1 x2))))))))))))) (R (.n (.int .i64
 (-1)))))))))))
theorem vc98p (a0 : LD) (R : Mir.AV → Prop) : Vc Fs c98.body (argsQ c98 [.o (.sl 3 a0), .fn 60 []]) [] (endQ c98 R) = V98p a0 R := by kernel_rfl
def V59q (a0 : LD) (R : Mir.AV → Prop) : Prop :=
 (∃ x0 : Int,((Runs Fs 98 [(.o (Mir.D.sl 3 a0)),(.fn 66 [])] [] (aI x0) []) ∧ (R (.n (.bool (decide (x0 ≥ 0)))))))
theorem vc59q (a0 : LD) (R : Mir.AV → Prop) : Vc Fs c59.body (argsQ c59 [.o (.sl 3 a0), .fn 66 []]) [] (endQ c59 R) = V59q a0 R := by kernel_rfl
def V98q (a0 : LD) (R : Mir.AV → Prop) : Prop :=
 (∃ x0 : (Int → Prop),(∃ x1 : (Int → Nat),(((rh []) ∧ (x0 0)) ∧ (∀ x2 : Int,((x0 x2) → (∀ x3 : (Nat → Mir.AV),(sel (decide (x2 < (a0.length : Int))) ((rn 3) ∧ ((0 : Int) ≤ x2) ∧ (∃
 x4 : Mir.D,((a0[Int.toNat x2]? = some x4) ∧ (∃ x5 : ByteArray,(∃ x6 : ByteArray,(∃ x7 : Bool,((@Eq LD (List.take 3 (D.cells x4)) [(Mir.D.str x5),(Mir.D.str x6),(Mir.D.bool x7)]) ∧
 ((3 : Nat) ≤ (List.length (D.cells x4))) ∧ (∃ x8 : Bool,((Runs Fs 66 [(.agg [(aS x5),(aS x6),(aB x7)])] [] (aB x8) []) ∧ (sel x8 (R (.n (.int .i64 x2))) ((rq (.o (Mir.D.sl 3 a0)))
 ∧ (rq (.fn 66 [])) ∧ (rq (aI (a0.length : Int))) ∧ (rh []) ∧ (x0 (IntKind.wrap .i64 (x2 + 1))) ∧ (((x1 (IntKind.wrap .i64 (x2 + 1))) : Nat) < (x1 x2))))))))))))) (R (.n (.int .i64
 (-1)))))))))))
theorem vc98q (a0 : LD) (R : Mir.AV → Prop) : Vc Fs c98.body (argsQ c98 [.o (.sl 3 a0), .fn 66 []]) [] (endQ c98 R) = V98q a0 R := by kernel_rfl
def V63h (s : ByteArray) (n : Int) (e : Int) (R : Mir.AV → Heap → Prop) : Prop :=
 (sel (e != 0) (R (.n (.int .i64 0)) [(hB 3200000 [(.n (.str s))]),(hB 3200300 [(.n (.int .i64 n))]),(hB 3200301 [(.n (.int .i64 e))])]) (∃ x0 : Int,(∃ x1 : Int,(∃ x2 : Int,((Runs
 Fs 48 [(aS s),(aI n),(aI 1)] [] (.tup [(aI x0),(aI x1),(aI x2)]) []) ∧ (R (.n (.int .i64 x0)) [(hB 3200000 [(.n (.str s))]),(hB 3200300 [(.n (.int .i64 x1))]),(hB 3200301 [(.n
 (.int .i64 x2))])]))))))
theorem vc63h (s : ByteArray) (n : Int) (e : Int) (R : Mir.AV → Heap → Prop) : Vc Fs c63.body (argsQ c63 [.ptr 3200301 0, .ptr 3200000 0, .ptr 3200300 0]) [(3200000, .box [.n (.str s)]), (3200300, .box [.n (.int .i64 n)]), (3200301, .box [.n (.int .i64 e)])] (endQH c63 [(3200000, .box [.n (.str s)]), (3200300, .box [.n (.int .i64 n)]), (3200301, .box [.n (.int .i64 e)])] R) = V63h s n e R := by kernel_rfl
def V64h (s : ByteArray) (n : Int) (e : Int) (R : Mir.AV → Heap → Prop) : Prop :=
 (sel (e != 0) (R (.n (.str (ByteArray.mk (List.toArray [])))) [(hB 3200000 [(.n (.str s))]),(hB 3200300 [(.n (.int .i64 n))]),(hB 3200301 [(.n (.int .i64 e))])]) (∃ x0 :
 ByteArray,(∃ x1 : Int,(∃ x2 : Int,((Runs Fs 65 [(aS s),(aI n)] [] (.tup [(aS x0),(aI x1),(aI x2)]) []) ∧ (R (.n (.str x0)) [(hB 3200000 [(.n (.str s))]),(hB 3200300 [(.n (.int .i64
 x1))]),(hB 3200301 [(.n (.int .i64 x2))])]))))))
theorem vc64h (s : ByteArray) (n : Int) (e : Int) (R : Mir.AV → Heap → Prop) : Vc Fs c64.body (argsQ c64 [.ptr 3200301 0, .ptr 3200000 0, .ptr 3200300 0]) [(3200000, .box [.n (.str s)]), (3200300, .box [.n (.int .i64 n)]), (3200301, .box [.n (.int .i64 e)])] (endQH c64 [(3200000, .box [.n (.str s)]), (3200300, .box [.n (.int .i64 n)]), (3200301, .box [.n (.int .i64 e)])] R) = V64h s n e R := by kernel_rfl
def V91 (a0 : ByteArray) (R : Mir.AV → Prop) : Prop :=
 (sel (decide ((((ByteArray.size a0) : Nat) : Int) ≤ 4096)) (∃ x0 : ByteArray,((Runs Fs 88 [(aS a0)] [] (aS x0) []) ∧ (R (.n (.bool ((ByteArray.toList x0) == (ByteArray.toList
 a0))))))) (R (.n (.bool false))))
theorem vc91 (a0 : ByteArray) (R : Mir.AV → Prop) : Vc Fs c91.body (argsQ c91 [(.n (.str a0))]) [] (endQ c91 R) = V91 a0 R := by kernel_rfl
def V142 (a0 : LD) (a1 : Int) (R : Mir.AV → Prop) : Prop :=
 ((rn 1) ∧ ((0 : Int) ≤ (mmI false (IntKind.wrap .i64 ((IntKind.wrap .i64 (a1 + 1)) * 512)) (a0.length : Int))) ∧ (((mmI false (IntKind.wrap .i64 ((IntKind.wrap .i64 (a1 + 1)) *
 512)) (a0.length : Int)) : Int) ≤ (a0.length : Int)) ∧ ((0 : Int) ≤ (mmI false (IntKind.wrap .i64 ((IntKind.wrap .i64 (a1 + 1)) * 512)) (a0.length : Int))) ∧ (((mmI false
 (IntKind.wrap .i64 ((IntKind.wrap .i64 (a1 + 1)) * 512)) (a0.length : Int)) : Int) ≤ (((Int.toNat (mmI false (IntKind.wrap .i64 ((IntKind.wrap .i64 (a1 + 1)) * 512)) (a0.length :
 Int))) : Nat) : Int)) ∧ ((0 : Int) ≤ (mmI false (IntKind.wrap .i64 (a1 * 512)) (a0.length : Int))) ∧ (((mmI false (IntKind.wrap .i64 (a1 * 512)) (a0.length : Int)) : Int) ≤
 (((Int.toNat (mmI false (IntKind.wrap .i64 ((IntKind.wrap .i64 (a1 + 1)) * 512)) (a0.length : Int))) : Nat) : Int)) ∧ ((rn 1) ∨ (@Eq LD (List.drop (Int.toNat (mmI false
 (IntKind.wrap .i64 (a1 * 512)) (a0.length : Int))) (List.take (Int.toNat (mmI false (IntKind.wrap .i64 ((IntKind.wrap .i64 (a1 + 1)) * 512)) (a0.length : Int))) a0)) [])) ∧
 (((List.all (List.drop (Int.toNat (mmI false (IntKind.wrap .i64 (a1 * 512)) (a0.length : Int))) (List.take (Int.toNat (mmI false (IntKind.wrap .i64 ((IntKind.wrap .i64 (a1 + 1)) *
 512)) (a0.length : Int))) a0)) Go.Mir.D.isU8) : Bool) = true) ∧ (R (.n (.str (ByteArray.mk (List.toArray (List.map Go.Mir.byteOf (List.drop (Int.toNat (mmI false (IntKind.wrap .i64
 (a1 * 512)) (a0.length : Int))) (List.take (Int.toNat (mmI false (IntKind.wrap .i64 ((IntKind.wrap .i64 (a1 + 1)) * 512)) (a0.length : Int))) a0)))))))))
theorem vc142 (a0 : LD) (a1 : Int) (R : Mir.AV → Prop) : Vc Fs c142.body (argsQ c142 [(.o (.sl 1 a0)), (.n (.int .i64 a1))]) [] (endQ c142 R) = V142 a0 a1 R := by kernel_rfl
def V95 (a0 : ByteArray) (a1 : ByteArray) (a2 : Int) (R : Mir.AV → Prop) : Prop :=
 (∃ x0 : (Nat → (Int → ((Nat × LD) → Prop))),(∃ x1 : (Nat → (Int → ((Nat × LD) → Nat))),(((rh [(9500902,(.row false true 0 5 1 []))]) ∧ (x0 0 0 (0,[]))) ∧ (∀ x2 : Nat,(∀ x3 : Int,(∀
 x4 : (Nat × LD),((x0 x2 x3 x4) → (∀ x5 : (Nat → Mir.AV),(sel (decide (x3 < 8)) (∃ x6 : ByteArray,((Runs Fs 119 [(aS a0),(aI x3)] [] (aS x6) []) ∧ ((0 : Int) ≤ x3) ∧ (sel
 ((IntKind.wrap .i64 (((BitVec.toNat (HAnd.hAnd (BitVec.ofInt (Go.IntKind.bits .i64) (Int.fdiv a2 (2 ^ (Min.min (Int.toNat x3) (Go.IntKind.bits .i64))))) (BitVec.ofInt
 (Go.IntKind.bits .i64) 1))) : Nat) : Int)) == 1) (∃ x7 : ByteArray,((Runs Fs 119 [(aS a1),(aI x3)] [] (aS x7) []) ∧ (∃ x8 : ByteArray,(∃ x9 : Int,((Runs Fs 109 [(aS x7),(aI 512)]
 [] (.tup [(aS x8),(aI x9)]) []) ∧ (((((Prod.fst x4) : Nat) = x2) ∧ (rn 5)) ∧ (rn 1)) ∧ ((((List.length (Prod.snd x4)) + (ByteArray.size x8)) : Nat) ≤ 140737488355328) ∧ (rq (aS
 a0)) ∧ (rq (aS a1)) ∧ (rq (aI a2)) ∧ (rh [(9500902,(.row false true (x2 + 1) 5 1 ((Prod.snd x4) ++ (Go.Mir.bytesD x8))))]) ∧ (x0 (x2 + 1) (IntKind.wrap .i64 (x3 + 1)) ((x2 +
 1),((Prod.snd x4) ++ (Go.Mir.bytesD x8)))) ∧ (((x1 (x2 + 1) (IntKind.wrap .i64 (x3 + 1)) ((x2 + 1),((Prod.snd x4) ++ (Go.Mir.bytesD x8)))) : Nat) < (x1 x2 x3 x4))))))) (∃ x10 :
 ByteArray,(∃ x11 : Int,((Runs Fs 109 [(aS x6),(aI 512)] [] (.tup [(aS x10),(aI x11)]) []) ∧ (((((Prod.fst x4) : Nat) = x2) ∧ (rn 5)) ∧ (rn 1)) ∧ ((((List.length (Prod.snd x4)) +
 (ByteArray.size x10)) : Nat) ≤ 140737488355328) ∧ (rq (aS a0)) ∧ (rq (aS a1)) ∧ (rq (aI a2)) ∧ (rh [(9500902,(.row false true (x2 + 1) 5 1 ((Prod.snd x4) ++ (Go.Mir.bytesD
 x10))))]) ∧ (x0 (x2 + 1) (IntKind.wrap .i64 (x3 + 1)) ((x2 + 1),((Prod.snd x4) ++ (Go.Mir.bytesD x10)))) ∧ (((x1 (x2 + 1) (IntKind.wrap .i64 (x3 + 1)) ((x2 + 1),((Prod.snd x4) ++
 (Go.Mir.bytesD x10)))) : Nat) < (x1 x2 x3 x4)))))))) ((((Prod.fst x4) : Nat) = x2) ∧ ((rn 1) ∨ (@Eq LD (Prod.snd x4) [])) ∧ (((List.all (Prod.snd x4) Go.Mir.D.isU8) : Bool) = true)
 ∧ (∃ x12 : ByteArray,((Runs Fs 88 [(aS (ByteArray.mk (List.toArray (List.map Go.Mir.byteOf (Prod.snd x4)))))] [] (aS x12) []) ∧ (R (.n (.str x12)))))))))))))))
theorem vc95 (a0 : ByteArray) (a1 : ByteArray) (a2 : Int) (R : Mir.AV → Prop) : Vc Fs c95.body (argsQ c95 [(.n (.str a0)), (.n (.str a1)), (.n (.int .i64 a2))]) [] (endQ c95 R) = V95 a0 a1 a2 R := by kernel_rfl
def V119 (a0 : ByteArray) (a1 : Int) (R : Mir.AV → Prop) : Prop :=
 (sel (decide (a1 < 0)) (R (.n (.str (ByteArray.mk (List.toArray []))))) (sel (decide (a1 ≥ 8)) (R (.n (.str (ByteArray.mk (List.toArray []))))) (∃ x0 : ByteArray,((Runs Fs 142 [(aL
 (Go.Mir.bytesD a0)),(aI a1)] [] (aS x0) []) ∧ (∃ x1 : ByteArray,((Runs Fs 88 [(aS x0)] [] (aS x1) []) ∧ (R (.n (.str x1)))))))))
theorem vc119 (a0 : ByteArray) (a1 : Int) (R : Mir.AV → Prop) : Vc Fs c119.body (argsQ c119 [(.n (.str a0)), (.n (.int .i64 a1))]) [] (endQ c119 R) = V119 a0 a1 R := by kernel_rfl
def V53 (a0_0 : LD) (a0_1 : LD) (R : Mir.AV → Prop) : Prop :=
 (sel (decide ((a0_0.length : Int) < 1)) (R (.n (.bool false))) (sel (decide ((a0_0.length : Int) > 2048)) (R (.n (.bool false))) (sel (decide ((a0_1.length : Int) > 2048)) (R (.n
 (.bool false))) (∃ x0 : (Int → Prop),(∃ x1 : (Int → Nat),(((rh [(hB 5300000 [(aL a0_0),(.o (Mir.D.sl 2 a0_1))]),(hB 5300103 [(aI (a0_0.length : Int))])]) ∧ (x0 0)) ∧ (∀ x2 :
 Int,((x0 x2) → (∀ x3 : (Nat → Mir.AV),(sel (decide (x2 < (a0_0.length : Int))) ((rn 1) ∧ ((0 : Int) ≤ x2) ∧ (∃ x4 : Mir.D,((a0_0[Int.toNat x2]? = some x4) ∧ (∃ x5 :
 ByteArray,(((D.cells x4)[0]? = some (Mir.D.str x5)) ∧ (∃ x6 : Bool,((Runs Fs 91 [(aS x5)] [] (aB x6) []) ∧ (sel (Bool.not x6) (R (.n (.bool false))) ((rq (.ptr 5300000 0)) ∧ (rq
 (.ptr 5300103 0)) ∧ (rq (aL a0_0)) ∧ (rq (aI (a0_0.length : Int))) ∧ (rh [(hB 5300000 [(aL a0_0),(.o (Mir.D.sl 2 a0_1))]),(hB 5300103 [(aI (a0_0.length : Int))])]) ∧ (x0
 (IntKind.wrap .i64 (x2 + 1))) ∧ (((x1 (IntKind.wrap .i64 (x2 + 1))) : Nat) < (x1 x2))))))))))) (∃ x7 : Bool,((Runs Fs 92 [(.o (Mir.D.sl 2 a0_1)),(.fn 93 [(.ptr 5300103 0)])] [(hB
 5300103 [(aI (a0_0.length : Int))])] (aB x7) [(hB 5300103 [(aI (a0_0.length : Int))])]) ∧ (R (.n (.bool (Bool.not x7))))))))))))))))
theorem vc53 (a0_0 : LD) (a0_1 : LD) (R : Mir.AV → Prop) : Vc Fs c53.body (argsQ c53 [(.agg [(.o (.sl 1 a0_0)), (.o (.sl 2 a0_1))])]) [] (endQ c53 R) = V53 a0_0 a0_1 R := by kernel_rfl
def V93r (b : Int) (s : ByteArray) (n : Int) (R : Mir.AV → Heap → Prop) : Prop :=
 (sel (decide (b < 0)) (R (.n (.bool true)) [(hB 5300103 [(.n (.int .i64 n))])]) (sel (decide (b ≥ n)) (R (.n (.bool true)) [(hB 5300103 [(.n (.int .i64 n))])]) (∃ x0 : Bool,((Runs
 Fs 91 [(aS s)] [] (aB x0) []) ∧ (R (.n (.bool (Bool.not x0))) [(hB 5300103 [(.n (.int .i64 n))])])))))
theorem vc93r (b : Int) (s : ByteArray) (n : Int) (R : Mir.AV → Heap → Prop) : Vc Fs c93.body (argsQ c93 [.agg [.n (.int .i64 b), .n (.str s)], .ptr 5300103 0]) [(5300103, .box [.n (.int .i64 n)])] (endQH c93 [(5300103, .box [.n (.int .i64 n)])] R) = V93r b s n R := by kernel_rfl
def V118r (els : LD) (n : Int) (R : Mir.AV → Heap → Prop) : Prop :=
 (∃ x0 : (Int → Prop),(∃ x1 : (Int → Nat),(((rh [(hB 5300103 [(aI n)])]) ∧ (x0 0)) ∧ (∀ x2 : Int,((x0 x2) → (∀ x3 : (Nat → Mir.AV),(sel (decide (x2 < (els.length : Int))) ((rn 2) ∧
 ((0 : Int) ≤ x2) ∧ (∃ x4 : Mir.D,((els[Int.toNat x2]? = some x4) ∧ (∃ x5 : Int,(∃ x6 : ByteArray,((@Eq LD (List.take 2 (D.cells x4)) [(Mir.D.int .i64 x5),(Mir.D.str x6)]) ∧ ((2 :
 Nat) ≤ (List.length (D.cells x4))) ∧ (∃ x7 : Bool,((Runs Fs 93 [(.agg [(aI x5),(aS x6)]),(.ptr 5300103 0)] [(hB 5300103 [(aI n)])] (aB x7) [(hB 5300103 [(aI n)])]) ∧ (sel x7 (R (.n
 (.int .i64 x2)) [(hB 5300103 [(.n (.int .i64 n))])]) ((rq (.o (Mir.D.sl 2 els))) ∧ (rq (.fn 93 [(.ptr 5300103 0)])) ∧ (rq (aI (els.length : Int))) ∧ (rh [(hB 5300103 [(aI n)])]) ∧
 (x0 (IntKind.wrap .i64 (x2 + 1))) ∧ (((x1 (IntKind.wrap .i64 (x2 + 1))) : Nat) < (x1 x2)))))))))))) (R (.n (.int .i64 (-1))) [(hB 5300103 [(.n (.int .i64 n))])]))))))))
theorem vc118r (els : LD) (n : Int) (R : Mir.AV → Heap → Prop) : Vc Fs c118.body (argsQ c118 [.o (.sl 2 els), .fn 93 [.ptr 5300103 0]]) [(5300103, .box [.n (.int .i64 n)])] (endQH c118 [(5300103, .box [.n (.int .i64 n)])] R) = V118r els n R := by kernel_rfl
def V92r (els : LD) (n : Int) (R : Mir.AV → Heap → Prop) : Prop :=
 (∃ x0 : Int,((Runs Fs 118 [(.o (Mir.D.sl 2 els)),(.fn 93 [(.ptr 5300103 0)])] [(hB 5300103 [(aI n)])] (aI x0) [(hB 5300103 [(aI n)])]) ∧ (R (.n (.bool (decide (x0 ≥ 0)))) [(hB
 5300103 [(.n (.int .i64 n))])])))
theorem vc92r (els : LD) (n : Int) (R : Mir.AV → Heap → Prop) : Vc Fs c92.body (argsQ c92 [.o (.sl 2 els), .fn 93 [.ptr 5300103 0]]) [(5300103, .box [.n (.int .i64 n)])] (endQH c92 [(5300103, .box [.n (.int .i64 n)])] R) = V92r els n R := by kernel_rfl
def V55c (k : Int) (ms : LD) (R : Mir.AV → Heap → Prop) : Prop :=
 (sel (decide (k < (ms.length : Int))) ((rn 1) ∧ ((0 : Int) ≤ k) ∧ (∃ x0 : Mir.D,((ms[Int.toNat k]? = some x0) ∧ (∃ x1 : Int,(((D.cells x0)[0]? = some (Mir.D.int .i64 x1)) ∧ (R (.n
 (.int .i64 x1)) [(hB 2100001 [(.o (.sl 1 ms))])])))))) (R (.n (.int .i64 0)) [(hB 2100001 [(.o (.sl 1 ms))])]))
theorem vc55c (k : Int) (ms : LD) (R : Mir.AV → Heap → Prop) : Vc Fs c55.body (argsQ c55 [.n (.int .i64 k), .ptr 2100001 0]) [(2100001, .box [.o (.sl 1 ms)])] (endQH c55 [(2100001, .box [.o (.sl 1 ms)])] R) = V55c k ms R := by kernel_rfl
def V54c (bs : LD) (ps : LD) (ms : LD) (R : Mir.AV → Heap → Prop) : Prop :=
 (∃ x0 : Nat,(∃ x1 : LD,((Runs Fs 94 [(aL bs)] [] (.row 9400001 x0) [(hR 9400001 x0 9 1 x1)]) ∧ (∃ x2 : (Int → ((Nat × LD) → Prop)),(∃ x3 : (Int → ((Nat × LD) → Nat)),(((rh [(hB
 2100001 [(aL ms)]),(hB 5400000 [(aL bs),(.o (Mir.D.sl 2 ps))]),(hB 5400001 [(.n Mir.D.nil),(.n Mir.D.nil)]),(hB 5400104 [(.row 9400001 x0),(.n Mir.D.nil)]),(hR 9400001 x0 9 1 x1)])
 ∧ (x2 0 (x0,x1))) ∧ (∀ x4 : Int,(∀ x5 : (Nat × LD),((x2 x4 x5) → (∀ x6 : (Nat → Mir.AV),(sel (decide (x4 < (ps.length : Int))) ((rn 2) ∧ ((0 : Int) ≤ x4) ∧ (∃ x7 :
 Mir.D,((ps[Int.toNat x4]? = some x7) ∧ (∃ x8 : Int,(∃ x9 : ByteArray,((@Eq LD (List.take 2 (D.cells x7)) [(Mir.D.int .i64 x8),(Mir.D.str x9)]) ∧ ((2 : Nat) ≤ (List.length (D.cells
 x7))) ∧ ((((Prod.fst x5) : Nat) = x0) ∧ (rn 1)) ∧ ((0 : Int) ≤ x8) ∧ ((x8 : Int) < ((Prod.snd x5).length : Int)) ∧ (((x0 : Nat) = (Prod.fst x5)) ∧ (rn 1)) ∧ (∃ x10 :
 Mir.D,(((Prod.snd x5)[Int.toNat x8]? = some x10) ∧ (∃ x11 : ByteArray,(((D.cells x10)[0]? = some (Mir.D.str x11)) ∧ (∃ x12 : Int,((Runs Fs 55 [(aI x4),(.ptr 2100001 0)] [(hB
 2100001 [(aL ms)])] (aI x12) [(hB 2100001 [(aL ms)])]) ∧ (∃ x13 : ByteArray,((Runs Fs 95 [(aS x11),(aS x9),(aI x12)] [] (aS x13) []) ∧ ((((Prod.fst x5) : Nat) = x0) ∧ (rn 1)) ∧ ((0
 : Int) ≤ x8) ∧ ((x8 : Int) < ((Prod.snd x5).length : Int)) ∧ (((((x0 : Nat) = (Prod.fst x5)) ∧ (rn 0)) ∧ (rn 1)) ∧ (rn 1)) ∧ (((Int.toNat x8) : Nat) < (List.length (Prod.snd x5)))
 ∧ (rq (.fn 55 [(.ptr 2100001 0)])) ∧ (rq (.ptr 5400001 0)) ∧ (rq (.ptr 5400104 0)) ∧ (rq (.o (Mir.D.sl 2 ps))) ∧ (rq (aI (ps.length : Int))) ∧ (rh [(hB 2100001 [(aL ms)]),(hB
 5400000 [(aL bs),(.o (Mir.D.sl 2 ps))]),(hB 5400001 [(.n Mir.D.nil),(.n Mir.D.nil)]),(hB 5400104 [(.row 9400001 x0),(.n Mir.D.nil)]),(hR 9400001 (Prod.fst x5) 9 1 (List.set
 (Prod.snd x5) (Int.toNat x8) (Mir.D.str x13)))]) ∧ (x2 (IntKind.wrap .i64 (x4 + 1)) ((Prod.fst x5),(List.set (Prod.snd x5) (Int.toNat x8) (Mir.D.str x13)))) ∧ (((x3 (IntKind.wrap
 .i64 (x4 + 1)) ((Prod.fst x5),(List.set (Prod.snd x5) (Int.toNat x8) (Mir.D.str x13)))) : Nat) < (x3 x4 x5)))))))))))))))) (((Prod.fst x5) = x0) ∧ (R (.agg [(.o (.sl 1 (Prod.snd
 x5))),(.o (Mir.D.sl 2 []))]) [(hB 2100001 [(.o (.sl 1 ms))])])))))))))))))
theorem vc54c (bs : LD) (ps : LD) (ms : LD) (R : Mir.AV → Heap → Prop) : Vc Fs c54.body (argsQ c54 [.agg [.o (.sl 1 bs), .o (.sl 2 ps)], .fn 55 [.ptr 2100001 0]]) [(2100001, .box [.o (.sl 1 ms)])] (endQH c54 [(2100001, .box [.o (.sl 1 ms)])] R) = V54c bs ps ms R := by kernel_rfl
def V21 (a0_0 : LD) (a0_1 : LD) (a1 : LD) (R : Mir.AV → Prop) : Prop :=
 (∃ x0 : Bool,((Runs Fs 53 [(.agg [(aL a0_0),(.o (Mir.D.sl 2 a0_1))])] [] (aB x0) []) ∧ (sel (Bool.not x0) (R (.tup [(.agg [(.o (.sl 1 [])),(.o (Mir.D.sl 2 []))]),(.n (.int .i64
 1))])) (∃ x1 : LD,(∃ x2 : LD,((Runs Fs 54 [(.agg [(aL a0_0),(.o (Mir.D.sl 2 a0_1))]),(.fn 55 [(.ptr 2100001 0)])] [(hB 2100001 [(aL a1)])] (.agg [(aL x1),(.o (Mir.D.sl 2 x2))])
 [(hB 2100001 [(aL a1)])]) ∧ (R (.tup [(.agg [(.o (.sl 1 x1)),(.o (Mir.D.sl 2 x2))]),(.n (.int .i64 0))]))))))))
theorem vc21 (a0_0 : LD) (a0_1 : LD) (a1 : LD) (R : Mir.AV → Prop) : Vc Fs c21.body (argsQ c21 [(.agg [(.o (.sl 1 a0_0)), (.o (.sl 2 a0_1))]), (.o (.sl 1 a1))]) [] (endQ c21 R) = V21 a0_0 a0_1 a1 R := by kernel_rfl
def V19 (a0 : Int) (a1 : Int) (a2 : ByteArray) (R : Mir.AV → Prop) : Prop :=
 (sel (decide (a0 < 1)) (R (.tup [(.n (.str (ByteArray.mk (List.toArray [])))),(.n (.int .i64 1))])) (sel (decide (a0 > 1099511627776)) (R (.tup [(.n (.str (ByteArray.mk
 (List.toArray [])))),(.n (.int .i64 1))])) (sel (decide (a1 < 0)) (R (.tup [(.n (.str (ByteArray.mk (List.toArray [])))),(.n (.int .i64 1))])) (sel (decide (a1 ≥ 8)) (R (.tup [(.n
 (.str (ByteArray.mk (List.toArray [])))),(.n (.int .i64 1))])) (sel (decide ((((ByteArray.size a2) : Nat) : Int) > 480)) (R (.tup [(.n (.str (ByteArray.mk (List.toArray [])))),(.n
 (.int .i64 2))])) (∃ x0 : ByteArray,(∃ x1 : Int,((Runs Fs 50 [(aI a1),(aI 1)] [] (.tup [(aS x0),(aI x1)]) []) ∧ (0 = 0) ∧ (∃ x2 : ByteArray,((Runs Fs 52 [(aL [(Mir.D.str
 x0),(Mir.D.str a2)])] [] (aS x2) []) ∧ (∃ x3 : ByteArray,(∃ x4 : Int,((Runs Fs 51 [(.agg [(aI 5),(aI a0),(aS x2)])] [] (.tup [(aS x3),(aI x4)]) []) ∧ (R (.tup [(.n (.str x3)),(.n
 (.int .i64 x4))])))))))))))))))
theorem vc19 (a0 : Int) (a1 : Int) (a2 : ByteArray) (R : Mir.AV → Prop) : Vc Fs c19.body (argsQ c19 [(.n (.int .i64 a0)), (.n (.int .i64 a1)), (.n (.str a2))]) [] (endQ c19 R) = V19 a0 a1 a2 R := by kernel_rfl
def V30 (a0 : ByteArray) (a1 : Int) (R : Mir.AV → Prop) : Prop :=
 ((0 = 0) ∧ (∃ x0 : Int,(∃ x1 : Int,(∃ x2 : ByteArray,(∃ x3 : Int,((Runs Fs 47 [(aS a0),(aL [(Mir.D.int .i64 5)])] [] (.tup [(.agg [(aI x0),(aI x1),(aS x2)]),(aI x3)]) []) ∧ (sel
 (x3 != 0) (R (.tup [(.n (.int .i64 0)),(.n (.str (ByteArray.mk (List.toArray [])))),(.n (.int .i64 x3))])) (∃ x4 : Int,(∃ x5 : Int,(∃ x6 : Int,((Runs Fs 48 [(aS x2),(aI 0),(aI 1)]
 [] (.tup [(aI x4),(aI x5),(aI x6)]) []) ∧ (sel (x6 != 0) (R (.tup [(.n (.int .i64 0)),(.n (.str (ByteArray.mk (List.toArray [])))),(.n (.int .i64 4))])) (sel (x1 != a1) (R (.tup
 [(.n (.int .i64 0)),(.n (.str (ByteArray.mk (List.toArray [])))),(.n (.int .i64 4))])) (sel (decide ((IntKind.wrap .i64 ((((ByteArray.size x2) : Nat) : Int) - x5)) > 480)) (R (.tup
 [(.n (.int .i64 0)),(.n (.str (ByteArray.mk (List.toArray [])))),(.n (.int .i64 4))])) (sel (decide (x4 ≥ 8)) (R (.tup [(.n (.int .i64 0)),(.n (.str (ByteArray.mk (List.toArray
 [])))),(.n (.int .i64 4))])) (((0 : Int) ≤ x5) ∧ ((x5 : Int) ≤ (((ByteArray.size x2) : Nat) : Int)) ∧ (R (.tup [(.n (.int .i64 x4)),(.n (.str (ByteArray.extract x2 (Int.toNat x5)
 (ByteArray.size x2)))),(.n (.int .i64 0))]))))))))))))))))))
theorem vc30 (a0 : ByteArray) (a1 : Int) (R : Mir.AV → Prop) : Vc Fs c30.body (argsQ c30 [(.n (.str a0)), (.n (.int .i64 a1))]) [] (endQ c30 R) = V30 a0 a1 R := by kernel_rfl
def V58 (a0 : ByteArray) (a1 : Int) (R : Mir.AV → Prop) : Prop :=
 (∃ x0 : Int,(∃ x1 : Int,(∃ x2 : ByteArray,(∃ x3 : Int,((Runs Fs 49 [(aS a0)] [] (.tup [(.agg [(aI x0),(aI x1),(aS x2)]),(aI x3)]) []) ∧ (sel (x3 != 0) (R (.tup [(.n (.int .i64
 0)),(.n (.str (ByteArray.mk (List.toArray [])))),(.n (.int .i64 x3))])) (sel (x0 != 5) (R (.tup [(.n (.int .i64 0)),(.n (.str (ByteArray.mk (List.toArray [])))),(.n (.int .i64
 40))])) (sel (x1 != a1) (R (.tup [(.n (.int .i64 0)),(.n (.str (ByteArray.mk (List.toArray [])))),(.n (.int .i64 4))])) (sel (decide ((((ByteArray.size x2) : Nat) : Int) < 1)) (R
 (.tup [(.n (.int .i64 0)),(.n (.str (ByteArray.mk (List.toArray [])))),(.n (.int .i64 4))])) (sel (decide ((((ByteArray.size x2) : Nat) : Int) > 481)) (R (.tup [(.n (.int .i64
 0)),(.n (.str (ByteArray.mk (List.toArray [])))),(.n (.int .i64 4))])) (((0 : Int) ≤ 0) ∧ (∃ x4 : UInt8,((((GetElem?.getElem? (Array.toList (ByteArray.data x2)) (Int.toNat 0)) :
 (Option UInt8)) = (some x4)) ∧ (sel (decide ((((UInt8.toNat x4) : Nat) : Int) > 7)) (R (.tup [(.n (.int .i64 0)),(.n (.str (ByteArray.mk (List.toArray [])))),(.n (.int .i64 4))]))
 (((0 : Int) ≤ 0) ∧ (∃ x5 : UInt8,((((GetElem?.getElem? (Array.toList (ByteArray.data x2)) (Int.toNat 0)) : (Option UInt8)) = (some x5)) ∧ ((0 : Int) ≤ 1) ∧ ((1 : Int) ≤
 (((ByteArray.size x2) : Nat) : Int)) ∧ (R (.tup [(.n (.int .i64 (IntKind.wrap .i64 (((UInt8.toNat x5) : Nat) : Int)))),(.n (.str (ByteArray.extract x2 (Int.toNat 1) (ByteArray.size
 x2)))),(.n (.int .i64 0))])))))))))))))))))))
theorem vc58 (a0 : ByteArray) (a1 : Int) (R : Mir.AV → Prop) : Vc Fs c58.body (argsQ c58 [(.n (.str a0)), (.n (.int .i64 a1))]) [] (endQ c58 R) = V58 a0 a1 R := by kernel_rfl
def V31 (a0 : LD) (R : Mir.AV → Prop) : Prop :=
 (∃ x0 : Bool,((Runs Fs 59 [(.o (Mir.D.sl 3 a0)),(.fn 60 [])] [] (aB x0) []) ∧ (sel x0 (R (.tup [(.n (.str (ByteArray.mk (List.toArray [])))),(.n (.int .i64 1))])) (∃ x1 :
 ByteArray,(∃ x2 : Int,((Runs Fs 50 [(aI (a0.length : Int)),(aI 1)] [] (.tup [(aS x1),(aI x2)]) []) ∧ (sel (x2 != 0) (R (.tup [(.n (.str (ByteArray.mk (List.toArray [])))),(.n (.int
 .i64 2))])) (∃ x3 : (ByteArray → (Int → Prop)),(∃ x4 : (ByteArray → (Int → Nat)),(((rh []) ∧ (x3 x1 0)) ∧ (∀ x5 : ByteArray,(∀ x6 : Int,((x3 x5 x6) → (∀ x7 : (Nat → Mir.AV),(sel
 (decide (x6 < (a0.length : Int))) ((rn 3) ∧ ((0 : Int) ≤ x6) ∧ (∃ x8 : Mir.D,((a0[Int.toNat x6]? = some x8) ∧ (∃ x9 : ByteArray,(∃ x10 : ByteArray,(∃ x11 : Bool,((@Eq LD (List.take
 3 (D.cells x8)) [(Mir.D.str x9),(Mir.D.str x10),(Mir.D.bool x11)]) ∧ ((3 : Nat) ≤ (List.length (D.cells x8))) ∧ (∃ x12 : ByteArray,(∃ x13 : Int,((Runs Fs 62 [(aS x9)] [] (.tup [(aS
 x12),(aI x13)]) []) ∧ (sel x11 ((rn 0) ∧ ((rn 1) ∨ (@Eq LD [(Mir.D.int .u8 1)] [])) ∧ (((List.all [(Mir.D.int .u8 1)] Go.Mir.D.isU8) : Bool) = true) ∧ (0 = 0) ∧ (∃ x14 :
 ByteArray,((Runs Fs 52 [(aL [(Mir.D.str x5),(Mir.D.str (ByteArray.mk (List.toArray (List.map Go.Mir.byteOf [(Mir.D.int .u8 1)])))),(Mir.D.str x12)])] [] (aS x14) []) ∧ (sel (decide
 ((((ByteArray.size x14) : Nat) : Int) > 480)) (R (.tup [(.n (.str (ByteArray.mk (List.toArray [])))),(.n (.int .i64 2))])) ((rq (.o (Mir.D.sl 3 a0))) ∧ (rq (aI (a0.length : Int)))
 ∧ (rh []) ∧ (x3 x14 (IntKind.wrap .i64 (x6 + 1))) ∧ (((x4 x14 (IntKind.wrap .i64 (x6 + 1))) : Nat) < (x4 x5 x6))))))) (∃ x15 : ByteArray,(∃ x16 : Int,((Runs Fs 62 [(aS x10)] []
 (.tup [(aS x15),(aI x16)]) []) ∧ (rn 0) ∧ ((rn 1) ∨ (@Eq LD [(Mir.D.int .u8 0)] [])) ∧ (((List.all [(Mir.D.int .u8 0)] Go.Mir.D.isU8) : Bool) = true) ∧ (0 = 0) ∧ (∃ x17 :
 ByteArray,((Runs Fs 52 [(aL [(Mir.D.str x5),(Mir.D.str (ByteArray.mk (List.toArray (List.map Go.Mir.byteOf [(Mir.D.int .u8 0)])))),(Mir.D.str x12),(Mir.D.str x15)])] [] (aS x17)
 []) ∧ (sel (decide ((((ByteArray.size x17) : Nat) : Int) > 480)) (R (.tup [(.n (.str (ByteArray.mk (List.toArray [])))),(.n (.int .i64 2))])) ((rq (.o (Mir.D.sl 3 a0))) ∧ (rq (aI
 (a0.length : Int))) ∧ (rh []) ∧ (x3 x17 (IntKind.wrap .i64 (x6 + 1))) ∧ (((x4 x17 (IntKind.wrap .i64 (x6 + 1))) : Nat) < (x4 x5 x6)))))))))))))))))))) (R (.tup [(.n (.str x5)),(.n
 (.int .i64 0))])))))))))))))))))
theorem vc31 (a0 : LD) (R : Mir.AV → Prop) : Vc Fs c31.body (argsQ c31 [(.o (.sl 3 a0))]) [] (endQ c31 R) = V31 a0 R := by kernel_rfl

end Go.Proofs.YtmmnobdpccdeoaaDoor.M
