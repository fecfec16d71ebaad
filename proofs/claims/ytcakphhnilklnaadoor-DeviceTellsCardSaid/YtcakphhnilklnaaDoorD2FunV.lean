import Derived.Test.YtcakphhnilklnaaDoorD2Fun
namespace Go.Proofs.YtcakphhnilklnaaDoor.M
set_option linter.unusedVariables false
set_option linter.unusedSimpArgs false
open Go Go.Mir
set_option linter.unusedVariables false
def V12 (a0_0 : List Mir.D) (a0_1 : List Mir.D) (R : Mir.AV → Prop) : Prop :=
 (sel (decide ((((List.length a0_0) : Nat) : Int) > 40))
  (sel (decide ((((List.length a0_0) : Nat) : Int) ≤ 2048))
   (((1 : Nat) = 1) ∧
    (((0 : Int) ≤ 40) ∧
     (((40 : Int) ≤ (((List.length a0_0) : Nat) : Int)) ∧
      (sel (decide ((((List.length a0_1) : Nat) : Int) > 40))
       (sel (decide ((((List.length a0_1) : Nat) : Int) < 2048))
        (((2 : Nat) = 2) ∧
         (((0 : Int) ≤ 40) ∧
          (((40 : Int) ≤ (((List.length a0_1) : Nat) : Int)) ∧
           (R (Mir.AV.agg [(Mir.AV.o (Mir.D.sl 1 (List.drop 0 (List.take (Int.toNat 40) a0_0)))), (Mir.AV.o (Mir.D.sl 2 (List.drop 0 (List.take (Int.toNat 40) a0_1))))])))))
        (R (Mir.AV.agg [(Mir.AV.o (Mir.D.sl 1 (List.drop 0 (List.take (Int.toNat 40) a0_0)))), (Mir.AV.o (Mir.D.sl 2 a0_1))])))
       (R (Mir.AV.agg [(Mir.AV.o (Mir.D.sl 1 (List.drop 0 (List.take (Int.toNat 40) a0_0)))), (Mir.AV.o (Mir.D.sl 2 a0_1))]))))))
   (sel (decide ((((List.length a0_1) : Nat) : Int) > 40))
    (sel (decide ((((List.length a0_1) : Nat) : Int) < 2048))
     (((2 : Nat) = 2) ∧
      (((0 : Int) ≤ 40) ∧
       (((40 : Int) ≤ (((List.length a0_1) : Nat) : Int)) ∧
        (R (Mir.AV.agg [(Mir.AV.o (Mir.D.sl 1 a0_0)), (Mir.AV.o (Mir.D.sl 2 (List.drop 0 (List.take (Int.toNat 40) a0_1))))])))))
     (R (Mir.AV.agg [(Mir.AV.o (Mir.D.sl 1 a0_0)), (Mir.AV.o (Mir.D.sl 2 a0_1))])))
    (R (Mir.AV.agg [(Mir.AV.o (Mir.D.sl 1 a0_0)), (Mir.AV.o (Mir.D.sl 2 a0_1))]))))
  (sel (decide ((((List.length a0_1) : Nat) : Int) > 40))
   (sel (decide ((((List.length a0_1) : Nat) : Int) < 2048))
    (((2 : Nat) = 2) ∧
     (((0 : Int) ≤ 40) ∧
      (((40 : Int) ≤ (((List.length a0_1) : Nat) : Int)) ∧
       (R (Mir.AV.agg [(Mir.AV.o (Mir.D.sl 1 a0_0)), (Mir.AV.o (Mir.D.sl 2 (List.drop 0 (List.take (Int.toNat 40) a0_1))))])))))
    (R (Mir.AV.agg [(Mir.AV.o (Mir.D.sl 1 a0_0)), (Mir.AV.o (Mir.D.sl 2 a0_1))])))
   (R (Mir.AV.agg [(Mir.AV.o (Mir.D.sl 1 a0_0)), (Mir.AV.o (Mir.D.sl 2 a0_1))]))))
theorem vc12 (a0_0 : List Mir.D) (a0_1 : List Mir.D) (R : Mir.AV → Prop) : Vc Fs c12.body (argsQ c12 [(.agg [(.o (.sl 1 a0_0)), (.o (.sl 2 a0_1))])]) [] (endQ c12 R) = V12 a0_0 a0_1 R := by kernel_rfl
def V13 (a0 : Int) (R : Mir.AV → Prop) : Prop :=
 (sel (decide (a0 < 1))
  (R (Mir.AV.tup [(Mir.AV.agg [(Mir.AV.o (Mir.D.sl 1 [])), (Mir.AV.o (Mir.D.sl 2 []))]), (Mir.AV.n (Mir.D.int .i64 1))]))
  (sel (decide (a0 > 2048))
   (R (Mir.AV.tup [(Mir.AV.agg [(Mir.AV.o (Mir.D.sl 1 [])), (Mir.AV.o (Mir.D.sl 2 []))]), (Mir.AV.n (Mir.D.int .i64 1))]))
   (((0 : Int) ≤ a0) ∧
    (((((Int.toNat a0) * 16) : Nat) ≤ 140737488355328) ∧
     ((0 = 0) ∧
      (R (Mir.AV.tup [(Mir.AV.agg [(Mir.AV.o (Mir.D.sl 1 (List.replicate (Int.toNat a0) (Mir.D.str (ByteArray.mk (List.toArray [])))))), (Mir.AV.o (Mir.D.sl 2 []))]), (Mir.AV.n (Mir.D.int .i64 0))])))))))
theorem vc13 (a0 : Int) (R : Mir.AV → Prop) : Vc Fs c13.body (argsQ c13 [(.n (.int .i64 a0))]) [] (endQ c13 R) = V13 a0 R := by kernel_rfl
def V14 (a0_0 : List Mir.D) (a0_1 : List Mir.D) (a1_0 : List Mir.D) (a1_1 : List Mir.D) (R : Mir.AV → Prop) : Prop :=
 (sel ((((List.length a0_0) : Nat) : Int) != (((List.length a1_0) : Nat) : Int))
  (R (Mir.AV.n (Mir.D.bool false)))
  (sel ((((List.length a0_1) : Nat) : Int) != (((List.length a1_1) : Nat) : Int))
   (R (Mir.AV.n (Mir.D.bool false)))
   (∃ x0 : (Int → Prop),
    (∃ x1 : (Int → Nat),
     (((@Eq (List (Nat × Mir.Ob)) [(1400000, (.box [(Mir.AV.o (Mir.D.sl 1 a0_0)), (Mir.AV.o (Mir.D.sl 2 a0_1))])), (1400001, (.box [(Mir.AV.o (Mir.D.sl 1 a1_0)), (Mir.AV.o (Mir.D.sl 2 a1_1))]))] [(1400000, (.box [(Mir.AV.o (Mir.D.sl 1 a0_0)), (Mir.AV.o (Mir.D.sl 2 a0_1))])), (1400001, (.box [(Mir.AV.o (Mir.D.sl 1 a1_0)), (Mir.AV.o (Mir.D.sl 2 a1_1))]))]) ∧
       (x0 0)) ∧
      (∀ x2 : Int,
       ((x0 x2) →
        (∀ x3 : (Nat → Mir.AV),
         (sel (decide (x2 < (((List.length a0_0) : Nat) : Int)))
          (((1 : Nat) = 1) ∧
           (((0 : Int) ≤ x2) ∧
            (∃ x4 : Mir.D,
             ((((GetElem?.getElem? a0_0 (Int.toNat x2)) : (Option Mir.D)) = (some x4)) ∧
              (∃ x5 : ByteArray,
               ((((GetElem?.getElem? (Go.Mir.D.cells x4) 0) : (Option Mir.D)) = (some (Mir.D.str x5))) ∧
                (((1 : Nat) = 1) ∧
                 (((0 : Int) ≤ x2) ∧
                  (∃ x6 : Mir.D,
                   ((((GetElem?.getElem? a1_0 (Int.toNat x2)) : (Option Mir.D)) = (some x6)) ∧
                    (∃ x7 : ByteArray,
                     ((((GetElem?.getElem? (Go.Mir.D.cells x6) 0) : (Option Mir.D)) = (some (Mir.D.str x7))) ∧
                      (sel (Bool.not ((ByteArray.toList x5) == (ByteArray.toList x7)))
                       (R (Mir.AV.n (Mir.D.bool false)))
                       ((((Mir.AV.ptr 1400000 0) : Mir.AV) = (Mir.AV.ptr 1400000 0)) ∧
                        ((((Mir.AV.ptr 1400001 0) : Mir.AV) = (Mir.AV.ptr 1400001 0)) ∧
                         ((((Mir.AV.n (Mir.D.int .i64 (((List.length a0_0) : Nat) : Int))) : Mir.AV) = (Mir.AV.n (Mir.D.int .i64 (((List.length a0_0) : Nat) : Int)))) ∧
                          ((@Eq (List (Nat × Mir.Ob)) [(1400000, (.box [(Mir.AV.o (Mir.D.sl 1 a0_0)), (Mir.AV.o (Mir.D.sl 2 a0_1))])), (1400001, (.box [(Mir.AV.o (Mir.D.sl 1 a1_0)), (Mir.AV.o (Mir.D.sl 2 a1_1))]))] [(1400000, (.box [(Mir.AV.o (Mir.D.sl 1 a0_0)), (Mir.AV.o (Mir.D.sl 2 a0_1))])), (1400001, (.box [(Mir.AV.o (Mir.D.sl 1 a1_0)), (Mir.AV.o (Mir.D.sl 2 a1_1))]))]) ∧
                           ((x0 (Go.IntKind.wrap .i64 (x2 + 1))) ∧
                            (((x1 (Go.IntKind.wrap .i64 (x2 + 1))) : Nat) < (x1 x2))))))))))))))))))))
          (∃ x8 : (Int → Prop),
           (∃ x9 : (Int → Nat),
            (((@Eq (List (Nat × Mir.Ob)) [(1400000, (.box [(Mir.AV.o (Mir.D.sl 1 a0_0)), (Mir.AV.o (Mir.D.sl 2 a0_1))])), (1400001, (.box [(Mir.AV.o (Mir.D.sl 1 a1_0)), (Mir.AV.o (Mir.D.sl 2 a1_1))]))] [(1400000, (.box [(Mir.AV.o (Mir.D.sl 1 a0_0)), (Mir.AV.o (Mir.D.sl 2 a0_1))])), (1400001, (.box [(Mir.AV.o (Mir.D.sl 1 a1_0)), (Mir.AV.o (Mir.D.sl 2 a1_1))]))]) ∧
              (x8 0)) ∧
             (∀ x10 : Int,
              ((x8 x10) →
               (∀ x11 : (Nat → Mir.AV),
                (sel (decide (x10 < (((List.length a0_1) : Nat) : Int)))
                 (((2 : Nat) = 2) ∧
                  (((0 : Int) ≤ x10) ∧
                   (∃ x12 : Mir.D,
                    ((((GetElem?.getElem? a0_1 (Int.toNat x10)) : (Option Mir.D)) = (some x12)) ∧
                     (∃ x13 : Int,
                      (∃ x14 : ByteArray,
                       ((@Eq (List Mir.D) (List.take 2 (Go.Mir.D.cells x12)) [(Mir.D.int .i64 x13), (Mir.D.str x14)]) ∧
                        (((2 : Nat) ≤ (List.length (Go.Mir.D.cells x12))) ∧
                         (((2 : Nat) = 2) ∧
                          (((0 : Int) ≤ x10) ∧
                           (∃ x15 : Mir.D,
                            ((((GetElem?.getElem? a1_1 (Int.toNat x10)) : (Option Mir.D)) = (some x15)) ∧
                             (∃ x16 : Int,
                              (∃ x17 : ByteArray,
                               ((@Eq (List Mir.D) (List.take 2 (Go.Mir.D.cells x15)) [(Mir.D.int .i64 x16), (Mir.D.str x17)]) ∧
                                (((2 : Nat) ≤ (List.length (Go.Mir.D.cells x15))) ∧
                                 (sel (Bool.not ((x13 == x16) && (((ByteArray.toList x14) == (ByteArray.toList x17)) && true)))
                                  (R (Mir.AV.n (Mir.D.bool false)))
                                  ((((Mir.AV.ptr 1400000 0) : Mir.AV) = (Mir.AV.ptr 1400000 0)) ∧
                                   ((((Mir.AV.ptr 1400001 0) : Mir.AV) = (Mir.AV.ptr 1400001 0)) ∧
                                    ((((Mir.AV.n (Mir.D.int .i64 (((List.length a0_1) : Nat) : Int))) : Mir.AV) = (Mir.AV.n (Mir.D.int .i64 (((List.length a0_1) : Nat) : Int)))) ∧
                                     ((@Eq (List (Nat × Mir.Ob)) [(1400000, (.box [(Mir.AV.o (Mir.D.sl 1 a0_0)), (Mir.AV.o (Mir.D.sl 2 a0_1))])), (1400001, (.box [(Mir.AV.o (Mir.D.sl 1 a1_0)), (Mir.AV.o (Mir.D.sl 2 a1_1))]))] [(1400000, (.box [(Mir.AV.o (Mir.D.sl 1 a0_0)), (Mir.AV.o (Mir.D.sl 2 a0_1))])), (1400001, (.box [(Mir.AV.o (Mir.D.sl 1 a1_0)), (Mir.AV.o (Mir.D.sl 2 a1_1))]))]) ∧
                                      ((x8 (Go.IntKind.wrap .i64 (x10 + 1))) ∧
                                       (((x9 (Go.IntKind.wrap .i64 (x10 + 1))) : Nat) < (x9 x10))))))))))))))))))))))))
                 (R (Mir.AV.n (Mir.D.bool true)))))))))))))))))))
theorem vc14 (a0_0 : List Mir.D) (a0_1 : List Mir.D) (a1_0 : List Mir.D) (a1_1 : List Mir.D) (R : Mir.AV → Prop) : Vc Fs c14.body (argsQ c14 [(.agg [(.o (.sl 1 a0_0)), (.o (.sl 2 a0_1))]), (.agg [(.o (.sl 1 a1_0)), (.o (.sl 2 a1_1))])]) [] (endQ c14 R) = V14 a0_0 a0_1 a1_0 a1_1 R := by kernel_rfl
def V15  (R : Mir.AV → Prop) : Prop :=
 (∃ x0 : (List Mir.D),
  (∃ x1 : (List Mir.D),
   (∃ x2 : Int,
    ((Runs Fs 13 [(Mir.AV.n (Mir.D.int .i64 1))] [] (Mir.AV.tup [(Mir.AV.agg [(Mir.AV.o (Mir.D.sl 1 x0)), (Mir.AV.o (Mir.D.sl 2 x1))]), (Mir.AV.n (Mir.D.int .i64 x2))]) []) ∧
     (sel (x2 == 0)
      (∃ x3 : Bool,
       ((Runs Fs 16 [(Mir.AV.agg [(Mir.AV.o (Mir.D.sl 1 x0)), (Mir.AV.o (Mir.D.sl 2 x1))])] [] (Mir.AV.n (Mir.D.bool x3)) []) ∧
        (R (Mir.AV.n (Mir.D.bool x3)))))
      (R (Mir.AV.n (Mir.D.bool false))))))))
theorem vc15  (R : Mir.AV → Prop) : Vc Fs c15.body (argsQ c15 []) [] (endQ c15 R) = V15  R := by kernel_rfl
def V17 (a0_0 : List Mir.D) (a0_1 : List Mir.D) (R : Mir.AV → Prop) : Prop :=
 (sel (decide ((((List.length a0_0) : Nat) : Int) < 1))
  (R (Mir.AV.n (Mir.D.bool false)))
  (sel (decide ((((List.length a0_0) : Nat) : Int) > 2048))
   (R (Mir.AV.n (Mir.D.bool false)))
   (sel (decide ((((List.length a0_1) : Nat) : Int) > 2048))
    (R (Mir.AV.n (Mir.D.bool false)))
    (∃ x0 : (Int → Prop),
     (∃ x1 : (Int → Nat),
      (((@Eq (List (Nat × Mir.Ob)) [(1700000, (.box [(Mir.AV.o (Mir.D.sl 1 a0_0)), (Mir.AV.o (Mir.D.sl 2 a0_1))]))] [(1700000, (.box [(Mir.AV.o (Mir.D.sl 1 a0_0)), (Mir.AV.o (Mir.D.sl 2 a0_1))]))]) ∧
        (x0 0)) ∧
       (∀ x2 : Int,
        ((x0 x2) →
         (∀ x3 : (Nat → Mir.AV),
          (sel (decide (x2 < (((List.length a0_0) : Nat) : Int)))
           (((1 : Nat) = 1) ∧
            (((0 : Int) ≤ x2) ∧
             (∃ x4 : Mir.D,
              ((((GetElem?.getElem? a0_0 (Int.toNat x2)) : (Option Mir.D)) = (some x4)) ∧
               (∃ x5 : ByteArray,
                ((((GetElem?.getElem? (Go.Mir.D.cells x4) 0) : (Option Mir.D)) = (some (Mir.D.str x5))) ∧
                 (∃ x6 : Bool,
                  ((Runs Fs 37 [(Mir.AV.n (Mir.D.str x5))] [] (Mir.AV.n (Mir.D.bool x6)) []) ∧
                   (sel (Bool.not x6)
                    (R (Mir.AV.n (Mir.D.bool false)))
                    ((((Mir.AV.ptr 1700000 0) : Mir.AV) = (Mir.AV.ptr 1700000 0)) ∧
                     ((((Mir.AV.n (Mir.D.int .i64 (((List.length a0_0) : Nat) : Int))) : Mir.AV) = (Mir.AV.n (Mir.D.int .i64 (((List.length a0_0) : Nat) : Int)))) ∧
                      ((((Mir.AV.o (Mir.D.sl 1 a0_0)) : Mir.AV) = (Mir.AV.o (Mir.D.sl 1 a0_0))) ∧
                       ((((Mir.AV.n (Mir.D.int .i64 (((List.length a0_0) : Nat) : Int))) : Mir.AV) = (Mir.AV.n (Mir.D.int .i64 (((List.length a0_0) : Nat) : Int)))) ∧
                        ((@Eq (List (Nat × Mir.Ob)) [(1700000, (.box [(Mir.AV.o (Mir.D.sl 1 a0_0)), (Mir.AV.o (Mir.D.sl 2 a0_1))]))] [(1700000, (.box [(Mir.AV.o (Mir.D.sl 1 a0_0)), (Mir.AV.o (Mir.D.sl 2 a0_1))]))]) ∧
                         ((x0 (Go.IntKind.wrap .i64 (x2 + 1))) ∧
                          (((x1 (Go.IntKind.wrap .i64 (x2 + 1))) : Nat) < (x1 x2)))))))))))))))))
           (∃ x7 : (Int → Prop),
            (∃ x8 : (Int → Nat),
             (((@Eq (List (Nat × Mir.Ob)) [(1700000, (.box [(Mir.AV.o (Mir.D.sl 1 a0_0)), (Mir.AV.o (Mir.D.sl 2 a0_1))]))] [(1700000, (.box [(Mir.AV.o (Mir.D.sl 1 a0_0)), (Mir.AV.o (Mir.D.sl 2 a0_1))]))]) ∧
               (x7 0)) ∧
              (∀ x9 : Int,
               ((x7 x9) →
                (∀ x10 : (Nat → Mir.AV),
                 (sel (decide (x9 < (((List.length a0_1) : Nat) : Int)))
                  (((2 : Nat) = 2) ∧
                   (((0 : Int) ≤ x9) ∧
                    (∃ x11 : Mir.D,
                     ((((GetElem?.getElem? a0_1 (Int.toNat x9)) : (Option Mir.D)) = (some x11)) ∧
                      (∃ x12 : Int,
                       (∃ x13 : ByteArray,
                        ((@Eq (List Mir.D) (List.take 2 (Go.Mir.D.cells x11)) [(Mir.D.int .i64 x12), (Mir.D.str x13)]) ∧
                         (((2 : Nat) ≤ (List.length (Go.Mir.D.cells x11))) ∧
                          (sel (decide (x12 < 0))
                           (R (Mir.AV.n (Mir.D.bool false)))
                           (sel (decide (x12 ≥ (((List.length a0_0) : Nat) : Int)))
                            (R (Mir.AV.n (Mir.D.bool false)))
                            (∃ x14 : Bool,
                             ((Runs Fs 37 [(Mir.AV.n (Mir.D.str x13))] [] (Mir.AV.n (Mir.D.bool x14)) []) ∧
                              (sel (Bool.not x14)
                               (R (Mir.AV.n (Mir.D.bool false)))
                               ((((Mir.AV.n (Mir.D.int .i64 (((List.length a0_0) : Nat) : Int))) : Mir.AV) = (Mir.AV.n (Mir.D.int .i64 (((List.length a0_0) : Nat) : Int)))) ∧
                                ((((Mir.AV.o (Mir.D.sl 2 a0_1)) : Mir.AV) = (Mir.AV.o (Mir.D.sl 2 a0_1))) ∧
                                 ((((Mir.AV.n (Mir.D.int .i64 (((List.length a0_1) : Nat) : Int))) : Mir.AV) = (Mir.AV.n (Mir.D.int .i64 (((List.length a0_1) : Nat) : Int)))) ∧
                                  ((@Eq (List (Nat × Mir.Ob)) [(1700000, (.box [(Mir.AV.o (Mir.D.sl 1 a0_0)), (Mir.AV.o (Mir.D.sl 2 a0_1))]))] [(1700000, (.box [(Mir.AV.o (Mir.D.sl 1 a0_0)), (Mir.AV.o (Mir.D.sl 2 a0_1))]))]) ∧
                                   ((x7 (Go.IntKind.wrap .i64 (x9 + 1))) ∧
                                    (((x8 (Go.IntKind.wrap .i64 (x9 + 1))) : Nat) < (x8 x9))))))))))))))))))))
                  (R (Mir.AV.n (Mir.D.bool true))))))))))))))))))))
theorem vc17 (a0_0 : List Mir.D) (a0_1 : List Mir.D) (R : Mir.AV → Prop) : Vc Fs c17.body (argsQ c17 [(.agg [(.o (.sl 1 a0_0)), (.o (.sl 2 a0_1))])]) [] (endQ c17 R) = V17 a0_0 a0_1 R := by kernel_rfl
def V34 (a0 : ByteArray) (R : Mir.AV → Prop) : Prop :=
 (sel (decide ((((ByteArray.size a0) : Nat) : Int) ≤ 4096))
  (∃ x0 : ByteArray,
   ((Runs Fs 39 [(Mir.AV.n (Mir.D.str a0))] [] (Mir.AV.n (Mir.D.str x0)) []) ∧
    (R (Mir.AV.n (Mir.D.bool ((ByteArray.toList x0) == (ByteArray.toList a0)))))))
  (R (Mir.AV.n (Mir.D.bool false))))
theorem vc34 (a0 : ByteArray) (R : Mir.AV → Prop) : Vc Fs c34.body (argsQ c34 [(.n (.str a0))]) [] (endQ c34 R) = V34 a0 R := by kernel_rfl
def V37 (a0 : ByteArray) (R : Mir.AV → Prop) : Prop :=
 (sel (decide ((((ByteArray.size a0) : Nat) : Int) ≤ 4096))
  (sel ((((ByteArray.size a0) : Nat) : Int) == 0)
   (R (Mir.AV.n (Mir.D.bool true)))
   (((0 : Int) ≤ (Go.IntKind.wrap .i64 ((((ByteArray.size a0) : Nat) : Int) - 1))) ∧
    (∃ x0 : UInt8,
     ((((GetElem?.getElem? (Array.toList (ByteArray.data a0)) (Int.toNat (Go.IntKind.wrap .i64 ((((ByteArray.size a0) : Nat) : Int) - 1)))) : (Option UInt8)) = (some x0)) ∧
      (R (Mir.AV.n (Mir.D.bool ((((UInt8.toNat x0) : Nat) : Int) != 0))))))))
  (R (Mir.AV.n (Mir.D.bool false))))
theorem vc37 (a0 : ByteArray) (R : Mir.AV → Prop) : Vc Fs c37.body (argsQ c37 [(.n (.str a0))]) [] (endQ c37 R) = V37 a0 R := by kernel_rfl
def V40 (a0 : ByteArray) (a1 : Int) (R : Mir.AV → Prop) : Prop :=
 (sel (decide (a1 < (((ByteArray.size a0) : Nat) : Int)))
  (((0 : Int) ≤ a1) ∧
   (∃ x0 : UInt8,
    ((((GetElem?.getElem? (Array.toList (ByteArray.data a0)) (Int.toNat a1)) : (Option UInt8)) = (some x0)) ∧
     (R (Mir.AV.n (Mir.D.int .u8 (((UInt8.toNat x0) : Nat) : Int)))))))
  (R (Mir.AV.n (Mir.D.int .u8 0))))
theorem vc40 (a0 : ByteArray) (a1 : Int) (R : Mir.AV → Prop) : Vc Fs c40.body (argsQ c40 [(.n (.str a0)), (.n (.int .i64 a1))]) [] (endQ c40 R) = V40 a0 a1 R := by kernel_rfl
def V42 (a0 : List Mir.D) (a1 : Int) (R : Mir.AV → Prop) : Prop :=
 (((1 : Nat) = 1) ∧
  (((0 : Int) ≤ (Go.Mir.mmI false (Go.IntKind.wrap .i64 ((Go.IntKind.wrap .i64 (a1 + 1)) * 512)) (((List.length a0) : Nat) : Int))) ∧
   ((((Go.Mir.mmI false (Go.IntKind.wrap .i64 ((Go.IntKind.wrap .i64 (a1 + 1)) * 512)) (((List.length a0) : Nat) : Int)) : Int) ≤ (((List.length a0) : Nat) : Int)) ∧
    (((0 : Int) ≤ (Go.Mir.mmI false (Go.IntKind.wrap .i64 ((Go.IntKind.wrap .i64 (a1 + 1)) * 512)) (((List.length a0) : Nat) : Int))) ∧
     ((((Go.Mir.mmI false (Go.IntKind.wrap .i64 ((Go.IntKind.wrap .i64 (a1 + 1)) * 512)) (((List.length a0) : Nat) : Int)) : Int) ≤ (((Int.toNat (Go.Mir.mmI false (Go.IntKind.wrap .i64 ((Go.IntKind.wrap .i64 (a1 + 1)) * 512)) (((List.length a0) : Nat) : Int))) : Nat) : Int)) ∧
      (((0 : Int) ≤ (Go.Mir.mmI false (Go.IntKind.wrap .i64 (a1 * 512)) (((List.length a0) : Nat) : Int))) ∧
       ((((Go.Mir.mmI false (Go.IntKind.wrap .i64 (a1 * 512)) (((List.length a0) : Nat) : Int)) : Int) ≤ (((Int.toNat (Go.Mir.mmI false (Go.IntKind.wrap .i64 ((Go.IntKind.wrap .i64 (a1 + 1)) * 512)) (((List.length a0) : Nat) : Int))) : Nat) : Int)) ∧
        ((((1 : Nat) = 1) ∨ (@Eq (List Mir.D) (List.drop (Int.toNat (Go.Mir.mmI false (Go.IntKind.wrap .i64 (a1 * 512)) (((List.length a0) : Nat) : Int))) (List.take (Int.toNat (Go.Mir.mmI false (Go.IntKind.wrap .i64 ((Go.IntKind.wrap .i64 (a1 + 1)) * 512)) (((List.length a0) : Nat) : Int))) a0)) [])) ∧
         ((((List.all (List.drop (Int.toNat (Go.Mir.mmI false (Go.IntKind.wrap .i64 (a1 * 512)) (((List.length a0) : Nat) : Int))) (List.take (Int.toNat (Go.Mir.mmI false (Go.IntKind.wrap .i64 ((Go.IntKind.wrap .i64 (a1 + 1)) * 512)) (((List.length a0) : Nat) : Int))) a0)) Go.Mir.D.isU8) : Bool) = true) ∧
          (R (Mir.AV.n (Mir.D.str (ByteArray.mk (List.toArray (List.map Go.Mir.byteOf (List.drop (Int.toNat (Go.Mir.mmI false (Go.IntKind.wrap .i64 (a1 * 512)) (((List.length a0) : Nat) : Int))) (List.take (Int.toNat (Go.Mir.mmI false (Go.IntKind.wrap .i64 ((Go.IntKind.wrap .i64 (a1 + 1)) * 512)) (((List.length a0) : Nat) : Int))) a0)))))))))))))))))
theorem vc42 (a0 : List Mir.D) (a1 : Int) (R : Mir.AV → Prop) : Vc Fs c42.body (argsQ c42 [(.o (.sl 1 a0)), (.n (.int .i64 a1))]) [] (endQ c42 R) = V42 a0 a1 R := by kernel_rfl
def V18 (a0 : ByteArray) (a1 : ByteArray) (a2 : Int) (R : Mir.AV → Prop) : Prop :=
 (∃ x0 : (Nat → (Int → ((Nat × (List Mir.D)) → Prop))),
  (∃ x1 : (Nat → (Int → ((Nat × (List Mir.D)) → Nat))),
   (((@Eq (List (Nat × Mir.Ob)) [(1800902, (.row false true 0 5 1 []))] [(1800902, (.row false true 0 5 1 []))]) ∧
     (x0 0 0 (0, []))) ∧
    (∀ x2 : Nat,
     (∀ x3 : Int,
      (∀ x4 : (Nat × (List Mir.D)),
       ((x0 x2 x3 x4) →
        (∀ x5 : (Nat → Mir.AV),
         (sel (decide (x3 < 8))
          (∃ x6 : ByteArray,
           ((Runs Fs 20 [(Mir.AV.n (Mir.D.str a0)), (Mir.AV.n (Mir.D.int .i64 x3))] [] (Mir.AV.n (Mir.D.str x6)) []) ∧
            (((0 : Int) ≤ x3) ∧
             (sel ((Go.IntKind.wrap .i64 (((BitVec.toNat (HAnd.hAnd (BitVec.ofInt (Go.IntKind.bits .i64) (Int.fdiv a2 (2 ^ (Min.min (Int.toNat x3) (Go.IntKind.bits .i64))))) (BitVec.ofInt (Go.IntKind.bits .i64) 1))) : Nat) : Int)) == 1)
              (∃ x7 : ByteArray,
               ((Runs Fs 20 [(Mir.AV.n (Mir.D.str a1)), (Mir.AV.n (Mir.D.int .i64 x3))] [] (Mir.AV.n (Mir.D.str x7)) []) ∧
                (∃ x8 : ByteArray,
                 (∃ x9 : Int,
                  ((Runs Fs 38 [(Mir.AV.n (Mir.D.str x7)), (Mir.AV.n (Mir.D.int .i64 512))] [] (Mir.AV.tup [(Mir.AV.n (Mir.D.str x8)), (Mir.AV.n (Mir.D.int .i64 x9))]) []) ∧
                   ((((((Prod.fst x4) : Nat) = x2) ∧
                      ((5 : Nat) = 5)) ∧
                     ((1 : Nat) = 1)) ∧
                    (((((List.length (Prod.snd x4)) + (ByteArray.size x8)) : Nat) ≤ 140737488355328) ∧
                     ((((Mir.AV.n (Mir.D.str a0)) : Mir.AV) = (Mir.AV.n (Mir.D.str a0))) ∧
                      ((((Mir.AV.n (Mir.D.str a1)) : Mir.AV) = (Mir.AV.n (Mir.D.str a1))) ∧
                       ((((Mir.AV.n (Mir.D.int .i64 a2)) : Mir.AV) = (Mir.AV.n (Mir.D.int .i64 a2))) ∧
                        ((@Eq (List (Nat × Mir.Ob)) [(1800902, (.row false true (x2 + 1) 5 1 ((Prod.snd x4) ++ (Go.Mir.bytesD x8))))] [(1800902, (.row false true (x2 + 1) 5 1 ((Prod.snd x4) ++ (Go.Mir.bytesD x8))))]) ∧
                         ((x0 (x2 + 1) (Go.IntKind.wrap .i64 (x3 + 1)) ((x2 + 1), ((Prod.snd x4) ++ (Go.Mir.bytesD x8)))) ∧
                          (((x1 (x2 + 1) (Go.IntKind.wrap .i64 (x3 + 1)) ((x2 + 1), ((Prod.snd x4) ++ (Go.Mir.bytesD x8)))) : Nat) < (x1 x2 x3 x4))))))))))))))
              (∃ x10 : ByteArray,
               (∃ x11 : Int,
                ((Runs Fs 38 [(Mir.AV.n (Mir.D.str x6)), (Mir.AV.n (Mir.D.int .i64 512))] [] (Mir.AV.tup [(Mir.AV.n (Mir.D.str x10)), (Mir.AV.n (Mir.D.int .i64 x11))]) []) ∧
                 ((((((Prod.fst x4) : Nat) = x2) ∧
                    ((5 : Nat) = 5)) ∧
                   ((1 : Nat) = 1)) ∧
                  (((((List.length (Prod.snd x4)) + (ByteArray.size x10)) : Nat) ≤ 140737488355328) ∧
                   ((((Mir.AV.n (Mir.D.str a0)) : Mir.AV) = (Mir.AV.n (Mir.D.str a0))) ∧
                    ((((Mir.AV.n (Mir.D.str a1)) : Mir.AV) = (Mir.AV.n (Mir.D.str a1))) ∧
                     ((((Mir.AV.n (Mir.D.int .i64 a2)) : Mir.AV) = (Mir.AV.n (Mir.D.int .i64 a2))) ∧
                      ((@Eq (List (Nat × Mir.Ob)) [(1800902, (.row false true (x2 + 1) 5 1 ((Prod.snd x4) ++ (Go.Mir.bytesD x10))))] [(1800902, (.row false true (x2 + 1) 5 1 ((Prod.snd x4) ++ (Go.Mir.bytesD x10))))]) ∧
                       ((x0 (x2 + 1) (Go.IntKind.wrap .i64 (x3 + 1)) ((x2 + 1), ((Prod.snd x4) ++ (Go.Mir.bytesD x10)))) ∧
                        (((x1 (x2 + 1) (Go.IntKind.wrap .i64 (x3 + 1)) ((x2 + 1), ((Prod.snd x4) ++ (Go.Mir.bytesD x10)))) : Nat) < (x1 x2 x3 x4))))))))))))))))
          ((((Prod.fst x4) : Nat) = x2) ∧
           ((((1 : Nat) = 1) ∨ (@Eq (List Mir.D) (Prod.snd x4) [])) ∧
            ((((List.all (Prod.snd x4) Go.Mir.D.isU8) : Bool) = true) ∧
             (∃ x12 : ByteArray,
              ((Runs Fs 39 [(Mir.AV.n (Mir.D.str (ByteArray.mk (List.toArray (List.map Go.Mir.byteOf (Prod.snd x4))))))] [] (Mir.AV.n (Mir.D.str x12)) []) ∧
               (R (Mir.AV.n (Mir.D.str x12)))))))))))))))))
theorem vc18 (a0 : ByteArray) (a1 : ByteArray) (a2 : Int) (R : Mir.AV → Prop) : Vc Fs c18.body (argsQ c18 [(.n (.str a0)), (.n (.str a1)), (.n (.int .i64 a2))]) [] (endQ c18 R) = V18 a0 a1 a2 R := by kernel_rfl
def V19 (a0 : ByteArray) (a1 : ByteArray) (a2 : Int) (R : Mir.AV → Prop) : Prop :=
 (∃ x0 : (Nat → (Int → ((Nat × (List Mir.D)) → Prop))),
  (∃ x1 : (Nat → (Int → ((Nat × (List Mir.D)) → Nat))),
   (((@Eq (List (Nat × Mir.Ob)) [(1900100, (.row false true 0 5 1 []))] [(1900100, (.row false true 0 5 1 []))]) ∧
     (x0 0 0 (0, []))) ∧
    (∀ x2 : Nat,
     (∀ x3 : Int,
      (∀ x4 : (Nat × (List Mir.D)),
       ((x0 x2 x3 x4) →
        (∀ x5 : (Nat → Mir.AV),
         (sel (decide (x3 < 4096))
          (((512 : Int) ≠ 0) ∧
           (((0 : Int) ≤ (Go.IntKind.wrap .u64 (Go.IntKind.wrap .i64 (Int.tdiv x3 512)))) ∧
            (((2 : Int) ≠ 0) ∧
             (sel ((Int.tmod (Int.fdiv a2 (2 ^ (Min.min (Int.toNat (Go.IntKind.wrap .u64 (Go.IntKind.wrap .i64 (Int.tdiv x3 512)))) (Go.IntKind.bits .i64)))) 2) != 0)
              (∃ x6 : Int,
               ((Runs Fs 40 [(Mir.AV.n (Mir.D.str a1)), (Mir.AV.n (Mir.D.int .i64 x3))] [] (Mir.AV.n (Mir.D.int .u8 x6)) []) ∧
                (((0 : Nat) = 0) ∧
                 ((((1 : Nat) = 1) ∨ (@Eq (List Mir.D) [(Mir.D.int .u8 x6)] [])) ∧
                  ((((((Prod.fst x4) : Nat) = x2) ∧
                     ((5 : Nat) = 5)) ∧
                    ((1 : Nat) = 1)) ∧
                   ((((((List.length (Prod.snd x4)) + (List.length [(Mir.D.int .u8 x6)])) * 1) : Nat) ≤ 140737488355328) ∧
                    ((((Mir.AV.n (Mir.D.str a0)) : Mir.AV) = (Mir.AV.n (Mir.D.str a0))) ∧
                     ((((Mir.AV.n (Mir.D.str a1)) : Mir.AV) = (Mir.AV.n (Mir.D.str a1))) ∧
                      ((((Mir.AV.n (Mir.D.int .i64 a2)) : Mir.AV) = (Mir.AV.n (Mir.D.int .i64 a2))) ∧
                       ((@Eq (List (Nat × Mir.Ob)) [(1900100, (.row false true (x2 + 1) 5 1 ((Prod.snd x4) ++ [(Mir.D.int .u8 x6)])))] [(1900100, (.row false true (x2 + 1) 5 1 ((Prod.snd x4) ++ [(Mir.D.int .u8 x6)])))]) ∧
                        ((x0 (x2 + 1) (Go.IntKind.wrap .i64 (x3 + 1)) ((x2 + 1), ((Prod.snd x4) ++ [(Mir.D.int .u8 x6)]))) ∧
                         (((x1 (x2 + 1) (Go.IntKind.wrap .i64 (x3 + 1)) ((x2 + 1), ((Prod.snd x4) ++ [(Mir.D.int .u8 x6)]))) : Nat) < (x1 x2 x3 x4)))))))))))))
              (∃ x7 : Int,
               ((Runs Fs 40 [(Mir.AV.n (Mir.D.str a0)), (Mir.AV.n (Mir.D.int .i64 x3))] [] (Mir.AV.n (Mir.D.int .u8 x7)) []) ∧
                (((0 : Nat) = 0) ∧
                 ((((1 : Nat) = 1) ∨ (@Eq (List Mir.D) [(Mir.D.int .u8 x7)] [])) ∧
                  ((((((Prod.fst x4) : Nat) = x2) ∧
                     ((5 : Nat) = 5)) ∧
                    ((1 : Nat) = 1)) ∧
                   ((((((List.length (Prod.snd x4)) + (List.length [(Mir.D.int .u8 x7)])) * 1) : Nat) ≤ 140737488355328) ∧
                    ((((Mir.AV.n (Mir.D.str a0)) : Mir.AV) = (Mir.AV.n (Mir.D.str a0))) ∧
                     ((((Mir.AV.n (Mir.D.str a1)) : Mir.AV) = (Mir.AV.n (Mir.D.str a1))) ∧
                      ((((Mir.AV.n (Mir.D.int .i64 a2)) : Mir.AV) = (Mir.AV.n (Mir.D.int .i64 a2))) ∧
                       ((@Eq (List (Nat × Mir.Ob)) [(1900100, (.row false true (x2 + 1) 5 1 ((Prod.snd x4) ++ [(Mir.D.int .u8 x7)])))] [(1900100, (.row false true (x2 + 1) 5 1 ((Prod.snd x4) ++ [(Mir.D.int .u8 x7)])))]) ∧
                        ((x0 (x2 + 1) (Go.IntKind.wrap .i64 (x3 + 1)) ((x2 + 1), ((Prod.snd x4) ++ [(Mir.D.int .u8 x7)]))) ∧
                         (((x1 (x2 + 1) (Go.IntKind.wrap .i64 (x3 + 1)) ((x2 + 1), ((Prod.snd x4) ++ [(Mir.D.int .u8 x7)]))) : Nat) < (x1 x2 x3 x4)))))))))))))))))
          ((((Prod.fst x4) : Nat) = x2) ∧
           ((((1 : Nat) = 1) ∨ (@Eq (List Mir.D) (Prod.snd x4) [])) ∧
            ((((List.all (Prod.snd x4) Go.Mir.D.isU8) : Bool) = true) ∧
             (∃ x8 : ByteArray,
              ((Runs Fs 41 [(Mir.AV.n (Mir.D.str (ByteArray.mk (List.toArray (List.map Go.Mir.byteOf (Prod.snd x4))))))] [] (Mir.AV.n (Mir.D.str x8)) []) ∧
               (R (Mir.AV.n (Mir.D.str x8)))))))))))))))))
theorem vc19 (a0 : ByteArray) (a1 : ByteArray) (a2 : Int) (R : Mir.AV → Prop) : Vc Fs c19.body (argsQ c19 [(.n (.str a0)), (.n (.str a1)), (.n (.int .i64 a2))]) [] (endQ c19 R) = V19 a0 a1 a2 R := by kernel_rfl
def V20 (a0 : ByteArray) (a1 : Int) (R : Mir.AV → Prop) : Prop :=
 (sel (decide (a1 < 0))
  (R (Mir.AV.n (Mir.D.str (ByteArray.mk (List.toArray [])))))
  (sel (decide (a1 ≥ 8))
   (R (Mir.AV.n (Mir.D.str (ByteArray.mk (List.toArray [])))))
   (∃ x0 : ByteArray,
    ((Runs Fs 42 [(Mir.AV.o (Mir.D.sl 1 (Go.Mir.bytesD a0))), (Mir.AV.n (Mir.D.int .i64 a1))] [] (Mir.AV.n (Mir.D.str x0)) []) ∧
     (∃ x1 : ByteArray,
      ((Runs Fs 39 [(Mir.AV.n (Mir.D.str x0))] [] (Mir.AV.n (Mir.D.str x1)) []) ∧
       (R (Mir.AV.n (Mir.D.str x1)))))))))
theorem vc20 (a0 : ByteArray) (a1 : Int) (R : Mir.AV → Prop) : Vc Fs c20.body (argsQ c20 [(.n (.str a0)), (.n (.int .i64 a1))]) [] (endQ c20 R) = V20 a0 a1 R := by kernel_rfl
def V21 (a0 : ByteArray) (a1 : Int) (R : Mir.AV → Prop) : Prop :=
 (sel (decide (a1 < 0))
  (R (Mir.AV.n (Mir.D.str (ByteArray.mk (List.toArray [])))))
  (sel (decide (a1 > 7))
   (R (Mir.AV.n (Mir.D.str (ByteArray.mk (List.toArray [])))))
   (∃ x0 : (Nat → (Int → ((Nat × (List Mir.D)) → Prop))),
    (∃ x1 : (Nat → (Int → ((Nat × (List Mir.D)) → Nat))),
     (((@Eq (List (Nat × Mir.Ob)) [(2100300, (.row false true 0 5 1 []))] [(2100300, (.row false true 0 5 1 []))]) ∧
       (x0 0 (Go.IntKind.wrap .i64 (512 * a1)) (0, []))) ∧
      (∀ x2 : Nat,
       (∀ x3 : Int,
        (∀ x4 : (Nat × (List Mir.D)),
         ((x0 x2 x3 x4) →
          (∀ x5 : (Nat → Mir.AV),
           (sel (decide (x3 < (Go.IntKind.wrap .i64 ((Go.IntKind.wrap .i64 (512 * a1)) + 512))))
            (∃ x6 : Int,
             ((Runs Fs 40 [(Mir.AV.n (Mir.D.str a0)), (Mir.AV.n (Mir.D.int .i64 x3))] [] (Mir.AV.n (Mir.D.int .u8 x6)) []) ∧
              (((0 : Nat) = 0) ∧
               ((((1 : Nat) = 1) ∨ (@Eq (List Mir.D) [(Mir.D.int .u8 x6)] [])) ∧
                ((((((Prod.fst x4) : Nat) = x2) ∧
                   ((5 : Nat) = 5)) ∧
                  ((1 : Nat) = 1)) ∧
                 ((((((List.length (Prod.snd x4)) + (List.length [(Mir.D.int .u8 x6)])) * 1) : Nat) ≤ 140737488355328) ∧
                  ((((Mir.AV.n (Mir.D.str a0)) : Mir.AV) = (Mir.AV.n (Mir.D.str a0))) ∧
                   ((((Mir.AV.n (Mir.D.int .i64 a1)) : Mir.AV) = (Mir.AV.n (Mir.D.int .i64 a1))) ∧
                    ((@Eq (List (Nat × Mir.Ob)) [(2100300, (.row false true (x2 + 1) 5 1 ((Prod.snd x4) ++ [(Mir.D.int .u8 x6)])))] [(2100300, (.row false true (x2 + 1) 5 1 ((Prod.snd x4) ++ [(Mir.D.int .u8 x6)])))]) ∧
                     ((x0 (x2 + 1) (Go.IntKind.wrap .i64 (x3 + 1)) ((x2 + 1), ((Prod.snd x4) ++ [(Mir.D.int .u8 x6)]))) ∧
                      (((x1 (x2 + 1) (Go.IntKind.wrap .i64 (x3 + 1)) ((x2 + 1), ((Prod.snd x4) ++ [(Mir.D.int .u8 x6)]))) : Nat) < (x1 x2 x3 x4))))))))))))
            ((((Prod.fst x4) : Nat) = x2) ∧
             ((((1 : Nat) = 1) ∨ (@Eq (List Mir.D) (Prod.snd x4) [])) ∧
              ((((List.all (Prod.snd x4) Go.Mir.D.isU8) : Bool) = true) ∧
               (∃ x7 : ByteArray,
                ((Runs Fs 41 [(Mir.AV.n (Mir.D.str (ByteArray.mk (List.toArray (List.map Go.Mir.byteOf (Prod.snd x4))))))] [] (Mir.AV.n (Mir.D.str x7)) []) ∧
                 (R (Mir.AV.n (Mir.D.str x7)))))))))))))))))))
theorem vc21 (a0 : ByteArray) (a1 : Int) (R : Mir.AV → Prop) : Vc Fs c21.body (argsQ c21 [(.n (.str a0)), (.n (.int .i64 a1))]) [] (endQ c21 R) = V21 a0 a1 R := by kernel_rfl
def V4 (a0 : ByteArray) (a1 : ByteArray) (a2 : Int) (a3 : Int) (R : Mir.AV → Prop) : Prop :=
 (∃ x0 : Bool,
  ((Runs Fs 15 [] [] (Mir.AV.n (Mir.D.bool x0)) []) ∧
   (sel x0
    (∃ x1 : ByteArray,
     ((Runs Fs 18 [(Mir.AV.n (Mir.D.str a0)), (Mir.AV.n (Mir.D.str a1)), (Mir.AV.n (Mir.D.int .i64 a2))] [] (Mir.AV.n (Mir.D.str x1)) []) ∧
      (∃ x2 : ByteArray,
       ((Runs Fs 19 [(Mir.AV.n (Mir.D.str a0)), (Mir.AV.n (Mir.D.str a1)), (Mir.AV.n (Mir.D.int .i64 a2))] [] (Mir.AV.n (Mir.D.str x2)) []) ∧
        (sel ((ByteArray.toList x1) == (ByteArray.toList x2))
         (∃ x3 : ByteArray,
          ((Runs Fs 20 [(Mir.AV.n (Mir.D.str a0)), (Mir.AV.n (Mir.D.int .i64 a3))] [] (Mir.AV.n (Mir.D.str x3)) []) ∧
           (∃ x4 : ByteArray,
            ((Runs Fs 21 [(Mir.AV.n (Mir.D.str a0)), (Mir.AV.n (Mir.D.int .i64 a3))] [] (Mir.AV.n (Mir.D.str x4)) []) ∧
             (R (Mir.AV.n (Mir.D.bool ((ByteArray.toList x3) == (ByteArray.toList x4)))))))))
         (R (Mir.AV.n (Mir.D.bool false))))))))
    (R (Mir.AV.n (Mir.D.bool false))))))
theorem vc4 (a0 : ByteArray) (a1 : ByteArray) (a2 : Int) (a3 : Int) (R : Mir.AV → Prop) : Vc Fs c4.body (argsQ c4 [(.n (.str a0)), (.n (.str a1)), (.n (.int .i64 a2)), (.n (.int .i64 a3))]) [] (endQ c4 R) = V4 a0 a1 a2 a3 R := by kernel_rfl
def V5 (a0 : ByteArray) (a1 : ByteArray) (a2 : Int) (R : Mir.AV → Prop) : Prop :=
 (∃ x0 : ByteArray,
  ((Runs Fs 18 [(Mir.AV.n (Mir.D.str a0)), (Mir.AV.n (Mir.D.str a1)), (Mir.AV.n (Mir.D.int .i64 a2))] [] (Mir.AV.n (Mir.D.str x0)) []) ∧
   (∃ x1 : ByteArray,
    ((Runs Fs 18 [(Mir.AV.n (Mir.D.str x0)), (Mir.AV.n (Mir.D.str a1)), (Mir.AV.n (Mir.D.int .i64 a2))] [] (Mir.AV.n (Mir.D.str x1)) []) ∧
     (sel (Bool.not ((ByteArray.toList x1) == (ByteArray.toList x0)))
      (R (Mir.AV.n (Mir.D.bool false)))
      (∃ x2 : ByteArray,
       ((Runs Fs 18 [(Mir.AV.n (Mir.D.str a0)), (Mir.AV.n (Mir.D.str x0)), (Mir.AV.n (Mir.D.int .i64 a2))] [] (Mir.AV.n (Mir.D.str x2)) []) ∧
        (sel (Bool.not ((ByteArray.toList x2) == (ByteArray.toList x0)))
         (R (Mir.AV.n (Mir.D.bool false)))
         (∃ x3 : ByteArray,
          ((Runs Fs 18 [(Mir.AV.n (Mir.D.str a1)), (Mir.AV.n (Mir.D.str a0)), (Mir.AV.n (Mir.D.int .i64 (Go.IntKind.wrap .i64 (((BitVec.toNat (HXor.hXor (BitVec.ofInt (Go.IntKind.bits .i64) (-1)) (BitVec.ofInt (Go.IntKind.bits .i64) a2))) : Nat) : Int))))] [] (Mir.AV.n (Mir.D.str x3)) []) ∧
           (sel (Bool.not ((ByteArray.toList x3) == (ByteArray.toList x0)))
            (R (Mir.AV.n (Mir.D.bool false)))
            (sel (decide ((((ByteArray.size x0) : Nat) : Int) > 4096))
             (R (Mir.AV.n (Mir.D.bool false)))
             (∃ x4 : (Int → Prop),
              (∃ x5 : (Int → Nat),
               (((@Eq (List (Nat × Mir.Ob)) [] []) ∧
                 (x4 0)) ∧
                (∀ x6 : Int,
                 ((x4 x6) →
                  (∀ x7 : (Nat → Mir.AV),
                   (sel (decide (x6 < 8))
                    (∃ x8 : ByteArray,
                     ((Runs Fs 20 [(Mir.AV.n (Mir.D.str a0)), (Mir.AV.n (Mir.D.int .i64 x6))] [] (Mir.AV.n (Mir.D.str x8)) []) ∧
                      (((0 : Int) ≤ x6) ∧
                       (sel ((Go.IntKind.wrap .i64 (((BitVec.toNat (HAnd.hAnd (BitVec.ofInt (Go.IntKind.bits .i64) (Int.fdiv a2 (2 ^ (Min.min (Int.toNat x6) (Go.IntKind.bits .i64))))) (BitVec.ofInt (Go.IntKind.bits .i64) 1))) : Nat) : Int)) == 1)
                        (∃ x9 : ByteArray,
                         ((Runs Fs 20 [(Mir.AV.n (Mir.D.str a1)), (Mir.AV.n (Mir.D.int .i64 x6))] [] (Mir.AV.n (Mir.D.str x9)) []) ∧
                          (∃ x10 : ByteArray,
                           ((Runs Fs 20 [(Mir.AV.n (Mir.D.str x0)), (Mir.AV.n (Mir.D.int .i64 x6))] [] (Mir.AV.n (Mir.D.str x10)) []) ∧
                            (sel (Bool.not ((ByteArray.toList x10) == (ByteArray.toList x9)))
                             (R (Mir.AV.n (Mir.D.bool false)))
                             ((((Mir.AV.n (Mir.D.str a0)) : Mir.AV) = (Mir.AV.n (Mir.D.str a0))) ∧
                              ((((Mir.AV.n (Mir.D.str a1)) : Mir.AV) = (Mir.AV.n (Mir.D.str a1))) ∧
                               ((((Mir.AV.n (Mir.D.int .i64 a2)) : Mir.AV) = (Mir.AV.n (Mir.D.int .i64 a2))) ∧
                                ((((Mir.AV.n (Mir.D.str x0)) : Mir.AV) = (Mir.AV.n (Mir.D.str x0))) ∧
                                 ((@Eq (List (Nat × Mir.Ob)) [] []) ∧
                                  ((x4 (Go.IntKind.wrap .i64 (x6 + 1))) ∧
                                   (((x5 (Go.IntKind.wrap .i64 (x6 + 1))) : Nat) < (x5 x6)))))))))))))
                        (∃ x11 : ByteArray,
                         ((Runs Fs 20 [(Mir.AV.n (Mir.D.str x0)), (Mir.AV.n (Mir.D.int .i64 x6))] [] (Mir.AV.n (Mir.D.str x11)) []) ∧
                          (sel (Bool.not ((ByteArray.toList x11) == (ByteArray.toList x8)))
                           (R (Mir.AV.n (Mir.D.bool false)))
                           ((((Mir.AV.n (Mir.D.str a0)) : Mir.AV) = (Mir.AV.n (Mir.D.str a0))) ∧
                            ((((Mir.AV.n (Mir.D.str a1)) : Mir.AV) = (Mir.AV.n (Mir.D.str a1))) ∧
                             ((((Mir.AV.n (Mir.D.int .i64 a2)) : Mir.AV) = (Mir.AV.n (Mir.D.int .i64 a2))) ∧
                              ((((Mir.AV.n (Mir.D.str x0)) : Mir.AV) = (Mir.AV.n (Mir.D.str x0))) ∧
                               ((@Eq (List (Nat × Mir.Ob)) [] []) ∧
                                ((x4 (Go.IntKind.wrap .i64 (x6 + 1))) ∧
                                 (((x5 (Go.IntKind.wrap .i64 (x6 + 1))) : Nat) < (x5 x6)))))))))))))))
                    (∃ x12 : ByteArray,
                     ((Runs Fs 18 [(Mir.AV.n (Mir.D.str a0)), (Mir.AV.n (Mir.D.str a1)), (Mir.AV.n (Mir.D.int .i64 0))] [] (Mir.AV.n (Mir.D.str x12)) []) ∧
                      (∃ x13 : ByteArray,
                       ((Runs Fs 18 [(Mir.AV.n (Mir.D.str a0)), (Mir.AV.n (Mir.D.str a1)), (Mir.AV.n (Mir.D.int .i64 255))] [] (Mir.AV.n (Mir.D.str x13)) []) ∧
                        (∃ x14 : Bool,
                         ((Runs Fs 15 [] [] (Mir.AV.n (Mir.D.bool x14)) []) ∧
                          (sel x14
                           (∃ x15 : ByteArray,
                            ((Runs Fs 18 [(Mir.AV.n (Mir.D.str x12)), (Mir.AV.n (Mir.D.str (ByteArray.mk (List.toArray [])))), (Mir.AV.n (Mir.D.int .i64 0))] [] (Mir.AV.n (Mir.D.str x15)) []) ∧
                             (sel ((ByteArray.toList x12) == (ByteArray.toList x15))
                              (∃ x16 : ByteArray,
                               ((Runs Fs 18 [(Mir.AV.n (Mir.D.str (ByteArray.mk (List.toArray [])))), (Mir.AV.n (Mir.D.str a1)), (Mir.AV.n (Mir.D.int .i64 255))] [] (Mir.AV.n (Mir.D.str x16)) []) ∧
                                (R (Mir.AV.n (Mir.D.bool ((ByteArray.toList x13) == (ByteArray.toList x16)))))))
                              (R (Mir.AV.n (Mir.D.bool false))))))
                           (R (Mir.AV.n (Mir.D.bool false)))))))))))))))))))))))))))))
theorem vc5 (a0 : ByteArray) (a1 : ByteArray) (a2 : Int) (R : Mir.AV → Prop) : Vc Fs c5.body (argsQ c5 [(.n (.str a0)), (.n (.str a1)), (.n (.int .i64 a2))]) [] (endQ c5 R) = V5 a0 a1 a2 R := by kernel_rfl
def V3 (a0_0 : List Mir.D) (a0_1 : List Mir.D) (a1 : Int) (R : Mir.AV → Prop) : Prop :=
 (∃ x0 : (List Mir.D),
  (∃ x1 : (List Mir.D),
   ((Runs Fs 12 [(Mir.AV.agg [(Mir.AV.o (Mir.D.sl 1 a0_0)), (Mir.AV.o (Mir.D.sl 2 a0_1))])] [] (Mir.AV.agg [(Mir.AV.o (Mir.D.sl 1 x0)), (Mir.AV.o (Mir.D.sl 2 x1))]) []) ∧
    (∃ x2 : (List Mir.D),
     (∃ x3 : (List Mir.D),
      (∃ x4 : Int,
       ((Runs Fs 13 [(Mir.AV.n (Mir.D.int .i64 a1))] [] (Mir.AV.tup [(Mir.AV.agg [(Mir.AV.o (Mir.D.sl 1 x2)), (Mir.AV.o (Mir.D.sl 2 x3))]), (Mir.AV.n (Mir.D.int .i64 x4))]) []) ∧
        (sel (decide (a1 < 1))
         (sel (x4 != 1)
          (R (Mir.AV.n (Mir.D.bool false)))
          (sel ((((List.length x2) : Nat) : Int) != 0)
           (R (Mir.AV.n (Mir.D.bool false)))
           (∃ x5 : Bool,
            ((Runs Fs 15 [] [] (Mir.AV.n (Mir.D.bool x5)) []) ∧
             (sel x5
              (∃ x6 : Bool,
               ((Runs Fs 16 [(Mir.AV.agg [(Mir.AV.o (Mir.D.sl 1 x0)), (Mir.AV.o (Mir.D.sl 2 x1))])] [] (Mir.AV.n (Mir.D.bool x6)) []) ∧
                (∃ x7 : Bool,
                 ((Runs Fs 17 [(Mir.AV.agg [(Mir.AV.o (Mir.D.sl 1 x0)), (Mir.AV.o (Mir.D.sl 2 x1))])] [] (Mir.AV.n (Mir.D.bool x7)) []) ∧
                  (R (Mir.AV.n (Mir.D.bool (x6 == x7))))))))
              (R (Mir.AV.n (Mir.D.bool false))))))))
         (sel (decide (a1 > 2048))
          (sel (x4 != 1)
           (R (Mir.AV.n (Mir.D.bool false)))
           (sel ((((List.length x2) : Nat) : Int) != 0)
            (R (Mir.AV.n (Mir.D.bool false)))
            (∃ x8 : Bool,
             ((Runs Fs 15 [] [] (Mir.AV.n (Mir.D.bool x8)) []) ∧
              (sel x8
               (∃ x9 : Bool,
                ((Runs Fs 16 [(Mir.AV.agg [(Mir.AV.o (Mir.D.sl 1 x0)), (Mir.AV.o (Mir.D.sl 2 x1))])] [] (Mir.AV.n (Mir.D.bool x9)) []) ∧
                 (∃ x10 : Bool,
                  ((Runs Fs 17 [(Mir.AV.agg [(Mir.AV.o (Mir.D.sl 1 x0)), (Mir.AV.o (Mir.D.sl 2 x1))])] [] (Mir.AV.n (Mir.D.bool x10)) []) ∧
                   (R (Mir.AV.n (Mir.D.bool (x9 == x10))))))))
               (R (Mir.AV.n (Mir.D.bool false))))))))
          (sel (x4 != 0)
           (R (Mir.AV.n (Mir.D.bool false)))
           (((0 : Int) ≤ a1) ∧
            (((((Int.toNat a1) * 16) : Nat) ≤ 140737488355328) ∧
             ((0 = 0) ∧
              (∃ x11 : Bool,
               ((Runs Fs 14 [(Mir.AV.agg [(Mir.AV.o (Mir.D.sl 1 x2)), (Mir.AV.o (Mir.D.sl 2 x3))]), (Mir.AV.agg [(Mir.AV.o (Mir.D.sl 1 (List.replicate (Int.toNat a1) (Mir.D.str (ByteArray.mk (List.toArray [])))))), (Mir.AV.o (Mir.D.sl 2 []))])] [] (Mir.AV.n (Mir.D.bool x11)) []) ∧
                (sel (Bool.not x11)
                 (R (Mir.AV.n (Mir.D.bool false)))
                 (∃ x12 : Bool,
                  ((Runs Fs 15 [] [] (Mir.AV.n (Mir.D.bool x12)) []) ∧
                   (sel x12
                    (∃ x13 : Bool,
                     ((Runs Fs 16 [(Mir.AV.agg [(Mir.AV.o (Mir.D.sl 1 x0)), (Mir.AV.o (Mir.D.sl 2 x1))])] [] (Mir.AV.n (Mir.D.bool x13)) []) ∧
                      (∃ x14 : Bool,
                       ((Runs Fs 17 [(Mir.AV.agg [(Mir.AV.o (Mir.D.sl 1 x0)), (Mir.AV.o (Mir.D.sl 2 x1))])] [] (Mir.AV.n (Mir.D.bool x14)) []) ∧
                        (R (Mir.AV.n (Mir.D.bool (x13 == x14))))))))
                    (R (Mir.AV.n (Mir.D.bool false))))))))))))))))))))))
theorem vc3 (a0_0 : List Mir.D) (a0_1 : List Mir.D) (a1 : Int) (R : Mir.AV → Prop) : Vc Fs c3.body (argsQ c3 [(.agg [(.o (.sl 1 a0_0)), (.o (.sl 2 a0_1))]), (.n (.int .i64 a1))]) [] (endQ c3 R) = V3 a0_0 a0_1 a1 R := by kernel_rfl
def V16 (a0_0 : List Mir.D) (a0_1 : List Mir.D) (R : Mir.AV → Prop) : Prop :=
 (sel (decide ((((List.length a0_0) : Nat) : Int) < 1))
  (R (Mir.AV.n (Mir.D.bool false)))
  (sel (decide ((((List.length a0_0) : Nat) : Int) > 2048))
   (R (Mir.AV.n (Mir.D.bool false)))
   (sel (decide ((((List.length a0_1) : Nat) : Int) > 2048))
    (R (Mir.AV.n (Mir.D.bool false)))
    (∃ x0 : (Int → Prop),
     (∃ x1 : (Int → Nat),
      (((@Eq (List (Nat × Mir.Ob)) [(1600000, (.box [(Mir.AV.o (Mir.D.sl 1 a0_0)), (Mir.AV.o (Mir.D.sl 2 a0_1))])), (1600103, (.box [(Mir.AV.n (Mir.D.int .i64 (((List.length a0_0) : Nat) : Int)))]))] [(1600000, (.box [(Mir.AV.o (Mir.D.sl 1 a0_0)), (Mir.AV.o (Mir.D.sl 2 a0_1))])), (1600103, (.box [(Mir.AV.n (Mir.D.int .i64 (((List.length a0_0) : Nat) : Int)))]))]) ∧
        (x0 0)) ∧
       (∀ x2 : Int,
        ((x0 x2) →
         (∀ x3 : (Nat → Mir.AV),
          (sel (decide (x2 < (((List.length a0_0) : Nat) : Int)))
           (((1 : Nat) = 1) ∧
            (((0 : Int) ≤ x2) ∧
             (∃ x4 : Mir.D,
              ((((GetElem?.getElem? a0_0 (Int.toNat x2)) : (Option Mir.D)) = (some x4)) ∧
               (∃ x5 : ByteArray,
                ((((GetElem?.getElem? (Go.Mir.D.cells x4) 0) : (Option Mir.D)) = (some (Mir.D.str x5))) ∧
                 (∃ x6 : Bool,
                  ((Runs Fs 34 [(Mir.AV.n (Mir.D.str x5))] [] (Mir.AV.n (Mir.D.bool x6)) []) ∧
                   (sel (Bool.not x6)
                    (R (Mir.AV.n (Mir.D.bool false)))
                    ((((Mir.AV.ptr 1600000 0) : Mir.AV) = (Mir.AV.ptr 1600000 0)) ∧
                     ((((Mir.AV.ptr 1600103 0) : Mir.AV) = (Mir.AV.ptr 1600103 0)) ∧
                      ((((Mir.AV.o (Mir.D.sl 1 a0_0)) : Mir.AV) = (Mir.AV.o (Mir.D.sl 1 a0_0))) ∧
                       ((((Mir.AV.n (Mir.D.int .i64 (((List.length a0_0) : Nat) : Int))) : Mir.AV) = (Mir.AV.n (Mir.D.int .i64 (((List.length a0_0) : Nat) : Int)))) ∧
                        ((@Eq (List (Nat × Mir.Ob)) [(1600000, (.box [(Mir.AV.o (Mir.D.sl 1 a0_0)), (Mir.AV.o (Mir.D.sl 2 a0_1))])), (1600103, (.box [(Mir.AV.n (Mir.D.int .i64 (((List.length a0_0) : Nat) : Int)))]))] [(1600000, (.box [(Mir.AV.o (Mir.D.sl 1 a0_0)), (Mir.AV.o (Mir.D.sl 2 a0_1))])), (1600103, (.box [(Mir.AV.n (Mir.D.int .i64 (((List.length a0_0) : Nat) : Int)))]))]) ∧
                         ((x0 (Go.IntKind.wrap .i64 (x2 + 1))) ∧
                          (((x1 (Go.IntKind.wrap .i64 (x2 + 1))) : Nat) < (x1 x2)))))))))))))))))
           (∃ x7 : Bool,
            ((Runs Fs 35 [(Mir.AV.o (Mir.D.sl 2 a0_1)), (Mir.AV.fn 36 [(Mir.AV.ptr 1600103 0)])] [(1600103, (.box [(Mir.AV.n (Mir.D.int .i64 (((List.length a0_0) : Nat) : Int)))]))] (Mir.AV.n (Mir.D.bool x7)) [(1600103, (.box [(Mir.AV.n (Mir.D.int .i64 (((List.length a0_0) : Nat) : Int)))]))]) ∧
             (R (Mir.AV.n (Mir.D.bool (Bool.not x7))))))))))))))))
theorem vc16 (a0_0 : List Mir.D) (a0_1 : List Mir.D) (R : Mir.AV → Prop) : Vc Fs c16.body (argsQ c16 [(.agg [(.o (.sl 1 a0_0)), (.o (.sl 2 a0_1))])]) [] (endQ c16 R) = V16 a0_0 a0_1 R := by kernel_rfl
def V36r (b : Int) (s : ByteArray) (n : Int) (R : Mir.AV → Heap → Prop) : Prop :=
 (sel (decide (b < 0))
  (R (Mir.AV.n (Mir.D.bool true)) [(1600103, (.box [(Mir.AV.n (Mir.D.int .i64 n))]))])
  (sel (decide (b ≥ n))
   (R (Mir.AV.n (Mir.D.bool true)) [(1600103, (.box [(Mir.AV.n (Mir.D.int .i64 n))]))])
   (∃ x0 : Bool,
    ((Runs Fs 34 [(Mir.AV.n (Mir.D.str s))] [] (Mir.AV.n (Mir.D.bool x0)) []) ∧
     (R (Mir.AV.n (Mir.D.bool (Bool.not x0))) [(1600103, (.box [(Mir.AV.n (Mir.D.int .i64 n))]))])))))
theorem vc36r (b : Int) (s : ByteArray) (n : Int) (R : Mir.AV → Heap → Prop) : Vc Fs c36.body (argsQ c36 [.agg [.n (.int .i64 b), .n (.str s)], .ptr 1600103 0]) [(1600103, .box [.n (.int .i64 n)])] (endQH c36 [(1600103, .box [.n (.int .i64 n)])] R) = V36r b s n R := by kernel_rfl
def V57r (els : List Mir.D) (n : Int) (R : Mir.AV → Heap → Prop) : Prop :=
 (∃ x0 : (Int → Prop),
  (∃ x1 : (Int → Nat),
   (((@Eq (List (Nat × Mir.Ob)) [(1600103, (.box [(Mir.AV.n (Mir.D.int .i64 n))]))] [(1600103, (.box [(Mir.AV.n (Mir.D.int .i64 n))]))]) ∧
     (x0 0)) ∧
    (∀ x2 : Int,
     ((x0 x2) →
      (∀ x3 : (Nat → Mir.AV),
       (sel (decide (x2 < (((List.length els) : Nat) : Int)))
        (((2 : Nat) = 2) ∧
         (((0 : Int) ≤ x2) ∧
          (∃ x4 : Mir.D,
           ((((GetElem?.getElem? els (Int.toNat x2)) : (Option Mir.D)) = (some x4)) ∧
            (∃ x5 : Int,
             (∃ x6 : ByteArray,
              ((@Eq (List Mir.D) (List.take 2 (Go.Mir.D.cells x4)) [(Mir.D.int .i64 x5), (Mir.D.str x6)]) ∧
               (((2 : Nat) ≤ (List.length (Go.Mir.D.cells x4))) ∧
                (∃ x7 : Bool,
                 ((Runs Fs 36 [(Mir.AV.agg [(Mir.AV.n (Mir.D.int .i64 x5)), (Mir.AV.n (Mir.D.str x6))]), (Mir.AV.ptr 1600103 0)] [(1600103, (.box [(Mir.AV.n (Mir.D.int .i64 n))]))] (Mir.AV.n (Mir.D.bool x7)) [(1600103, (.box [(Mir.AV.n (Mir.D.int .i64 n))]))]) ∧
                  (sel x7
                   (R (Mir.AV.n (Mir.D.int .i64 x2)) [(1600103, (.box [(Mir.AV.n (Mir.D.int .i64 n))]))])
                   ((((Mir.AV.o (Mir.D.sl 2 els)) : Mir.AV) = (Mir.AV.o (Mir.D.sl 2 els))) ∧
                    ((((Mir.AV.fn 36 [(Mir.AV.ptr 1600103 0)]) : Mir.AV) = (Mir.AV.fn 36 [(Mir.AV.ptr 1600103 0)])) ∧
                     ((((Mir.AV.n (Mir.D.int .i64 (((List.length els) : Nat) : Int))) : Mir.AV) = (Mir.AV.n (Mir.D.int .i64 (((List.length els) : Nat) : Int)))) ∧
                      ((@Eq (List (Nat × Mir.Ob)) [(1600103, (.box [(Mir.AV.n (Mir.D.int .i64 n))]))] [(1600103, (.box [(Mir.AV.n (Mir.D.int .i64 n))]))]) ∧
                       ((x0 (Go.IntKind.wrap .i64 (x2 + 1))) ∧
                        (((x1 (Go.IntKind.wrap .i64 (x2 + 1))) : Nat) < (x1 x2))))))))))))))))))
        (R (Mir.AV.n (Mir.D.int .i64 (-1))) [(1600103, (.box [(Mir.AV.n (Mir.D.int .i64 n))]))]))))))))
theorem vc57r (els : List Mir.D) (n : Int) (R : Mir.AV → Heap → Prop) : Vc Fs c57.body (argsQ c57 [.o (.sl 2 els), .fn 36 [.ptr 1600103 0]]) [(1600103, .box [.n (.int .i64 n)])] (endQH c57 [(1600103, .box [.n (.int .i64 n)])] R) = V57r els n R := by kernel_rfl
def V35r (els : List Mir.D) (n : Int) (R : Mir.AV → Heap → Prop) : Prop :=
 (∃ x0 : Int,
  ((Runs Fs 57 [(Mir.AV.o (Mir.D.sl 2 els)), (Mir.AV.fn 36 [(Mir.AV.ptr 1600103 0)])] [(1600103, (.box [(Mir.AV.n (Mir.D.int .i64 n))]))] (Mir.AV.n (Mir.D.int .i64 x0)) [(1600103, (.box [(Mir.AV.n (Mir.D.int .i64 n))]))]) ∧
   (R (Mir.AV.n (Mir.D.bool (decide (x0 ≥ 0)))) [(1600103, (.box [(Mir.AV.n (Mir.D.int .i64 n))]))])))
theorem vc35r (els : List Mir.D) (n : Int) (R : Mir.AV → Heap → Prop) : Vc Fs c35.body (argsQ c35 [.o (.sl 2 els), .fn 36 [.ptr 1600103 0]]) [(1600103, .box [.n (.int .i64 n)])] (endQH c35 [(1600103, .box [.n (.int .i64 n)])] R) = V35r els n R := by kernel_rfl

end Go.Proofs.YtcakphhnilklnaaDoor.M
