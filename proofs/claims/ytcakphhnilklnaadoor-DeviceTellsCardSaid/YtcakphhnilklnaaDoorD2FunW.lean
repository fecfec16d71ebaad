import Derived.Test.YtcakphhnilklnaaDoorD2Fun
namespace Go.Proofs.YtcakphhnilklnaaDoor.M
set_option linter.unusedVariables false
set_option linter.unusedSimpArgs false
open Go Go.Mir
set_option linter.unusedVariables false
def V23 (a0_0 : List Mir.D) (a0_1 : List Mir.D) (a1 : Bool) (a2 : List Mir.D) (R : Mir.AV → Prop) : Prop :=
 (∃ x0 : (Int → ((Nat × ((PUnit) × (PUnit))) → ((Nat × (List Mir.D)) → Prop))),
  (∃ x1 : (Int → ((Nat × ((PUnit) × (PUnit))) → ((Nat × (List Mir.D)) → Nat))),
   (((@Eq (List (Nat × Mir.Ob)) [(2300000, (.box [(Mir.AV.o (Mir.D.sl 1 a0_0)), (Mir.AV.o (Mir.D.sl 2 a0_1))])), (2300001, (.box [(Mir.AV.n Mir.D.nil), (Mir.AV.n Mir.D.nil)])), (2300101, (.box [(Mir.AV.row 2300504 0), (Mir.AV.n Mir.D.nil)])), (2300504, (.row false true 0 9 1 []))] [(2300000, (.box [(Mir.AV.o (Mir.D.sl 1 a0_0)), (Mir.AV.o (Mir.D.sl 2 a0_1))])), (2300001, (.box [(Mir.AV.n Mir.D.nil), (Mir.AV.n Mir.D.nil)])), (2300101, (.box [(Mir.AV.row 2300504 0), (Mir.AV.n Mir.D.nil)])), (2300504, (.row false true 0 9 1 []))]) ∧
     (x0 0 (0, (Unit.unit, Unit.unit)) (0, []))) ∧
    (∀ x2 : Int,
     (∀ x3 : (Nat × ((PUnit) × (PUnit))),
      (∀ x4 : (Nat × (List Mir.D)),
       ((x0 x2 x3 x4) →
        (∀ x5 : (Nat → Mir.AV),
         (sel (decide (x2 < (((List.length a0_0) : Nat) : Int)))
          (((1 : Nat) = 1) ∧
           (((0 : Int) ≤ x2) ∧
            (∃ x6 : Mir.D,
             ((((GetElem?.getElem? a0_0 (Int.toNat x2)) : (Option Mir.D)) = (some x6)) ∧
              (∃ x7 : ByteArray,
               ((((GetElem?.getElem? (Go.Mir.D.cells x6) 0) : (Option Mir.D)) = (some (Mir.D.str x7))) ∧
                (((0 : Nat) = 0) ∧
                 ((((1 : Nat) = 1) ∨ (@Eq (List Mir.D) [(Mir.D.str x7)] [])) ∧
                  ((((((Prod.fst x4) : Nat) = x3.1) ∧
                     ((9 : Nat) = 9)) ∧
                    ((1 : Nat) = 1)) ∧
                   ((((((List.length (Prod.snd x4)) + (List.length [(Mir.D.str x7)])) * 16) : Nat) ≤ 140737488355328) ∧
                    ((((Mir.AV.n (Mir.D.bool a1)) : Mir.AV) = (Mir.AV.n (Mir.D.bool a1))) ∧
                     ((((Mir.AV.o (Mir.D.sl 1 a2)) : Mir.AV) = (Mir.AV.o (Mir.D.sl 1 a2))) ∧
                      ((((Mir.AV.ptr 2300000 0) : Mir.AV) = (Mir.AV.ptr 2300000 0)) ∧
                       ((((Mir.AV.ptr 2300001 0) : Mir.AV) = (Mir.AV.ptr 2300001 0)) ∧
                        ((((Mir.AV.ptr 2300101 0) : Mir.AV) = (Mir.AV.ptr 2300101 0)) ∧
                         ((((Mir.AV.o (Mir.D.sl 1 a0_0)) : Mir.AV) = (Mir.AV.o (Mir.D.sl 1 a0_0))) ∧
                          ((((Mir.AV.n (Mir.D.int .i64 (((List.length a0_0) : Nat) : Int))) : Mir.AV) = (Mir.AV.n (Mir.D.int .i64 (((List.length a0_0) : Nat) : Int)))) ∧
                           ((@Eq (List (Nat × Mir.Ob)) [(2300000, (.box [(Mir.AV.o (Mir.D.sl 1 a0_0)), (Mir.AV.o (Mir.D.sl 2 a0_1))])), (2300001, (.box [(Mir.AV.n Mir.D.nil), (Mir.AV.n Mir.D.nil)])), (2300101, (.box [(Mir.AV.row 2300504 (x3.1 + 1)), (Mir.AV.n Mir.D.nil)])), (2300504, (.row false true (x3.1 + 1) 9 1 ((Prod.snd x4) ++ [(Mir.D.str x7)])))] [(2300000, (.box [(Mir.AV.o (Mir.D.sl 1 a0_0)), (Mir.AV.o (Mir.D.sl 2 a0_1))])), (2300001, (.box [(Mir.AV.n Mir.D.nil), (Mir.AV.n Mir.D.nil)])), (2300101, (.box [(Mir.AV.row 2300504 (x3.1 + 1)), (Mir.AV.n Mir.D.nil)])), (2300504, (.row false true (x3.1 + 1) 9 1 ((Prod.snd x4) ++ [(Mir.D.str x7)])))]) ∧
                            ((x0 (Go.IntKind.wrap .i64 (x2 + 1)) ((x3.1 + 1), (Unit.unit, Unit.unit)) ((x3.1 + 1), ((Prod.snd x4) ++ [(Mir.D.str x7)]))) ∧
                             (((x1 (Go.IntKind.wrap .i64 (x2 + 1)) ((x3.1 + 1), (Unit.unit, Unit.unit)) ((x3.1 + 1), ((Prod.snd x4) ++ [(Mir.D.str x7)]))) : Nat) < (x1 x2 x3 x4)))))))))))))))))))))
          (∃ x8 : (Int → ((Nat × ((PUnit) × (PUnit))) → ((Nat × (List Mir.D)) → Prop))),
           (∃ x9 : (Int → ((Nat × ((PUnit) × (PUnit))) → ((Nat × (List Mir.D)) → Nat))),
            (((@Eq (List (Nat × Mir.Ob)) [(2300000, (.box [(Mir.AV.o (Mir.D.sl 1 a0_0)), (Mir.AV.o (Mir.D.sl 2 a0_1))])), (2300001, (.box [(Mir.AV.n Mir.D.nil), (Mir.AV.n Mir.D.nil)])), (2300101, (.box [(Mir.AV.row 2300504 x3.1), (Mir.AV.n Mir.D.nil)])), (2300504, (.row false true (Prod.fst x4) 9 1 (Prod.snd x4)))] [(2300000, (.box [(Mir.AV.o (Mir.D.sl 1 a0_0)), (Mir.AV.o (Mir.D.sl 2 a0_1))])), (2300001, (.box [(Mir.AV.n Mir.D.nil), (Mir.AV.n Mir.D.nil)])), (2300101, (.box [(Mir.AV.row 2300504 x3.1), (Mir.AV.n Mir.D.nil)])), (2300504, (.row false true (Prod.fst x4) 9 1 (Prod.snd x4)))]) ∧
              (x8 0 (x3.1, (Unit.unit, Unit.unit)) ((Prod.fst x4), (Prod.snd x4)))) ∧
             (∀ x10 : Int,
              (∀ x11 : (Nat × ((PUnit) × (PUnit))),
               (∀ x12 : (Nat × (List Mir.D)),
                ((x8 x10 x11 x12) →
                 (∀ x13 : (Nat → Mir.AV),
                  (sel (decide (x10 < (((List.length a0_1) : Nat) : Int)))
                   (((2 : Nat) = 2) ∧
                    (((0 : Int) ≤ x10) ∧
                     (∃ x14 : Mir.D,
                      ((((GetElem?.getElem? a0_1 (Int.toNat x10)) : (Option Mir.D)) = (some x14)) ∧
                       (∃ x15 : Int,
                        (∃ x16 : ByteArray,
                         ((@Eq (List Mir.D) (List.take 2 (Go.Mir.D.cells x14)) [(Mir.D.int .i64 x15), (Mir.D.str x16)]) ∧
                          (((2 : Nat) ≤ (List.length (Go.Mir.D.cells x14))) ∧
                           (sel (decide (x10 < (((List.length a2) : Nat) : Int)))
                            (((1 : Nat) = 1) ∧
                             (((0 : Int) ≤ x10) ∧
                              (∃ x17 : Mir.D,
                               ((((GetElem?.getElem? a2 (Int.toNat x10)) : (Option Mir.D)) = (some x17)) ∧
                                (∃ x18 : Int,
                                 ((((GetElem?.getElem? (Go.Mir.D.cells x17) 0) : (Option Mir.D)) = (some (Mir.D.int .i64 x18))) ∧
                                  (sel a1
                                   (((((Prod.fst x12) : Nat) = x11.1) ∧
                                     ((1 : Nat) = 1)) ∧
                                    (((0 : Int) ≤ x15) ∧
                                     (((x15 : Int) < (((List.length (Prod.snd x12)) : Nat) : Int)) ∧
                                      ((((x11.1 : Nat) = (Prod.fst x12)) ∧
                                        ((1 : Nat) = 1)) ∧
                                       (∃ x19 : Mir.D,
                                        ((((GetElem?.getElem? (Prod.snd x12) (Int.toNat x15)) : (Option Mir.D)) = (some x19)) ∧
                                         (∃ x20 : ByteArray,
                                          ((((GetElem?.getElem? (Go.Mir.D.cells x19) 0) : (Option Mir.D)) = (some (Mir.D.str x20))) ∧
                                           (∃ x21 : ByteArray,
                                            ((Runs Fs 19 [(Mir.AV.n (Mir.D.str x20)), (Mir.AV.n (Mir.D.str x16)), (Mir.AV.n (Mir.D.int .i64 255))] [] (Mir.AV.n (Mir.D.str x21)) []) ∧
                                             (((((Prod.fst x12) : Nat) = x11.1) ∧
                                               ((1 : Nat) = 1)) ∧
                                              (((0 : Int) ≤ x15) ∧
                                               (((x15 : Int) < (((List.length (Prod.snd x12)) : Nat) : Int)) ∧
                                                ((((((x11.1 : Nat) = (Prod.fst x12)) ∧
                                                    ((0 : Nat) = 0)) ∧
                                                   ((1 : Nat) = 1)) ∧
                                                  ((1 : Nat) = 1)) ∧
                                                 ((((Int.toNat x15) : Nat) < (List.length (Prod.snd x12))) ∧
                                                  ((((Mir.AV.n (Mir.D.bool a1)) : Mir.AV) = (Mir.AV.n (Mir.D.bool a1))) ∧
                                                   ((((Mir.AV.o (Mir.D.sl 1 a2)) : Mir.AV) = (Mir.AV.o (Mir.D.sl 1 a2))) ∧
                                                    ((((Mir.AV.ptr 2300001 0) : Mir.AV) = (Mir.AV.ptr 2300001 0)) ∧
                                                     ((((Mir.AV.ptr 2300101 0) : Mir.AV) = (Mir.AV.ptr 2300101 0)) ∧
                                                      ((((Mir.AV.o (Mir.D.sl 2 a0_1)) : Mir.AV) = (Mir.AV.o (Mir.D.sl 2 a0_1))) ∧
                                                       ((((Mir.AV.n (Mir.D.int .i64 (((List.length a0_1) : Nat) : Int))) : Mir.AV) = (Mir.AV.n (Mir.D.int .i64 (((List.length a0_1) : Nat) : Int)))) ∧
                                                        ((@Eq (List (Nat × Mir.Ob)) [(2300000, (.box [(Mir.AV.o (Mir.D.sl 1 a0_0)), (Mir.AV.o (Mir.D.sl 2 a0_1))])), (2300001, (.box [(Mir.AV.n Mir.D.nil), (Mir.AV.n Mir.D.nil)])), (2300101, (.box [(Mir.AV.row 2300504 x11.1), (Mir.AV.n Mir.D.nil)])), (2300504, (.row false true (Prod.fst x12) 9 1 (List.set (Prod.snd x12) (Int.toNat x15) (Mir.D.str x21))))] [(2300000, (.box [(Mir.AV.o (Mir.D.sl 1 a0_0)), (Mir.AV.o (Mir.D.sl 2 a0_1))])), (2300001, (.box [(Mir.AV.n Mir.D.nil), (Mir.AV.n Mir.D.nil)])), (2300101, (.box [(Mir.AV.row 2300504 x11.1), (Mir.AV.n Mir.D.nil)])), (2300504, (.row false true (Prod.fst x12) 9 1 (List.set (Prod.snd x12) (Int.toNat x15) (Mir.D.str x21))))]) ∧
                                                         ((x8 (Go.IntKind.wrap .i64 (x10 + 1)) (x11.1, (Unit.unit, Unit.unit)) ((Prod.fst x12), (List.set (Prod.snd x12) (Int.toNat x15) (Mir.D.str x21)))) ∧
                                                          (((x9 (Go.IntKind.wrap .i64 (x10 + 1)) (x11.1, (Unit.unit, Unit.unit)) ((Prod.fst x12), (List.set (Prod.snd x12) (Int.toNat x15) (Mir.D.str x21)))) : Nat) < (x9 x10 x11 x12)))))))))))))))))))))))))
                                   (((((Prod.fst x12) : Nat) = x11.1) ∧
                                     ((1 : Nat) = 1)) ∧
                                    (((0 : Int) ≤ x15) ∧
                                     (((x15 : Int) < (((List.length (Prod.snd x12)) : Nat) : Int)) ∧
                                      ((((x11.1 : Nat) = (Prod.fst x12)) ∧
                                        ((1 : Nat) = 1)) ∧
                                       (∃ x22 : Mir.D,
                                        ((((GetElem?.getElem? (Prod.snd x12) (Int.toNat x15)) : (Option Mir.D)) = (some x22)) ∧
                                         (∃ x23 : ByteArray,
                                          ((((GetElem?.getElem? (Go.Mir.D.cells x22) 0) : (Option Mir.D)) = (some (Mir.D.str x23))) ∧
                                           (∃ x24 : ByteArray,
                                            ((Runs Fs 19 [(Mir.AV.n (Mir.D.str x23)), (Mir.AV.n (Mir.D.str x16)), (Mir.AV.n (Mir.D.int .i64 x18))] [] (Mir.AV.n (Mir.D.str x24)) []) ∧
                                             (((((Prod.fst x12) : Nat) = x11.1) ∧
                                               ((1 : Nat) = 1)) ∧
                                              (((0 : Int) ≤ x15) ∧
                                               (((x15 : Int) < (((List.length (Prod.snd x12)) : Nat) : Int)) ∧
                                                ((((((x11.1 : Nat) = (Prod.fst x12)) ∧
                                                    ((0 : Nat) = 0)) ∧
                                                   ((1 : Nat) = 1)) ∧
                                                  ((1 : Nat) = 1)) ∧
                                                 ((((Int.toNat x15) : Nat) < (List.length (Prod.snd x12))) ∧
                                                  ((((Mir.AV.n (Mir.D.bool a1)) : Mir.AV) = (Mir.AV.n (Mir.D.bool a1))) ∧
                                                   ((((Mir.AV.o (Mir.D.sl 1 a2)) : Mir.AV) = (Mir.AV.o (Mir.D.sl 1 a2))) ∧
                                                    ((((Mir.AV.ptr 2300001 0) : Mir.AV) = (Mir.AV.ptr 2300001 0)) ∧
                                                     ((((Mir.AV.ptr 2300101 0) : Mir.AV) = (Mir.AV.ptr 2300101 0)) ∧
                                                      ((((Mir.AV.o (Mir.D.sl 2 a0_1)) : Mir.AV) = (Mir.AV.o (Mir.D.sl 2 a0_1))) ∧
                                                       ((((Mir.AV.n (Mir.D.int .i64 (((List.length a0_1) : Nat) : Int))) : Mir.AV) = (Mir.AV.n (Mir.D.int .i64 (((List.length a0_1) : Nat) : Int)))) ∧
                                                        ((@Eq (List (Nat × Mir.Ob)) [(2300000, (.box [(Mir.AV.o (Mir.D.sl 1 a0_0)), (Mir.AV.o (Mir.D.sl 2 a0_1))])), (2300001, (.box [(Mir.AV.n Mir.D.nil), (Mir.AV.n Mir.D.nil)])), (2300101, (.box [(Mir.AV.row 2300504 x11.1), (Mir.AV.n Mir.D.nil)])), (2300504, (.row false true (Prod.fst x12) 9 1 (List.set (Prod.snd x12) (Int.toNat x15) (Mir.D.str x24))))] [(2300000, (.box [(Mir.AV.o (Mir.D.sl 1 a0_0)), (Mir.AV.o (Mir.D.sl 2 a0_1))])), (2300001, (.box [(Mir.AV.n Mir.D.nil), (Mir.AV.n Mir.D.nil)])), (2300101, (.box [(Mir.AV.row 2300504 x11.1), (Mir.AV.n Mir.D.nil)])), (2300504, (.row false true (Prod.fst x12) 9 1 (List.set (Prod.snd x12) (Int.toNat x15) (Mir.D.str x24))))]) ∧
                                                         ((x8 (Go.IntKind.wrap .i64 (x10 + 1)) (x11.1, (Unit.unit, Unit.unit)) ((Prod.fst x12), (List.set (Prod.snd x12) (Int.toNat x15) (Mir.D.str x24)))) ∧
                                                          (((x9 (Go.IntKind.wrap .i64 (x10 + 1)) (x11.1, (Unit.unit, Unit.unit)) ((Prod.fst x12), (List.set (Prod.snd x12) (Int.toNat x15) (Mir.D.str x24)))) : Nat) < (x9 x10 x11 x12))))))))))))))))))))))))))))))))
                            (sel a1
                             (((((Prod.fst x12) : Nat) = x11.1) ∧
                               ((1 : Nat) = 1)) ∧
                              (((0 : Int) ≤ x15) ∧
                               (((x15 : Int) < (((List.length (Prod.snd x12)) : Nat) : Int)) ∧
                                ((((x11.1 : Nat) = (Prod.fst x12)) ∧
                                  ((1 : Nat) = 1)) ∧
                                 (∃ x25 : Mir.D,
                                  ((((GetElem?.getElem? (Prod.snd x12) (Int.toNat x15)) : (Option Mir.D)) = (some x25)) ∧
                                   (∃ x26 : ByteArray,
                                    ((((GetElem?.getElem? (Go.Mir.D.cells x25) 0) : (Option Mir.D)) = (some (Mir.D.str x26))) ∧
                                     (∃ x27 : ByteArray,
                                      ((Runs Fs 19 [(Mir.AV.n (Mir.D.str x26)), (Mir.AV.n (Mir.D.str x16)), (Mir.AV.n (Mir.D.int .i64 255))] [] (Mir.AV.n (Mir.D.str x27)) []) ∧
                                       (((((Prod.fst x12) : Nat) = x11.1) ∧
                                         ((1 : Nat) = 1)) ∧
                                        (((0 : Int) ≤ x15) ∧
                                         (((x15 : Int) < (((List.length (Prod.snd x12)) : Nat) : Int)) ∧
                                          ((((((x11.1 : Nat) = (Prod.fst x12)) ∧
                                              ((0 : Nat) = 0)) ∧
                                             ((1 : Nat) = 1)) ∧
                                            ((1 : Nat) = 1)) ∧
                                           ((((Int.toNat x15) : Nat) < (List.length (Prod.snd x12))) ∧
                                            ((((Mir.AV.n (Mir.D.bool a1)) : Mir.AV) = (Mir.AV.n (Mir.D.bool a1))) ∧
                                             ((((Mir.AV.o (Mir.D.sl 1 a2)) : Mir.AV) = (Mir.AV.o (Mir.D.sl 1 a2))) ∧
                                              ((((Mir.AV.ptr 2300001 0) : Mir.AV) = (Mir.AV.ptr 2300001 0)) ∧
                                               ((((Mir.AV.ptr 2300101 0) : Mir.AV) = (Mir.AV.ptr 2300101 0)) ∧
                                                ((((Mir.AV.o (Mir.D.sl 2 a0_1)) : Mir.AV) = (Mir.AV.o (Mir.D.sl 2 a0_1))) ∧
                                                 ((((Mir.AV.n (Mir.D.int .i64 (((List.length a0_1) : Nat) : Int))) : Mir.AV) = (Mir.AV.n (Mir.D.int .i64 (((List.length a0_1) : Nat) : Int)))) ∧
                                                  ((@Eq (List (Nat × Mir.Ob)) [(2300000, (.box [(Mir.AV.o (Mir.D.sl 1 a0_0)), (Mir.AV.o (Mir.D.sl 2 a0_1))])), (2300001, (.box [(Mir.AV.n Mir.D.nil), (Mir.AV.n Mir.D.nil)])), (2300101, (.box [(Mir.AV.row 2300504 x11.1), (Mir.AV.n Mir.D.nil)])), (2300504, (.row false true (Prod.fst x12) 9 1 (List.set (Prod.snd x12) (Int.toNat x15) (Mir.D.str x27))))] [(2300000, (.box [(Mir.AV.o (Mir.D.sl 1 a0_0)), (Mir.AV.o (Mir.D.sl 2 a0_1))])), (2300001, (.box [(Mir.AV.n Mir.D.nil), (Mir.AV.n Mir.D.nil)])), (2300101, (.box [(Mir.AV.row 2300504 x11.1), (Mir.AV.n Mir.D.nil)])), (2300504, (.row false true (Prod.fst x12) 9 1 (List.set (Prod.snd x12) (Int.toNat x15) (Mir.D.str x27))))]) ∧
                                                   ((x8 (Go.IntKind.wrap .i64 (x10 + 1)) (x11.1, (Unit.unit, Unit.unit)) ((Prod.fst x12), (List.set (Prod.snd x12) (Int.toNat x15) (Mir.D.str x27)))) ∧
                                                    (((x9 (Go.IntKind.wrap .i64 (x10 + 1)) (x11.1, (Unit.unit, Unit.unit)) ((Prod.fst x12), (List.set (Prod.snd x12) (Int.toNat x15) (Mir.D.str x27)))) : Nat) < (x9 x10 x11 x12)))))))))))))))))))))))))
                             (((((Prod.fst x12) : Nat) = x11.1) ∧
                               ((1 : Nat) = 1)) ∧
                              (((0 : Int) ≤ x15) ∧
                               (((x15 : Int) < (((List.length (Prod.snd x12)) : Nat) : Int)) ∧
                                ((((x11.1 : Nat) = (Prod.fst x12)) ∧
                                  ((1 : Nat) = 1)) ∧
                                 (∃ x28 : Mir.D,
                                  ((((GetElem?.getElem? (Prod.snd x12) (Int.toNat x15)) : (Option Mir.D)) = (some x28)) ∧
                                   (∃ x29 : ByteArray,
                                    ((((GetElem?.getElem? (Go.Mir.D.cells x28) 0) : (Option Mir.D)) = (some (Mir.D.str x29))) ∧
                                     (∃ x30 : ByteArray,
                                      ((Runs Fs 19 [(Mir.AV.n (Mir.D.str x29)), (Mir.AV.n (Mir.D.str x16)), (Mir.AV.n (Mir.D.int .i64 0))] [] (Mir.AV.n (Mir.D.str x30)) []) ∧
                                       (((((Prod.fst x12) : Nat) = x11.1) ∧
                                         ((1 : Nat) = 1)) ∧
                                        (((0 : Int) ≤ x15) ∧
                                         (((x15 : Int) < (((List.length (Prod.snd x12)) : Nat) : Int)) ∧
                                          ((((((x11.1 : Nat) = (Prod.fst x12)) ∧
                                              ((0 : Nat) = 0)) ∧
                                             ((1 : Nat) = 1)) ∧
                                            ((1 : Nat) = 1)) ∧
                                           ((((Int.toNat x15) : Nat) < (List.length (Prod.snd x12))) ∧
                                            ((((Mir.AV.n (Mir.D.bool a1)) : Mir.AV) = (Mir.AV.n (Mir.D.bool a1))) ∧
                                             ((((Mir.AV.o (Mir.D.sl 1 a2)) : Mir.AV) = (Mir.AV.o (Mir.D.sl 1 a2))) ∧
                                              ((((Mir.AV.ptr 2300001 0) : Mir.AV) = (Mir.AV.ptr 2300001 0)) ∧
                                               ((((Mir.AV.ptr 2300101 0) : Mir.AV) = (Mir.AV.ptr 2300101 0)) ∧
                                                ((((Mir.AV.o (Mir.D.sl 2 a0_1)) : Mir.AV) = (Mir.AV.o (Mir.D.sl 2 a0_1))) ∧
                                                 ((((Mir.AV.n (Mir.D.int .i64 (((List.length a0_1) : Nat) : Int))) : Mir.AV) = (Mir.AV.n (Mir.D.int .i64 (((List.length a0_1) : Nat) : Int)))) ∧
                                                  ((@Eq (List (Nat × Mir.Ob)) [(2300000, (.box [(Mir.AV.o (Mir.D.sl 1 a0_0)), (Mir.AV.o (Mir.D.sl 2 a0_1))])), (2300001, (.box [(Mir.AV.n Mir.D.nil), (Mir.AV.n Mir.D.nil)])), (2300101, (.box [(Mir.AV.row 2300504 x11.1), (Mir.AV.n Mir.D.nil)])), (2300504, (.row false true (Prod.fst x12) 9 1 (List.set (Prod.snd x12) (Int.toNat x15) (Mir.D.str x30))))] [(2300000, (.box [(Mir.AV.o (Mir.D.sl 1 a0_0)), (Mir.AV.o (Mir.D.sl 2 a0_1))])), (2300001, (.box [(Mir.AV.n Mir.D.nil), (Mir.AV.n Mir.D.nil)])), (2300101, (.box [(Mir.AV.row 2300504 x11.1), (Mir.AV.n Mir.D.nil)])), (2300504, (.row false true (Prod.fst x12) 9 1 (List.set (Prod.snd x12) (Int.toNat x15) (Mir.D.str x30))))]) ∧
                                                   ((x8 (Go.IntKind.wrap .i64 (x10 + 1)) (x11.1, (Unit.unit, Unit.unit)) ((Prod.fst x12), (List.set (Prod.snd x12) (Int.toNat x15) (Mir.D.str x30)))) ∧
                                                    (((x9 (Go.IntKind.wrap .i64 (x10 + 1)) (x11.1, (Unit.unit, Unit.unit)) ((Prod.fst x12), (List.set (Prod.snd x12) (Int.toNat x15) (Mir.D.str x30)))) : Nat) < (x9 x10 x11 x12)))))))))))))))))))))))))))))))))))
                   (((Prod.fst x12) = x11.1) ∧
                    (R (Mir.AV.agg [(Mir.AV.o (Mir.D.sl 1 (Prod.snd x12))), (Mir.AV.o (Mir.D.sl 2 []))])))))))))))))))))))))
theorem vc23 (a0_0 : List Mir.D) (a0_1 : List Mir.D) (a1 : Bool) (a2 : List Mir.D) (R : Mir.AV → Prop) : Vc Fs c23.body (argsQ c23 [(.agg [(.o (.sl 1 a0_0)), (.o (.sl 2 a0_1))]), (.n (.bool a1)), (.o (.sl 1 a2))]) [] (endQ c23 R) = V23 a0_0 a0_1 a1 a2 R := by kernel_rfl
def V44c (k : Int) (ms : List Mir.D) (R : Mir.AV → Heap → Prop) : Prop :=
 (sel (decide (k < (((List.length ms) : Nat) : Int)))
  (((1 : Nat) = 1) ∧
   (((0 : Int) ≤ k) ∧
    (∃ x0 : Mir.D,
     ((((GetElem?.getElem? ms (Int.toNat k)) : (Option Mir.D)) = (some x0)) ∧
      (∃ x1 : Int,
       ((((GetElem?.getElem? (Go.Mir.D.cells x0) 0) : (Option Mir.D)) = (some (Mir.D.int .i64 x1))) ∧
        (R (Mir.AV.n (Mir.D.int .i64 x1)) [(2200001, (.box [(Mir.AV.o (Mir.D.sl 1 ms))]))])))))))
  (R (Mir.AV.n (Mir.D.int .i64 0)) [(2200001, (.box [(Mir.AV.o (Mir.D.sl 1 ms))]))]))
theorem vc44c (k : Int) (ms : List Mir.D) (R : Mir.AV → Heap → Prop) : Vc Fs c44.body (argsQ c44 [.n (.int .i64 k), .ptr 2200001 0]) [(2200001, .box [.o (.sl 1 ms)])] (endQH c44 [(2200001, .box [.o (.sl 1 ms)])] R) = V44c k ms R := by kernel_rfl
def V43c (bs : List Mir.D) (ps : List Mir.D) (ms : List Mir.D) (R : Mir.AV → Heap → Prop) : Prop :=
 (∃ x0 : Nat,
  (∃ x1 : (List Mir.D),
   ((Runs Fs 60 [(Mir.AV.o (Mir.D.sl 1 bs))] [] (Mir.AV.row 6000001 x0) [(6000001, (.row false false x0 9 1 x1))]) ∧
    (∃ x2 : (Int → ((Nat × (List Mir.D)) → Prop)),
     (∃ x3 : (Int → ((Nat × (List Mir.D)) → Nat)),
      (((@Eq (List (Nat × Mir.Ob)) [(2200001, (.box [(Mir.AV.o (Mir.D.sl 1 ms))])), (4300000, (.box [(Mir.AV.o (Mir.D.sl 1 bs)), (Mir.AV.o (Mir.D.sl 2 ps))])), (4300001, (.box [(Mir.AV.n Mir.D.nil), (Mir.AV.n Mir.D.nil)])), (4300104, (.box [(Mir.AV.row 6000001 x0), (Mir.AV.n Mir.D.nil)])), (6000001, (.row false false x0 9 1 x1))] [(2200001, (.box [(Mir.AV.o (Mir.D.sl 1 ms))])), (4300000, (.box [(Mir.AV.o (Mir.D.sl 1 bs)), (Mir.AV.o (Mir.D.sl 2 ps))])), (4300001, (.box [(Mir.AV.n Mir.D.nil), (Mir.AV.n Mir.D.nil)])), (4300104, (.box [(Mir.AV.row 6000001 x0), (Mir.AV.n Mir.D.nil)])), (6000001, (.row false false x0 9 1 x1))]) ∧
        (x2 0 (x0, x1))) ∧
       (∀ x4 : Int,
        (∀ x5 : (Nat × (List Mir.D)),
         ((x2 x4 x5) →
          (∀ x6 : (Nat → Mir.AV),
           (sel (decide (x4 < (((List.length ps) : Nat) : Int)))
            (((2 : Nat) = 2) ∧
             (((0 : Int) ≤ x4) ∧
              (∃ x7 : Mir.D,
               ((((GetElem?.getElem? ps (Int.toNat x4)) : (Option Mir.D)) = (some x7)) ∧
                (∃ x8 : Int,
                 (∃ x9 : ByteArray,
                  ((@Eq (List Mir.D) (List.take 2 (Go.Mir.D.cells x7)) [(Mir.D.int .i64 x8), (Mir.D.str x9)]) ∧
                   (((2 : Nat) ≤ (List.length (Go.Mir.D.cells x7))) ∧
                    (((((Prod.fst x5) : Nat) = x0) ∧
                      ((1 : Nat) = 1)) ∧
                     (((0 : Int) ≤ x8) ∧
                      (((x8 : Int) < (((List.length (Prod.snd x5)) : Nat) : Int)) ∧
                       ((((x0 : Nat) = (Prod.fst x5)) ∧
                         ((1 : Nat) = 1)) ∧
                        (∃ x10 : Mir.D,
                         ((((GetElem?.getElem? (Prod.snd x5) (Int.toNat x8)) : (Option Mir.D)) = (some x10)) ∧
                          (∃ x11 : ByteArray,
                           ((((GetElem?.getElem? (Go.Mir.D.cells x10) 0) : (Option Mir.D)) = (some (Mir.D.str x11))) ∧
                            (∃ x12 : Int,
                             ((Runs Fs 44 [(Mir.AV.n (Mir.D.int .i64 x4)), (Mir.AV.ptr 2200001 0)] [(2200001, (.box [(Mir.AV.o (Mir.D.sl 1 ms))]))] (Mir.AV.n (Mir.D.int .i64 x12)) [(2200001, (.box [(Mir.AV.o (Mir.D.sl 1 ms))]))]) ∧
                              (∃ x13 : ByteArray,
                               ((Runs Fs 18 [(Mir.AV.n (Mir.D.str x11)), (Mir.AV.n (Mir.D.str x9)), (Mir.AV.n (Mir.D.int .i64 x12))] [] (Mir.AV.n (Mir.D.str x13)) []) ∧
                                (((((Prod.fst x5) : Nat) = x0) ∧
                                  ((1 : Nat) = 1)) ∧
                                 (((0 : Int) ≤ x8) ∧
                                  (((x8 : Int) < (((List.length (Prod.snd x5)) : Nat) : Int)) ∧
                                   ((((((x0 : Nat) = (Prod.fst x5)) ∧
                                       ((0 : Nat) = 0)) ∧
                                      ((1 : Nat) = 1)) ∧
                                     ((1 : Nat) = 1)) ∧
                                    ((((Int.toNat x8) : Nat) < (List.length (Prod.snd x5))) ∧
                                     ((((Mir.AV.fn 44 [(Mir.AV.ptr 2200001 0)]) : Mir.AV) = (Mir.AV.fn 44 [(Mir.AV.ptr 2200001 0)])) ∧
                                      ((((Mir.AV.ptr 4300001 0) : Mir.AV) = (Mir.AV.ptr 4300001 0)) ∧
                                       ((((Mir.AV.ptr 4300104 0) : Mir.AV) = (Mir.AV.ptr 4300104 0)) ∧
                                        ((((Mir.AV.o (Mir.D.sl 2 ps)) : Mir.AV) = (Mir.AV.o (Mir.D.sl 2 ps))) ∧
                                         ((((Mir.AV.n (Mir.D.int .i64 (((List.length ps) : Nat) : Int))) : Mir.AV) = (Mir.AV.n (Mir.D.int .i64 (((List.length ps) : Nat) : Int)))) ∧
                                          ((@Eq (List (Nat × Mir.Ob)) [(2200001, (.box [(Mir.AV.o (Mir.D.sl 1 ms))])), (4300000, (.box [(Mir.AV.o (Mir.D.sl 1 bs)), (Mir.AV.o (Mir.D.sl 2 ps))])), (4300001, (.box [(Mir.AV.n Mir.D.nil), (Mir.AV.n Mir.D.nil)])), (4300104, (.box [(Mir.AV.row 6000001 x0), (Mir.AV.n Mir.D.nil)])), (6000001, (.row false false (Prod.fst x5) 9 1 (List.set (Prod.snd x5) (Int.toNat x8) (Mir.D.str x13))))] [(2200001, (.box [(Mir.AV.o (Mir.D.sl 1 ms))])), (4300000, (.box [(Mir.AV.o (Mir.D.sl 1 bs)), (Mir.AV.o (Mir.D.sl 2 ps))])), (4300001, (.box [(Mir.AV.n Mir.D.nil), (Mir.AV.n Mir.D.nil)])), (4300104, (.box [(Mir.AV.row 6000001 x0), (Mir.AV.n Mir.D.nil)])), (6000001, (.row false false (Prod.fst x5) 9 1 (List.set (Prod.snd x5) (Int.toNat x8) (Mir.D.str x13))))]) ∧
                                           ((x2 (Go.IntKind.wrap .i64 (x4 + 1)) ((Prod.fst x5), (List.set (Prod.snd x5) (Int.toNat x8) (Mir.D.str x13)))) ∧
                                            (((x3 (Go.IntKind.wrap .i64 (x4 + 1)) ((Prod.fst x5), (List.set (Prod.snd x5) (Int.toNat x8) (Mir.D.str x13)))) : Nat) < (x3 x4 x5))))))))))))))))))))))))))))))))))
            (((Prod.fst x5) = x0) ∧
             (R (Mir.AV.agg [(Mir.AV.o (Mir.D.sl 1 (Prod.snd x5))), (Mir.AV.o (Mir.D.sl 2 []))]) [(2200001, (.box [(Mir.AV.o (Mir.D.sl 1 ms))]))])))))))))))))
theorem vc43c (bs : List Mir.D) (ps : List Mir.D) (ms : List Mir.D) (R : Mir.AV → Heap → Prop) : Vc Fs c43.body (argsQ c43 [.agg [.o (.sl 1 bs), .o (.sl 2 ps)], .fn 44 [.ptr 2200001 0]]) [(2200001, .box [.o (.sl 1 ms)])] (endQH c43 [(2200001, .box [.o (.sl 1 ms)])] R) = V43c bs ps ms R := by kernel_rfl
def V43f (bs : List Mir.D) (ps : List Mir.D) (R : Mir.AV → Prop) : Prop :=
 (∃ x0 : Nat,
  (∃ x1 : (List Mir.D),
   ((Runs Fs 60 [(Mir.AV.o (Mir.D.sl 1 bs))] [] (Mir.AV.row 6000001 x0) [(6000001, (.row false false x0 9 1 x1))]) ∧
    (∃ x2 : (Int → ((Nat × (List Mir.D)) → Prop)),
     (∃ x3 : (Int → ((Nat × (List Mir.D)) → Nat)),
      (((@Eq (List (Nat × Mir.Ob)) [(4300000, (.box [(Mir.AV.o (Mir.D.sl 1 bs)), (Mir.AV.o (Mir.D.sl 2 ps))])), (4300001, (.box [(Mir.AV.n Mir.D.nil), (Mir.AV.n Mir.D.nil)])), (4300104, (.box [(Mir.AV.row 6000001 x0), (Mir.AV.n Mir.D.nil)])), (6000001, (.row false false x0 9 1 x1))] [(4300000, (.box [(Mir.AV.o (Mir.D.sl 1 bs)), (Mir.AV.o (Mir.D.sl 2 ps))])), (4300001, (.box [(Mir.AV.n Mir.D.nil), (Mir.AV.n Mir.D.nil)])), (4300104, (.box [(Mir.AV.row 6000001 x0), (Mir.AV.n Mir.D.nil)])), (6000001, (.row false false x0 9 1 x1))]) ∧
        (x2 0 (x0, x1))) ∧
       (∀ x4 : Int,
        (∀ x5 : (Nat × (List Mir.D)),
         ((x2 x4 x5) →
          (∀ x6 : (Nat → Mir.AV),
           (sel (decide (x4 < (((List.length ps) : Nat) : Int)))
            (((2 : Nat) = 2) ∧
             (((0 : Int) ≤ x4) ∧
              (∃ x7 : Mir.D,
               ((((GetElem?.getElem? ps (Int.toNat x4)) : (Option Mir.D)) = (some x7)) ∧
                (∃ x8 : Int,
                 (∃ x9 : ByteArray,
                  ((@Eq (List Mir.D) (List.take 2 (Go.Mir.D.cells x7)) [(Mir.D.int .i64 x8), (Mir.D.str x9)]) ∧
                   (((2 : Nat) ≤ (List.length (Go.Mir.D.cells x7))) ∧
                    (((((Prod.fst x5) : Nat) = x0) ∧
                      ((1 : Nat) = 1)) ∧
                     (((0 : Int) ≤ x8) ∧
                      (((x8 : Int) < (((List.length (Prod.snd x5)) : Nat) : Int)) ∧
                       ((((x0 : Nat) = (Prod.fst x5)) ∧
                         ((1 : Nat) = 1)) ∧
                        (∃ x10 : Mir.D,
                         ((((GetElem?.getElem? (Prod.snd x5) (Int.toNat x8)) : (Option Mir.D)) = (some x10)) ∧
                          (∃ x11 : ByteArray,
                           ((((GetElem?.getElem? (Go.Mir.D.cells x10) 0) : (Option Mir.D)) = (some (Mir.D.str x11))) ∧
                            (∃ x12 : Int,
                             ((Runs Fs 48 [(Mir.AV.n (Mir.D.int .i64 x4))] [] (Mir.AV.n (Mir.D.int .i64 x12)) []) ∧
                              (∃ x13 : ByteArray,
                               ((Runs Fs 18 [(Mir.AV.n (Mir.D.str x11)), (Mir.AV.n (Mir.D.str x9)), (Mir.AV.n (Mir.D.int .i64 x12))] [] (Mir.AV.n (Mir.D.str x13)) []) ∧
                                (((((Prod.fst x5) : Nat) = x0) ∧
                                  ((1 : Nat) = 1)) ∧
                                 (((0 : Int) ≤ x8) ∧
                                  (((x8 : Int) < (((List.length (Prod.snd x5)) : Nat) : Int)) ∧
                                   ((((((x0 : Nat) = (Prod.fst x5)) ∧
                                       ((0 : Nat) = 0)) ∧
                                      ((1 : Nat) = 1)) ∧
                                     ((1 : Nat) = 1)) ∧
                                    ((((Int.toNat x8) : Nat) < (List.length (Prod.snd x5))) ∧
                                     ((((Mir.AV.fn 48 []) : Mir.AV) = (Mir.AV.fn 48 [])) ∧
                                      ((((Mir.AV.ptr 4300001 0) : Mir.AV) = (Mir.AV.ptr 4300001 0)) ∧
                                       ((((Mir.AV.ptr 4300104 0) : Mir.AV) = (Mir.AV.ptr 4300104 0)) ∧
                                        ((((Mir.AV.o (Mir.D.sl 2 ps)) : Mir.AV) = (Mir.AV.o (Mir.D.sl 2 ps))) ∧
                                         ((((Mir.AV.n (Mir.D.int .i64 (((List.length ps) : Nat) : Int))) : Mir.AV) = (Mir.AV.n (Mir.D.int .i64 (((List.length ps) : Nat) : Int)))) ∧
                                          ((@Eq (List (Nat × Mir.Ob)) [(4300000, (.box [(Mir.AV.o (Mir.D.sl 1 bs)), (Mir.AV.o (Mir.D.sl 2 ps))])), (4300001, (.box [(Mir.AV.n Mir.D.nil), (Mir.AV.n Mir.D.nil)])), (4300104, (.box [(Mir.AV.row 6000001 x0), (Mir.AV.n Mir.D.nil)])), (6000001, (.row false false (Prod.fst x5) 9 1 (List.set (Prod.snd x5) (Int.toNat x8) (Mir.D.str x13))))] [(4300000, (.box [(Mir.AV.o (Mir.D.sl 1 bs)), (Mir.AV.o (Mir.D.sl 2 ps))])), (4300001, (.box [(Mir.AV.n Mir.D.nil), (Mir.AV.n Mir.D.nil)])), (4300104, (.box [(Mir.AV.row 6000001 x0), (Mir.AV.n Mir.D.nil)])), (6000001, (.row false false (Prod.fst x5) 9 1 (List.set (Prod.snd x5) (Int.toNat x8) (Mir.D.str x13))))]) ∧
                                           ((x2 (Go.IntKind.wrap .i64 (x4 + 1)) ((Prod.fst x5), (List.set (Prod.snd x5) (Int.toNat x8) (Mir.D.str x13)))) ∧
                                            (((x3 (Go.IntKind.wrap .i64 (x4 + 1)) ((Prod.fst x5), (List.set (Prod.snd x5) (Int.toNat x8) (Mir.D.str x13)))) : Nat) < (x3 x4 x5))))))))))))))))))))))))))))))))))
            (((Prod.fst x5) = x0) ∧
             (R (Mir.AV.agg [(Mir.AV.o (Mir.D.sl 1 (Prod.snd x5))), (Mir.AV.o (Mir.D.sl 2 []))]))))))))))))))
theorem vc43f (bs : List Mir.D) (ps : List Mir.D) (R : Mir.AV → Prop) : Vc Fs c43.body (argsQ c43 [.agg [.o (.sl 1 bs), .o (.sl 2 ps)], .fn 48 []]) [] (endQ c43 R) = V43f bs ps R := by kernel_rfl
def V48 (a0 : Int) (R : Mir.AV → Prop) : Prop :=
 (R (Mir.AV.n (Mir.D.int .i64 255)))
theorem vc48 (a0 : Int) (R : Mir.AV → Prop) : Vc Fs c48.body (argsQ c48 [(.n (.int .i64 a0))]) [] (endQ c48 R) = V48 a0 R := by kernel_rfl
def V22 (a0_0 : List Mir.D) (a0_1 : List Mir.D) (a1 : List Mir.D) (R : Mir.AV → Prop) : Prop :=
 (∃ x0 : Bool,
  ((Runs Fs 16 [(Mir.AV.agg [(Mir.AV.o (Mir.D.sl 1 a0_0)), (Mir.AV.o (Mir.D.sl 2 a0_1))])] [] (Mir.AV.n (Mir.D.bool x0)) []) ∧
   (sel (Bool.not x0)
    (R (Mir.AV.tup [(Mir.AV.agg [(Mir.AV.o (Mir.D.sl 1 [])), (Mir.AV.o (Mir.D.sl 2 []))]), (Mir.AV.n (Mir.D.int .i64 1))]))
    (∃ x1 : (List Mir.D),
     (∃ x2 : (List Mir.D),
      ((Runs Fs 43 [(Mir.AV.agg [(Mir.AV.o (Mir.D.sl 1 a0_0)), (Mir.AV.o (Mir.D.sl 2 a0_1))]), (Mir.AV.fn 44 [(Mir.AV.ptr 2200001 0)])] [(2200001, (.box [(Mir.AV.o (Mir.D.sl 1 a1))]))] (Mir.AV.agg [(Mir.AV.o (Mir.D.sl 1 x1)), (Mir.AV.o (Mir.D.sl 2 x2))]) [(2200001, (.box [(Mir.AV.o (Mir.D.sl 1 a1))]))]) ∧
       (R (Mir.AV.tup [(Mir.AV.agg [(Mir.AV.o (Mir.D.sl 1 x1)), (Mir.AV.o (Mir.D.sl 2 x2))]), (Mir.AV.n (Mir.D.int .i64 0))]))))))))
theorem vc22 (a0_0 : List Mir.D) (a0_1 : List Mir.D) (a1 : List Mir.D) (R : Mir.AV → Prop) : Vc Fs c22.body (argsQ c22 [(.agg [(.o (.sl 1 a0_0)), (.o (.sl 2 a0_1))]), (.o (.sl 1 a1))]) [] (endQ c22 R) = V22 a0_0 a0_1 a1 R := by kernel_rfl
def V6 (a0_0 : List Mir.D) (a0_1 : List Mir.D) (a1 : List Mir.D) (R : Mir.AV → Prop) : Prop :=
 (∃ x0 : (List Mir.D),
  (∃ x1 : (List Mir.D),
   ((Runs Fs 12 [(Mir.AV.agg [(Mir.AV.o (Mir.D.sl 1 a0_0)), (Mir.AV.o (Mir.D.sl 2 a0_1))])] [] (Mir.AV.agg [(Mir.AV.o (Mir.D.sl 1 x0)), (Mir.AV.o (Mir.D.sl 2 x1))]) []) ∧
    (∃ x2 : (List Mir.D),
     (∃ x3 : (List Mir.D),
      (∃ x4 : Int,
       ((Runs Fs 22 [(Mir.AV.agg [(Mir.AV.o (Mir.D.sl 1 x0)), (Mir.AV.o (Mir.D.sl 2 x1))]), (Mir.AV.o (Mir.D.sl 1 a1))] [] (Mir.AV.tup [(Mir.AV.agg [(Mir.AV.o (Mir.D.sl 1 x2)), (Mir.AV.o (Mir.D.sl 2 x3))]), (Mir.AV.n (Mir.D.int .i64 x4))]) []) ∧
        (∃ x5 : Bool,
         ((Runs Fs 17 [(Mir.AV.agg [(Mir.AV.o (Mir.D.sl 1 x0)), (Mir.AV.o (Mir.D.sl 2 x1))])] [] (Mir.AV.n (Mir.D.bool x5)) []) ∧
          (sel (Bool.not x5)
           (∃ x6 : Bool,
            ((Runs Fs 15 [] [] (Mir.AV.n (Mir.D.bool x6)) []) ∧
             (sel x6
              (sel (x4 == 1)
               (R (Mir.AV.n (Mir.D.bool ((((List.length x2) : Nat) : Int) == 0))))
               (R (Mir.AV.n (Mir.D.bool false))))
              (R (Mir.AV.n (Mir.D.bool false))))))
           (∃ x7 : Bool,
            ((Runs Fs 15 [] [] (Mir.AV.n (Mir.D.bool x7)) []) ∧
             (sel x7
              (sel (x4 == 0)
               (∃ x8 : (List Mir.D),
                (∃ x9 : (List Mir.D),
                 ((Runs Fs 23 [(Mir.AV.agg [(Mir.AV.o (Mir.D.sl 1 x0)), (Mir.AV.o (Mir.D.sl 2 x1))]), (Mir.AV.n (Mir.D.bool false)), (Mir.AV.o (Mir.D.sl 1 a1))] [] (Mir.AV.agg [(Mir.AV.o (Mir.D.sl 1 x8)), (Mir.AV.o (Mir.D.sl 2 x9))]) []) ∧
                  (∃ x10 : Bool,
                   ((Runs Fs 14 [(Mir.AV.agg [(Mir.AV.o (Mir.D.sl 1 x2)), (Mir.AV.o (Mir.D.sl 2 x3))]), (Mir.AV.agg [(Mir.AV.o (Mir.D.sl 1 x8)), (Mir.AV.o (Mir.D.sl 2 x9))])] [] (Mir.AV.n (Mir.D.bool x10)) []) ∧
                    (R (Mir.AV.n (Mir.D.bool x10))))))))
               (R (Mir.AV.n (Mir.D.bool false))))
              (R (Mir.AV.n (Mir.D.bool false))))))))))))))))
theorem vc6 (a0_0 : List Mir.D) (a0_1 : List Mir.D) (a1 : List Mir.D) (R : Mir.AV → Prop) : Vc Fs c6.body (argsQ c6 [(.agg [(.o (.sl 1 a0_0)), (.o (.sl 2 a0_1))]), (.o (.sl 1 a1))]) [] (endQ c6 R) = V6 a0_0 a0_1 a1 R := by kernel_rfl
def V26 (a0_0 : List Mir.D) (a0_1 : List Mir.D) (R : Mir.AV → Prop) : Prop :=
 (∃ x0 : Bool,
  ((Runs Fs 16 [(Mir.AV.agg [(Mir.AV.o (Mir.D.sl 1 a0_0)), (Mir.AV.o (Mir.D.sl 2 a0_1))])] [] (Mir.AV.n (Mir.D.bool x0)) []) ∧
   (sel (Bool.not x0)
    (R (Mir.AV.tup [(Mir.AV.agg [(Mir.AV.o (Mir.D.sl 1 [])), (Mir.AV.o (Mir.D.sl 2 []))]), (Mir.AV.n (Mir.D.int .i64 1))]))
    (∃ x1 : (List Mir.D),
     (∃ x2 : (List Mir.D),
      ((Runs Fs 43 [(Mir.AV.agg [(Mir.AV.o (Mir.D.sl 1 a0_0)), (Mir.AV.o (Mir.D.sl 2 a0_1))]), (Mir.AV.fn 48 [])] [] (Mir.AV.agg [(Mir.AV.o (Mir.D.sl 1 x1)), (Mir.AV.o (Mir.D.sl 2 x2))]) []) ∧
       (R (Mir.AV.tup [(Mir.AV.agg [(Mir.AV.o (Mir.D.sl 1 x1)), (Mir.AV.o (Mir.D.sl 2 x2))]), (Mir.AV.n (Mir.D.int .i64 0))]))))))))
theorem vc26 (a0_0 : List Mir.D) (a0_1 : List Mir.D) (R : Mir.AV → Prop) : Vc Fs c26.body (argsQ c26 [(.agg [(.o (.sl 1 a0_0)), (.o (.sl 2 a0_1))])]) [] (endQ c26 R) = V26 a0_0 a0_1 R := by kernel_rfl
def V45 (a0_0 : List Mir.D) (a0_1 : List Mir.D) (a1 : Int) (R : Mir.AV → Prop) : Prop :=
 (∃ x0 : Bool,
  ((Runs Fs 16 [(Mir.AV.agg [(Mir.AV.o (Mir.D.sl 1 a0_0)), (Mir.AV.o (Mir.D.sl 2 a0_1))])] [] (Mir.AV.n (Mir.D.bool x0)) []) ∧
   (sel (Bool.not x0)
    (R (Mir.AV.n (Mir.D.int .i64 1)))
    (sel (decide (a1 < 0))
     (R (Mir.AV.n (Mir.D.int .i64 30)))
     (sel (decide (a1 ≥ (((List.length a0_0) : Nat) : Int)))
      (R (Mir.AV.n (Mir.D.int .i64 30)))
      (R (Mir.AV.n (Mir.D.int .i64 0))))))))
theorem vc45 (a0_0 : List Mir.D) (a0_1 : List Mir.D) (a1 : Int) (R : Mir.AV → Prop) : Vc Fs c45.body (argsQ c45 [(.agg [(.o (.sl 1 a0_0)), (.o (.sl 2 a0_1))]), (.n (.int .i64 a1))]) [] (endQ c45 R) = V45 a0_0 a0_1 a1 R := by kernel_rfl
def V25 (a0_0 : List Mir.D) (a0_1 : List Mir.D) (a1 : Int) (a2 : ByteArray) (R : Mir.AV → Prop) : Prop :=
 (∃ x0 : Int,
  ((Runs Fs 45 [(Mir.AV.agg [(Mir.AV.o (Mir.D.sl 1 a0_0)), (Mir.AV.o (Mir.D.sl 2 a0_1))]), (Mir.AV.n (Mir.D.int .i64 a1))] [] (Mir.AV.n (Mir.D.int .i64 x0)) []) ∧
   (sel (x0 != 0)
    (R (Mir.AV.tup [(Mir.AV.agg [(Mir.AV.o (Mir.D.sl 1 [])), (Mir.AV.o (Mir.D.sl 2 []))]), (Mir.AV.n (Mir.D.int .i64 x0))]))
    (sel (decide ((((ByteArray.size a2) : Nat) : Int) > 4096))
     (R (Mir.AV.tup [(Mir.AV.agg [(Mir.AV.o (Mir.D.sl 1 [])), (Mir.AV.o (Mir.D.sl 2 []))]), (Mir.AV.n (Mir.D.int .i64 2))]))
     (sel (decide ((((List.length a0_1) : Nat) : Int) ≥ 2048))
      (R (Mir.AV.tup [(Mir.AV.agg [(Mir.AV.o (Mir.D.sl 1 [])), (Mir.AV.o (Mir.D.sl 2 []))]), (Mir.AV.n (Mir.D.int .i64 2))]))
      (∃ x1 : Nat,
       (∃ x2 : (List Mir.D),
        ((Runs Fs 47 [(Mir.AV.o (Mir.D.sl 2 a0_1))] [] (Mir.AV.row 4700001 x1) [(4700001, (.row false false x1 43 2 x2))]) ∧
         (∃ x3 : ByteArray,
          ((Runs Fs 39 [(Mir.AV.n (Mir.D.str a2))] [] (Mir.AV.n (Mir.D.str x3)) []) ∧
           (((0 : Nat) = 0) ∧
            ((((2 : Nat) = 2) ∨ (@Eq (List Mir.D) [(Mir.D.rcd [(Mir.D.int .i64 a1), (Mir.D.str x3)])] [])) ∧
             (((((x1 : Nat) = x1) ∧
                ((43 : Nat) = 43)) ∧
               ((2 : Nat) = 2)) ∧
              ((((((List.length x2) + (List.length [(Mir.D.rcd [(Mir.D.int .i64 a1), (Mir.D.str x3)])])) * 24) : Nat) ≤ 140737488355328) ∧
               (((x1 + 1) = (x1 + 1)) ∧
                (R (Mir.AV.tup [(Mir.AV.agg [(Mir.AV.o (Mir.D.sl 1 a0_0)), (Mir.AV.o (Mir.D.sl 2 (x2 ++ [(Mir.D.rcd [(Mir.D.int .i64 a1), (Mir.D.str x3)])])))]), (Mir.AV.n (Mir.D.int .i64 0))])))))))))))))))))
theorem vc25 (a0_0 : List Mir.D) (a0_1 : List Mir.D) (a1 : Int) (a2 : ByteArray) (R : Mir.AV → Prop) : Vc Fs c25.body (argsQ c25 [(.agg [(.o (.sl 1 a0_0)), (.o (.sl 2 a0_1))]), (.n (.int .i64 a1)), (.n (.str a2))]) [] (endQ c25 R) = V25 a0_0 a0_1 a1 a2 R := by kernel_rfl
def V27 (a0_0 : List Mir.D) (a0_1 : List Mir.D) (a1 : Int) (R : Mir.AV → Prop) : Prop :=
 (((1 : Nat) = 1) ∧
  (((0 : Int) ≤ a1) ∧
   (∃ x0 : Mir.D,
    ((((GetElem?.getElem? a0_0 (Int.toNat a1)) : (Option Mir.D)) = (some x0)) ∧
     (∃ x1 : ByteArray,
      ((((GetElem?.getElem? (Go.Mir.D.cells x0) 0) : (Option Mir.D)) = (some (Mir.D.str x1))) ∧
       (∃ x2 : (ByteArray → (Int → Prop)),
        (∃ x3 : (ByteArray → (Int → Nat)),
         (((@Eq (List (Nat × Mir.Ob)) [(2700000, (.box [(Mir.AV.o (Mir.D.sl 1 a0_0)), (Mir.AV.o (Mir.D.sl 2 a0_1))]))] [(2700000, (.box [(Mir.AV.o (Mir.D.sl 1 a0_0)), (Mir.AV.o (Mir.D.sl 2 a0_1))]))]) ∧
           (x2 x1 0)) ∧
          (∀ x4 : ByteArray,
           (∀ x5 : Int,
            ((x2 x4 x5) →
             (∀ x6 : (Nat → Mir.AV),
              (sel (decide (x5 < (((List.length a0_1) : Nat) : Int)))
               (((2 : Nat) = 2) ∧
                (((0 : Int) ≤ x5) ∧
                 (∃ x7 : Mir.D,
                  ((((GetElem?.getElem? a0_1 (Int.toNat x5)) : (Option Mir.D)) = (some x7)) ∧
                   (∃ x8 : Int,
                    (∃ x9 : ByteArray,
                     ((@Eq (List Mir.D) (List.take 2 (Go.Mir.D.cells x7)) [(Mir.D.int .i64 x8), (Mir.D.str x9)]) ∧
                      (((2 : Nat) ≤ (List.length (Go.Mir.D.cells x7))) ∧
                       (sel (x8 == a1)
                        ((((Mir.AV.n (Mir.D.int .i64 a1)) : Mir.AV) = (Mir.AV.n (Mir.D.int .i64 a1))) ∧
                         ((((Mir.AV.o (Mir.D.sl 2 a0_1)) : Mir.AV) = (Mir.AV.o (Mir.D.sl 2 a0_1))) ∧
                          ((((Mir.AV.n (Mir.D.int .i64 (((List.length a0_1) : Nat) : Int))) : Mir.AV) = (Mir.AV.n (Mir.D.int .i64 (((List.length a0_1) : Nat) : Int)))) ∧
                           ((@Eq (List (Nat × Mir.Ob)) [(2700000, (.box [(Mir.AV.o (Mir.D.sl 1 a0_0)), (Mir.AV.o (Mir.D.sl 2 a0_1))]))] [(2700000, (.box [(Mir.AV.o (Mir.D.sl 1 a0_0)), (Mir.AV.o (Mir.D.sl 2 a0_1))]))]) ∧
                            ((x2 x9 (Go.IntKind.wrap .i64 (x5 + 1))) ∧
                             (((x3 x9 (Go.IntKind.wrap .i64 (x5 + 1))) : Nat) < (x3 x4 x5)))))))
                        ((((Mir.AV.n (Mir.D.int .i64 a1)) : Mir.AV) = (Mir.AV.n (Mir.D.int .i64 a1))) ∧
                         ((((Mir.AV.o (Mir.D.sl 2 a0_1)) : Mir.AV) = (Mir.AV.o (Mir.D.sl 2 a0_1))) ∧
                          ((((Mir.AV.n (Mir.D.int .i64 (((List.length a0_1) : Nat) : Int))) : Mir.AV) = (Mir.AV.n (Mir.D.int .i64 (((List.length a0_1) : Nat) : Int)))) ∧
                           ((@Eq (List (Nat × Mir.Ob)) [(2700000, (.box [(Mir.AV.o (Mir.D.sl 1 a0_0)), (Mir.AV.o (Mir.D.sl 2 a0_1))]))] [(2700000, (.box [(Mir.AV.o (Mir.D.sl 1 a0_0)), (Mir.AV.o (Mir.D.sl 2 a0_1))]))]) ∧
                            ((x2 x4 (Go.IntKind.wrap .i64 (x5 + 1))) ∧
                             (((x3 x4 (Go.IntKind.wrap .i64 (x5 + 1))) : Nat) < (x3 x4 x5))))))))))))))))
               (R (Mir.AV.n (Mir.D.str x4)))))))))))))))))
theorem vc27 (a0_0 : List Mir.D) (a0_1 : List Mir.D) (a1 : Int) (R : Mir.AV → Prop) : Vc Fs c27.body (argsQ c27 [(.agg [(.o (.sl 1 a0_0)), (.o (.sl 2 a0_1))]), (.n (.int .i64 a1))]) [] (endQ c27 R) = V27 a0_0 a0_1 a1 R := by kernel_rfl
def V28 (a0_0 : List Mir.D) (a0_1 : List Mir.D) (a1 : Int) (a2 : ByteArray) (R : Mir.AV → Prop) : Prop :=
 (∃ x0 : (Int → (((List Mir.D) × (Nat × (PUnit))) → ((Nat × (List Mir.D)) → Prop))),
  (∃ x1 : (Int → (((List Mir.D) × (Nat × (PUnit))) → ((Nat × (List Mir.D)) → Nat))),
   (((@Eq (List (Nat × Mir.Ob)) [(2800000, (.box [(Mir.AV.o (Mir.D.sl 1 a0_0)), (Mir.AV.o (Mir.D.sl 2 a0_1))])), (2800001, (.box [(Mir.AV.n Mir.D.nil), (Mir.AV.n Mir.D.nil)])), (2800103, (.box [(Mir.AV.o (Mir.D.sl 1 a0_0)), (Mir.AV.row 2800504 0)])), (2800504, (.row false true 0 43 2 []))] [(2800000, (.box [(Mir.AV.o (Mir.D.sl 1 a0_0)), (Mir.AV.o (Mir.D.sl 2 a0_1))])), (2800001, (.box [(Mir.AV.n Mir.D.nil), (Mir.AV.n Mir.D.nil)])), (2800103, (.box [(Mir.AV.o (Mir.D.sl 1 a0_0)), (Mir.AV.row 2800504 0)])), (2800504, (.row false true 0 43 2 []))]) ∧
     (x0 0 (a0_0, (0, Unit.unit)) (0, []))) ∧
    (∀ x2 : Int,
     (∀ x3 : ((List Mir.D) × (Nat × (PUnit))),
      (∀ x4 : (Nat × (List Mir.D)),
       ((x0 x2 x3 x4) →
        (∀ x5 : (Nat → Mir.AV),
         (sel (decide (x2 < (((List.length a0_1) : Nat) : Int)))
          (((2 : Nat) = 2) ∧
           (((0 : Int) ≤ x2) ∧
            (∃ x6 : Mir.D,
             ((((GetElem?.getElem? a0_1 (Int.toNat x2)) : (Option Mir.D)) = (some x6)) ∧
              (∃ x7 : Int,
               (∃ x8 : ByteArray,
                ((@Eq (List Mir.D) (List.take 2 (Go.Mir.D.cells x6)) [(Mir.D.int .i64 x7), (Mir.D.str x8)]) ∧
                 (((2 : Nat) ≤ (List.length (Go.Mir.D.cells x6))) ∧
                  (((0 : Nat) = 0) ∧
                   ((((2 : Nat) = 2) ∨ (@Eq (List Mir.D) [(Mir.D.rcd [(Mir.D.int .i64 x7), (Mir.D.str x8)])] [])) ∧
                    ((((((Prod.fst x4) : Nat) = x3.2.1) ∧
                       ((43 : Nat) = 43)) ∧
                      ((2 : Nat) = 2)) ∧
                     ((((((List.length (Prod.snd x4)) + (List.length [(Mir.D.rcd [(Mir.D.int .i64 x7), (Mir.D.str x8)])])) * 24) : Nat) ≤ 140737488355328) ∧
                      ((((Mir.AV.n (Mir.D.int .i64 a1)) : Mir.AV) = (Mir.AV.n (Mir.D.int .i64 a1))) ∧
                       ((((Mir.AV.n (Mir.D.str a2)) : Mir.AV) = (Mir.AV.n (Mir.D.str a2))) ∧
                        ((((Mir.AV.ptr 2800001 0) : Mir.AV) = (Mir.AV.ptr 2800001 0)) ∧
                         ((((Mir.AV.ptr 2800103 0) : Mir.AV) = (Mir.AV.ptr 2800103 0)) ∧
                          ((((Mir.AV.o (Mir.D.sl 2 a0_1)) : Mir.AV) = (Mir.AV.o (Mir.D.sl 2 a0_1))) ∧
                           ((((Mir.AV.n (Mir.D.int .i64 (((List.length a0_1) : Nat) : Int))) : Mir.AV) = (Mir.AV.n (Mir.D.int .i64 (((List.length a0_1) : Nat) : Int)))) ∧
                            ((@Eq (List (Nat × Mir.Ob)) [(2800000, (.box [(Mir.AV.o (Mir.D.sl 1 a0_0)), (Mir.AV.o (Mir.D.sl 2 a0_1))])), (2800001, (.box [(Mir.AV.n Mir.D.nil), (Mir.AV.n Mir.D.nil)])), (2800103, (.box [(Mir.AV.o (Mir.D.sl 1 x3.1)), (Mir.AV.row 2800504 (x3.2.1 + 1))])), (2800504, (.row false true (x3.2.1 + 1) 43 2 ((Prod.snd x4) ++ [(Mir.D.rcd [(Mir.D.int .i64 x7), (Mir.D.str x8)])])))] [(2800000, (.box [(Mir.AV.o (Mir.D.sl 1 a0_0)), (Mir.AV.o (Mir.D.sl 2 a0_1))])), (2800001, (.box [(Mir.AV.n Mir.D.nil), (Mir.AV.n Mir.D.nil)])), (2800103, (.box [(Mir.AV.o (Mir.D.sl 1 x3.1)), (Mir.AV.row 2800504 (x3.2.1 + 1))])), (2800504, (.row false true (x3.2.1 + 1) 43 2 ((Prod.snd x4) ++ [(Mir.D.rcd [(Mir.D.int .i64 x7), (Mir.D.str x8)])])))]) ∧
                             ((x0 (Go.IntKind.wrap .i64 (x2 + 1)) (x3.1, ((x3.2.1 + 1), Unit.unit)) ((x3.2.1 + 1), ((Prod.snd x4) ++ [(Mir.D.rcd [(Mir.D.int .i64 x7), (Mir.D.str x8)])]))) ∧
                              (((x1 (Go.IntKind.wrap .i64 (x2 + 1)) (x3.1, ((x3.2.1 + 1), Unit.unit)) ((x3.2.1 + 1), ((Prod.snd x4) ++ [(Mir.D.rcd [(Mir.D.int .i64 x7), (Mir.D.str x8)])]))) : Nat) < (x1 x2 x3 x4))))))))))))))))))))))
          (∃ x9 : ByteArray,
           ((Runs Fs 41 [(Mir.AV.n (Mir.D.str a2))] [] (Mir.AV.n (Mir.D.str x9)) []) ∧
            (((0 : Nat) = 0) ∧
             ((((2 : Nat) = 2) ∨ (@Eq (List Mir.D) [(Mir.D.rcd [(Mir.D.int .i64 a1), (Mir.D.str x9)])] [])) ∧
              ((((((Prod.fst x4) : Nat) = x3.2.1) ∧
                 ((43 : Nat) = 43)) ∧
                ((2 : Nat) = 2)) ∧
               ((((((List.length (Prod.snd x4)) + (List.length [(Mir.D.rcd [(Mir.D.int .i64 a1), (Mir.D.str x9)])])) * 24) : Nat) ≤ 140737488355328) ∧
                (((x3.2.1 + 1) = (x3.2.1 + 1)) ∧
                 (R (Mir.AV.agg [(Mir.AV.o (Mir.D.sl 1 x3.1)), (Mir.AV.o (Mir.D.sl 2 ((Prod.snd x4) ++ [(Mir.D.rcd [(Mir.D.int .i64 a1), (Mir.D.str x9)])])))]))))))))))))))))))
theorem vc28 (a0_0 : List Mir.D) (a0_1 : List Mir.D) (a1 : Int) (a2 : ByteArray) (R : Mir.AV → Prop) : Vc Fs c28.body (argsQ c28 [(.agg [(.o (.sl 1 a0_0)), (.o (.sl 2 a0_1))]), (.n (.int .i64 a1)), (.n (.str a2))]) [] (endQ c28 R) = V28 a0_0 a0_1 a1 a2 R := by kernel_rfl
def V29 (a0 : Int) (a1 : Int) (a2 : ByteArray) (R : Mir.AV → Prop) : Prop :=
 (sel (decide (a0 < 1))
  (R (Mir.AV.tup [(Mir.AV.n (Mir.D.str (ByteArray.mk (List.toArray [])))), (Mir.AV.n (Mir.D.int .i64 1))]))
  (sel (decide (a0 > 1099511627776))
   (R (Mir.AV.tup [(Mir.AV.n (Mir.D.str (ByteArray.mk (List.toArray [])))), (Mir.AV.n (Mir.D.int .i64 1))]))
   (sel (decide (a1 < 0))
    (R (Mir.AV.tup [(Mir.AV.n (Mir.D.str (ByteArray.mk (List.toArray [])))), (Mir.AV.n (Mir.D.int .i64 1))]))
    (sel (decide (a1 ≥ 8))
     (R (Mir.AV.tup [(Mir.AV.n (Mir.D.str (ByteArray.mk (List.toArray [])))), (Mir.AV.n (Mir.D.int .i64 1))]))
     (sel (decide ((((ByteArray.size a2) : Nat) : Int) > 480))
      (R (Mir.AV.tup [(Mir.AV.n (Mir.D.str (ByteArray.mk (List.toArray [])))), (Mir.AV.n (Mir.D.int .i64 2))]))
      (∃ x0 : ByteArray,
       (∃ x1 : Int,
        ((Runs Fs 49 [(Mir.AV.n (Mir.D.int .i64 a1)), (Mir.AV.n (Mir.D.int .i64 1))] [] (Mir.AV.tup [(Mir.AV.n (Mir.D.str x0)), (Mir.AV.n (Mir.D.int .i64 x1))]) []) ∧
         ((0 = 0) ∧
          (∃ x2 : ByteArray,
           ((Runs Fs 51 [(Mir.AV.o (Mir.D.sl 1 [(Mir.D.str x0), (Mir.D.str a2)]))] [] (Mir.AV.n (Mir.D.str x2)) []) ∧
            (∃ x3 : ByteArray,
             (∃ x4 : Int,
              ((Runs Fs 50 [(Mir.AV.agg [(Mir.AV.n (Mir.D.int .i64 5)), (Mir.AV.n (Mir.D.int .i64 a0)), (Mir.AV.n (Mir.D.str x2))])] [] (Mir.AV.tup [(Mir.AV.n (Mir.D.str x3)), (Mir.AV.n (Mir.D.int .i64 x4))]) []) ∧
               (R (Mir.AV.tup [(Mir.AV.n (Mir.D.str x3)), (Mir.AV.n (Mir.D.int .i64 x4))]))))))))))))))))
theorem vc29 (a0 : Int) (a1 : Int) (a2 : ByteArray) (R : Mir.AV → Prop) : Vc Fs c29.body (argsQ c29 [(.n (.int .i64 a0)), (.n (.int .i64 a1)), (.n (.str a2))]) [] (endQ c29 R) = V29 a0 a1 a2 R := by kernel_rfl
def V30 (a0 : Int) (a1 : Int) (a2 : ByteArray) (R : Mir.AV → Prop) : Prop :=
 (sel (decide (a0 < 1))
  (R (Mir.AV.tup [(Mir.AV.n (Mir.D.str (ByteArray.mk (List.toArray [])))), (Mir.AV.n (Mir.D.int .i64 1))]))
  (sel (decide (a0 > 1099511627776))
   (R (Mir.AV.tup [(Mir.AV.n (Mir.D.str (ByteArray.mk (List.toArray [])))), (Mir.AV.n (Mir.D.int .i64 1))]))
   (sel (decide (a1 < 0))
    (R (Mir.AV.tup [(Mir.AV.n (Mir.D.str (ByteArray.mk (List.toArray [])))), (Mir.AV.n (Mir.D.int .i64 1))]))
    (sel (decide (a1 > 7))
     (R (Mir.AV.tup [(Mir.AV.n (Mir.D.str (ByteArray.mk (List.toArray [])))), (Mir.AV.n (Mir.D.int .i64 1))]))
     (sel (decide ((((ByteArray.size a2) : Nat) : Int) > 480))
      (R (Mir.AV.tup [(Mir.AV.n (Mir.D.str (ByteArray.mk (List.toArray [])))), (Mir.AV.n (Mir.D.int .i64 2))]))
      (((0 : Nat) = 0) ∧
       ((((1 : Nat) = 1) ∨ (@Eq (List Mir.D) [(Mir.D.int .u8 (Go.IntKind.wrap .u8 a1))] [])) ∧
        ((((List.all [(Mir.D.int .u8 (Go.IntKind.wrap .u8 a1))] Go.Mir.D.isU8) : Bool) = true) ∧
         (((((((ByteArray.size (ByteArray.mk (List.toArray (List.map Go.Mir.byteOf [(Mir.D.int .u8 (Go.IntKind.wrap .u8 a1))])))) + (ByteArray.size a2)) : Nat) : Int) : Int) ≤ 9223372036854775807) ∧
          (∃ x0 : ByteArray,
           ((Runs Fs 52 [(Mir.AV.agg [(Mir.AV.n (Mir.D.int .i64 5)), (Mir.AV.n (Mir.D.int .i64 a0)), (Mir.AV.n (Mir.D.str ((ByteArray.mk (List.toArray (List.map Go.Mir.byteOf [(Mir.D.int .u8 (Go.IntKind.wrap .u8 a1))]))) ++ a2)))])] [] (Mir.AV.n (Mir.D.str x0)) []) ∧
            (R (Mir.AV.tup [(Mir.AV.n (Mir.D.str x0)), (Mir.AV.n (Mir.D.int .i64 0))])))))))))))))
theorem vc30 (a0 : Int) (a1 : Int) (a2 : ByteArray) (R : Mir.AV → Prop) : Vc Fs c30.body (argsQ c30 [(.n (.int .i64 a0)), (.n (.int .i64 a1)), (.n (.str a2))]) [] (endQ c30 R) = V30 a0 a1 a2 R := by kernel_rfl
def V31 (a0 : ByteArray) (a1 : Int) (R : Mir.AV → Prop) : Prop :=
 ((0 = 0) ∧
  (∃ x0 : Int,
   (∃ x1 : Int,
    (∃ x2 : ByteArray,
     (∃ x3 : Int,
      ((Runs Fs 53 [(Mir.AV.n (Mir.D.str a0)), (Mir.AV.o (Mir.D.sl 1 [(Mir.D.int .i64 5)]))] [] (Mir.AV.tup [(Mir.AV.agg [(Mir.AV.n (Mir.D.int .i64 x0)), (Mir.AV.n (Mir.D.int .i64 x1)), (Mir.AV.n (Mir.D.str x2))]), (Mir.AV.n (Mir.D.int .i64 x3))]) []) ∧
       (sel (x3 != 0)
        (R (Mir.AV.tup [(Mir.AV.n (Mir.D.int .i64 0)), (Mir.AV.n (Mir.D.str (ByteArray.mk (List.toArray [])))), (Mir.AV.n (Mir.D.int .i64 x3))]))
        (∃ x4 : Int,
         (∃ x5 : Int,
          (∃ x6 : Int,
           ((Runs Fs 54 [(Mir.AV.n (Mir.D.str x2)), (Mir.AV.n (Mir.D.int .i64 0)), (Mir.AV.n (Mir.D.int .i64 1))] [] (Mir.AV.tup [(Mir.AV.n (Mir.D.int .i64 x4)), (Mir.AV.n (Mir.D.int .i64 x5)), (Mir.AV.n (Mir.D.int .i64 x6))]) []) ∧
            (sel (x6 != 0)
             (R (Mir.AV.tup [(Mir.AV.n (Mir.D.int .i64 0)), (Mir.AV.n (Mir.D.str (ByteArray.mk (List.toArray [])))), (Mir.AV.n (Mir.D.int .i64 4))]))
             (sel (x1 != a1)
              (R (Mir.AV.tup [(Mir.AV.n (Mir.D.int .i64 0)), (Mir.AV.n (Mir.D.str (ByteArray.mk (List.toArray [])))), (Mir.AV.n (Mir.D.int .i64 4))]))
              (sel (decide ((Go.IntKind.wrap .i64 ((((ByteArray.size x2) : Nat) : Int) - x5)) > 480))
               (R (Mir.AV.tup [(Mir.AV.n (Mir.D.int .i64 0)), (Mir.AV.n (Mir.D.str (ByteArray.mk (List.toArray [])))), (Mir.AV.n (Mir.D.int .i64 4))]))
               (sel (decide (x4 ≥ 8))
                (R (Mir.AV.tup [(Mir.AV.n (Mir.D.int .i64 0)), (Mir.AV.n (Mir.D.str (ByteArray.mk (List.toArray [])))), (Mir.AV.n (Mir.D.int .i64 4))]))
                (((0 : Int) ≤ x5) ∧
                 (((x5 : Int) ≤ (((ByteArray.size x2) : Nat) : Int)) ∧
                  (R (Mir.AV.tup [(Mir.AV.n (Mir.D.int .i64 x4)), (Mir.AV.n (Mir.D.str (ByteArray.extract x2 (Int.toNat x5) (ByteArray.size x2)))), (Mir.AV.n (Mir.D.int .i64 0))])))))))))))))))))))
theorem vc31 (a0 : ByteArray) (a1 : Int) (R : Mir.AV → Prop) : Vc Fs c31.body (argsQ c31 [(.n (.str a0)), (.n (.int .i64 a1))]) [] (endQ c31 R) = V31 a0 a1 R := by kernel_rfl
def V32 (a0 : ByteArray) (a1 : Int) (R : Mir.AV → Prop) : Prop :=
 (∃ x0 : Int,
  (∃ x1 : Int,
   (∃ x2 : ByteArray,
    (∃ x3 : Int,
     ((Runs Fs 55 [(Mir.AV.n (Mir.D.str a0))] [] (Mir.AV.tup [(Mir.AV.agg [(Mir.AV.n (Mir.D.int .i64 x0)), (Mir.AV.n (Mir.D.int .i64 x1)), (Mir.AV.n (Mir.D.str x2))]), (Mir.AV.n (Mir.D.int .i64 x3))]) []) ∧
      (sel (x3 != 0)
       (R (Mir.AV.tup [(Mir.AV.n (Mir.D.int .i64 0)), (Mir.AV.n (Mir.D.str (ByteArray.mk (List.toArray [])))), (Mir.AV.n (Mir.D.int .i64 x3))]))
       (sel (x0 != 5)
        (R (Mir.AV.tup [(Mir.AV.n (Mir.D.int .i64 0)), (Mir.AV.n (Mir.D.str (ByteArray.mk (List.toArray [])))), (Mir.AV.n (Mir.D.int .i64 40))]))
        (sel (x1 != a1)
         (R (Mir.AV.tup [(Mir.AV.n (Mir.D.int .i64 0)), (Mir.AV.n (Mir.D.str (ByteArray.mk (List.toArray [])))), (Mir.AV.n (Mir.D.int .i64 4))]))
         (sel (decide ((((ByteArray.size x2) : Nat) : Int) < 1))
          (R (Mir.AV.tup [(Mir.AV.n (Mir.D.int .i64 0)), (Mir.AV.n (Mir.D.str (ByteArray.mk (List.toArray [])))), (Mir.AV.n (Mir.D.int .i64 4))]))
          (sel (decide ((((ByteArray.size x2) : Nat) : Int) > 481))
           (R (Mir.AV.tup [(Mir.AV.n (Mir.D.int .i64 0)), (Mir.AV.n (Mir.D.str (ByteArray.mk (List.toArray [])))), (Mir.AV.n (Mir.D.int .i64 4))]))
           (((0 : Int) ≤ 0) ∧
            (∃ x4 : UInt8,
             ((((GetElem?.getElem? (Array.toList (ByteArray.data x2)) (Int.toNat 0)) : (Option UInt8)) = (some x4)) ∧
              (sel (decide ((((UInt8.toNat x4) : Nat) : Int) > 7))
               (R (Mir.AV.tup [(Mir.AV.n (Mir.D.int .i64 0)), (Mir.AV.n (Mir.D.str (ByteArray.mk (List.toArray [])))), (Mir.AV.n (Mir.D.int .i64 4))]))
               (((0 : Int) ≤ 0) ∧
                (∃ x5 : UInt8,
                 ((((GetElem?.getElem? (Array.toList (ByteArray.data x2)) (Int.toNat 0)) : (Option UInt8)) = (some x5)) ∧
                  (((0 : Int) ≤ 1) ∧
                   (((1 : Int) ≤ (((ByteArray.size x2) : Nat) : Int)) ∧
                    (R (Mir.AV.tup [(Mir.AV.n (Mir.D.int .i64 (Go.IntKind.wrap .i64 (((UInt8.toNat x5) : Nat) : Int)))), (Mir.AV.n (Mir.D.str (ByteArray.extract x2 (Int.toNat 1) (ByteArray.size x2)))), (Mir.AV.n (Mir.D.int .i64 0))])))))))))))))))))))))
theorem vc32 (a0 : ByteArray) (a1 : Int) (R : Mir.AV → Prop) : Vc Fs c32.body (argsQ c32 [(.n (.str a0)), (.n (.int .i64 a1))]) [] (endQ c32 R) = V32 a0 a1 R := by kernel_rfl
def V11 (a0 : Int) (a1 : Int) (a2 : ByteArray) (a3 : ByteArray) (R : Mir.AV → Prop) : Prop :=
 (∃ x0 : ByteArray,
  (∃ x1 : Int,
   ((Runs Fs 29 [(Mir.AV.n (Mir.D.int .i64 a0)), (Mir.AV.n (Mir.D.int .i64 a1)), (Mir.AV.n (Mir.D.str a2))] [] (Mir.AV.tup [(Mir.AV.n (Mir.D.str x0)), (Mir.AV.n (Mir.D.int .i64 x1))]) []) ∧
    (∃ x2 : ByteArray,
     (∃ x3 : Int,
      ((Runs Fs 30 [(Mir.AV.n (Mir.D.int .i64 a0)), (Mir.AV.n (Mir.D.int .i64 a1)), (Mir.AV.n (Mir.D.str a2))] [] (Mir.AV.tup [(Mir.AV.n (Mir.D.str x2)), (Mir.AV.n (Mir.D.int .i64 x3))]) []) ∧
       (∃ x4 : Int,
        (∃ x5 : ByteArray,
         (∃ x6 : Int,
          ((Runs Fs 31 [(Mir.AV.n (Mir.D.str a3)), (Mir.AV.n (Mir.D.int .i64 a0))] [] (Mir.AV.tup [(Mir.AV.n (Mir.D.int .i64 x4)), (Mir.AV.n (Mir.D.str x5)), (Mir.AV.n (Mir.D.int .i64 x6))]) []) ∧
           (∃ x7 : Int,
            (∃ x8 : ByteArray,
             (∃ x9 : Int,
              ((Runs Fs 32 [(Mir.AV.n (Mir.D.str a3)), (Mir.AV.n (Mir.D.int .i64 a0))] [] (Mir.AV.tup [(Mir.AV.n (Mir.D.int .i64 x7)), (Mir.AV.n (Mir.D.str x8)), (Mir.AV.n (Mir.D.int .i64 x9))]) []) ∧
               (∃ x10 : Bool,
                ((Runs Fs 33 [] [] (Mir.AV.n (Mir.D.bool x10)) []) ∧
                 (sel x10
                  (sel ((ByteArray.toList x0) == (ByteArray.toList x2))
                   (sel (x1 == x3)
                    (sel (x4 == x7)
                     (sel ((ByteArray.toList x5) == (ByteArray.toList x8))
                      (R (Mir.AV.n (Mir.D.bool (x6 == x9))))
                      (R (Mir.AV.n (Mir.D.bool false))))
                     (R (Mir.AV.n (Mir.D.bool false))))
                    (R (Mir.AV.n (Mir.D.bool false))))
                   (R (Mir.AV.n (Mir.D.bool false))))
                  (R (Mir.AV.n (Mir.D.bool false))))))))))))))))))))
theorem vc11 (a0 : Int) (a1 : Int) (a2 : ByteArray) (a3 : ByteArray) (R : Mir.AV → Prop) : Vc Fs c11.body (argsQ c11 [(.n (.int .i64 a0)), (.n (.int .i64 a1)), (.n (.str a2)), (.n (.str a3))]) [] (endQ c11 R) = V11 a0 a1 a2 a3 R := by kernel_rfl

end Go.Proofs.YtcakphhnilklnaaDoor.M
