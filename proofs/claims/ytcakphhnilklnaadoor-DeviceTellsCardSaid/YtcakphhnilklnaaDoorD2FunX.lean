import Derived.Test.YtcakphhnilklnaaDoorD2Fun
namespace Go.Proofs.YtcakphhnilklnaaDoor.M
set_option linter.unusedVariables false
set_option linter.unusedSimpArgs false
open Go Go.Mir
set_option linter.unusedVariables false
def V7 (a0_0 : List Mir.D) (a0_1 : List Mir.D) (a1 : List Mir.D) (R : Mir.AV → Prop) : Prop :=
 (∃ x0 : (List Mir.D),
  (∃ x1 : (List Mir.D),
   ((Runs Fs 12 [(Mir.AV.agg [(Mir.AV.o (Mir.D.sl 1 a0_0)), (Mir.AV.o (Mir.D.sl 2 a0_1))])] [] (Mir.AV.agg [(Mir.AV.o (Mir.D.sl 1 x0)), (Mir.AV.o (Mir.D.sl 2 x1))]) []) ∧
    ((((1 : Nat) = 1) ∨ (@Eq (List Mir.D) x0 [])) ∧
     (((((0 : Nat) = 0) ∧
        ((9 : Nat) = 9)) ∧
       ((1 : Nat) = 1)) ∧
      (((((0 + (List.length x0)) * 16) : Nat) ≤ 140737488355328) ∧
       (((1 : Nat) = 1) ∧
        (∃ x2 : (Int → ((Nat × (List Mir.D)) → Prop)),
         (∃ x3 : (Int → ((Nat × (List Mir.D)) → Nat)),
          (((@Eq (List (Nat × Mir.Ob)) [(700000, (.box [(Mir.AV.row 700200 1), (Mir.AV.o (Mir.D.sl 2 x1))])), (700200, (.row false false 1 9 1 ([] ++ x0)))] [(700000, (.box [(Mir.AV.row 700200 1), (Mir.AV.o (Mir.D.sl 2 x1))])), (700200, (.row false false 1 9 1 ([] ++ x0)))]) ∧
            (x2 0 (1, ([] ++ x0)))) ∧
           (∀ x4 : Int,
            (∀ x5 : (Nat × (List Mir.D)),
             ((x2 x4 x5) →
              (∀ x6 : (Nat → Mir.AV),
               (sel (decide (x4 < (((List.length ([] ++ x0)) : Nat) : Int)))
                (((((Prod.fst x5) : Nat) = 1) ∧
                  ((1 : Nat) = 1)) ∧
                 (((0 : Int) ≤ x4) ∧
                  (((x4 : Int) < (((List.length (Prod.snd x5)) : Nat) : Int)) ∧
                   ((((1 : Nat) = (Prod.fst x5)) ∧
                     ((1 : Nat) = 1)) ∧
                    (∃ x7 : Mir.D,
                     ((((GetElem?.getElem? (Prod.snd x5) (Int.toNat x4)) : (Option Mir.D)) = (some x7)) ∧
                      (∃ x8 : ByteArray,
                       ((((GetElem?.getElem? (Go.Mir.D.cells x7) 0) : (Option Mir.D)) = (some (Mir.D.str x8))) ∧
                        (sel (decide ((((ByteArray.size x8) : Nat) : Int) > 512))
                         (((((Prod.fst x5) : Nat) = 1) ∧
                           ((1 : Nat) = 1)) ∧
                          (((0 : Int) ≤ x4) ∧
                           (((x4 : Int) < (((List.length (Prod.snd x5)) : Nat) : Int)) ∧
                            ((((((1 : Nat) = (Prod.fst x5)) ∧
                                ((0 : Nat) = 0)) ∧
                               ((1 : Nat) = 1)) ∧
                              ((1 : Nat) = 1)) ∧
                             ((((Int.toNat x4) : Nat) < (List.length (Prod.snd x5))) ∧
                              ((((Mir.AV.o (Mir.D.sl 1 a1)) : Mir.AV) = (Mir.AV.o (Mir.D.sl 1 a1))) ∧
                               ((((Mir.AV.ptr 700000 0) : Mir.AV) = (Mir.AV.ptr 700000 0)) ∧
                                ((((Mir.AV.row 700200 1) : Mir.AV) = (Mir.AV.row 700200 1)) ∧
                                 ((((Mir.AV.n (Mir.D.int .i64 (((List.length ([] ++ x0)) : Nat) : Int))) : Mir.AV) = (Mir.AV.n (Mir.D.int .i64 (((List.length ([] ++ x0)) : Nat) : Int)))) ∧
                                  ((@Eq (List (Nat × Mir.Ob)) [(700000, (.box [(Mir.AV.row 700200 1), (Mir.AV.o (Mir.D.sl 2 x1))])), (700200, (.row false false (Prod.fst x5) 9 1 (List.set (Prod.snd x5) (Int.toNat x4) (Mir.D.str (ByteArray.mk (List.toArray []))))))] [(700000, (.box [(Mir.AV.row 700200 1), (Mir.AV.o (Mir.D.sl 2 x1))])), (700200, (.row false false (Prod.fst x5) 9 1 (List.set (Prod.snd x5) (Int.toNat x4) (Mir.D.str (ByteArray.mk (List.toArray []))))))]) ∧
                                   ((x2 (Go.IntKind.wrap .i64 (x4 + 1)) ((Prod.fst x5), (List.set (Prod.snd x5) (Int.toNat x4) (Mir.D.str (ByteArray.mk (List.toArray [])))))) ∧
                                    (((x3 (Go.IntKind.wrap .i64 (x4 + 1)) ((Prod.fst x5), (List.set (Prod.snd x5) (Int.toNat x4) (Mir.D.str (ByteArray.mk (List.toArray [])))))) : Nat) < (x3 x4 x5)))))))))))))
                         ((((Mir.AV.o (Mir.D.sl 1 a1)) : Mir.AV) = (Mir.AV.o (Mir.D.sl 1 a1))) ∧
                          ((((Mir.AV.ptr 700000 0) : Mir.AV) = (Mir.AV.ptr 700000 0)) ∧
                           ((((Mir.AV.row 700200 1) : Mir.AV) = (Mir.AV.row 700200 1)) ∧
                            ((((Mir.AV.n (Mir.D.int .i64 (((List.length ([] ++ x0)) : Nat) : Int))) : Mir.AV) = (Mir.AV.n (Mir.D.int .i64 (((List.length ([] ++ x0)) : Nat) : Int)))) ∧
                             ((@Eq (List (Nat × Mir.Ob)) [(700000, (.box [(Mir.AV.row 700200 1), (Mir.AV.o (Mir.D.sl 2 x1))])), (700200, (.row false false (Prod.fst x5) 9 1 (Prod.snd x5)))] [(700000, (.box [(Mir.AV.row 700200 1), (Mir.AV.o (Mir.D.sl 2 x1))])), (700200, (.row false false (Prod.fst x5) 9 1 (Prod.snd x5)))]) ∧
                              ((x2 (Go.IntKind.wrap .i64 (x4 + 1)) ((Prod.fst x5), (Prod.snd x5))) ∧
                               (((x3 (Go.IntKind.wrap .i64 (x4 + 1)) ((Prod.fst x5), (Prod.snd x5))) : Nat) < (x3 x4 x5)))))))))))))))))
                ((((2 : Nat) = 2) ∨ (@Eq (List Mir.D) x1 [])) ∧
                 (((((0 : Nat) = 0) ∧
                    ((43 : Nat) = 43)) ∧
                   ((2 : Nat) = 2)) ∧
                  (((((0 + (List.length x1)) * 24) : Nat) ≤ 140737488355328) ∧
                   (((1 : Nat) = 1) ∧
                    (∃ x9 : (Int → ((Nat × (List Mir.D)) → Prop)),
                     (∃ x10 : (Int → ((Nat × (List Mir.D)) → Nat)),
                      (((@Eq (List (Nat × Mir.Ob)) [(700000, (.box [(Mir.AV.row 700200 1), (Mir.AV.row 700900 1)])), (700200, (.row false false (Prod.fst x5) 9 1 (Prod.snd x5))), (700900, (.row false false 1 43 2 ([] ++ x1)))] [(700000, (.box [(Mir.AV.row 700200 1), (Mir.AV.row 700900 1)])), (700200, (.row false false (Prod.fst x5) 9 1 (Prod.snd x5))), (700900, (.row false false 1 43 2 ([] ++ x1)))]) ∧
                        (x9 0 (1, ([] ++ x1)))) ∧
                       (∀ x11 : Int,
                        (∀ x12 : (Nat × (List Mir.D)),
                         ((x9 x11 x12) →
                          (∀ x13 : (Nat → Mir.AV),
                           (sel (decide (x11 < (((List.length ([] ++ x1)) : Nat) : Int)))
                            (((((Prod.fst x12) : Nat) = 1) ∧
                              ((2 : Nat) = 2)) ∧
                             (((0 : Int) ≤ x11) ∧
                              (((x11 : Int) < (((List.length (Prod.snd x12)) : Nat) : Int)) ∧
                               ((((1 : Nat) = (Prod.fst x12)) ∧
                                 ((2 : Nat) = 2)) ∧
                                (∃ x14 : Mir.D,
                                 ((((GetElem?.getElem? (Prod.snd x12) (Int.toNat x11)) : (Option Mir.D)) = (some x14)) ∧
                                  (∃ x15 : Int,
                                   (∃ x16 : ByteArray,
                                    ((@Eq (List Mir.D) (List.take 2 (List.drop 0 (Go.Mir.D.cells x14))) [(Mir.D.int .i64 x15), (Mir.D.str x16)]) ∧
                                     ((((0 + 2) : Nat) ≤ (List.length (Go.Mir.D.cells x14))) ∧
                                      (sel (decide ((((ByteArray.size x16) : Nat) : Int) > 512))
                                       (((((Prod.fst x12) : Nat) = 1) ∧
                                         ((2 : Nat) = 2)) ∧
                                        (((0 : Int) ≤ x11) ∧
                                         (((x11 : Int) < (((List.length (Prod.snd x12)) : Nat) : Int)) ∧
                                          (((((1 : Nat) = (Prod.fst x12)) ∧
                                             (((1 + 1) : Nat) ≤ 2)) ∧
                                            ((2 : Nat) = 2)) ∧
                                           (∃ x17 : Mir.D,
                                            ((((GetElem?.getElem? (Prod.snd x12) (Int.toNat x11)) : (Option Mir.D)) = (some x17)) ∧
                                             ((((Mir.AV.o (Mir.D.sl 1 a1)) : Mir.AV) = (Mir.AV.o (Mir.D.sl 1 a1))) ∧
                                              ((((Mir.AV.ptr 700000 0) : Mir.AV) = (Mir.AV.ptr 700000 0)) ∧
                                               ((((Mir.AV.row 700900 1) : Mir.AV) = (Mir.AV.row 700900 1)) ∧
                                                ((((Mir.AV.n (Mir.D.int .i64 (((List.length ([] ++ x1)) : Nat) : Int))) : Mir.AV) = (Mir.AV.n (Mir.D.int .i64 (((List.length ([] ++ x1)) : Nat) : Int)))) ∧
                                                 ((@Eq (List (Nat × Mir.Ob)) [(700000, (.box [(Mir.AV.row 700200 1), (Mir.AV.row 700900 1)])), (700200, (.row false false (Prod.fst x5) 9 1 (Prod.snd x5))), (700900, (.row false false (Prod.fst x12) 43 2 (List.set (Prod.snd x12) (Int.toNat x11) (Mir.D.rcd (Go.Mir.putC (Go.Mir.D.cells x17) 1 (Go.Mir.D.cells (Mir.D.str (ByteArray.mk (List.toArray [120])))))))))] [(700000, (.box [(Mir.AV.row 700200 1), (Mir.AV.row 700900 1)])), (700200, (.row false false (Prod.fst x5) 9 1 (Prod.snd x5))), (700900, (.row false false (Prod.fst x12) 43 2 (List.set (Prod.snd x12) (Int.toNat x11) (Mir.D.rcd (Go.Mir.putC (Go.Mir.D.cells x17) 1 (Go.Mir.D.cells (Mir.D.str (ByteArray.mk (List.toArray [120])))))))))]) ∧
                                                  ((x9 (Go.IntKind.wrap .i64 (x11 + 1)) ((Prod.fst x12), (List.set (Prod.snd x12) (Int.toNat x11) (Mir.D.rcd (Go.Mir.putC (Go.Mir.D.cells x17) 1 (Go.Mir.D.cells (Mir.D.str (ByteArray.mk (List.toArray [120]))))))))) ∧
                                                   (((x10 (Go.IntKind.wrap .i64 (x11 + 1)) ((Prod.fst x12), (List.set (Prod.snd x12) (Int.toNat x11) (Mir.D.rcd (Go.Mir.putC (Go.Mir.D.cells x17) 1 (Go.Mir.D.cells (Mir.D.str (ByteArray.mk (List.toArray [120]))))))))) : Nat) < (x10 x11 x12))))))))))))))
                                       ((((Mir.AV.o (Mir.D.sl 1 a1)) : Mir.AV) = (Mir.AV.o (Mir.D.sl 1 a1))) ∧
                                        ((((Mir.AV.ptr 700000 0) : Mir.AV) = (Mir.AV.ptr 700000 0)) ∧
                                         ((((Mir.AV.row 700900 1) : Mir.AV) = (Mir.AV.row 700900 1)) ∧
                                          ((((Mir.AV.n (Mir.D.int .i64 (((List.length ([] ++ x1)) : Nat) : Int))) : Mir.AV) = (Mir.AV.n (Mir.D.int .i64 (((List.length ([] ++ x1)) : Nat) : Int)))) ∧
                                           ((@Eq (List (Nat × Mir.Ob)) [(700000, (.box [(Mir.AV.row 700200 1), (Mir.AV.row 700900 1)])), (700200, (.row false false (Prod.fst x5) 9 1 (Prod.snd x5))), (700900, (.row false false (Prod.fst x12) 43 2 (Prod.snd x12)))] [(700000, (.box [(Mir.AV.row 700200 1), (Mir.AV.row 700900 1)])), (700200, (.row false false (Prod.fst x5) 9 1 (Prod.snd x5))), (700900, (.row false false (Prod.fst x12) 43 2 (Prod.snd x12)))]) ∧
                                            ((x9 (Go.IntKind.wrap .i64 (x11 + 1)) ((Prod.fst x12), (Prod.snd x12))) ∧
                                             (((x10 (Go.IntKind.wrap .i64 (x11 + 1)) ((Prod.fst x12), (Prod.snd x12))) : Nat) < (x10 x11 x12)))))))))))))))))))
                            (((Prod.fst x5) = 1) ∧
                             (((Prod.fst x12) = 1) ∧
                              (∃ x18 : Bool,
                               ((Runs Fs 17 [(Mir.AV.agg [(Mir.AV.o (Mir.D.sl 1 (Prod.snd x5))), (Mir.AV.o (Mir.D.sl 2 (Prod.snd x12)))])] [] (Mir.AV.n (Mir.D.bool x18)) []) ∧
                                (sel (Bool.not x18)
                                 (∃ x19 : Bool,
                                  ((Runs Fs 15 [] [] (Mir.AV.n (Mir.D.bool x19)) []) ∧
                                   (R (Mir.AV.n (Mir.D.bool x19)))))
                                 (((Prod.fst x5) = 1) ∧
                                  (((Prod.fst x12) = 1) ∧
                                   (∃ x20 : (List Mir.D),
                                    (∃ x21 : (List Mir.D),
                                     (∃ x22 : Int,
                                      ((Runs Fs 22 [(Mir.AV.agg [(Mir.AV.o (Mir.D.sl 1 (Prod.snd x5))), (Mir.AV.o (Mir.D.sl 2 (Prod.snd x12)))]), (Mir.AV.o (Mir.D.sl 1 a1))] [] (Mir.AV.tup [(Mir.AV.agg [(Mir.AV.o (Mir.D.sl 1 x20)), (Mir.AV.o (Mir.D.sl 2 x21))]), (Mir.AV.n (Mir.D.int .i64 x22))]) []) ∧
                                       (sel (x22 != 0)
                                        (R (Mir.AV.n (Mir.D.bool false)))
                                        ((((Prod.fst x5) : Nat) = 1) ∧
                                         (sel ((((List.length x20) : Nat) : Int) != (((List.length (Prod.snd x5)) : Nat) : Int))
                                          (R (Mir.AV.n (Mir.D.bool false)))
                                          (∃ x23 : (Int → Prop),
                                           (∃ x24 : (Int → Nat),
                                            (((@Eq (List (Nat × Mir.Ob)) [(700000, (.box [(Mir.AV.row 700200 1), (Mir.AV.row 700900 1)])), (700200, (.row true false (Prod.fst x5) 9 1 (Prod.snd x5))), (700900, (.row true false (Prod.fst x12) 43 2 (Prod.snd x12))), (701806, (.box [(Mir.AV.o (Mir.D.sl 1 x20)), (Mir.AV.o (Mir.D.sl 2 x21))]))] [(700000, (.box [(Mir.AV.row 700200 1), (Mir.AV.row 700900 1)])), (700200, (.row true false (Prod.fst x5) 9 1 (Prod.snd x5))), (700900, (.row true false (Prod.fst x12) 43 2 (Prod.snd x12))), (701806, (.box [(Mir.AV.o (Mir.D.sl 1 x20)), (Mir.AV.o (Mir.D.sl 2 x21))]))]) ∧
                                              (x23 0)) ∧
                                             (∀ x25 : Int,
                                              ((x23 x25) →
                                               (∀ x26 : (Nat → Mir.AV),
                                                (sel (decide (x25 < (((List.length x20) : Nat) : Int)))
                                                 (((1 : Nat) = 1) ∧
                                                  (((0 : Int) ≤ x25) ∧
                                                   (∃ x27 : Mir.D,
                                                    ((((GetElem?.getElem? x20 (Int.toNat x25)) : (Option Mir.D)) = (some x27)) ∧
                                                     (∃ x28 : ByteArray,
                                                      ((((GetElem?.getElem? (Go.Mir.D.cells x27) 0) : (Option Mir.D)) = (some (Mir.D.str x28))) ∧
                                                       (((((Prod.fst x5) : Nat) = 1) ∧
                                                         ((1 : Nat) = 1)) ∧
                                                        (((0 : Int) ≤ x25) ∧
                                                         (((x25 : Int) < (((List.length (Prod.snd x5)) : Nat) : Int)) ∧
                                                          ((((1 : Nat) = (Prod.fst x5)) ∧
                                                            ((1 : Nat) = 1)) ∧
                                                           (∃ x29 : Mir.D,
                                                            ((((GetElem?.getElem? (Prod.snd x5) (Int.toNat x25)) : (Option Mir.D)) = (some x29)) ∧
                                                             (∃ x30 : ByteArray,
                                                              ((((GetElem?.getElem? (Go.Mir.D.cells x29) 0) : (Option Mir.D)) = (some (Mir.D.str x30))) ∧
                                                               ((((Prod.fst x12) : Nat) = 1) ∧
                                                                (∃ x31 : (Bool → (Int → Prop)),
                                                                 (∃ x32 : (Bool → (Int → Nat)),
                                                                  (((@Eq (List (Nat × Mir.Ob)) [(700000, (.box [(Mir.AV.row 700200 1), (Mir.AV.row 700900 1)])), (700200, (.row true false (Prod.fst x5) 9 1 (Prod.snd x5))), (700900, (.row true false (Prod.fst x12) 43 2 (Prod.snd x12))), (701806, (.box [(Mir.AV.o (Mir.D.sl 1 x20)), (Mir.AV.o (Mir.D.sl 2 x21))]))] [(700000, (.box [(Mir.AV.row 700200 1), (Mir.AV.row 700900 1)])), (700200, (.row true false (Prod.fst x5) 9 1 (Prod.snd x5))), (700900, (.row true false (Prod.fst x12) 43 2 (Prod.snd x12))), (701806, (.box [(Mir.AV.o (Mir.D.sl 1 x20)), (Mir.AV.o (Mir.D.sl 2 x21))]))]) ∧
                                                                    (x31 ((ByteArray.toList x28) == (ByteArray.toList x30)) 0)) ∧
                                                                   (∀ x33 : Bool,
                                                                    (∀ x34 : Int,
                                                                     ((x31 x33 x34) →
                                                                      (∀ x35 : (Nat → Mir.AV),
                                                                       (sel (decide (x34 < (((List.length (Prod.snd x12)) : Nat) : Int)))
                                                                        (((((Prod.fst x12) : Nat) = 1) ∧
                                                                          ((2 : Nat) = 2)) ∧
                                                                         (((0 : Int) ≤ x34) ∧
                                                                          (((x34 : Int) < (((List.length (Prod.snd x12)) : Nat) : Int)) ∧
                                                                           ((((1 : Nat) = (Prod.fst x12)) ∧
                                                                             ((2 : Nat) = 2)) ∧
                                                                            (∃ x36 : Mir.D,
                                                                             ((((GetElem?.getElem? (Prod.snd x12) (Int.toNat x34)) : (Option Mir.D)) = (some x36)) ∧
                                                                              (∃ x37 : Int,
                                                                               (∃ x38 : ByteArray,
                                                                                ((@Eq (List Mir.D) (List.take 2 (List.drop 0 (Go.Mir.D.cells x36))) [(Mir.D.int .i64 x37), (Mir.D.str x38)]) ∧
                                                                                 ((((0 + 2) : Nat) ≤ (List.length (Go.Mir.D.cells x36))) ∧
                                                                                  (sel x33
                                                                                   ((((Mir.AV.ptr 700000 0) : Mir.AV) = (Mir.AV.ptr 700000 0)) ∧
                                                                                    ((((Mir.AV.n (Mir.D.int .i64 x25)) : Mir.AV) = (Mir.AV.n (Mir.D.int .i64 x25))) ∧
                                                                                     ((((Mir.AV.n (Mir.D.str x28)) : Mir.AV) = (Mir.AV.n (Mir.D.str x28))) ∧
                                                                                      ((((Mir.AV.o (Mir.D.sl 1 x20)) : Mir.AV) = (Mir.AV.o (Mir.D.sl 1 x20))) ∧
                                                                                       ((((Mir.AV.n (Mir.D.int .i64 (((List.length x20) : Nat) : Int))) : Mir.AV) = (Mir.AV.n (Mir.D.int .i64 (((List.length x20) : Nat) : Int)))) ∧
                                                                                        ((((Mir.AV.n (Mir.D.int .i64 x25)) : Mir.AV) = (Mir.AV.n (Mir.D.int .i64 x25))) ∧
                                                                                         ((((Mir.AV.row 700900 1) : Mir.AV) = (Mir.AV.row 700900 1)) ∧
                                                                                          ((((Mir.AV.n (Mir.D.int .i64 (((List.length (Prod.snd x12)) : Nat) : Int))) : Mir.AV) = (Mir.AV.n (Mir.D.int .i64 (((List.length (Prod.snd x12)) : Nat) : Int)))) ∧
                                                                                           ((@Eq (List (Nat × Mir.Ob)) [(700000, (.box [(Mir.AV.row 700200 1), (Mir.AV.row 700900 1)])), (700200, (.row true false (Prod.fst x5) 9 1 (Prod.snd x5))), (700900, (.row true false (Prod.fst x12) 43 2 (Prod.snd x12))), (701806, (.box [(Mir.AV.o (Mir.D.sl 1 x20)), (Mir.AV.o (Mir.D.sl 2 x21))]))] [(700000, (.box [(Mir.AV.row 700200 1), (Mir.AV.row 700900 1)])), (700200, (.row true false (Prod.fst x5) 9 1 (Prod.snd x5))), (700900, (.row true false (Prod.fst x12) 43 2 (Prod.snd x12))), (701806, (.box [(Mir.AV.o (Mir.D.sl 1 x20)), (Mir.AV.o (Mir.D.sl 2 x21))]))]) ∧
                                                                                            ((x31 true (Go.IntKind.wrap .i64 (x34 + 1))) ∧
                                                                                             (((x32 true (Go.IntKind.wrap .i64 (x34 + 1))) : Nat) < (x32 x33 x34))))))))))))
                                                                                   (sel (x37 == x25)
                                                                                    ((((Mir.AV.ptr 700000 0) : Mir.AV) = (Mir.AV.ptr 700000 0)) ∧
                                                                                     ((((Mir.AV.n (Mir.D.int .i64 x25)) : Mir.AV) = (Mir.AV.n (Mir.D.int .i64 x25))) ∧
                                                                                      ((((Mir.AV.n (Mir.D.str x28)) : Mir.AV) = (Mir.AV.n (Mir.D.str x28))) ∧
                                                                                       ((((Mir.AV.o (Mir.D.sl 1 x20)) : Mir.AV) = (Mir.AV.o (Mir.D.sl 1 x20))) ∧
                                                                                        ((((Mir.AV.n (Mir.D.int .i64 (((List.length x20) : Nat) : Int))) : Mir.AV) = (Mir.AV.n (Mir.D.int .i64 (((List.length x20) : Nat) : Int)))) ∧
                                                                                         ((((Mir.AV.n (Mir.D.int .i64 x25)) : Mir.AV) = (Mir.AV.n (Mir.D.int .i64 x25))) ∧
                                                                                          ((((Mir.AV.row 700900 1) : Mir.AV) = (Mir.AV.row 700900 1)) ∧
                                                                                           ((((Mir.AV.n (Mir.D.int .i64 (((List.length (Prod.snd x12)) : Nat) : Int))) : Mir.AV) = (Mir.AV.n (Mir.D.int .i64 (((List.length (Prod.snd x12)) : Nat) : Int)))) ∧
                                                                                            ((@Eq (List (Nat × Mir.Ob)) [(700000, (.box [(Mir.AV.row 700200 1), (Mir.AV.row 700900 1)])), (700200, (.row true false (Prod.fst x5) 9 1 (Prod.snd x5))), (700900, (.row true false (Prod.fst x12) 43 2 (Prod.snd x12))), (701806, (.box [(Mir.AV.o (Mir.D.sl 1 x20)), (Mir.AV.o (Mir.D.sl 2 x21))]))] [(700000, (.box [(Mir.AV.row 700200 1), (Mir.AV.row 700900 1)])), (700200, (.row true false (Prod.fst x5) 9 1 (Prod.snd x5))), (700900, (.row true false (Prod.fst x12) 43 2 (Prod.snd x12))), (701806, (.box [(Mir.AV.o (Mir.D.sl 1 x20)), (Mir.AV.o (Mir.D.sl 2 x21))]))]) ∧
                                                                                             ((x31 ((ByteArray.toList x38) == (ByteArray.toList x28)) (Go.IntKind.wrap .i64 (x34 + 1))) ∧
                                                                                              (((x32 ((ByteArray.toList x38) == (ByteArray.toList x28)) (Go.IntKind.wrap .i64 (x34 + 1))) : Nat) < (x32 x33 x34))))))))))))
                                                                                    ((((Mir.AV.ptr 700000 0) : Mir.AV) = (Mir.AV.ptr 700000 0)) ∧
                                                                                     ((((Mir.AV.n (Mir.D.int .i64 x25)) : Mir.AV) = (Mir.AV.n (Mir.D.int .i64 x25))) ∧
                                                                                      ((((Mir.AV.n (Mir.D.str x28)) : Mir.AV) = (Mir.AV.n (Mir.D.str x28))) ∧
                                                                                       ((((Mir.AV.o (Mir.D.sl 1 x20)) : Mir.AV) = (Mir.AV.o (Mir.D.sl 1 x20))) ∧
                                                                                        ((((Mir.AV.n (Mir.D.int .i64 (((List.length x20) : Nat) : Int))) : Mir.AV) = (Mir.AV.n (Mir.D.int .i64 (((List.length x20) : Nat) : Int)))) ∧
                                                                                         ((((Mir.AV.n (Mir.D.int .i64 x25)) : Mir.AV) = (Mir.AV.n (Mir.D.int .i64 x25))) ∧
                                                                                          ((((Mir.AV.row 700900 1) : Mir.AV) = (Mir.AV.row 700900 1)) ∧
                                                                                           ((((Mir.AV.n (Mir.D.int .i64 (((List.length (Prod.snd x12)) : Nat) : Int))) : Mir.AV) = (Mir.AV.n (Mir.D.int .i64 (((List.length (Prod.snd x12)) : Nat) : Int)))) ∧
                                                                                            ((@Eq (List (Nat × Mir.Ob)) [(700000, (.box [(Mir.AV.row 700200 1), (Mir.AV.row 700900 1)])), (700200, (.row true false (Prod.fst x5) 9 1 (Prod.snd x5))), (700900, (.row true false (Prod.fst x12) 43 2 (Prod.snd x12))), (701806, (.box [(Mir.AV.o (Mir.D.sl 1 x20)), (Mir.AV.o (Mir.D.sl 2 x21))]))] [(700000, (.box [(Mir.AV.row 700200 1), (Mir.AV.row 700900 1)])), (700200, (.row true false (Prod.fst x5) 9 1 (Prod.snd x5))), (700900, (.row true false (Prod.fst x12) 43 2 (Prod.snd x12))), (701806, (.box [(Mir.AV.o (Mir.D.sl 1 x20)), (Mir.AV.o (Mir.D.sl 2 x21))]))]) ∧
                                                                                             ((x31 false (Go.IntKind.wrap .i64 (x34 + 1))) ∧
                                                                                              (((x32 false (Go.IntKind.wrap .i64 (x34 + 1))) : Nat) < (x32 x33 x34))))))))))))))))))))))))
                                                                        (sel (Bool.not x33)
                                                                         (R (Mir.AV.n (Mir.D.bool false)))
                                                                         ((((Mir.AV.ptr 700000 0) : Mir.AV) = (Mir.AV.ptr 700000 0)) ∧
                                                                          ((((Mir.AV.o (Mir.D.sl 1 x20)) : Mir.AV) = (Mir.AV.o (Mir.D.sl 1 x20))) ∧
                                                                           ((((Mir.AV.n (Mir.D.int .i64 (((List.length x20) : Nat) : Int))) : Mir.AV) = (Mir.AV.n (Mir.D.int .i64 (((List.length x20) : Nat) : Int)))) ∧
                                                                            ((@Eq (List (Nat × Mir.Ob)) [(700000, (.box [(Mir.AV.row 700200 1), (Mir.AV.row 700900 1)])), (700200, (.row true false (Prod.fst x5) 9 1 (Prod.snd x5))), (700900, (.row true false (Prod.fst x12) 43 2 (Prod.snd x12))), (701806, (.box [(Mir.AV.o (Mir.D.sl 1 x20)), (Mir.AV.o (Mir.D.sl 2 x21))]))] [(700000, (.box [(Mir.AV.row 700200 1), (Mir.AV.row 700900 1)])), (700200, (.row true false (Prod.fst x5) 9 1 (Prod.snd x5))), (700900, (.row true false (Prod.fst x12) 43 2 (Prod.snd x12))), (701806, (.box [(Mir.AV.o (Mir.D.sl 1 x20)), (Mir.AV.o (Mir.D.sl 2 x21))]))]) ∧
                                                                             ((x23 (Go.IntKind.wrap .i64 (x25 + 1))) ∧
                                                                              (((x24 (Go.IntKind.wrap .i64 (x25 + 1))) : Nat) < (x24 x25)))))))))))))))))))))))))))))))
                                                 (∃ x39 : Bool,
                                                  ((Runs Fs 15 [] [] (Mir.AV.n (Mir.D.bool x39)) []) ∧
                                                   (R (Mir.AV.n (Mir.D.bool x39)))))))))))))))))))))))))))))))))))))))))))))))))))))
theorem vc7 (a0_0 : List Mir.D) (a0_1 : List Mir.D) (a1 : List Mir.D) (R : Mir.AV → Prop) : Vc Fs c7.body (argsQ c7 [(.agg [(.o (.sl 1 a0_0)), (.o (.sl 2 a0_1))]), (.o (.sl 1 a1))]) [] (endQ c7 R) = V7 a0_0 a0_1 a1 R := by kernel_rfl
def V33  (R : Mir.AV → Prop) : Prop :=
 (∃ x0 : ByteArray,
  (∃ x1 : Int,
   ((Runs Fs 56 [(Mir.AV.o (Mir.D.sl 3 []))] [] (Mir.AV.tup [(Mir.AV.n (Mir.D.str x0)), (Mir.AV.n (Mir.D.int .i64 x1))]) []) ∧
    (sel (x1 == 0)
     (R (Mir.AV.n (Mir.D.bool ((ByteArray.toList x0) == (ByteArray.toList (ByteArray.mk (List.toArray [0])))))))
     (R (Mir.AV.n (Mir.D.bool false)))))))
theorem vc33  (R : Mir.AV → Prop) : Vc Fs c33.body (argsQ c33 []) [] (endQ c33 R) = V33  R := by kernel_rfl
def V56 (a0 : List Mir.D) (R : Mir.AV → Prop) : Prop :=
 (∃ x0 : Bool,
  ((Runs Fs 74 [(Mir.AV.o (Mir.D.sl 3 a0)), (Mir.AV.fn 75 [])] [] (Mir.AV.n (Mir.D.bool x0)) []) ∧
   (sel x0
    (R (Mir.AV.tup [(Mir.AV.n (Mir.D.str (ByteArray.mk (List.toArray [])))), (Mir.AV.n (Mir.D.int .i64 1))]))
    (∃ x1 : ByteArray,
     (∃ x2 : Int,
      ((Runs Fs 49 [(Mir.AV.n (Mir.D.int .i64 (((List.length a0) : Nat) : Int))), (Mir.AV.n (Mir.D.int .i64 1))] [] (Mir.AV.tup [(Mir.AV.n (Mir.D.str x1)), (Mir.AV.n (Mir.D.int .i64 x2))]) []) ∧
       (sel (x2 != 0)
        (R (Mir.AV.tup [(Mir.AV.n (Mir.D.str (ByteArray.mk (List.toArray [])))), (Mir.AV.n (Mir.D.int .i64 2))]))
        (∃ x3 : (ByteArray → (Int → Prop)),
         (∃ x4 : (ByteArray → (Int → Nat)),
          (((@Eq (List (Nat × Mir.Ob)) [] []) ∧
            (x3 x1 0)) ∧
           (∀ x5 : ByteArray,
            (∀ x6 : Int,
             ((x3 x5 x6) →
              (∀ x7 : (Nat → Mir.AV),
               (sel (decide (x6 < (((List.length a0) : Nat) : Int)))
                (((3 : Nat) = 3) ∧
                 (((0 : Int) ≤ x6) ∧
                  (∃ x8 : Mir.D,
                   ((((GetElem?.getElem? a0 (Int.toNat x6)) : (Option Mir.D)) = (some x8)) ∧
                    (∃ x9 : ByteArray,
                     (∃ x10 : ByteArray,
                      (∃ x11 : Bool,
                       ((@Eq (List Mir.D) (List.take 3 (Go.Mir.D.cells x8)) [(Mir.D.str x9), (Mir.D.str x10), (Mir.D.bool x11)]) ∧
                        (((3 : Nat) ≤ (List.length (Go.Mir.D.cells x8))) ∧
                         (∃ x12 : ByteArray,
                          (∃ x13 : Int,
                           ((Runs Fs 63 [(Mir.AV.n (Mir.D.str x9))] [] (Mir.AV.tup [(Mir.AV.n (Mir.D.str x12)), (Mir.AV.n (Mir.D.int .i64 x13))]) []) ∧
                            (sel x11
                             (((0 : Nat) = 0) ∧
                              ((((1 : Nat) = 1) ∨ (@Eq (List Mir.D) [(Mir.D.int .u8 1)] [])) ∧
                               ((((List.all [(Mir.D.int .u8 1)] Go.Mir.D.isU8) : Bool) = true) ∧
                                ((0 = 0) ∧
                                 (∃ x14 : ByteArray,
                                  ((Runs Fs 51 [(Mir.AV.o (Mir.D.sl 1 [(Mir.D.str x5), (Mir.D.str (ByteArray.mk (List.toArray (List.map Go.Mir.byteOf [(Mir.D.int .u8 1)])))), (Mir.D.str x12)]))] [] (Mir.AV.n (Mir.D.str x14)) []) ∧
                                   (sel (decide ((((ByteArray.size x14) : Nat) : Int) > 480))
                                    (R (Mir.AV.tup [(Mir.AV.n (Mir.D.str (ByteArray.mk (List.toArray [])))), (Mir.AV.n (Mir.D.int .i64 2))]))
                                    ((((Mir.AV.o (Mir.D.sl 3 a0)) : Mir.AV) = (Mir.AV.o (Mir.D.sl 3 a0))) ∧
                                     ((((Mir.AV.n (Mir.D.int .i64 (((List.length a0) : Nat) : Int))) : Mir.AV) = (Mir.AV.n (Mir.D.int .i64 (((List.length a0) : Nat) : Int)))) ∧
                                      ((@Eq (List (Nat × Mir.Ob)) [] []) ∧
                                       ((x3 x14 (Go.IntKind.wrap .i64 (x6 + 1))) ∧
                                        (((x4 x14 (Go.IntKind.wrap .i64 (x6 + 1))) : Nat) < (x4 x5 x6)))))))))))))
                             (∃ x15 : ByteArray,
                              (∃ x16 : Int,
                               ((Runs Fs 63 [(Mir.AV.n (Mir.D.str x10))] [] (Mir.AV.tup [(Mir.AV.n (Mir.D.str x15)), (Mir.AV.n (Mir.D.int .i64 x16))]) []) ∧
                                (((0 : Nat) = 0) ∧
                                 ((((1 : Nat) = 1) ∨ (@Eq (List Mir.D) [(Mir.D.int .u8 0)] [])) ∧
                                  ((((List.all [(Mir.D.int .u8 0)] Go.Mir.D.isU8) : Bool) = true) ∧
                                   ((0 = 0) ∧
                                    (∃ x17 : ByteArray,
                                     ((Runs Fs 51 [(Mir.AV.o (Mir.D.sl 1 [(Mir.D.str x5), (Mir.D.str (ByteArray.mk (List.toArray (List.map Go.Mir.byteOf [(Mir.D.int .u8 0)])))), (Mir.D.str x12), (Mir.D.str x15)]))] [] (Mir.AV.n (Mir.D.str x17)) []) ∧
                                      (sel (decide ((((ByteArray.size x17) : Nat) : Int) > 480))
                                       (R (Mir.AV.tup [(Mir.AV.n (Mir.D.str (ByteArray.mk (List.toArray [])))), (Mir.AV.n (Mir.D.int .i64 2))]))
                                       ((((Mir.AV.o (Mir.D.sl 3 a0)) : Mir.AV) = (Mir.AV.o (Mir.D.sl 3 a0))) ∧
                                        ((((Mir.AV.n (Mir.D.int .i64 (((List.length a0) : Nat) : Int))) : Mir.AV) = (Mir.AV.n (Mir.D.int .i64 (((List.length a0) : Nat) : Int)))) ∧
                                         ((@Eq (List (Nat × Mir.Ob)) [] []) ∧
                                          ((x3 x17 (Go.IntKind.wrap .i64 (x6 + 1))) ∧
                                           (((x4 x17 (Go.IntKind.wrap .i64 (x6 + 1))) : Nat) < (x4 x5 x6)))))))))))))))))))))))))))))
                (R (Mir.AV.tup [(Mir.AV.n (Mir.D.str x5)), (Mir.AV.n (Mir.D.int .i64 0))])))))))))))))))))
theorem vc56 (a0 : List Mir.D) (R : Mir.AV → Prop) : Vc Fs c56.body (argsQ c56 [(.o (.sl 3 a0))]) [] (endQ c56 R) = V56 a0 R := by kernel_rfl
def V75 (a0_0 : ByteArray) (a0_1 : ByteArray) (a0_2 : Bool) (R : Mir.AV → Prop) : Prop :=
 (∃ x0 : Bool,
  ((Runs Fs 76 [(Mir.AV.agg [(Mir.AV.n (Mir.D.str a0_0)), (Mir.AV.n (Mir.D.str a0_1)), (Mir.AV.n (Mir.D.bool a0_2))])] [] (Mir.AV.n (Mir.D.bool x0)) []) ∧
   (R (Mir.AV.n (Mir.D.bool (Bool.not x0))))))
theorem vc75 (a0_0 : ByteArray) (a0_1 : ByteArray) (a0_2 : Bool) (R : Mir.AV → Prop) : Vc Fs c75.body (argsQ c75 [(.agg [(.n (.str a0_0)), (.n (.str a0_1)), (.n (.bool a0_2))])]) [] (endQ c75 R) = V75 a0_0 a0_1 a0_2 R := by kernel_rfl
def V76 (a0_0 : ByteArray) (a0_1 : ByteArray) (a0_2 : Bool) (R : Mir.AV → Prop) : Prop :=
 (sel (decide ((((ByteArray.size a0_0) : Nat) : Int) ≥ 1))
  (sel (decide ((((ByteArray.size a0_0) : Nat) : Int) ≤ 32))
   (sel (decide ((((ByteArray.size a0_1) : Nat) : Int) ≤ 200))
    (sel (Bool.not a0_2)
     (R (Mir.AV.n (Mir.D.bool true)))
     (R (Mir.AV.n (Mir.D.bool ((ByteArray.toList a0_1) == (ByteArray.toList (ByteArray.mk (List.toArray []))))))))
    (R (Mir.AV.n (Mir.D.bool false))))
   (R (Mir.AV.n (Mir.D.bool false))))
  (R (Mir.AV.n (Mir.D.bool false))))
theorem vc76 (a0_0 : ByteArray) (a0_1 : ByteArray) (a0_2 : Bool) (R : Mir.AV → Prop) : Vc Fs c76.body (argsQ c76 [(.agg [(.n (.str a0_0)), (.n (.str a0_1)), (.n (.bool a0_2))])]) [] (endQ c76 R) = V76 a0_0 a0_1 a0_2 R := by kernel_rfl
def V74p (a0 : List Mir.D) (R : Mir.AV → Prop) : Prop :=
 (∃ x0 : Int,
  ((Runs Fs 92 [(Mir.AV.o (Mir.D.sl 3 a0)), (Mir.AV.fn 75 [])] [] (Mir.AV.n (Mir.D.int .i64 x0)) []) ∧
   (R (Mir.AV.n (Mir.D.bool (decide (x0 ≥ 0)))))))
theorem vc74p (a0 : List Mir.D) (R : Mir.AV → Prop) : Vc Fs c74.body (argsQ c74 [.o (.sl 3 a0), .fn 75 []]) [] (endQ c74 R) = V74p a0 R := by kernel_rfl
def V92p (a0 : List Mir.D) (R : Mir.AV → Prop) : Prop :=
 (∃ x0 : (Int → Prop),
  (∃ x1 : (Int → Nat),
   (((@Eq (List (Nat × Mir.Ob)) [] []) ∧
     (x0 0)) ∧
    (∀ x2 : Int,
     ((x0 x2) →
      (∀ x3 : (Nat → Mir.AV),
       (sel (decide (x2 < (((List.length a0) : Nat) : Int)))
        (((3 : Nat) = 3) ∧
         (((0 : Int) ≤ x2) ∧
          (∃ x4 : Mir.D,
           ((((GetElem?.getElem? a0 (Int.toNat x2)) : (Option Mir.D)) = (some x4)) ∧
            (∃ x5 : ByteArray,
             (∃ x6 : ByteArray,
              (∃ x7 : Bool,
               ((@Eq (List Mir.D) (List.take 3 (Go.Mir.D.cells x4)) [(Mir.D.str x5), (Mir.D.str x6), (Mir.D.bool x7)]) ∧
                (((3 : Nat) ≤ (List.length (Go.Mir.D.cells x4))) ∧
                 (∃ x8 : Bool,
                  ((Runs Fs 75 [(Mir.AV.agg [(Mir.AV.n (Mir.D.str x5)), (Mir.AV.n (Mir.D.str x6)), (Mir.AV.n (Mir.D.bool x7))])] [] (Mir.AV.n (Mir.D.bool x8)) []) ∧
                   (sel x8
                    (R (Mir.AV.n (Mir.D.int .i64 x2)))
                    ((((Mir.AV.o (Mir.D.sl 3 a0)) : Mir.AV) = (Mir.AV.o (Mir.D.sl 3 a0))) ∧
                     ((((Mir.AV.fn 75 []) : Mir.AV) = (Mir.AV.fn 75 [])) ∧
                      ((((Mir.AV.n (Mir.D.int .i64 (((List.length a0) : Nat) : Int))) : Mir.AV) = (Mir.AV.n (Mir.D.int .i64 (((List.length a0) : Nat) : Int)))) ∧
                       ((@Eq (List (Nat × Mir.Ob)) [] []) ∧
                        ((x0 (Go.IntKind.wrap .i64 (x2 + 1))) ∧
                         (((x1 (Go.IntKind.wrap .i64 (x2 + 1))) : Nat) < (x1 x2)))))))))))))))))))
        (R (Mir.AV.n (Mir.D.int .i64 (-1)))))))))))
theorem vc92p (a0 : List Mir.D) (R : Mir.AV → Prop) : Vc Fs c92.body (argsQ c92 [.o (.sl 3 a0), .fn 75 []]) [] (endQ c92 R) = V92p a0 R := by kernel_rfl

end Go.Proofs.YtcakphhnilklnaaDoor.M
