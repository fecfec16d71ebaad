import Derived.Test.YtjmfgemjabaohaaDoorDFun
namespace Go.Proofs.YtjmfgemjabaohaaDoor.M
set_option linter.unusedVariables false
set_option linter.unusedSimpArgs false
open Go Go.Mir
set_option linter.unusedVariables false
def V37 (a0 : Int) (R : Mir.AV → Prop) : Prop :=
 (∃ x0 : (Int → (Int → (Int → Prop))),
  (∃ x1 : (Int → (Int → (Int → Nat))),
   (((@Eq (List (Nat × Mir.Ob)) [] []) ∧
     (x0 a0 1 0)) ∧
    (∀ x2 : Int,
     (∀ x3 : Int,
      (∀ x4 : Int,
       ((x0 x2 x3 x4) →
        (∀ x5 : (Nat → Mir.AV),
         (sel (decide (x4 < x2))
          ((@Eq (List (Nat × Mir.Ob)) [] []) ∧
           ((x0 x2 (Go.IntKind.wrap .i64 (x3 * 256)) (Go.IntKind.wrap .i64 (x4 + 1))) ∧
            (((x1 x2 (Go.IntKind.wrap .i64 (x3 * 256)) (Go.IntKind.wrap .i64 (x4 + 1))) : Nat) < (x1 x2 x3 x4))))
          (R (Mir.AV.n (Mir.D.int .i64 x3))))))))))))
theorem vc37 (a0 : Int) (R : Mir.AV → Prop) : Vc Fs c37.body (argsQ c37 [(.n (.int .i64 a0))]) [] (endQ c37 R) = V37 a0 R := by kernel_rfl
def V24 (a0 : Int) (a1 : Int) (R : Mir.AV → Prop) : Prop :=
 (sel (decide (a1 < 1))
  (R (Mir.AV.tup [(Mir.AV.n (Mir.D.str (ByteArray.mk (List.toArray [])))), (Mir.AV.n (Mir.D.int .i64 1))]))
  (sel (decide (a1 > 6))
   (R (Mir.AV.tup [(Mir.AV.n (Mir.D.str (ByteArray.mk (List.toArray [])))), (Mir.AV.n (Mir.D.int .i64 1))]))
   (sel (decide (a0 < 0))
    (R (Mir.AV.tup [(Mir.AV.n (Mir.D.str (ByteArray.mk (List.toArray [])))), (Mir.AV.n (Mir.D.int .i64 1))]))
    (((0 : Int) ≤ (Go.IntKind.wrap .i64 (8 * a1))) ∧
     (sel ((Int.fdiv a0 (2 ^ (Min.min (Int.toNat (Go.IntKind.wrap .i64 (8 * a1))) (Go.IntKind.bits .i64)))) != 0)
      (R (Mir.AV.tup [(Mir.AV.n (Mir.D.str (ByteArray.mk (List.toArray [])))), (Mir.AV.n (Mir.D.int .i64 1))]))
      (((0 : Int) ≤ a1) ∧
       (((((Int.toNat a1) * 1) : Nat) ≤ 140737488355328) ∧
        (((0 : Nat) = 0) ∧
         (∃ x0 : (Int → (Int → (Nat → (Int → (Int → ((Nat × (List Mir.D)) → Prop)))))),
          (∃ x1 : (Int → (Int → (Nat → (Int → (Int → ((Nat × (List Mir.D)) → Nat)))))),
           (((@Eq (List (Nat × Mir.Ob)) [(2400301, (.row false true 0 5 1 (List.replicate (Int.toNat a1) (Mir.D.int .u8 0))))] [(2400301, (.row false true 0 5 1 (List.replicate (Int.toNat a1) (Mir.D.int .u8 0))))]) ∧
             (x0 a0 a1 0 (((List.length (List.replicate (Int.toNat a1) (Mir.D.int .u8 0))) : Nat) : Int) 0 (0, (List.replicate (Int.toNat a1) (Mir.D.int .u8 0))))) ∧
            (∀ x2 : Int,
             (∀ x3 : Int,
              (∀ x4 : Nat,
               (∀ x5 : Int,
                (∀ x6 : Int,
                 (∀ x7 : (Nat × (List Mir.D)),
                  ((x0 x2 x3 x4 x5 x6 x7) →
                   (∀ x8 : (Nat → Mir.AV),
                    (sel (decide (x6 < x5))
                     (((0 : Int) ≤ (Go.IntKind.wrap .i64 (8 * x6))) ∧
                      (((((Prod.fst x7) : Nat) = x4) ∧
                        ((1 : Nat) = 1)) ∧
                       (((0 : Int) ≤ (Go.IntKind.wrap .i64 ((Go.IntKind.wrap .i64 (x3 - 1)) - x6))) ∧
                        ((((Go.IntKind.wrap .i64 ((Go.IntKind.wrap .i64 (x3 - 1)) - x6)) : Int) < (((List.length (Prod.snd x7)) : Nat) : Int)) ∧
                         ((((((x4 : Nat) = (Prod.fst x7)) ∧
                             ((0 : Nat) = 0)) ∧
                            ((1 : Nat) = 1)) ∧
                           ((1 : Nat) = 1)) ∧
                          ((((Int.toNat (Go.IntKind.wrap .i64 ((Go.IntKind.wrap .i64 (x3 - 1)) - x6))) : Nat) < (List.length (Prod.snd x7))) ∧
                           ((@Eq (List (Nat × Mir.Ob)) [(2400301, (.row false true (Prod.fst x7) 5 1 (List.set (Prod.snd x7) (Int.toNat (Go.IntKind.wrap .i64 ((Go.IntKind.wrap .i64 (x3 - 1)) - x6))) (Mir.D.int .u8 (Go.IntKind.wrap .u8 (Int.fdiv x2 (2 ^ (Min.min (Int.toNat (Go.IntKind.wrap .i64 (8 * x6))) (Go.IntKind.bits .i64)))))))))] [(2400301, (.row false true (Prod.fst x7) 5 1 (List.set (Prod.snd x7) (Int.toNat (Go.IntKind.wrap .i64 ((Go.IntKind.wrap .i64 (x3 - 1)) - x6))) (Mir.D.int .u8 (Go.IntKind.wrap .u8 (Int.fdiv x2 (2 ^ (Min.min (Int.toNat (Go.IntKind.wrap .i64 (8 * x6))) (Go.IntKind.bits .i64)))))))))]) ∧
                            ((x0 x2 x3 x4 x5 (Go.IntKind.wrap .i64 (x6 + 1)) ((Prod.fst x7), (List.set (Prod.snd x7) (Int.toNat (Go.IntKind.wrap .i64 ((Go.IntKind.wrap .i64 (x3 - 1)) - x6))) (Mir.D.int .u8 (Go.IntKind.wrap .u8 (Int.fdiv x2 (2 ^ (Min.min (Int.toNat (Go.IntKind.wrap .i64 (8 * x6))) (Go.IntKind.bits .i64))))))))) ∧
                             (((x1 x2 x3 x4 x5 (Go.IntKind.wrap .i64 (x6 + 1)) ((Prod.fst x7), (List.set (Prod.snd x7) (Int.toNat (Go.IntKind.wrap .i64 ((Go.IntKind.wrap .i64 (x3 - 1)) - x6))) (Mir.D.int .u8 (Go.IntKind.wrap .u8 (Int.fdiv x2 (2 ^ (Min.min (Int.toNat (Go.IntKind.wrap .i64 (8 * x6))) (Go.IntKind.bits .i64))))))))) : Nat) < (x1 x2 x3 x4 x5 x6 x7))))))))))
                     ((((Prod.fst x7) : Nat) = x4) ∧
                      ((((1 : Nat) = 1) ∨ (@Eq (List Mir.D) (Prod.snd x7) [])) ∧
                       ((((List.all (Prod.snd x7) Go.Mir.D.isU8) : Bool) = true) ∧
                        (R (Mir.AV.tup [(Mir.AV.n (Mir.D.str (ByteArray.mk (List.toArray (List.map Go.Mir.byteOf (Prod.snd x7)))))), (Mir.AV.n (Mir.D.int .i64 0))])))))))))))))))))))))))))
theorem vc24 (a0 : Int) (a1 : Int) (R : Mir.AV → Prop) : Vc Fs c24.body (argsQ c24 [(.n (.int .i64 a0)), (.n (.int .i64 a1))]) [] (endQ c24 R) = V24 a0 a1 R := by kernel_rfl
def V27 (a0 : Int) (a1 : Int) (R : Mir.AV → Prop) : Prop :=
 (sel (decide (a1 < 1))
  (R (Mir.AV.tup [(Mir.AV.n (Mir.D.str (ByteArray.mk (List.toArray [])))), (Mir.AV.n (Mir.D.int .i64 1))]))
  (sel (decide (a1 > 6))
   (R (Mir.AV.tup [(Mir.AV.n (Mir.D.str (ByteArray.mk (List.toArray [])))), (Mir.AV.n (Mir.D.int .i64 1))]))
   (sel (decide (a0 < 0))
    (R (Mir.AV.tup [(Mir.AV.n (Mir.D.str (ByteArray.mk (List.toArray [])))), (Mir.AV.n (Mir.D.int .i64 1))]))
    (∃ x0 : Int,
     ((Runs Fs 37 [(Mir.AV.n (Mir.D.int .i64 a1))] [] (Mir.AV.n (Mir.D.int .i64 x0)) []) ∧
      (sel (decide (a0 ≥ x0))
       (R (Mir.AV.tup [(Mir.AV.n (Mir.D.str (ByteArray.mk (List.toArray [])))), (Mir.AV.n (Mir.D.int .i64 1))]))
       (∃ x1 : (Int → (Nat → (Int → ((Nat × (List Mir.D)) → Prop)))),
        (∃ x2 : (Int → (Nat → (Int → ((Nat × (List Mir.D)) → Nat)))),
         (((@Eq (List (Nat × Mir.Ob)) [(2700300, (.row false true 0 5 1 []))] [(2700300, (.row false true 0 5 1 []))]) ∧
           (x1 a0 0 (Go.IntKind.wrap .i64 (a1 - 1)) (0, []))) ∧
          (∀ x3 : Int,
           (∀ x4 : Nat,
            (∀ x5 : Int,
             (∀ x6 : (Nat × (List Mir.D)),
              ((x1 x3 x4 x5 x6) →
               (∀ x7 : (Nat → Mir.AV),
                (sel (decide (x5 ≥ 0))
                 (∃ x8 : Int,
                  ((Runs Fs 37 [(Mir.AV.n (Mir.D.int .i64 x5))] [] (Mir.AV.n (Mir.D.int .i64 x8)) []) ∧
                   (((x8 : Int) ≠ 0) ∧
                    (((256 : Int) ≠ 0) ∧
                     (((0 : Nat) = 0) ∧
                      ((((1 : Nat) = 1) ∨ (@Eq (List Mir.D) [(Mir.D.int .u8 (Go.IntKind.wrap .u8 (Int.tmod (Go.IntKind.wrap .i64 (Int.tdiv x3 x8)) 256)))] [])) ∧
                       ((((((Prod.fst x6) : Nat) = x4) ∧
                          ((5 : Nat) = 5)) ∧
                         ((1 : Nat) = 1)) ∧
                        ((((((List.length (Prod.snd x6)) + (List.length [(Mir.D.int .u8 (Go.IntKind.wrap .u8 (Int.tmod (Go.IntKind.wrap .i64 (Int.tdiv x3 x8)) 256)))])) * 1) : Nat) ≤ 140737488355328) ∧
                         ((@Eq (List (Nat × Mir.Ob)) [(2700300, (.row false true (x4 + 1) 5 1 ((Prod.snd x6) ++ [(Mir.D.int .u8 (Go.IntKind.wrap .u8 (Int.tmod (Go.IntKind.wrap .i64 (Int.tdiv x3 x8)) 256)))])))] [(2700300, (.row false true (x4 + 1) 5 1 ((Prod.snd x6) ++ [(Mir.D.int .u8 (Go.IntKind.wrap .u8 (Int.tmod (Go.IntKind.wrap .i64 (Int.tdiv x3 x8)) 256)))])))]) ∧
                          ((x1 x3 (x4 + 1) (Go.IntKind.wrap .i64 (x5 - 1)) ((x4 + 1), ((Prod.snd x6) ++ [(Mir.D.int .u8 (Go.IntKind.wrap .u8 (Int.tmod (Go.IntKind.wrap .i64 (Int.tdiv x3 x8)) 256)))]))) ∧
                           (((x2 x3 (x4 + 1) (Go.IntKind.wrap .i64 (x5 - 1)) ((x4 + 1), ((Prod.snd x6) ++ [(Mir.D.int .u8 (Go.IntKind.wrap .u8 (Int.tmod (Go.IntKind.wrap .i64 (Int.tdiv x3 x8)) 256)))]))) : Nat) < (x2 x3 x4 x5 x6))))))))))))
                 ((((Prod.fst x6) : Nat) = x4) ∧
                  ((((1 : Nat) = 1) ∨ (@Eq (List Mir.D) (Prod.snd x6) [])) ∧
                   ((((List.all (Prod.snd x6) Go.Mir.D.isU8) : Bool) = true) ∧
                    (R (Mir.AV.tup [(Mir.AV.n (Mir.D.str (ByteArray.mk (List.toArray (List.map Go.Mir.byteOf (Prod.snd x6)))))), (Mir.AV.n (Mir.D.int .i64 0))])))))))))))))))))))))
theorem vc27 (a0 : Int) (a1 : Int) (R : Mir.AV → Prop) : Vc Fs c27.body (argsQ c27 [(.n (.int .i64 a0)), (.n (.int .i64 a1))]) [] (endQ c27 R) = V27 a0 a1 R := by kernel_rfl
def V14  (R : Mir.AV → Prop) : Prop :=
 (∃ x0 : ByteArray,
  (∃ x1 : Int,
   ((Runs Fs 24 [(Mir.AV.n (Mir.D.int .i64 7)), (Mir.AV.n (Mir.D.int .i64 1))] [] (Mir.AV.tup [(Mir.AV.n (Mir.D.str x0)), (Mir.AV.n (Mir.D.int .i64 x1))]) []) ∧
    (sel (x1 == 0)
     (R (Mir.AV.n (Mir.D.bool ((ByteArray.toList x0) == (ByteArray.toList (ByteArray.mk (List.toArray [7])))))))
     (R (Mir.AV.n (Mir.D.bool false)))))))
theorem vc14  (R : Mir.AV → Prop) : Vc Fs c14.body (argsQ c14 []) [] (endQ c14 R) = V14  R := by kernel_rfl
def V26 (a0 : List Mir.D) (R : Mir.AV → Prop) : Prop :=
 (∃ x0 : ByteArray,
  ((Runs Fs 36 [(Mir.AV.o (Mir.D.sl 1 a0)), (Mir.AV.n (Mir.D.str (ByteArray.mk (List.toArray []))))] [] (Mir.AV.n (Mir.D.str x0)) []) ∧
   (R (Mir.AV.n (Mir.D.str x0)))))
theorem vc26 (a0 : List Mir.D) (R : Mir.AV → Prop) : Vc Fs c26.body (argsQ c26 [(.o (.sl 1 a0))]) [] (endQ c26 R) = V26 a0 R := by kernel_rfl
def V17 (a0 : ByteArray) (R : Mir.AV → Prop) : Prop :=
 (sel (decide ((((ByteArray.size a0) : Nat) : Int) > 65535))
  (R (Mir.AV.tup [(Mir.AV.n (Mir.D.str (ByteArray.mk (List.toArray [])))), (Mir.AV.n (Mir.D.int .i64 2))]))
  (∃ x0 : ByteArray,
   (∃ x1 : Int,
    ((Runs Fs 24 [(Mir.AV.n (Mir.D.int .i64 (((ByteArray.size a0) : Nat) : Int))), (Mir.AV.n (Mir.D.int .i64 2))] [] (Mir.AV.tup [(Mir.AV.n (Mir.D.str x0)), (Mir.AV.n (Mir.D.int .i64 x1))]) []) ∧
     ((0 = 0) ∧
      (∃ x2 : ByteArray,
       ((Runs Fs 26 [(Mir.AV.o (Mir.D.sl 1 [(Mir.D.str x0), (Mir.D.str a0)]))] [] (Mir.AV.n (Mir.D.str x2)) []) ∧
        (R (Mir.AV.tup [(Mir.AV.n (Mir.D.str x2)), (Mir.AV.n (Mir.D.int .i64 x1))])))))))))
theorem vc17 (a0 : ByteArray) (R : Mir.AV → Prop) : Vc Fs c17.body (argsQ c17 [(.n (.str a0))]) [] (endQ c17 R) = V17 a0 R := by kernel_rfl
def V18 (a0 : ByteArray) (R : Mir.AV → Prop) : Prop :=
 (sel (decide ((((ByteArray.size a0) : Nat) : Int) > 65535))
  (R (Mir.AV.tup [(Mir.AV.n (Mir.D.str (ByteArray.mk (List.toArray [])))), (Mir.AV.n (Mir.D.int .i64 2))]))
  (((256 : Int) ≠ 0) ∧
   (((256 : Int) ≠ 0) ∧
    (((0 : Nat) = 0) ∧
     ((((1 : Nat) = 1) ∨ (@Eq (List Mir.D) [(Mir.D.int .u8 (Go.IntKind.wrap .u8 (Go.IntKind.wrap .i64 (Int.tdiv (((ByteArray.size a0) : Nat) : Int) 256)))), (Mir.D.int .u8 (Go.IntKind.wrap .u8 (Int.tmod (((ByteArray.size a0) : Nat) : Int) 256)))] [])) ∧
      ((((List.all [(Mir.D.int .u8 (Go.IntKind.wrap .u8 (Go.IntKind.wrap .i64 (Int.tdiv (((ByteArray.size a0) : Nat) : Int) 256)))), (Mir.D.int .u8 (Go.IntKind.wrap .u8 (Int.tmod (((ByteArray.size a0) : Nat) : Int) 256)))] Go.Mir.D.isU8) : Bool) = true) ∧
       (((((((ByteArray.size (ByteArray.mk (List.toArray (List.map Go.Mir.byteOf [(Mir.D.int .u8 (Go.IntKind.wrap .u8 (Go.IntKind.wrap .i64 (Int.tdiv (((ByteArray.size a0) : Nat) : Int) 256)))), (Mir.D.int .u8 (Go.IntKind.wrap .u8 (Int.tmod (((ByteArray.size a0) : Nat) : Int) 256)))])))) + (ByteArray.size a0)) : Nat) : Int) : Int) ≤ 9223372036854775807) ∧
        (R (Mir.AV.tup [(Mir.AV.n (Mir.D.str ((ByteArray.mk (List.toArray (List.map Go.Mir.byteOf [(Mir.D.int .u8 (Go.IntKind.wrap .u8 (Go.IntKind.wrap .i64 (Int.tdiv (((ByteArray.size a0) : Nat) : Int) 256)))), (Mir.D.int .u8 (Go.IntKind.wrap .u8 (Int.tmod (((ByteArray.size a0) : Nat) : Int) 256)))]))) ++ a0))), (Mir.AV.n (Mir.D.int .i64 0))])))))))))
theorem vc18 (a0 : ByteArray) (R : Mir.AV → Prop) : Vc Fs c18.body (argsQ c18 [(.n (.str a0))]) [] (endQ c18 R) = V18 a0 R := by kernel_rfl
def V15 (a0 : ByteArray) (R : Mir.AV → Prop) : Prop :=
 (∃ x0 : ByteArray,
  ((Runs Fs 29 [(Mir.AV.n (Mir.D.str a0)), (Mir.AV.n (Mir.D.str (ByteArray.mk (List.toArray [0]))))] [] (Mir.AV.n (Mir.D.str x0)) []) ∧
   (R (Mir.AV.n (Mir.D.str x0)))))
theorem vc15 (a0 : ByteArray) (R : Mir.AV → Prop) : Vc Fs c15.body (argsQ c15 [(.n (.str a0))]) [] (endQ c15 R) = V15 a0 R := by kernel_rfl
def V20 (a0 : ByteArray) (R : Mir.AV → Prop) : Prop :=
 (∃ x0 : (ByteArray → (Int → Prop)),
  (∃ x1 : (ByteArray → (Int → Nat)),
   (((@Eq (List (Nat × Mir.Ob)) [] []) ∧
     (x0 a0 (((ByteArray.size a0) : Nat) : Int))) ∧
    (∀ x2 : ByteArray,
     (∀ x3 : Int,
      ((x0 x2 x3) →
       (∀ x4 : (Nat → Mir.AV),
        (sel (decide (x3 > 0))
         (((0 : Int) ≤ (Go.IntKind.wrap .i64 (x3 - 1))) ∧
          (∃ x5 : UInt8,
           ((((GetElem?.getElem? (Array.toList (ByteArray.data x2)) (Int.toNat (Go.IntKind.wrap .i64 (x3 - 1)))) : (Option UInt8)) = (some x5)) ∧
            (sel ((((UInt8.toNat x5) : Nat) : Int) == 0)
             ((@Eq (List (Nat × Mir.Ob)) [] []) ∧
              ((x0 x2 (Go.IntKind.wrap .i64 (x3 - 1))) ∧
               (((x1 x2 (Go.IntKind.wrap .i64 (x3 - 1))) : Nat) < (x1 x2 x3))))
             (((0 : Int) ≤ x3) ∧
              (((x3 : Int) ≤ (((ByteArray.size x2) : Nat) : Int)) ∧
               (R (Mir.AV.n (Mir.D.str (ByteArray.extract x2 0 (Int.toNat x3)))))))))))
         (((0 : Int) ≤ x3) ∧
          (((x3 : Int) ≤ (((ByteArray.size x2) : Nat) : Int)) ∧
           (R (Mir.AV.n (Mir.D.str (ByteArray.extract x2 0 (Int.toNat x3)))))))))))))))
theorem vc20 (a0 : ByteArray) (R : Mir.AV → Prop) : Vc Fs c20.body (argsQ c20 [(.n (.str a0))]) [] (endQ c20 R) = V20 a0 R := by kernel_rfl
def V16 (a0 : ByteArray) (a1 : Int) (R : Mir.AV → Prop) : Prop :=
 (sel (decide (a1 < 0))
  (R (Mir.AV.tup [(Mir.AV.n (Mir.D.str (ByteArray.mk (List.toArray [])))), (Mir.AV.n (Mir.D.int .i64 1))]))
  (sel (decide (a1 > 4096))
   (R (Mir.AV.tup [(Mir.AV.n (Mir.D.str (ByteArray.mk (List.toArray [])))), (Mir.AV.n (Mir.D.int .i64 1))]))
   (sel (decide ((((ByteArray.size a0) : Nat) : Int) > a1))
    (R (Mir.AV.tup [(Mir.AV.n (Mir.D.str (ByteArray.mk (List.toArray [])))), (Mir.AV.n (Mir.D.int .i64 2))]))
    (∃ x0 : ByteArray,
     ((Runs Fs 30 [(Mir.AV.n (Mir.D.str (ByteArray.mk (List.toArray [0])))), (Mir.AV.n (Mir.D.int .i64 (Go.IntKind.wrap .i64 (a1 - (((ByteArray.size a0) : Nat) : Int)))))] [] (Mir.AV.n (Mir.D.str x0)) []) ∧
      ((0 = 0) ∧
       (∃ x1 : ByteArray,
        ((Runs Fs 26 [(Mir.AV.o (Mir.D.sl 1 [(Mir.D.str a0), (Mir.D.str x0)]))] [] (Mir.AV.n (Mir.D.str x1)) []) ∧
         (R (Mir.AV.tup [(Mir.AV.n (Mir.D.str x1)), (Mir.AV.n (Mir.D.int .i64 0))]))))))))))
theorem vc16 (a0 : ByteArray) (a1 : Int) (R : Mir.AV → Prop) : Vc Fs c16.body (argsQ c16 [(.n (.str a0)), (.n (.int .i64 a1))]) [] (endQ c16 R) = V16 a0 a1 R := by kernel_rfl
def V19 (a0 : ByteArray) (a1 : Int) (R : Mir.AV → Prop) : Prop :=
 (sel (decide (a1 < 0))
  (R (Mir.AV.tup [(Mir.AV.n (Mir.D.str (ByteArray.mk (List.toArray [])))), (Mir.AV.n (Mir.D.int .i64 1))]))
  (sel (decide (a1 > 4096))
   (R (Mir.AV.tup [(Mir.AV.n (Mir.D.str (ByteArray.mk (List.toArray [])))), (Mir.AV.n (Mir.D.int .i64 1))]))
   (sel (decide ((((ByteArray.size a0) : Nat) : Int) > a1))
    (R (Mir.AV.tup [(Mir.AV.n (Mir.D.str (ByteArray.mk (List.toArray [])))), (Mir.AV.n (Mir.D.int .i64 2))]))
    (((0 : Int) ≤ (Go.IntKind.wrap .i64 (a1 - (((ByteArray.size a0) : Nat) : Int)))) ∧
     (((((Int.toNat (Go.IntKind.wrap .i64 (a1 - (((ByteArray.size a0) : Nat) : Int)))) * 1) : Nat) ≤ 140737488355328) ∧
      (((0 : Nat) = 0) ∧
       ((((1 : Nat) = 1) ∨ (@Eq (List Mir.D) (List.replicate (Int.toNat (Go.IntKind.wrap .i64 (a1 - (((ByteArray.size a0) : Nat) : Int)))) (Mir.D.int .u8 0)) [])) ∧
        ((((List.all (List.replicate (Int.toNat (Go.IntKind.wrap .i64 (a1 - (((ByteArray.size a0) : Nat) : Int)))) (Mir.D.int .u8 0)) Go.Mir.D.isU8) : Bool) = true) ∧
         (((((((ByteArray.size a0) + (ByteArray.size (ByteArray.mk (List.toArray (List.map Go.Mir.byteOf (List.replicate (Int.toNat (Go.IntKind.wrap .i64 (a1 - (((ByteArray.size a0) : Nat) : Int)))) (Mir.D.int .u8 0))))))) : Nat) : Int) : Int) ≤ 9223372036854775807) ∧
          (R (Mir.AV.tup [(Mir.AV.n (Mir.D.str (a0 ++ (ByteArray.mk (List.toArray (List.map Go.Mir.byteOf (List.replicate (Int.toNat (Go.IntKind.wrap .i64 (a1 - (((ByteArray.size a0) : Nat) : Int)))) (Mir.D.int .u8 0)))))))), (Mir.AV.n (Mir.D.int .i64 0))])))))))))))
theorem vc19 (a0 : ByteArray) (a1 : Int) (R : Mir.AV → Prop) : Vc Fs c19.body (argsQ c19 [(.n (.str a0)), (.n (.int .i64 a1))]) [] (endQ c19 R) = V19 a0 a1 R := by kernel_rfl
def V31 (a0 : ByteArray) (a1 : Int) (a2 : Int) (R : Mir.AV → Prop) : Prop :=
 (sel (decide (a2 < 1))
  (R (Mir.AV.tup [(Mir.AV.n (Mir.D.int .i64 0)), (Mir.AV.n (Mir.D.int .i64 0)), (Mir.AV.n (Mir.D.int .i64 1))]))
  (sel (decide (a2 > 6))
   (R (Mir.AV.tup [(Mir.AV.n (Mir.D.int .i64 0)), (Mir.AV.n (Mir.D.int .i64 0)), (Mir.AV.n (Mir.D.int .i64 1))]))
   (sel (decide (a1 < 0))
    (R (Mir.AV.tup [(Mir.AV.n (Mir.D.int .i64 0)), (Mir.AV.n (Mir.D.int .i64 0)), (Mir.AV.n (Mir.D.int .i64 1))]))
    (sel (decide (a1 > (((ByteArray.size a0) : Nat) : Int)))
     (R (Mir.AV.tup [(Mir.AV.n (Mir.D.int .i64 0)), (Mir.AV.n (Mir.D.int .i64 0)), (Mir.AV.n (Mir.D.int .i64 1))]))
     (sel (decide ((Go.IntKind.wrap .i64 ((((ByteArray.size a0) : Nat) : Int) - a1)) < a2))
      (R (Mir.AV.tup [(Mir.AV.n (Mir.D.int .i64 0)), (Mir.AV.n (Mir.D.int .i64 0)), (Mir.AV.n (Mir.D.int .i64 3))]))
      (((0 : Int) ≤ (Go.IntKind.wrap .i64 (a1 + a2))) ∧
       ((((Go.IntKind.wrap .i64 (a1 + a2)) : Int) ≤ (((ByteArray.size a0) : Nat) : Int)) ∧
        (((0 : Int) ≤ a1) ∧
         (((a1 : Int) ≤ (((Int.toNat (Go.IntKind.wrap .i64 (a1 + a2))) : Nat) : Int)) ∧
          (∃ x0 : (Int → (Int → (Int → ((List Mir.D) → (Int → (Int → Prop)))))),
           (∃ x1 : (Int → (Int → (Int → ((List Mir.D) → (Int → (Int → Nat)))))),
            (((@Eq (List (Nat × Mir.Ob)) [] []) ∧
              (x0 a1 a2 0 (Go.Mir.bytesD (ByteArray.extract a0 (Int.toNat a1) (Int.toNat (Go.IntKind.wrap .i64 (a1 + a2))))) (((List.length (Go.Mir.bytesD (ByteArray.extract a0 (Int.toNat a1) (Int.toNat (Go.IntKind.wrap .i64 (a1 + a2)))))) : Nat) : Int) 0)) ∧
             (∀ x2 : Int,
              (∀ x3 : Int,
               (∀ x4 : Int,
                (∀ x5 : (List Mir.D),
                 (∀ x6 : Int,
                  (∀ x7 : Int,
                   ((x0 x2 x3 x4 x5 x6 x7) →
                    (∀ x8 : (Nat → Mir.AV),
                     (sel (decide (x7 < x6))
                      (((1 : Nat) = 1) ∧
                       (((0 : Int) ≤ x7) ∧
                        (∃ x9 : Mir.D,
                         ((((GetElem?.getElem? x5 (Int.toNat x7)) : (Option Mir.D)) = (some x9)) ∧
                          (∃ x10 : Int,
                           ((((GetElem?.getElem? (Go.Mir.D.cells x9) 0) : (Option Mir.D)) = (some (Mir.D.int .u8 x10))) ∧
                            (((0 : Int) ≤ 8) ∧
                             ((@Eq (List (Nat × Mir.Ob)) [] []) ∧
                              ((x0 x2 x3 (Go.IntKind.wrap .i64 (((BitVec.toNat (HOr.hOr (BitVec.ofInt (Go.IntKind.bits .i64) (Go.IntKind.wrap .i64 (x4 * (2 ^ (Min.min (Int.toNat 8) (Go.IntKind.bits .i64)))))) (BitVec.ofInt (Go.IntKind.bits .i64) (Go.IntKind.wrap .i64 x10)))) : Nat) : Int)) x5 x6 (Go.IntKind.wrap .i64 (x7 + 1))) ∧
                               (((x1 x2 x3 (Go.IntKind.wrap .i64 (((BitVec.toNat (HOr.hOr (BitVec.ofInt (Go.IntKind.bits .i64) (Go.IntKind.wrap .i64 (x4 * (2 ^ (Min.min (Int.toNat 8) (Go.IntKind.bits .i64)))))) (BitVec.ofInt (Go.IntKind.bits .i64) (Go.IntKind.wrap .i64 x10)))) : Nat) : Int)) x5 x6 (Go.IntKind.wrap .i64 (x7 + 1))) : Nat) < (x1 x2 x3 x4 x5 x6 x7)))))))))))
                      (R (Mir.AV.tup [(Mir.AV.n (Mir.D.int .i64 x4)), (Mir.AV.n (Mir.D.int .i64 (Go.IntKind.wrap .i64 (x2 + x3)))), (Mir.AV.n (Mir.D.int .i64 0))])))))))))))))))))))))))
theorem vc31 (a0 : ByteArray) (a1 : Int) (a2 : Int) (R : Mir.AV → Prop) : Vc Fs c31.body (argsQ c31 [(.n (.str a0)), (.n (.int .i64 a1)), (.n (.int .i64 a2))]) [] (endQ c31 R) = V31 a0 a1 a2 R := by kernel_rfl
def V33 (a0 : ByteArray) (a1 : Int) (a2 : Int) (R : Mir.AV → Prop) : Prop :=
 (sel (decide (a2 < 1))
  (R (Mir.AV.tup [(Mir.AV.n (Mir.D.int .i64 0)), (Mir.AV.n (Mir.D.int .i64 0)), (Mir.AV.n (Mir.D.int .i64 1))]))
  (sel (decide (a2 > 6))
   (R (Mir.AV.tup [(Mir.AV.n (Mir.D.int .i64 0)), (Mir.AV.n (Mir.D.int .i64 0)), (Mir.AV.n (Mir.D.int .i64 1))]))
   (sel (decide (a1 < 0))
    (R (Mir.AV.tup [(Mir.AV.n (Mir.D.int .i64 0)), (Mir.AV.n (Mir.D.int .i64 0)), (Mir.AV.n (Mir.D.int .i64 1))]))
    (sel (decide (a1 > (((ByteArray.size a0) : Nat) : Int)))
     (R (Mir.AV.tup [(Mir.AV.n (Mir.D.int .i64 0)), (Mir.AV.n (Mir.D.int .i64 0)), (Mir.AV.n (Mir.D.int .i64 1))]))
     (sel (decide ((Go.IntKind.wrap .i64 ((((ByteArray.size a0) : Nat) : Int) - a1)) < a2))
      (R (Mir.AV.tup [(Mir.AV.n (Mir.D.int .i64 0)), (Mir.AV.n (Mir.D.int .i64 0)), (Mir.AV.n (Mir.D.int .i64 3))]))
      (∃ x0 : (ByteArray → (Int → (Int → (Int → (Int → Prop))))),
       (∃ x1 : (ByteArray → (Int → (Int → (Int → (Int → Nat))))),
        (((@Eq (List (Nat × Mir.Ob)) [] []) ∧
          (x0 a0 a1 a2 0 0)) ∧
         (∀ x2 : ByteArray,
          (∀ x3 : Int,
           (∀ x4 : Int,
            (∀ x5 : Int,
             (∀ x6 : Int,
              ((x0 x2 x3 x4 x5 x6) →
               (∀ x7 : (Nat → Mir.AV),
                (sel (decide (x6 < x4))
                 (((0 : Int) ≤ (Go.IntKind.wrap .i64 (x3 + x6))) ∧
                  (∃ x8 : UInt8,
                   ((((GetElem?.getElem? (Array.toList (ByteArray.data x2)) (Int.toNat (Go.IntKind.wrap .i64 (x3 + x6)))) : (Option UInt8)) = (some x8)) ∧
                    ((@Eq (List (Nat × Mir.Ob)) [] []) ∧
                     ((x0 x2 x3 x4 (Go.IntKind.wrap .i64 ((Go.IntKind.wrap .i64 (x5 * 256)) + (Go.IntKind.wrap .i64 (((UInt8.toNat x8) : Nat) : Int)))) (Go.IntKind.wrap .i64 (x6 + 1))) ∧
                      (((x1 x2 x3 x4 (Go.IntKind.wrap .i64 ((Go.IntKind.wrap .i64 (x5 * 256)) + (Go.IntKind.wrap .i64 (((UInt8.toNat x8) : Nat) : Int)))) (Go.IntKind.wrap .i64 (x6 + 1))) : Nat) < (x1 x2 x3 x4 x5 x6)))))))
                 (R (Mir.AV.tup [(Mir.AV.n (Mir.D.int .i64 x5)), (Mir.AV.n (Mir.D.int .i64 (Go.IntKind.wrap .i64 (x3 + x4)))), (Mir.AV.n (Mir.D.int .i64 0))]))))))))))))))))))
theorem vc33 (a0 : ByteArray) (a1 : Int) (a2 : Int) (R : Mir.AV → Prop) : Vc Fs c33.body (argsQ c33 [(.n (.str a0)), (.n (.int .i64 a1)), (.n (.int .i64 a2))]) [] (endQ c33 R) = V33 a0 a1 a2 R := by kernel_rfl
def V5 (a0 : ByteArray) (a1 : Int) (R : Mir.AV → Prop) : Prop :=
 (∃ x0 : ByteArray,
  (∃ x1 : Int,
   ((Runs Fs 17 [(Mir.AV.n (Mir.D.str a0))] [] (Mir.AV.tup [(Mir.AV.n (Mir.D.str x0)), (Mir.AV.n (Mir.D.int .i64 x1))]) []) ∧
    (∃ x2 : ByteArray,
     (∃ x3 : Int,
      ((Runs Fs 18 [(Mir.AV.n (Mir.D.str a0))] [] (Mir.AV.tup [(Mir.AV.n (Mir.D.str x2)), (Mir.AV.n (Mir.D.int .i64 x3))]) []) ∧
       (∃ x4 : ByteArray,
        (∃ x5 : Int,
         ((Runs Fs 16 [(Mir.AV.n (Mir.D.str a0)), (Mir.AV.n (Mir.D.int .i64 a1))] [] (Mir.AV.tup [(Mir.AV.n (Mir.D.str x4)), (Mir.AV.n (Mir.D.int .i64 x5))]) []) ∧
          (∃ x6 : ByteArray,
           (∃ x7 : Int,
            ((Runs Fs 19 [(Mir.AV.n (Mir.D.str a0)), (Mir.AV.n (Mir.D.int .i64 a1))] [] (Mir.AV.tup [(Mir.AV.n (Mir.D.str x6)), (Mir.AV.n (Mir.D.int .i64 x7))]) []) ∧
             (∃ x8 : Bool,
              ((Runs Fs 14 [] [] (Mir.AV.n (Mir.D.bool x8)) []) ∧
               (sel x8
                (sel ((ByteArray.toList x0) == (ByteArray.toList x2))
                 (sel (x1 == x3)
                  (sel ((ByteArray.toList x4) == (ByteArray.toList x6))
                   (sel (x5 == x7)
                    (∃ x9 : ByteArray,
                     ((Runs Fs 15 [(Mir.AV.n (Mir.D.str a0))] [] (Mir.AV.n (Mir.D.str x9)) []) ∧
                      (∃ x10 : ByteArray,
                       ((Runs Fs 20 [(Mir.AV.n (Mir.D.str a0))] [] (Mir.AV.n (Mir.D.str x10)) []) ∧
                        (R (Mir.AV.n (Mir.D.bool ((ByteArray.toList x9) == (ByteArray.toList x10)))))))))
                    (R (Mir.AV.n (Mir.D.bool false))))
                   (R (Mir.AV.n (Mir.D.bool false))))
                  (R (Mir.AV.n (Mir.D.bool false))))
                 (R (Mir.AV.n (Mir.D.bool false))))
                (R (Mir.AV.n (Mir.D.bool false))))))))))))))))))
theorem vc5 (a0 : ByteArray) (a1 : Int) (R : Mir.AV → Prop) : Vc Fs c5.body (argsQ c5 [(.n (.str a0)), (.n (.int .i64 a1))]) [] (endQ c5 R) = V5 a0 a1 R := by kernel_rfl
def V4 (a0 : ByteArray) (a1 : Int) (R : Mir.AV → Prop) : Prop :=
 (sel (decide ((((ByteArray.size a0) : Nat) : Int) > 4096))
  (∃ x0 : Bool,
   ((Runs Fs 14 [] [] (Mir.AV.n (Mir.D.bool x0)) []) ∧
    (R (Mir.AV.n (Mir.D.bool x0)))))
  (∃ x1 : ByteArray,
   ((Runs Fs 15 [(Mir.AV.n (Mir.D.str a0))] [] (Mir.AV.n (Mir.D.str x1)) []) ∧
    (sel (decide ((((ByteArray.size x1) : Nat) : Int) > 0))
     (((0 : Int) ≤ (Go.IntKind.wrap .i64 ((((ByteArray.size x1) : Nat) : Int) - 1))) ∧
      (∃ x2 : UInt8,
       ((((GetElem?.getElem? (Array.toList (ByteArray.data x1)) (Int.toNat (Go.IntKind.wrap .i64 ((((ByteArray.size x1) : Nat) : Int) - 1)))) : (Option UInt8)) = (some x2)) ∧
        (sel ((((UInt8.toNat x2) : Nat) : Int) == 0)
         (R (Mir.AV.n (Mir.D.bool false)))
         (∃ x3 : ByteArray,
          (∃ x4 : Int,
           ((Runs Fs 16 [(Mir.AV.n (Mir.D.str x1)), (Mir.AV.n (Mir.D.int .i64 (((ByteArray.size a0) : Nat) : Int)))] [] (Mir.AV.tup [(Mir.AV.n (Mir.D.str x3)), (Mir.AV.n (Mir.D.int .i64 x4))]) []) ∧
            (∃ x5 : ByteArray,
             (∃ x6 : Int,
              ((Runs Fs 16 [(Mir.AV.n (Mir.D.str a0)), (Mir.AV.n (Mir.D.int .i64 (Go.IntKind.wrap .i64 ((((ByteArray.size a0) : Nat) : Int) + (Go.Mir.mmI false (Go.Mir.mmI true a1 0) (Go.IntKind.wrap .i64 (4096 - (((ByteArray.size a0) : Nat) : Int))))))))] [] (Mir.AV.tup [(Mir.AV.n (Mir.D.str x5)), (Mir.AV.n (Mir.D.int .i64 x6))]) []) ∧
               (∃ x7 : Bool,
                ((Runs Fs 14 [] [] (Mir.AV.n (Mir.D.bool x7)) []) ∧
                 (sel x7
                  (sel (x4 == 0)
                   (sel (x6 == 0)
                    (sel ((ByteArray.toList x3) == (ByteArray.toList a0))
                     (sel ((((ByteArray.size x5) : Nat) : Int) == (Go.IntKind.wrap .i64 ((((ByteArray.size a0) : Nat) : Int) + (Go.Mir.mmI false (Go.Mir.mmI true a1 0) (Go.IntKind.wrap .i64 (4096 - (((ByteArray.size a0) : Nat) : Int)))))))
                      (∃ x8 : ByteArray,
                       ((Runs Fs 15 [(Mir.AV.n (Mir.D.str x5))] [] (Mir.AV.n (Mir.D.str x8)) []) ∧
                        (R (Mir.AV.n (Mir.D.bool ((ByteArray.toList x8) == (ByteArray.toList x1)))))))
                      (R (Mir.AV.n (Mir.D.bool false))))
                     (R (Mir.AV.n (Mir.D.bool false))))
                    (R (Mir.AV.n (Mir.D.bool false))))
                   (R (Mir.AV.n (Mir.D.bool false))))
                  (R (Mir.AV.n (Mir.D.bool false))))))))))))))))
     (∃ x9 : ByteArray,
      (∃ x10 : Int,
       ((Runs Fs 16 [(Mir.AV.n (Mir.D.str x1)), (Mir.AV.n (Mir.D.int .i64 (((ByteArray.size a0) : Nat) : Int)))] [] (Mir.AV.tup [(Mir.AV.n (Mir.D.str x9)), (Mir.AV.n (Mir.D.int .i64 x10))]) []) ∧
        (∃ x11 : ByteArray,
         (∃ x12 : Int,
          ((Runs Fs 16 [(Mir.AV.n (Mir.D.str a0)), (Mir.AV.n (Mir.D.int .i64 (Go.IntKind.wrap .i64 ((((ByteArray.size a0) : Nat) : Int) + (Go.Mir.mmI false (Go.Mir.mmI true a1 0) (Go.IntKind.wrap .i64 (4096 - (((ByteArray.size a0) : Nat) : Int))))))))] [] (Mir.AV.tup [(Mir.AV.n (Mir.D.str x11)), (Mir.AV.n (Mir.D.int .i64 x12))]) []) ∧
           (∃ x13 : Bool,
            ((Runs Fs 14 [] [] (Mir.AV.n (Mir.D.bool x13)) []) ∧
             (sel x13
              (sel (x10 == 0)
               (sel (x12 == 0)
                (sel ((ByteArray.toList x9) == (ByteArray.toList a0))
                 (sel ((((ByteArray.size x11) : Nat) : Int) == (Go.IntKind.wrap .i64 ((((ByteArray.size a0) : Nat) : Int) + (Go.Mir.mmI false (Go.Mir.mmI true a1 0) (Go.IntKind.wrap .i64 (4096 - (((ByteArray.size a0) : Nat) : Int)))))))
                  (∃ x14 : ByteArray,
                   ((Runs Fs 15 [(Mir.AV.n (Mir.D.str x11))] [] (Mir.AV.n (Mir.D.str x14)) []) ∧
                    (R (Mir.AV.n (Mir.D.bool ((ByteArray.toList x14) == (ByteArray.toList x1)))))))
                  (R (Mir.AV.n (Mir.D.bool false))))
                 (R (Mir.AV.n (Mir.D.bool false))))
                (R (Mir.AV.n (Mir.D.bool false))))
               (R (Mir.AV.n (Mir.D.bool false))))
              (R (Mir.AV.n (Mir.D.bool false))))))))))))))))
theorem vc4 (a0 : ByteArray) (a1 : Int) (R : Mir.AV → Prop) : Vc Fs c4.body (argsQ c4 [(.n (.str a0)), (.n (.int .i64 a1))]) [] (endQ c4 R) = V4 a0 a1 R := by kernel_rfl

end Go.Proofs.YtjmfgemjabaohaaDoor.M
