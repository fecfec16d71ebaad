/- slices.Backward over writes: its iterator's contract (after the kit's worked texts on slices.All). -/
import Derived.RangeFuncNested
import Derived.RangeFuncBound
import Derived.RangeFuncCalls
import Derived.RangeFuncLeaves
import Derived.Shelf.Abstract
import Derived.WalkKit
import Derived.OwnWalkIn
import Derived.TacticsInMore
import Derived.LoopNIn
import Derived.LoopIn
import Derived.Test.YtcakphhnilklnaaDoorProg
namespace Go.Proofs.YtcakphhnilklnaaDoor.M
set_option linter.unusedVariables false
set_option linter.unusedSimpArgs false
open Go Go.RowKit Go.Shelf Go.Proofs
set_option linter.unusedVariables false
set_option linter.unusedSimpArgs false
attribute [local go_sem] Oper.semAt_some

/-- What has come when so many rounds are over. -/
def upB {α : Type} (f : Nat → α) (k : Nat) : List α := (List.range k).map f
theorem upB_succ {α : Type} (f : Nat → α) (k : Nat) : upB f (k + 1) = upB f k ++ [f k] := by simp [upB, List.range_succ]
theorem upB_len {α : Type} (f : Nat → α) (k : Nat) : (upB f k).length = k := by simp [upB]
/-- Round k's write, of so many. -/
def wrAt (ps : Nat → Int × ByteArray) (len k : Nat) : Nat × Int × ByteArray := (len - 1 - k, ps (len - 1 - k))
def wrV (x : Int × ByteArray) : Value := .agg #[.int .i64 x.1, .string x.2]
set_option maxRecDepth 100000 in
set_option maxHeartbeats 2000000 in
theorem back1_in (F : Fence) (n : Nat) (h61 : F.fn 61) (hro : F.round = none) (hn : 1 ≤ n) (l Bs n₀ b off len cap : Nat) (ps : Nat → Int × ByteArray) (hreach : len ≤ 2048) (hb : b < n₀) (hBn : Bs < n₀) (J Jx : List (Nat × Int × ByteArray) → World → Prop)
    (hY : ∀ pre x W, J pre W → pre.length < len → YieldAt F (n - 1) Tryd.prog l #[.int .i64 (x.1 : Int), wrV x.2] W fun e W' =>
      (e = .returned (.bool true) ∧ J (pre ++ [x]) W' ∧ Below n₀ W W') ∨ (e = .returned (.bool false) ∧ Jx (pre ++ [x]) W'))
    (W : World) (hBs : W.cell? ⟨Bs, 0, none⟩ = some (.slice (some ⟨b, off, none⟩) len cap)) (hc : ∀ j, j < len → W.cell? ⟨b, off + j * 2, none⟩ = some (.int .i64 (ps j).1) ∧ W.cell? ⟨b, off + j * 2 + 1, none⟩ = some (.string (ps j).2)) (h0 : J [] W) :
    CallsIn F n Tryd.prog 61 #[.func (.yield l) #[] #[], .pointer (some ⟨Bs, 0, none⟩)] W fun e W' => (∃ v, e = .returned v) ∧
      (J (upB (wrAt ps len) len) W' ∨ (∃ k, k ≤ len ∧ Jx (upB (wrAt ps len) k) W')) := by
  refine callsIn_of_wp Tryd.func61 rfl h61 ?_ hro
  simp only [Tryd.ntmps61, List.size_toArray, List.length_cons, List.length_nil, Nat.reduceAdd, Nat.reduceSub, Array.replicate_succ, Array.replicate_zero, List.push_toArray, List.append_toArray, List.nil_append, List.cons_append]
  gi_wp2
  gi_loopw [3] (fun i wr => ∃ k : Nat, k ≤ len ∧ i = .int .i64 ((len : Int) - 1 - k) ∧ J (upB (wrAt ps len) k) wr ∧ Below n₀ W wr)
    (fun i _ => (intOf i + 1).toNat)
  case atStart => exact ⟨0, Nat.zero_le _, by simp, h0, Below.refl _ _⟩
  case round =>
    obtain ⟨k, hk, rfl, hJs, hnx⟩ := hrel
    by_cases hlt : k < len
    · have e1 : ((len : Int) - 1 - k) = ((len - 1 - k : Nat) : Int) := by omega
      obtain ⟨hc1, hc2⟩ := hc (len - 1 - k) (by omega)
      replace hc1 := (hnx.cell (p := ⟨b, off + (len - 1 - k) * 2, none⟩) hb).trans hc1
      replace hc2 := (hnx.cell (p := ⟨b, off + (len - 1 - k) * 2 + 1, none⟩) hb).trans hc2
      obtain ⟨fn, tmps, assign, body, hy, hR⟩ := hY _ (wrAt ps len k) wr hJs (by rw [upB_len]; exact hlt)
      dsimp only [wrAt, wrV] at hy
      have hBs' := (hnx.cell (p := ⟨Bs, 0, none⟩) hBn).trans hBs
      rw [e1]
      gi_wp2
      refine hR.mono ?_
      rintro e W3 (⟨rfl, hJ3, hk3⟩ | ⟨rfl, hJx3⟩)
      · gi_wp2
        go_roundw
        case rel => exact ⟨k + 1, by omega, by simp; omega, by rw [upB_succ]; exact hJ3, hnx.trans hk3⟩
        case measure => simp [intOf]
      · gi_wp2
        refine bodyPost_ret (results_none rfl _ _ _) rfl ?_
        exact ⟨⟨_, rfl⟩, .inr ⟨k + 1, by omega, by rw [upB_succ]; exact hJx3⟩⟩
    · obtain rfl : k = len := by omega
      have e2 : ((k : Int) - 1 - k) = -1 := by omega
      rw [e2]
      gi_wp2
      go_end0
      exact ⟨⟨_, rfl⟩, .inl hJs⟩

set_option maxRecDepth 100000 in
set_option maxHeartbeats 1000000 in
theorem back1_nil_in (F : Fence) (n : Nat) (h61 : F.fn 61) (hro : F.round = none) (l Bs cap : Nat) (a : Option Addr) (J : List (Nat × Int × ByteArray) → World → Prop) (W : World) (hBs : W.cell? ⟨Bs, 0, none⟩ = some (.slice a 0 cap)) (h0 : J [] W) :
    CallsIn F n Tryd.prog 61 #[.func (.yield l) #[] #[], .pointer (some ⟨Bs, 0, none⟩)] W fun e W' => (∃ v, e = .returned v) ∧ J [] W' := by
  refine callsIn_of_wp Tryd.func61 rfl h61 ?_ hro
  simp only [Tryd.ntmps61, List.size_toArray, List.length_cons, List.length_nil, Nat.reduceAdd, Nat.reduceSub, Array.replicate_succ, Array.replicate_zero, List.push_toArray, List.append_toArray, List.nil_append, List.cons_append]
  gi_wp2
  gi_loopw [3] (fun i wr => i = .int .i64 (-1) ∧ J [] wr) (fun _ _ => 0)
  case atStart => exact ⟨rfl, h0⟩
  case round =>
    obtain ⟨rfl, hJs⟩ := hrel
    gi_wp2
    go_end0
    exact ⟨⟨_, rfl⟩, hJs⟩
set_option maxHeartbeats 1000000 in
/-- slices.Backward: the slice's value is boxed; the function value captures the box. -/
theorem back_in (F : Fence) (n : Nat) (h46 : F.fn 46) (hro : F.round = none) (a : Option Addr) (len cap : Nat) (w : World) :
    CallsIn F n Tryd.prog 46 #[.slice a len cap] w fun e w' => e = .returned (.func (.func 61) #[] #[.pointer (some ⟨w.heap.size, 0, none⟩)]) ∧ w' = w.alloc (.cells #[.slice a len cap] 23) := by
  refine callsIn_of_wp Tryd.func46 rfl h46 ?_ hro
  simp only [Tryd.ntmps46, List.size_toArray, List.length_cons, List.length_nil, Nat.reduceAdd, Nat.reduceSub, Array.replicate_succ, Array.replicate_zero, List.push_toArray, List.append_toArray, List.nil_append, List.cons_append]
  gi_wp2
  go_ret
  exact ⟨rfl, rfl⟩
/-- A slice's value that holds these writes, in a block below n₀; or there are none. -/
def Holds2 (n₀ : Nat) (W : World) (sv : Value) (ps : List (Int × ByteArray)) : Prop :=
  ∃ a cap, sv = .slice a ps.length cap ∧ (ps = [] ∨ ∃ b off, a = some ⟨b, off, none⟩ ∧ b < n₀ ∧ ∀ j p, ps[j]? = some p → W.cell? ⟨b, off + j * 2, none⟩ = some (.int .i64 p.1) ∧ W.cell? ⟨b, off + j * 2 + 1, none⟩ = some (.string p.2))
theorem Holds2.below {n₀ : Nat} {A B : World} (h : Below n₀ A B) {sv : Value} {ps : List (Int × ByteArray)} : Holds2 n₀ A sv ps → Holds2 n₀ B sv ps
  | ⟨a, cap, e, .inl h⟩ => ⟨a, cap, e, .inl h⟩
  | ⟨a, cap, e, .inr ⟨b, off, e2, hb, hc⟩⟩ => ⟨a, cap, e, .inr ⟨b, off, e2, hb, fun j p hj => ⟨(h.cell (p := ⟨b, off + j * 2, none⟩) hb).trans (hc j p hj).1, (h.cell (p := ⟨b, off + j * 2 + 1, none⟩) hb).trans (hc j p hj).2⟩⟩⟩
def psAt (ps : List (Int × ByteArray)) (j : Nat) : Int × ByteArray := ps[j]?.getD (0, ⟨#[]⟩)
theorem back_stops (F : Fence) (n : Nat) (h61 : F.fn 61) (hro : F.round = none) (hn : 1 ≤ n) (Bs n₀ : Nat) (sv : Value) (ps : List (Int × ByteArray)) (hreach : ps.length ≤ 2048) (w : World) (hBs : Bs < n₀) (hn₀ : n₀ ≤ w.heap.size)
    (hc : w.cell? ⟨Bs, 0, none⟩ = some sv) (hI : Holds2 n₀ w sv ps) :
    SeqStopsK F n Tryd.prog 61 #[.pointer (some ⟨Bs, 0, none⟩)] (fun x : Nat × Int × ByteArray => #[Value.int .i64 (x.1 : Int), wrV x.2]) (Below n₀) (fun ys => ys = upB (wrAt (psAt ps) ps.length) ps.length)
      (fun pre => ∃ k, k ≤ ps.length ∧ pre = upB (wrAt (psAt ps) ps.length) k) ps.length w := fun l J Jx W hW _ _ hY h0 => by
  have hc' := (hW.cell (p := ⟨Bs, 0, none⟩) (show Bs < _ by omega)).trans hc
  obtain ⟨a, cap, rfl, rfl | ⟨b, off, rfl, hb, hcs⟩⟩ := hI.below (hW.mono hn₀)
  · exact (back1_nil_in F n h61 hro l Bs cap a J W hc' h0).mono fun e W' ⟨he, hj⟩ => ⟨he, .inl ⟨_, rfl, hj⟩⟩
  · refine (back1_in F n h61 hro hn l Bs n₀ b off ps.length cap (psAt ps) hreach hb hBs J Jx hY W hc' (fun j hj => ?_) h0).mono ?_
    · have := hcs j _ (List.getElem?_eq_getElem hj)
      rw [psAt, List.getElem?_eq_getElem hj]; exact this
    · rintro e W' ⟨he, hj | ⟨k, hk, hj⟩⟩
      · exact ⟨he, .inl ⟨_, rfl, hj⟩⟩
      · exact ⟨he, .inr ⟨_, ⟨k, hk, rfl⟩, hj⟩⟩
end Go.Proofs.YtcakphhnilklnaaDoor.M
