import Derived.Test.YtjmfgemjabaohaaMPilotG
import Derived.Test.YtjmfgemjabaohaaMPilotQ
namespace Go.Proofs.Ytjmfgemjabaohaa.M
set_option linter.unusedVariables false
set_option linter.unusedSimpArgs false
open Go Go.Mir
set_option linter.unusedVariables false

theorem getR_three (s : ByteArray) (at_ k : Int) : ∃ a b c, GetR s at_ k = .tup [.n (.int .i64 a), .n (.int .i64 b), .n (.int .i64 c)] := by
  unfold GetR
  split
  · exact ⟨_, _, _, rfl⟩
  · split <;> exact ⟨_, _, _, rfl⟩

def CutR (s : ByteArray) (at_ : Int) : AV :=
  if at_ < 0 ∨ (s.size : Int) < at_ then .tup [.n (.str (ByteArray.mk (List.toArray []))), .n (.int .i64 0), .n (.int .i64 1)]
  else if (s.size : Int) - at_ < 2 then .tup [.n (.str (ByteArray.mk (List.toArray []))), .n (.int .i64 0), .n (.int .i64 3)]
  else if (s.size : Int) - (at_ + 2) < num (piece s at_ 2) then .tup [.n (.str (ByteArray.mk (List.toArray []))), .n (.int .i64 0), .n (.int .i64 3)]
  else .tup [.n (.str (s.extract (at_ + 2).toNat (at_ + 2 + num (piece s at_ 2)).toNat)), .n (.int .i64 (at_ + 2 + num (piece s at_ 2))), .n (.int .i64 0)]
theorem cutR_three (s : ByteArray) (at_ : Int) : ∃ a b c, CutR s at_ = .tup [.n (.str a), .n (.int .i64 b), .n (.int .i64 c)] := by
  unfold CutR
  split
  · exact ⟨_, _, _, rfl⟩
  · split
    · exact ⟨_, _, _, rfl⟩
    · split <;> exact ⟨_, _, _, rfl⟩

/-- What both Cuts do behind Get. -/
theorem cut_law (s : ByteArray) (hs : (s.size : Int) ≤ 9223372036854775807) (at_ : Int) (G : Int → Int → Int → Prop) (hG : ∀ a b c, GetR s at_ 2 = .tup [.n (.int .i64 a), .n (.int .i64 b), .n (.int .i64 c)] → G a b c) :
    ∃ x0 x1 x2 : Int, G x0 x1 x2 ∧
     (sel (x2 != 0)
      (Mir.AV.tup [(Mir.AV.n (Mir.D.str (ByteArray.mk (List.toArray [])))), (Mir.AV.n (Mir.D.int .i64 0)), (Mir.AV.n (Mir.D.int .i64 x2))] = CutR s at_)
      (sel (decide ((Go.IntKind.wrap .i64 ((((ByteArray.size s) : Nat) : Int) - x1)) < x0))
       (Mir.AV.tup [(Mir.AV.n (Mir.D.str (ByteArray.mk (List.toArray [])))), (Mir.AV.n (Mir.D.int .i64 0)), (Mir.AV.n (Mir.D.int .i64 3))] = CutR s at_)
       (((0 : Int) ≤ (Go.IntKind.wrap .i64 (x1 + x0))) ∧
        ((((Go.IntKind.wrap .i64 (x1 + x0)) : Int) ≤ (((ByteArray.size s) : Nat) : Int)) ∧
         (((0 : Int) ≤ x1) ∧
          (((x1 : Int) ≤ (((Int.toNat (Go.IntKind.wrap .i64 (x1 + x0))) : Nat) : Int)) ∧
           (Mir.AV.tup [(Mir.AV.n (Mir.D.str (ByteArray.extract s (Int.toNat x1) (Int.toNat (Go.IntKind.wrap .i64 (x1 + x0)))))), (Mir.AV.n (Mir.D.int .i64 (Go.IntKind.wrap .i64 (x1 + x0)))), (Mir.AV.n (Mir.D.int .i64 0))] = CutR s at_))))))) := by
  by_cases h : at_ < 0 ∨ (s.size : Int) < at_
  · refine ⟨_, _, _, hG _ _ _ (getR_bad (by omega)), sel_intro (fun _ => ?_) (fun h => by cases h)⟩
    unfold CutR; rw [if_pos h]
  · by_cases h2 : (s.size : Int) - at_ < 2
    · refine ⟨_, _, _, hG _ _ _ (getR_short (by omega) h2), sel_intro (fun _ => ?_) (fun h => by cases h)⟩
      unfold CutR; rw [if_neg h, if_pos h2]
    · have hn := num_le (l := piece s at_ 2) (by have := piece_len s at_ 2; omega)
      refine ⟨_, _, _, hG _ _ _ (getR_good (by omega) h2), sel_intro (fun h => by cases h) (fun _ => ?_)⟩
      rw [i64_in _ (by omega)]
      refine sel_dec (fun h3 => ?_) (fun h3 => ?_)
      · unfold CutR; rw [if_neg h, if_neg h2, if_pos h3]
      · rw [i64_in _ (by omega)]
        refine ⟨by omega, by omega, by omega, by omega, ?_⟩
        unfold CutR; rw [if_neg h, if_neg h2, if_neg h3]

theorem p14 (s : ByteArray) (hs : (s.size : Int) ≤ 9223372036854775807) (at_ : Int) : Runs Fs 14 [.n (.str s), .n (.int .i64 at_)] [] (CutR s at_) [] := by
  refine vc_eq fs14 rfl ?_
  rw [vc14]
  exact cut_law s hs at_ _ fun a b c h => h ▸ (p12 s hs at_ 2)
theorem p15 (s : ByteArray) (hs : (s.size : Int) ≤ 9223372036854775807) (at_ : Int) : Runs Fs 15 [.n (.str s), .n (.int .i64 at_)] [] (CutR s at_) [] := by
  refine vc_eq fs15 rfl ?_
  rw [vc15]
  exact cut_law s hs at_ _ fun a b c h => h ▸ (p13 s hs at_ 2)

theorem sel_beq {α : Type} [BEq α] [ReflBEq α] {x : α} {A B : Prop} (h : A) : sel (x == x) A B := by rw [beq_self_eq_true]; exact h

theorem p5 (s : ByteArray) (hs : (s.size : Int) ≤ 9223372036854775807) (at_ k : Int) : Runs Fs 5 [.n (.str s), .n (.int .i64 at_), .n (.int .i64 k)] [] (.n (.bool true)) [] := by
  refine vc_eq fs5 rfl ?_
  rw [vc5]
  obtain ⟨a, b, c, hg⟩ := getR_three s at_ k
  obtain ⟨t, d, e, hc⟩ := cutR_three s at_
  have g1 := p12 s hs at_ k
  have g2 := p13 s hs at_ k
  have c1 := p14 s hs at_
  have c2 := p15 s hs at_
  rw [hg] at g1 g2
  rw [hc] at c1 c2
  refine ⟨a, b, c, g1, a, b, c, g2, t, d, e, c1, t, d, e, c2, true, p11, ?_⟩
  exact sel_intro (fun _ => sel_beq (sel_beq (sel_beq (sel_beq (sel_beq (by rw [beq_self_eq_true])))))) (fun h => by cases h)
end Go.Proofs.Ytjmfgemjabaohaa.M
