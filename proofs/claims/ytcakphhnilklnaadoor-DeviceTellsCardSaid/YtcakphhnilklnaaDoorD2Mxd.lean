import Derived.Test.YtcakphhnilklnaaDoorD2Mix
namespace Go.Proofs.YtcakphhnilklnaaDoor.M
set_option linter.unusedVariables false
set_option linter.unusedSimpArgs false
open Go Go.Mir
set_option linter.unusedVariables false

theorem if_b {α : Type} (b : Bool) (x y : α) : (if b = true then x else y) = match b with | true => x | false => y := by cases b <;> rfl
theorem mix_again (old now : ByteArray) (mask : Int) : MixS (MixS old now mask) now mask = MixS old now mask := by
  refine mix_ext fun k hk => ?_
  cases hb : bt mask (k / 512)
  · simp only [Bool.false_eq_true, if_false]
    rw [mix_at, if_pos hk, hb]; simp only [Bool.false_eq_true, if_false]
  · simp only [if_true]
theorem mix_now (old now : ByteArray) (mask : Int) : MixS old (MixS old now mask) mask = MixS old now mask := by
  refine mix_ext fun k hk => ?_
  cases hb : bt mask (k / 512)
  · simp only [Bool.false_eq_true, if_false]
  · simp only [if_true]
    rw [mix_at, if_pos hk, hb]; simp only [if_true]
theorem mix_turn (old now : ByteArray) (mask m : Int) (h : ∀ i, i ≤ 7 → bt m i = !(bt mask i)) : MixS now old m = MixS old now mask := by
  refine mix_ext fun k hk => ?_
  rw [h (k / 512) (by omega)]
  cases hb : bt mask (k / 512) <;> rfl
theorem mix_none (old now : ByteArray) : MixS (MixS old now 0) noS 0 = MixS old now 0 := by
  refine mix_ext fun k hk => ?_
  simp only [bt_zero, Bool.false_eq_true, if_false]
  rw [mix_at, if_pos hk, bt_zero]; rfl
theorem mix_full (old now : ByteArray) : MixS noS now 255 = MixS old now 255 := by
  refine mix_ext fun k hk => ?_
  simp only [bt_all (k / 512) (by omega), if_true]
theorem mix_secs (old now : ByteArray) (mask i : Int) (h : 0 ≤ i ∧ i ≤ 7) : SecS (MixS old now mask) i = SecS (if bt mask i.toNat then now else old) i := by
  refine sec_ext h fun k hk => ?_
  rw [mix_at, if_pos (by omega), show (512 * i.toNat + k) / 512 = i.toNat by omega]
theorem sel_same {x : ByteArray} {A B : Prop} (h : x = x → B) : sel (Bool.not (x.toList == x.toList)) A B := sel_nb (fun h => absurd rfl h) (fun _ => h rfl)
theorem p5 (old now : ByteArray) (mask : Int) (ho : (old.size : Int) ≤ 9223372036854775807) (hn : (now.size : Int) ≤ 9223372036854775807) :
    Runs Fs 5 [.n (.str old), .n (.str now), .n (.int .i64 mask)] [] (.n (.bool true)) [] := by
  refine vc_eq fs5 rfl ?_
  rw [vc5]
  have hm : ((MixS old now mask).size : Int) ≤ 9223372036854775807 := by have := mix_size old now mask; omega
  have hz : ((MixS old now 0).size : Int) ≤ 9223372036854775807 := by have := mix_size old now 0; omega
  have h0 : ((noS.size : Nat) : Int) ≤ 9223372036854775807 := by decide
  have e1 := p18 (MixS old now mask) now mask hm hn
  rw [mix_again] at e1
  have e2 := p18 old (MixS old now mask) mask ho hm
  rw [mix_now] at e2
  have e3 := p18 now old (IntKind.i64.wrap (((BitVec.ofInt 64 (-1)) ^^^ (BitVec.ofInt 64 mask)).toNat : Int)) hn ho
  rw [mix_turn old now mask _ fun i hi => bt_not mask i hi] at e3
  refine ⟨_, p18 old now mask ho hn, _, e1, sel_same (fun _ => ⟨_, e2, sel_same (fun _ => ⟨_, e3, sel_same (fun _ => ?_)⟩)⟩)⟩
  have hsz : ¬ (((MixS old now mask).size : Nat) : Int) > 4096 := by have := mix_size old now mask; omega
  rw [decide_eq_false hsz]
  refine ⟨fun i => 0 ≤ i ∧ i ≤ 8, fun i => (8 - i).toNat, ⟨rfl, by omega, by omega⟩, ?_⟩
  rintro i ⟨i0, i8⟩ _
  refine sel_dec (fun h3 => ?_) (fun h3 => ?_)
  · refine ⟨_, p20 old i ho, i0, ?_⟩
    have hmin : Min.min (Int.toNat i) (IntKind.bits .i64) = i.toNat := by
      show Min.min (Int.toNat i) 64 = i.toNat
      omega
    rw [hmin, show IntKind.bits .i64 = 64 from rfl, and_bit, show decide (Int.fdiv mask (2 ^ i.toNat) % 2 = 1) = bt mask i.toNat from rfl]
    have es := p20 (MixS old now mask) i hm
    rw [mix_secs old now mask i ⟨by omega, by omega⟩] at es
    rw [i64_in (i + 1) (by omega)]
    refine sel_intro (fun hb => ?_) (fun hb => ?_)
    · rw [hb] at es
      exact ⟨_, p20 now i hn, _, es, sel_same (fun _ => ⟨rfl, rfl, rfl, rfl, rfl, ⟨by omega, by omega⟩, by dsimp only; omega⟩)⟩
    · rw [hb] at es
      exact ⟨_, es, sel_same (fun _ => ⟨rfl, rfl, rfl, rfl, rfl, ⟨by omega, by omega⟩, by dsimp only; omega⟩)⟩
  · have z1 := p18 (MixS old now 0) noS 0 hz h0
    rw [mix_none] at z1
    have z2 := p18 noS now 255 h0 hn
    rw [mix_full old now] at z2
    refine ⟨_, p18 old now 0 ho hn, _, p18 old now 255 ho hn, _, p15, sel_intro (fun _ => ⟨_, z1, sel_beq ⟨_, z2, ?_⟩⟩) (fun h => by cases h)⟩
    rw [beq_self_eq_true]
end Go.Proofs.YtcakphhnilklnaaDoor.M
