import Derived.Test.YtmmnobdpccdeoaaGreatDoorZ3ScanL
namespace Go.Proofs.YtmmnobdpccdeoaaGreatDoor.M
set_option linter.unusedVariables false
set_option linter.unusedSimpArgs false
open Go Go.Mir
set_option linter.unusedVariables false

theorem mm100 (a : Int) : ∃ N : Nat, mmI false (mmI true a 0) 100 = N ∧ N ≤ 100 := by
  unfold mmI
  simp only [Bool.false_eq_true, if_false, if_true]
  split
  · split
    · exact ⟨100, rfl, by omega⟩
    · exact ⟨0, rfl, by omega⟩
  · split
    · exact ⟨100, rfl, by omega⟩
    · exact ⟨a.toNat, by omega, by omega⟩
theorem psD_take (l : List Pr) (n : Nat) : List.drop 0 (List.take n (psD l)) = psD (l.take n) := by simp [psD]
theorem psD_drop (l : List Pr) (n : Nat) : List.drop n (List.take l.length (psD l)) = psD (l.drop n) := by
  rw [← psD_len l, List.take_length, psD, psD, List.map_drop]
theorem p6 (w : Wd) (hf : WFits w) (fr : ByteArray) (m n : Int) : Runs Fs2 6 [wdV w, .n (.str fr), .n (.int .i64 m), .n (.int .i64 n)] [] (.n (.bool true)) [] := by
  have g13 := p13 w
  have g16 := p16 w hf
  obtain ⟨M, hM, M1⟩ := mm100 m
  obtain ⟨N, hN, N1⟩ := mm100 n
  refine vc_eq fs6 rfl ?_
  rw [wdV, vc6, V6, hM, hN]
  refine ⟨_, g13, sel_intro (fun _ => ⟨_, p14, rfl⟩) (fun _ => ⟨_, g16, ?_⟩)⟩
  by_cases hr : WRight w
  · rw [decide_eq_true hr]
    have hn := wr_now hr
    obtain ⟨va, vb, g17⟩ := p17 w hf hn
    refine sel_intro (fun h => by cases h) (fun _ => ⟨(), _, _, _, _, _, _, _, _, g17, sel_intro (fun _ => ⟨_, p14, rfl⟩) (fun hb => sel_dec (fun _ => ⟨_, p14, rfl⟩) (fun h32 => ?_))⟩)
    obtain ⟨h, P, B, ht, he⟩ := tree_sound hb
    obtain ⟨l1, l2⟩ := isTree_len hn ht
    have hsz := isTree_ksz ht
    have hinc := isTree_inc ht
    have sc : ∀ (k : ByteArray) (c : Nat), k.size ≤ 32 → c ≤ 200 → ScanW w k c = ((filt k P).take c, headK ((filt k P).drop c), 0) := fun k c hk hc => by
      rw [scanW_tree hr hk (by omega) (by omega) ht l1, scanR_top]
    have gA := p15 w hf fr M
    have gB := p15 w hf fr (IntKind.wrap .i64 ((M : Int) + N))
    rw [i64_in _ (by omega), show ((M : Int) + N) = ((M + N : Nat) : Int) by omega] at gB ⊢
    rw [sc fr M (by omega) (by omega)] at gA
    rw [sc fr (M + N) (by omega) (by omega)] at gB
    have hQ := filt_inc fr hinc
    have hQs : KSz (filt fr P) := fun p hp => hsz p (List.mem_filter.1 hp).1
    generalize hQe : filt fr P = Q at *
    have hsub : (Q.take (M + N)).take (Q.take M).length = Q.take M := by
      rw [List.take_take, List.length_take]
      by_cases h : M ≤ Q.length
      · rw [show min (min M Q.length) (M + N) = M by omega]
      · rw [show min (min M Q.length) (M + N) = Q.length by omega, List.take_of_length_le (Nat.le_refl _), List.take_of_length_le (by omega)]
    have hx := p19 (Q.take M) (Q.take M) (by rw [List.length_take]; omega) (by rw [List.length_take]; omega)
    rw [decide_eq_true rfl] at hx
    refine ⟨_, _, _, gA, _, _, _, gB, sel_intro (fun h => by simp at h) (fun _ => sel_intro (fun h => by simp at h) (fun _ => ?_))⟩
    dsimp only
    rw [psD_len, psD_len]
    refine sel_dec (fun h => by rw [List.length_take, List.length_take] at h; omega) (fun _ => ⟨rfl, by omega, by rw [List.length_take, List.length_take]; omega, ?_⟩)
    rw [Int.toNat_natCast, psD_take, hsub]
    refine ⟨_, hx, sel_intro (fun h => by cases h) (fun _ => ⟨_, p14, sel_intro (fun h => by cases h) (fun _ => ?_)⟩)⟩
    have emp : ∀ s : ByteArray, (s.toList == (ByteArray.mk (List.toArray [])).toList) = decide (s = empS) := fun s => beq_dec s empS
    have hds : ∀ c, KSz (Q.drop c) := fun c p hp => hQs p (List.mem_of_mem_drop hp)
    rw [emp]
    refine sel_dec (fun h => ?_) (fun h => ?_)
    · have h0 := headK_nil (hds M) h
      have hle : Q.length ≤ M := List.drop_eq_nil_iff.1 h0
      refine sel_intro (fun _ => ?_) (fun h => ?_)
      · rw [emp, List.drop_of_length_le (by omega : Q.length ≤ M + N)]
        simp [headK]
      · exfalso
        rw [List.length_take, List.length_take] at h
        simp at h; omega
    · have hgt : M < Q.length := Classical.byContradiction fun hc => h (by rw [List.drop_of_length_le (by omega)]; rfl)
      have hk : headK (Q.drop M) = Q[M].1 := by rw [List.drop_eq_getElem_cons hgt]; rfl
      have hk32 := (hQs _ (List.getElem_mem hgt)).2
      have hlow : lt Q[M].1 fr = false := by
        have : Q[M] ∈ filt fr P := by rw [hQe]; exact List.getElem_mem hgt
        have := (List.mem_filter.1 this).2
        simpa using this
      have hfl : filt Q[M].1 P = Q.drop M := by rw [filt_filt hlow, hQe, filt_at hQ hgt]
      have gC := p15 w hf Q[M].1 N
      rw [sc Q[M].1 N hk32 (by omega), hfl, List.drop_drop] at gC
      rw [hk]
      have e2 : (Q.take (M + N)).drop M = (Q.drop M).take N := by rw [List.drop_take]; congr 1; omega
      have hy := p19 ((Q.drop M).take N) ((Q.drop M).take N) (by rw [List.length_take]; omega) (by rw [List.length_take]; omega)
      rw [decide_eq_true rfl] at hy
      refine ⟨_, _, _, gC, sel_intro (fun _ => ?_) (fun h => by simp at h)⟩
      refine sel_intro (fun _ => ⟨rfl, by omega, by rw [List.length_take]; omega, ?_⟩) (fun h => ?_)
      · rw [Int.toNat_natCast, psD_drop, e2]
        exact ⟨_, hy, sel_intro (fun _ => by simp) (fun h => by cases h)⟩
      · exfalso
        rw [List.length_take] at h
        simp at h; omega
  · rw [decide_eq_false hr]
    exact sel_intro (fun _ => ⟨_, p14, rfl⟩) (fun h => by cases h)
theorem p6x (x : wdT.T) (h : wdT.fit x) (fr : ByteArray) (m n : Int) : Runs Fs2 6 [wdT.av x, .n (.str fr), .n (.int .i64 m), .n (.int .i64 n)] [] (.n (.bool true)) [] := by
  rw [wd_av]; exact p6 (toWd x) (wd_fit x h) fr m n
end Go.Proofs.YtmmnobdpccdeoaaGreatDoor.M
