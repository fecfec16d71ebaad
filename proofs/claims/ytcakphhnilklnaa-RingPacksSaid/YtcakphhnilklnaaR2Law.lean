import Derived.Test.YtcakphhnilklnaaR2Un
import Derived.Test.YtcakphhnilklnaaMirO
namespace Go.Proofs.Ytcakphhnilklnaa.M
set_option linter.unusedVariables false
set_option linter.unusedSimpArgs false
open Go Go.Mir
set_option linter.unusedVariables false

theorem app_data (a b : ByteArray) : (a ++ b).data.toList = a.data.toList ++ b.data.toList := by simp
theorem p28 (s : ByteArray) (hs : (s.size : Int) ≤ 9223372036854775807) : Runs Fs 28 [.n (.str s)] [] (TextR s) [] := by
  refine vc_eq fs28 rfl ?_
  rw [vc28]
  refine sel_dec (fun h => by unfold TextR; rw [if_pos h]) (fun h => ?_)
  have e : [Mir.D.int .u8 (IntKind.u8.wrap (IntKind.i64.wrap (Int.tdiv ((s.size : Nat) : Int) 256))), Mir.D.int .u8 (IntKind.u8.wrap (Int.tmod ((s.size : Nat) : Int) 256))] = be s.size 2 := by
    have h1 : IntKind.u8.wrap (IntKind.i64.wrap (Int.tdiv ((s.size : Nat) : Int) 256)) = (s.size : Int) / 256 % 256 := by
      rw [Int.tdiv_eq_ediv_of_nonneg (by omega), i64_in _ (by omega), u8_wrap]
    have h2 : IntKind.u8.wrap (Int.tmod ((s.size : Nat) : Int) 256) = (s.size : Int) % 256 := by
      rw [Int.tmod_eq_emod_of_nonneg (by omega), u8_wrap]; omega
    rw [h1, h2]
    simp [be, List.range_succ]
  rw [e]
  refine ⟨by decide, by decide, rfl, .inl rfl, all_be _ _, ?_, ?_⟩
  · show (((strOf (be s.size 2)).size + s.size : Nat) : Int) ≤ _
    rw [strOf_size, be_length]; omega
  · unfold TextR
    rw [if_neg h]
    congr 3
    congr 1
    refine bytes_ext ?_
    rw [app_data, textOf_data]
    rfl


theorem p18 (s : ByteArray) (hs : s.size ≤ 65535) : Runs Fs 18 [.n (.str s)] [] (.n (.str (TextOf s))) [] := by
  refine vc_eq fs18 rfl ?_
  rw [vc18]
  have g := p28 s (by omega)
  rw [textR_small hs] at g
  exact ⟨_, _, g, rfl⟩
theorem chB_len {c : Ch} (h : chOK c = true) : (chB c).length ≤ 237 := by
  obtain ⟨k1, k2, k3⟩ := chOK_sizes h
  unfold chB
  cases c.2.2.1 <;> simp [beB_length, size_list] <;> omega
theorem packUp_bound {l : List Ch} (h : ∀ c ∈ l, chOK c = true) : ∀ i, i ≤ l.length → (packUp l i).length ≤ 1 + 237 * i
  | 0, _ => by simp [packUp, beB_length]
  | i + 1, hi => by
    have h1 := packUp_bound h i (by omega)
    rw [packUp_succ l i (by omega), List.length_append]
    have := chB_len (h _ (List.getElem_mem (by omega : i < l.length)))
    omega
theorem app_sOf (o : List UInt8) (c : Ch) (h : c.2.2.1 = true) : (sOf o ++ ByteArray.mk (List.toArray [1])) ++ TextOf c.1 = sOf (o ++ chB c) := by
  refine bytes_ext ?_
  rw [app_data, app_data, sOf_data, sOf_data, textOf_data, chB, h]
  simp
theorem app_sOf2 (o : List UInt8) (c : Ch) (h : c.2.2.1 = false) : ((sOf o ++ ByteArray.mk (List.toArray [0])) ++ TextOf c.1) ++ TextOf c.2.1 = sOf (o ++ chB c) := by
  refine bytes_ext ?_
  rw [app_data, app_data, app_data, sOf_data, sOf_data, textOf_data, textOf_data, chB, h]
  simp
set_option maxRecDepth 4000 in
set_option maxHeartbeats 1000000 in
theorem p6 (l : List Ch) (hl : (l.length : Int) ≤ 9223372036854775807) : Runs Fs 6 [.o (.sl 3 (ck l))] [] (PackR l) [] := by
  refine vc_eq fs6 rfl ?_
  rw [vc6, V6, ck_len]
  refine ⟨fun i => 0 ≤ i ∧ i ≤ l.length ∧ ∀ j : Nat, (j : Int) < i → ∀ h : j < l.length, chOK l[j] = true, fun i => (l.length - i).toNat, ⟨rfl, by omega, by omega, fun j hj => by omega⟩, ?_⟩
  rintro i ⟨h0, h1, hok⟩ _
  refine sel_dec (fun h => ?_) (fun h => ?_)
  · have hi : i.toNat < l.length := by omega
    refine ⟨rfl, h0, _, ck_at hi, _, _, _, rfl, Nat.le_refl _, _, p17 l[i.toNat], sel_intro (fun hb => ?_) (fun hb => ?_)⟩
    · rw [PackR, if_pos (List.any_eq_true.2 ⟨_, List.getElem_mem hi, hb⟩)]; rfl
    · repeat (refine And.intro rfl ?_)
      rw [i64_in _ (by omega)]
      refine ⟨⟨by omega, by omega, fun j hj hjl => ?_⟩, by first | omega | (dsimp only; omega)⟩
      by_cases hji : (j : Int) < i
      · exact hok j hji hjl
      · obtain rfl : j = i.toNat := by omega
        simpa using hb
  have hall : ∀ c ∈ l, chOK c = true := fun c hc => by
    obtain ⟨j, hj, rfl⟩ := List.getElem_of_mem hc
    exact hok j (by omega) hj
  have hany : l.any (fun c => !chOK c) = false := List.any_eq_false.2 fun c hc => by rw [hall c hc]; simp
  clear h0 h1 hok h
  refine sel_dec (fun h => by rw [PackR, if_neg (by rw [hany]; simp), if_pos (by omega)]; rfl) (fun h => ?_)
  have e0 : ByteArray.mk (List.toArray (List.map Mir.byteOf [(Mir.D.int .u8 (IntKind.u8.wrap ((l.length : Nat) : Int)))])) = sOf (packUp l 0) := by
    refine bytes_ext ?_
    rw [sOf_data, u8_wrap]
    simp [packUp, beB1, Mir.byteOf]
  rw [e0]
  refine ⟨rfl, .inl rfl, rfl, fun o i => 0 ≤ i ∧ i ≤ l.length ∧ o = sOf (packUp l i.toNat), fun o i => (l.length - i).toNat, ⟨rfl, by omega, by omega, rfl⟩, ?_⟩
  rintro o i ⟨h0, h1, rfl⟩ _
  refine sel_dec (fun hlt => ?_) (fun hge => ?_)
  · have hi : i.toNat < l.length := by omega
    have hc := hall _ (List.getElem_mem hi)
    obtain ⟨k1, k2, k3⟩ := chOK_sizes hc
    have hs := packUp_succ l i.toNat hi
    have hb := packUp_bound hall i.toNat (by omega)
    generalize hcc : l[i.toNat] = c at *
    have g1 := p18 c.1 (by omega)
    have g2 := p18 c.2.1 (by omega)
    have t1 := textOf_size c.1
    have t2 := textOf_size c.2.1
    have e1 : (ByteArray.mk (List.toArray [(1 : UInt8)])).size = 1 := by decide
    have e0 : (ByteArray.mk (List.toArray [(0 : UInt8)])).size = 1 := by decide
    have eo := sOf_size (packUp l i.toNat)
    have a1 : ((sOf (packUp l i.toNat)) ++ ByteArray.mk (List.toArray [1])).size = (sOf (packUp l i.toNat)).size + 1 := by rw [← size_list, app_data, List.length_append, size_list]; rfl
    have a0 : ((sOf (packUp l i.toNat)) ++ ByteArray.mk (List.toArray [0])).size = (sOf (packUp l i.toNat)).size + 1 := by rw [← size_list, app_data, List.length_append, size_list]; rfl
    have a00 : (((sOf (packUp l i.toNat)) ++ ByteArray.mk (List.toArray [0])) ++ TextOf c.1).size = (sOf (packUp l i.toNat)).size + 1 + (TextOf c.1).size := by rw [← a0, ← size_list, app_data, List.length_append, size_list, size_list]
    refine ⟨rfl, h0, _, (by rw [ck_at hi, hcc]), _, _, _, rfl, Nat.le_refl _, sel_intro (fun hg => ?_) (fun hg => ?_)⟩
    · refine ⟨by rw [e1]; omega, _, g1, by rw [a1]; omega, ?_⟩
      repeat (refine And.intro rfl ?_)
      rw [i64_in _ (by omega), app_sOf _ c hg, ← hs]
      exact ⟨⟨by omega, by omega, by rw [show (i + 1).toNat = i.toNat + 1 by omega]⟩, by first | omega | (dsimp only; omega)⟩
    · refine ⟨by rw [e0]; omega, _, g1, by rw [a0]; omega, _, g2, by rw [a00]; omega, ?_⟩
      repeat (refine And.intro rfl ?_)
      rw [i64_in _ (by omega), app_sOf2 _ c hg, ← hs]
      exact ⟨⟨by omega, by omega, by rw [show (i + 1).toNat = i.toNat + 1 by omega]⟩, by first | omega | (dsimp only; omega)⟩
  · rw [show i.toNat = l.length by omega, sOf_size]
    refine sel_dec (fun hz => by rw [PackR, if_neg (by rw [hany]; simp), if_neg (by omega), if_pos (by rw [PackB]; omega)]; rfl) (fun hz => ?_)
    rw [PackR, if_neg (by rw [hany]; simp), if_neg (by omega), if_neg (by rw [PackB]; omega)]; rfl
theorem ch_same (c : Ch) : ((c.1.toList == c.1.toList) && ((c.2.1.toList == c.2.1.toList) && ((c.2.2.1 == c.2.2.1) && true))) = true := by
  simp
theorem p10 (l : List Ch) (hl : (l.length : Int) ≤ 9223372036854775807) : Runs Fs 10 [.o (.sl 3 (ck l)), .o (.sl 3 (ck l))] [] (.n (.bool true)) [] := by
  refine vc_eq fs10 rfl ?_
  rw [vc10, V10, ck_len]
  refine sel_intro (fun h => by simp at h) (fun _ => ?_)
  refine ⟨fun i => 0 ≤ i ∧ i ≤ l.length, fun i => (l.length - i).toNat, ⟨rfl, by omega, by omega⟩, ?_⟩
  rintro i ⟨h0, h1⟩ _
  refine sel_dec (fun h => ?_) (fun h => rfl)
  have hi : i.toNat < l.length := by omega
  refine ⟨rfl, h0, _, ck_at hi, _, _, _, rfl, Nat.le_refl _, rfl, h0, _, ck_at hi, _, _, _, rfl, Nat.le_refl _, ?_⟩
  rw [ch_same]
  refine sel_intro (fun h => by cases h) (fun _ => ?_)
  repeat (refine And.intro rfl ?_)
  rw [i64_in _ (by omega)]
  exact ⟨⟨by omega, by omega⟩, by first | omega | (dsimp only; omega)⟩
theorem p10_nil : Runs Fs 10 [.o (.sl 3 []), .o (.sl 3 [])] [] (.n (.bool true)) [] := p10 [] (by simp)
theorem mmF (a b : Int) : mmI false a b = min a b := by
  unfold mmI
  simp only [Bool.false_eq_true, if_false]
  split <;> omega
def fewC (l : List Ch) : List Ch := if 30 < l.length ∧ l.length < 256 then l.take 30 else l.take 300
theorem ck_take (l : List Ch) (n : Nat) : List.drop 0 (List.take n (ck l)) = ck (l.take n) := by simp [ck]
set_option maxRecDepth 20000 in
theorem p4 (l : List Ch) : Runs Fs 4 [.o (.sl 3 (ck l))] [] (.o (.sl 3 (ck (fewC l)))) [] := by
  refine vc_eq fs4 rfl ?_
  rw [vc4, V4, ck_len, mmF]
  have key : ¬ (30 < l.length ∧ l.length < 256) → List.take (Min.min ((l.length : Nat) : Int) 300).toNat l = fewC l := fun h => by
    rw [fewC, if_neg h]
    by_cases h2 : l.length ≤ 300
    · rw [List.take_of_length_le (by omega), List.take_of_length_le h2]
    · rw [show (Min.min ((l.length : Nat) : Int) 300).toNat = 300 by omega]
  refine sel_dec (fun h => ?_) (fun h => ?_)
  · refine sel_dec (fun h2 => ?_) (fun h2 => ?_)
    · refine ⟨rfl, by omega, by omega, ?_⟩
      rw [ck_take, fewC, if_pos (by omega)]; rfl
    · refine ⟨rfl, by omega, by omega, ?_⟩
      rw [ck_take, key (by omega)]
  · refine ⟨rfl, by omega, by omega, ?_⟩
    rw [ck_take, key (by omega)]
theorem unpackR_form (s : ByteArray) : ∃ l e, UnpackR s = .tup [.o (.sl 3 (ck l)), .n (.int .i64 e)] ∧ l.length ≤ 255 := by
  have un : ∀ (n : Nat) a l, match unN s n a l with | .inl _ => True | .inr (l', _) => l'.length = l.length + n := fun n => by
    induction n with
    | zero => intro a l; simp [unN]
    | succ n ih =>
      intro a l
      rw [unN]
      cases h : un1 s a with
      | inl e => trivial
      | inr x =>
        obtain ⟨c, a'⟩ := x
        have := ih a' (l ++ [c])
        revert this
        dsimp only
        cases unN s n a' (l ++ [c]) with
        | inl e => exact fun _ => trivial
        | inr y => intro h2; simp at h2 ⊢; omega
  rw [UnpackR]
  split
  · exact ⟨[], 2, rfl, by simp⟩
  split
  · exact ⟨[], _, rfl, by simp⟩
  have h := un (gT s 0 1).1.toNat (gT s 0 1).2.1 []
  have hb := gT_byte s 0
  cases hu : unN s (gT s 0 1).1.toNat (gT s 0 1).2.1 [] with
  | inl e => exact ⟨[], e, rfl, by simp⟩
  | inr x =>
    obtain ⟨l, a⟩ := x
    rw [hu] at h
    simp at h
    rw [unEnd]
    split
    · exact ⟨[], 4, rfl, by simp⟩
    split
    · exact ⟨[], 4, rfl, by simp⟩
    · exact ⟨l, 0, rfl, by omega⟩
theorem packR_two (l : List Ch) : ∃ a b, PackR l = .tup [.n (.str a), .n (.int .i64 b)] := by
  unfold PackR
  split
  · exact ⟨_, _, rfl⟩
  split
  · exact ⟨_, _, rfl⟩
  split <;> exact ⟨_, _, rfl⟩
theorem p3 (l : List Ch) (hl : (l.length : Int) ≤ 9223372036854775807) (s : ByteArray) (hs : (s.size : Int) ≤ 9223372036854775807) : Runs Fs 3 [.o (.sl 3 (ck l)), .n (.str s)] [] (.n (.bool true)) [] := by
  refine vc_eq fs3 rfl ?_
  rw [vc3]
  have hf : ((fewC l).length : Int) ≤ 9223372036854775807 := by unfold fewC; split <;> simp <;> omega
  obtain ⟨a, b, e⟩ := packR_two (fewC l)
  obtain ⟨m, d, e2, hm⟩ := unpackR_form s
  have g1 := p5 (fewC l) hf
  have g2 := p6 (fewC l) hf
  have g3 := p7 s hs
  have g4 := p8 s hs
  rw [e] at g1 g2
  rw [e2] at g3 g4
  refine ⟨_, p4 l, _, _, g1, _, _, g2, _, _, g3, _, _, g4, _, p9, sel_beq (sel_beq ⟨_, p10 m (by omega), ?_⟩)⟩
  rw [beq_self_eq_true]
  rfl
abbrev chT : Ty := .sl (.st [.str, .str, .bool])
theorem len_of (x : chT.T) (h : chT.fit x) : (List.length (show List Ch from x) : Int) ≤ 9223372036854775807 := by
  have h1 : List.length (show List Ch from x) ≤ maxLen := h.1
  have e : maxLen = 9223372036854775807 := rfl
  omega
end Go.Proofs.Ytcakphhnilklnaa.M
