import Derived.Test.YtjmfgemjabaohaaDoorDCode
namespace Go.Proofs.YtjmfgemjabaohaaDoor.M
set_option linter.unusedVariables false
set_option linter.unusedSimpArgs false
open Go Go.Mir
set_option linter.unusedVariables false

theorem sel_beq {α : Type} [BEq α] [ReflBEq α] {x : α} {A B : Prop} (h : A) : sel (x == x) A B := by rw [beq_self_eq_true]; exact h
/-- Without the zeros at its end. -/
def tz (l : List UInt8) : List UInt8 := Lib.trimRightB l 0
theorem tz_nil : tz [] = [] := rfl
theorem tz_snoc0 (l : List UInt8) : tz (l ++ [0]) = tz l := by simp [tz, Lib.trimRightB]
theorem tz_snoc (l : List UInt8) (b : UInt8) (h : b ≠ 0) : tz (l ++ [b]) = l ++ [b] := by
  simp [tz, Lib.trimRightB, h]
theorem tz_zeros (l : List UInt8) : ∀ n, tz (l ++ List.replicate n 0) = tz l
  | 0 => by simp
  | n + 1 => by rw [List.replicate_succ', ← List.append_assoc, tz_snoc0, tz_zeros l n]
theorem snoc_cases (l : List UInt8) : l = [] ∨ ∃ r b, l = r ++ [b] := by
  rcases List.eq_nil_or_concat l with h | ⟨r, b, h⟩
  · exact .inl h
  · exact .inr ⟨r, b, by simpa using h⟩
/-- What is left, and how many zeros went. -/
theorem tz_split : ∀ (k : Nat) (l : List UInt8), l.length = k → ∃ n, l = tz l ++ List.replicate n 0 ∧ (tz l = [] ∨ ∃ r b, tz l = r ++ [b] ∧ b ≠ 0)
  | 0, l, h => by
    obtain rfl : l = [] := List.eq_nil_of_length_eq_zero h
    exact ⟨0, rfl, .inl rfl⟩
  | k + 1, l, h => by
    rcases snoc_cases l with rfl | ⟨r, b, rfl⟩
    · cases h
    · by_cases hb : b = 0
      · subst hb
        obtain ⟨n, h1, h2⟩ := tz_split k r (by simpa using h)
        rw [tz_snoc0]
        exact ⟨n + 1, by rw [List.replicate_succ', ← List.append_assoc, ← h1], h2⟩
      · rw [tz_snoc r b hb]
        exact ⟨0, by simp, .inr ⟨r, b, rfl, hb⟩⟩
theorem tz_len (l : List UInt8) : (tz l).length ≤ l.length := by
  obtain ⟨n, h, _⟩ := tz_split _ l rfl
  have := congrArg List.length h
  rw [List.length_append, List.length_replicate] at this
  omega
theorem tz_idem (l : List UInt8) : tz (tz l) = tz l := by
  obtain ⟨n, _, h | ⟨r, b, h, hb⟩⟩ := tz_split _ l rfl
  · rw [h]; rfl
  · rw [h, tz_snoc r b hb]
def TrimS (s : ByteArray) : ByteArray := trimB s 0
theorem trimS_data (s : ByteArray) : (TrimS s).data.toList = tz s.data.toList := by simp [TrimS, trimB, tz]
theorem trimS_size (s : ByteArray) : (TrimS s).size ≤ s.size := by
  have := tz_len s.data.toList
  rw [← trimS_data, size_list, size_list] at this
  exact this

theorem p15 (s : ByteArray) (hs : (s.size : Int) ≤ 9223372036854775807) : Runs Fs 15 [.n (.str s)] [] (.n (.str (TrimS s))) [] := by
  refine vc_eq fs15 rfl ?_
  rw [vc15]
  exact ⟨_, trim_runs fs29 s 0 (by decide) (by omega), rfl⟩

theorem p20 (s : ByteArray) (hs : (s.size : Int) ≤ 9223372036854775807) : Runs Fs 20 [.n (.str s)] [] (.n (.str (TrimS s))) [] := by
  refine vc_eq fs20 rfl ?_
  rw [vc20]
  refine ⟨fun t n => t = s ∧ 0 ≤ n ∧ n ≤ s.size ∧ tz (s.data.toList.take n.toNat) = tz s.data.toList, fun t n => n.toNat, ⟨rfl, rfl, by omega, by omega, by rw [show ((s.size : Nat) : Int).toNat = s.data.toList.length by simp [size_list], List.take_length]⟩, ?_⟩
  rintro t n ⟨rfl, h0, h1, hz⟩ j
  have done : tz (t.data.toList.take n.toNat) = t.data.toList.take n.toNat → 0 ≤ n ∧ (n ≤ t.size ∧ AV.n (Mir.D.str (t.extract 0 n.toNat)) = AV.n (Mir.D.str (TrimS t))) := fun h => by
    refine ⟨h0, h1, ?_⟩
    congr 2
    refine bytes_ext ?_
    rw [ext_data, trimS_data, ← hz, h]; rfl
  refine sel_dec (fun h => ?_) (fun h => ?_)
  · rw [i64_in (n - 1) (by omega)]
    have hlt : (n - 1).toNat < t.data.toList.length := by rw [size_list]; omega
    have hsp : t.data.toList.take n.toNat = t.data.toList.take (n - 1).toNat ++ [t.data.toList[(n - 1).toNat]] := by
      rw [show n.toNat = (n - 1).toNat + 1 by omega, List.take_add_one, List.getElem?_eq_getElem hlt]; rfl
    refine ⟨by omega, _, List.getElem?_eq_getElem hlt, sel_intro (fun hb => ?_) (fun hb => done ?_)⟩
    · have hb0 : t.data.toList[(n - 1).toNat] = 0 := by
        have : (t.data.toList[(n - 1).toNat]).toNat = 0 := by have := beq_iff_eq.1 hb; omega
        exact UInt8.toNat_inj.1 this
      refine ⟨rfl, ⟨rfl, by omega, by omega, ?_⟩, by dsimp only; omega⟩
      rw [← hz, hsp, hb0, tz_snoc0]
    · rw [hsp, tz_snoc]
      intro h0
      rw [h0] at hb
      simp at hb
  · refine done ?_
    have : n.toNat = 0 := by omega
    rw [this, List.take_zero]; rfl

/-- With so many zeros behind it. -/
def padB (s : ByteArray) (n : Nat) : ByteArray := ⟨(s.data.toList ++ List.replicate n 0).toArray⟩
theorem padB_data (s : ByteArray) (n : Nat) : (padB s n).data.toList = s.data.toList ++ List.replicate n 0 := by simp [padB]
theorem padB_size (s : ByteArray) (n : Nat) : (padB s n).size = s.size + n := by
  have := congrArg List.length (padB_data s n)
  rw [size_list, List.length_append, List.length_replicate, size_list] at this
  exact this
def PadR (s : ByteArray) (k : Int) : AV :=
  if k < 0 ∨ 4096 < k then .tup [.n (.str (ByteArray.mk (List.toArray []))), .n (.int .i64 1)]
  else if (s.size : Int) > k then .tup [.n (.str (ByteArray.mk (List.toArray []))), .n (.int .i64 2)]
  else .tup [.n (.str (padB s (k - s.size).toNat)), .n (.int .i64 0)]
theorem padR_two (s : ByteArray) (k : Int) : ∃ a b, PadR s k = .tup [.n (.str a), .n (.int .i64 b)] := by
  unfold PadR
  split
  · exact ⟨_, _, rfl⟩
  · split <;> exact ⟨_, _, rfl⟩
theorem padR_good {s : ByteArray} {k : Int} (h0 : (s.size : Int) ≤ k) (h1 : k ≤ 4096) : PadR s k = .tup [.n (.str (padB s (k - s.size).toNat)), .n (.int .i64 0)] := by
  unfold PadR
  rw [if_neg (by omega), if_neg (by omega)]
theorem rep_zeros : ∀ n, Lib.repeatL [(0 : UInt8)] n = List.replicate n 0
  | 0 => rfl
  | n + 1 => by rw [Lib.repeatL, rep_zeros n, List.replicate_succ]; rfl
theorem p16 (s : ByteArray) (k : Int) (hs : (s.size : Int) ≤ 9223372036854775807) : Runs Fs 16 [.n (.str s), .n (.int .i64 k)] [] (PadR s k) [] := by
  refine vc_eq fs16 rfl ?_
  rw [vc16]
  refine sel_dec (fun h => by unfold PadR; rw [if_pos (by omega)]) (fun h1 => sel_dec (fun h => by unfold PadR; rw [if_pos (by omega)]) (fun h2 => sel_dec (fun h => by unfold PadR; rw [if_neg (by omega), if_pos (by omega)]) (fun h3 => ?_)))
  rw [i64_in _ (by omega)]
  have hz : (repB (ByteArray.mk (List.toArray [0])) (k - s.size).toNat).data.toList = List.replicate (k - s.size).toNat 0 := by
    simp [repB, rep_zeros]
  have hzs : (repB (ByteArray.mk (List.toArray [0])) (k - s.size).toNat).size = (k - s.size).toNat := by
    have := congrArg List.length hz
    rwa [size_list, List.length_replicate] at this
  refine ⟨_, repeat_runs fs30 (ByteArray.mk (List.toArray [0])) (k - s.size) (by omega) (by omega) (by show 1 * _ ≤ _; omega), rfl, _, p26 [s, repB (ByteArray.mk (List.toArray [0])) (k - s.size).toNat] (by simp) (by simp only [sizes, hzs]; omega), ?_⟩
  rw [padR_good (by omega) (by omega)]
  congr 3
  congr 1
  refine bytes_ext ?_
  rw [cat_data, padB_data]
  simp only [List.map_cons, List.map_nil, List.flatten_cons, List.flatten_nil, List.append_nil, hz]
theorem app_data (a b : ByteArray) : (a ++ b).data.toList = a.data.toList ++ b.data.toList := by simp
theorem p19 (s : ByteArray) (k : Int) (hs : (s.size : Int) ≤ 9223372036854775807) : Runs Fs 19 [.n (.str s), .n (.int .i64 k)] [] (PadR s k) [] := by
  refine vc_eq fs19 rfl ?_
  rw [vc19]
  refine sel_dec (fun h => by unfold PadR; rw [if_pos (by omega)]) (fun h1 => sel_dec (fun h => by unfold PadR; rw [if_pos (by omega)]) (fun h2 => sel_dec (fun h => by unfold PadR; rw [if_neg (by omega), if_pos (by omega)]) (fun h3 => ?_)))
  rw [i64_in _ (by omega)]
  have hz : ∀ n : Nat, (ByteArray.mk (List.toArray (List.map Mir.byteOf (List.replicate n (Mir.D.int .u8 0))))).data.toList = List.replicate n 0 := fun n => by
    simp [Mir.byteOf]
  have hzs : (ByteArray.mk (List.toArray (List.map Mir.byteOf (List.replicate (k - s.size).toNat (Mir.D.int .u8 0))))).size = (k - s.size).toNat := by
    have := congrArg List.length (hz (k - s.size).toNat)
    rwa [size_list, List.length_replicate] at this
  refine ⟨by omega, by omega, rfl, .inl rfl, by simp [Mir.D.isU8], by rw [hzs]; omega, ?_⟩
  rw [padR_good (by omega) (by omega)]
  congr 3
  congr 1
  refine bytes_ext ?_
  rw [app_data, padB_data, hz]

theorem p18 (s : ByteArray) (hs : (s.size : Int) ≤ 9223372036854775807) : Runs Fs 18 [.n (.str s)] [] (TextR s) [] := by
  refine vc_eq fs18 rfl ?_
  rw [vc18]
  refine sel_dec (fun h => by unfold TextR; rw [if_pos h]) (fun h => ?_)
  have e : [Mir.D.int .u8 (IntKind.u8.wrap (IntKind.i64.wrap (Int.tdiv ((s.size : Nat) : Int) 256))), Mir.D.int .u8 (IntKind.u8.wrap (Int.tmod ((s.size : Nat) : Int) 256))] = be s.size 2 := by
    have h1 : IntKind.u8.wrap (IntKind.i64.wrap (Int.tdiv ((s.size : Nat) : Int) 256)) = (s.size : Int) / 256 % 256 := by
      rw [Int.tdiv_eq_ediv_of_nonneg (by omega), i64_in _ (by omega), u8_wrap]
    have h2 : IntKind.u8.wrap (Int.tmod ((s.size : Nat) : Int) 256) = (s.size : Int) % 256 := by
      rw [Int.tmod_eq_emod_of_nonneg (by omega), u8_wrap]; omega
    rw [h1, h2]
    simp [be, List.range_succ]
  rw [e]
  refine ⟨by decide, by decide, rfl, .inl rfl, all_be _ _, ?_, ?_⟩
  · show (((strOf (be s.size 2)).size + s.size : Nat) : Int) ≤ _
    rw [strOf_size, be_length]; omega
  · unfold TextR
    rw [if_neg h]
    congr 3
    congr 1
    refine bytes_ext ?_
    rw [app_data, textOf_data]
    rfl

theorem textR_two (s : ByteArray) : ∃ a b, TextR s = .tup [.n (.str a), .n (.int .i64 b)] := by
  unfold TextR
  split <;> exact ⟨_, _, rfl⟩
theorem p5 (s : ByteArray) (hs : (s.size : Int) ≤ 9223372036854775807) (k : Int) : Runs Fs 5 [.n (.str s), .n (.int .i64 k)] [] (.n (.bool true)) [] := by
  refine vc_eq fs5 rfl ?_
  rw [vc5]
  obtain ⟨a, b, hg⟩ := textR_two s
  obtain ⟨c, d, hc⟩ := padR_two s k
  have g1 := p17 s
  have g2 := p18 s hs
  have c1 := p16 s k hs
  have c2 := p19 s k hs
  rw [hg] at g1 g2
  rw [hc] at c1 c2
  exact ⟨_, _, g1, _, _, g2, _, _, c1, _, _, c2, true, p14, sel_intro (fun _ => sel_beq (sel_beq (sel_beq (sel_beq ⟨_, p15 s hs, _, p20 s hs, by rw [beq_self_eq_true]⟩)))) (fun h => by cases h)⟩

theorem mm_pad (k : Int) (n : Nat) (hn : n ≤ 4096) : 0 ≤ mmI false (mmI true k 0) (IntKind.i64.wrap (4096 - (n : Int))) ∧ mmI false (mmI true k 0) (IntKind.i64.wrap (4096 - (n : Int))) ≤ 4096 - n := by
  rw [i64_in _ (by omega)]
  unfold mmI
  simp only [if_true, Bool.false_eq_true, if_false]
  split <;> split <;> omega
theorem even (a0 : ByteArray) (a1 : Int) (x1 : ByteArray) (h : a0.size ≤ 4096) (hx : x1 = TrimS a0) :
(∃ x9 : ByteArray,
      (∃ x10 : Int,
       ((Runs Fs 16 [(Mir.AV.n (Mir.D.str x1)), (Mir.AV.n (Mir.D.int .i64 (((ByteArray.size a0) : Nat) : Int)))] [] (Mir.AV.tup [(Mir.AV.n (Mir.D.str x9)), (Mir.AV.n (Mir.D.int .i64 x10))]) []) ∧
        (∃ x11 : ByteArray,
         (∃ x12 : Int,
          ((Runs Fs 16 [(Mir.AV.n (Mir.D.str a0)), (Mir.AV.n (Mir.D.int .i64 (Go.IntKind.wrap .i64 ((((ByteArray.size a0) : Nat) : Int) + (Go.Mir.mmI false (Go.Mir.mmI true a1 0) (Go.IntKind.wrap .i64 (4096 - (((ByteArray.size a0) : Nat) : Int))))))))] [] (Mir.AV.tup [(Mir.AV.n (Mir.D.str x11)), (Mir.AV.n (Mir.D.int .i64 x12))]) []) ∧
           (∃ x13 : Bool,
            ((Runs Fs 14 [] [] (Mir.AV.n (Mir.D.bool x13)) []) ∧
             (sel x13
              (sel (x10 == 0)
               (sel (x12 == 0)
                (sel ((ByteArray.toList x9) == (ByteArray.toList a0))
                 (sel ((((ByteArray.size x11) : Nat) : Int) == (Go.IntKind.wrap .i64 ((((ByteArray.size a0) : Nat) : Int) + (Go.Mir.mmI false (Go.Mir.mmI true a1 0) (Go.IntKind.wrap .i64 (4096 - (((ByteArray.size a0) : Nat) : Int)))))))
                  (∃ x14 : ByteArray,
                   ((Runs Fs 15 [(Mir.AV.n (Mir.D.str x11))] [] (Mir.AV.n (Mir.D.str x14)) []) ∧
                    ((fun r => r = Mir.AV.n (Mir.D.bool true)) (Mir.AV.n (Mir.D.bool ((ByteArray.toList x14) == (ByteArray.toList x1)))))))
                  ((fun r => r = Mir.AV.n (Mir.D.bool true)) (Mir.AV.n (Mir.D.bool false))))
                 ((fun r => r = Mir.AV.n (Mir.D.bool true)) (Mir.AV.n (Mir.D.bool false))))
                ((fun r => r = Mir.AV.n (Mir.D.bool true)) (Mir.AV.n (Mir.D.bool false))))
               ((fun r => r = Mir.AV.n (Mir.D.bool true)) (Mir.AV.n (Mir.D.bool false))))
              ((fun r => r = Mir.AV.n (Mir.D.bool true)) (Mir.AV.n (Mir.D.bool false)))))))))))) := by
  subst hx
  have hm := mm_pad a1 a0.size h
  have hts := trimS_size a0
  generalize mmI false (mmI true a1 0) (IntKind.i64.wrap (4096 - ((a0.size : Nat) : Int))) = m at hm
  rw [i64_in ((a0.size : Int) + m) (by omega)]
  have c1 := p16 (TrimS a0) a0.size (by omega)
  have c2 := p16 a0 ((a0.size : Int) + m) (by omega)
  rw [padR_good (by omega) (by omega)] at c1 c2
  have e1 : padB (TrimS a0) ((a0.size : Int) - (TrimS a0).size).toNat = a0 := by
    refine bytes_ext ?_
    rw [padB_data, trimS_data]
    obtain ⟨n, h1, _⟩ := tz_split _ a0.data.toList rfl
    have h2 := congrArg List.length h1
    rw [List.length_append, List.length_replicate, ← trimS_data, size_list, size_list] at h2
    rw [show ((a0.size : Int) - (TrimS a0).size).toNat = n by omega, ← h1]
  have hz : ((padB a0 ((a0.size : Int) + m - a0.size).toNat).size : Int) = (a0.size : Int) + m := by rw [padB_size]; omega
  have e2 : TrimS (padB a0 ((a0.size : Int) + m - a0.size).toNat) = TrimS a0 := by
    refine bytes_ext ?_
    rw [trimS_data, trimS_data, padB_data, tz_zeros]
  have c3 := p15 (padB a0 ((a0.size : Int) + m - a0.size).toNat) (by omega)
  rw [e2] at c3
  rw [e1] at c1
  refine ⟨_, _, c1, _, _, c2, true, p14, sel_intro (fun _ => sel_intro (fun _ => sel_intro (fun _ => sel_beq ?_) (fun h => by cases h)) (fun h => by cases h)) (fun h => by cases h)⟩
  rw [hz]
  exact sel_beq ⟨_, c3, by rw [beq_self_eq_true]⟩
theorem p4 (s : ByteArray) (hs : (s.size : Int) ≤ 9223372036854775807) (k : Int) : Runs Fs 4 [.n (.str s), .n (.int .i64 k)] [] (.n (.bool true)) [] := by
  refine vc_eq fs4 rfl ?_
  rw [vc4]
  refine sel_dec (fun h => ⟨true, p14, rfl⟩) (fun h => ⟨_, p15 s hs, sel_dec (fun h2 => ?_) (fun h2 => even s k _ (by omega) rfl)⟩)
  obtain ⟨n, _, h3 | ⟨r, b, h3, hb⟩⟩ := tz_split _ s.data.toList rfl
  · rw [← trimS_data] at h3
    have := congrArg List.length h3
    rw [size_list] at this
    have h4 : (TrimS s).size = 0 := this
    exfalso; omega
  · rw [← trimS_data] at h3
    have hl := congrArg List.length h3
    rw [size_list, List.length_append, List.length_singleton] at hl
    have hts := trimS_size s
    have hw := i64_in (((TrimS s).size : Int) - 1) (by omega)
    refine ⟨by rw [hw]; omega, b, ?_, sel_intro (fun h => ?_) (fun _ => even s k _ (by omega) rfl)⟩
    · rw [hw, h3, show (((TrimS s).size : Int) - 1).toNat = r.length by omega]; simp
    · exfalso
      apply hb
      have := beq_iff_eq.1 h
      exact UInt8.toNat_inj.1 (by show b.toNat = 0; omega)
end Go.Proofs.YtjmfgemjabaohaaDoor.M
