import Derived.Test.YtmmnobdpccdeoaaGreatDoorZ3Code
namespace Go.Proofs.YtmmnobdpccdeoaaGreatDoor.M
set_option linter.unusedVariables false
set_option linter.unusedSimpArgs false
open Go Go.Mir
set_option linter.unusedVariables false

theorem beB_num : ∀ l : List UInt8, beB (num l) l.length = l
  | [] => rfl
  | b :: r => by
    have h1 := num_bound r
    have h2 := b.toNat_lt
    have hp : (0 : Int) < 256 ^ r.length := Int.pow_pos (by decide)
    have e : num (b :: r) / 256 ^ r.length = b.toNat := by
      rw [num_cons, Int.add_comm, Int.add_mul_ediv_right _ _ (by omega), Int.ediv_eq_zero_of_lt h1.1 h1.2, Int.zero_add]
    have e2 : ∀ s, s ≤ r.length → beB (num (b :: r)) s = beB (num r) s := by
      intro s
      induction s with
      | zero => intro _; rfl
      | succ s ih =>
        intro hs
        have hd : num (b :: r) / 256 ^ s % 256 = num r / 256 ^ s % 256 := by
          have hps : (0 : Int) < 256 ^ s := Int.pow_pos (by decide)
          rw [num_cons]
          have : (b.toNat : Int) * 256 ^ r.length = (b.toNat * 256 ^ (r.length - s - 1) * 256) * 256 ^ s := by
            have : r.length = (r.length - s - 1) + 1 + s := by omega
            conv => lhs; rw [this, Int.pow_add, Int.pow_add]
            simp only [Int.pow_one, Int.mul_assoc]
          rw [this, Int.add_comm, Int.add_mul_ediv_right _ _ (by omega), Int.add_mul_emod_self_right]
        simp only [beB, hd, ih (by omega)]
    rw [List.length_cons, beB, e, e2 _ (Nat.le_refl _), beB_num r]
    congr 1
    have : ((b.toNat : Int) % 256).toNat = b.toNat := by omega
    rw [this]; simp
theorem piece_mid {f : ByteArray} {A B C : List UInt8} {at_ k : Int} (h : f.data.toList = A ++ (B ++ C)) (ha : A.length = at_.toNat) (hb : B.length = k.toNat) : piece f at_ k = B := by
  unfold piece
  rw [h, ← ha, List.drop_left, ← hb, List.take_left]
theorem ext_pre {f : ByteArray} {t : ByteArray} {C : List UInt8} {n : Nat} (h : f.data.toList = t.data.toList ++ C) (hn : n = t.size) : f.extract 0 n = t := by
  refine bytes_ext ?_
  rw [ext_data, h, hn, ← size_list, List.take_left, List.drop_zero]
theorem ext_mid {f : ByteArray} {A C : List UInt8} {b : ByteArray} {i j : Nat} (h : f.data.toList = A ++ (b.data.toList ++ C)) (hi : i = A.length) (hj : j = A.length + b.size) : f.extract i j = b := by
  refine bytes_ext ?_
  rw [ext_data, h, hi, hj, ← size_list, List.take_length_add_append, List.take_left, List.drop_left]
theorem pageB_data (k g : Int) (b : ByteArray) : (PageB k g b).data.toList = beB k 1 ++ (beB g 6 ++ (beB b.size 2 ++ b.data.toList)) := by
  unfold PageB
  rw [cat3, strOf_data, strOf_data, be_bytes, be_bytes, textOf_data]
theorem sealS_data (t : ByteArray) : ∃ c : List UInt8, c.length = 4 ∧ (SealS t).data.toList = t.data.toList ++ c := by
  refine ⟨(le4 (tv (crc t))).map Mir.byteOf, by simp [le4], ?_⟩
  unfold SealS
  rw [cat_data]
  simp [strOf_data]
theorem F_data {s : ByteArray} : (F s).data.toList = s.data.toList ++ List.replicate (4096 - s.size) 0 := by
  unfold F; rw [padB_data]
theorem F_trim {s t : ByteArray} (hs : s.size ≤ 4096) (ht : t.size ≤ 4096) (h : TrimS s = TrimS t) : F s = F t := by
  have e : tz s.data.toList = tz t.data.toList := by rw [← trimS_data, ← trimS_data, h]
  refine bytes_ext ?_
  rw [F_data, F_data]
  obtain ⟨m, h1, _⟩ := tz_split _ s.data.toList rfl
  obtain ⟨n, h2, _⟩ := tz_split _ t.data.toList rfl
  have l1 := congrArg List.length h1
  have l2 := congrArg List.length h2
  rw [List.length_append, List.length_replicate, size_list] at l1 l2
  rw [h1, h2, e, List.append_assoc, List.append_assoc, List.replicate_append_replicate, List.replicate_append_replicate]
  rw [e] at l1
  congr 2
  omega

theorem get_back' (k g : Int) (b s : ByteArray) (h : pgOK k g b) (hs : s.size ≤ 4096) (ht : TrimS s = PageS k g b) : GetPR s = .tup [pg k g b, .n (.int .i64 0)] := by
  obtain ⟨k1, k5, g0, g1, hb⟩ := id h
  have hT : (SealS (PageB k g b)).size = 13 + b.size := by rw [sealS_size, pageB_size]; omega
  have hF : F s = F (SealS (PageB k g b)) := F_trim hs (by rw [hT]; omega) (by rw [ht]; rfl)
  obtain ⟨c, hc, hS⟩ := sealS_data (PageB k g b)
  have hd : (F s).data.toList = (SealS (PageB k g b)).data.toList ++ List.replicate (4096 - (13 + b.size)) 0 := by rw [hF, F_data, hT]
  have hd2 : (F s).data.toList = beB k 1 ++ (beB g 6 ++ (beB b.size 2 ++ (b.data.toList ++ (c ++ List.replicate (4096 - (13 + b.size)) 0)))) := by
    rw [hd, hS, pageB_data]; simp only [List.append_assoc]
  have q0 : piece (F s) 0 1 = beB k 1 := piece_mid (A := []) hd2 rfl (beB_length _ _)
  have q1 : piece (F s) 1 6 = beB g 6 := piece_mid (A := beB k 1) hd2 (beB_length _ _) (beB_length _ _)
  have q7 : piece (F s) 7 2 = beB b.size 2 := piece_mid (A := beB k 1 ++ beB g 6) (B := beB b.size 2) (by rw [hd2]; simp only [List.append_assoc]; rfl) (by simp [beB_length]) (beB_length _ _)
  have n0 : num (piece (F s) 0 1) = k := by rw [q0, num_beB]; show k % 256 = k; omega
  have n1 : num (piece (F s) 1 6) = g := by rw [q1, num_beB]; show g % 281474976710656 = g; omega
  have n7 : nOf (F s) = b.size := by
    unfold nOf
    rw [q7, num_beB]
    show ((b.size : Int) % 65536).toNat = b.size
    omega
  have x0 : (F s).extract 0 (9 + b.size) = PageB k g b := ext_pre (C := c ++ List.replicate (4096 - (13 + b.size)) 0) (by rw [hd, hS, List.append_assoc]) (by rw [pageB_size])
  have x1 : (F s).extract 0 (13 + b.size) = SealS (PageB k g b) := ext_pre hd hT.symm
  have x2 : (F s).extract 9 (9 + b.size) = b := ext_mid (A := beB k 1 ++ (beB g 6 ++ beB b.size 2)) (C := c ++ List.replicate (4096 - (13 + b.size)) 0) (by rw [hd2]; simp only [List.append_assoc]) (by simp [beB_length]) (by simp [beB_length])
  have x3 : TrimS ((F s).extract (13 + b.size) 4096) = ByteArray.mk (List.toArray []) := by
    refine bytes_ext ?_
    rw [trimS_data, ext_data, hd, List.take_of_length_le (by rw [List.length_append, size_list, hT, List.length_replicate]; omega), ← hT, ← size_list, List.drop_left]
    have := tz_zeros [] (4096 - (SealS (PageB k g b)).data.toList.length)
    simpa [tz_nil] using this
  unfold GetPR
  rw [n7, n0, n1, x0, x1, x2, x3, if_neg (by omega), if_neg (by omega), if_neg (by simp), if_neg (by omega), if_neg (by simpa using h), if_neg (by simp)]

theorem pageS_size (k g : Int) (b : ByteArray) (h : pgOK k g b) : (PageS k g b).size ≤ 4013 := by
  have := trimS_size (SealS (PageB k g b))
  rw [sealS_size, pageB_size] at this
  have := h.2.2.2.2
  unfold PageS
  omega
theorem trim_pageS (k g : Int) (b : ByteArray) (n : Nat) : TrimS (padB (PageS k g b) n) = PageS k g b := by
  refine bytes_ext ?_
  rw [trimS_data, padB_data, tz_zeros, PageS, trimS_data, tz_idem]

theorem put_back (s : ByteArray) (k g : Int) (b : ByteArray) (hs : s.size ≤ 4096) (hn : nOf (F s) ≤ 4000) (h41 : SealS ((F s).extract 0 (9 + nOf (F s))) = (F s).extract 0 (13 + nOf (F s)))
    (hk : k = num (piece (F s) 0 1)) (hg : g = num (piece (F s) 1 6)) (hb : b = (F s).extract 9 (9 + nOf (F s))) (hz : TrimS ((F s).extract (13 + nOf (F s)) 4096) = ByteArray.mk (List.toArray [])) : PageS k g b = TrimS s := by
  have hF := F_size hs
  have hl : (F s).data.toList.length = 4096 := by rw [size_list, hF]
  have hbs : b.size = nOf (F s) := by rw [hb, ByteArray.size_extract, hF]; omega
  have pl : ∀ at_ k : Int, 0 ≤ at_ → 0 ≤ k → at_ + k ≤ 4096 → (piece (F s) at_ k).length = k.toNat := fun at_ k h0 h1 h2 => by
    unfold piece; rw [List.length_take, List.length_drop, hl]; omega
  have l0 := pl 0 1 (by omega) (by omega) (by omega)
  have l1 := pl 1 6 (by omega) (by omega) (by omega)
  have l7 := pl 7 2 (by omega) (by omega) (by omega)
  have b0 : beB k 1 = piece (F s) 0 1 := by have := beB_num (piece (F s) 0 1); rw [l0] at this; rw [hk]; exact this
  have b1 : beB g 6 = piece (F s) 1 6 := by have := beB_num (piece (F s) 1 6); rw [l1] at this; rw [hg]; exact this
  have b7 : beB b.size 2 = piece (F s) 7 2 := by have := beB_num (piece (F s) 7 2); rw [l7] at this; rw [hbs, nOf_eq]; exact this
  have hPB : PageB k g b = (F s).extract 0 (9 + nOf (F s)) := by
    refine bytes_ext ?_
    rw [pageB_data, b0, b1, b7, hb, ext_data, ext_data, List.drop_zero]
    unfold piece
    generalize (F s).data.toList = l at hl
    simp only [show Int.toNat 0 = 0 from rfl, show Int.toNat 1 = 1 from rfl, show Int.toNat 6 = 6 from rfl, show Int.toNat 7 = 7 from rfl, show Int.toNat 2 = 2 from rfl, List.drop_zero]
    rw [List.drop_take, show 9 + nOf (F s) - 9 = nOf (F s) by omega, show 9 + nOf (F s) = 1 + (6 + (2 + nOf (F s))) by omega, List.take_add, List.take_add (l := List.drop 1 l), List.drop_drop, List.take_add (l := List.drop (1 + 6) l), List.drop_drop]
  have e1 : PageS k g b = TrimS ((F s).extract 0 (13 + nOf (F s))) := by unfold PageS; rw [hPB, h41]
  rw [e1]
  refine bytes_ext ?_
  rw [trimS_data, trimS_data]
  have e2 : tz s.data.toList = tz (F s).data.toList := by rw [F_data, tz_zeros]
  rw [e2]
  have hz' := congrArg (fun z : ByteArray => z.data.toList) hz
  simp only [trimS_data] at hz'
  obtain ⟨m, h2, _⟩ := tz_split _ ((F s).extract (13 + nOf (F s)) 4096).data.toList rfl
  rw [hz', List.nil_append] at h2
  rw [ext_data, List.drop_zero]
  rw [ext_data, List.take_of_length_le (by omega)] at h2
  conv => rhs; rw [← List.take_append_drop (13 + nOf (F s)) (F s).data.toList, h2, tz_zeros]

theorem pg_eq (k g : Int) (b : ByteArray) : ((k == k) && ((g == g) && ((b.toList == b.toList) && true))) = true := by
  simp only [beq_self_eq_true, Bool.and_self]
def noB : ByteArray := ByteArray.mk (List.toArray [])
theorem get_none : ∃ e, e ≠ 0 ∧ GetPR noB = pErr e := by
  rcases getP_cases noB with h | ⟨k, g, b, _, hok, _, _, _, hk, _⟩
  · exact h
  · exfalso
    have : num (piece (F noB) 0 1) = 0 := by
      have hd : (F noB).data.toList = [] ++ ([0] ++ List.replicate 4095 0) := by
        rw [F_data]
        show [] ++ List.replicate 4096 0 = _
        rw [List.replicate_succ]; rfl
      rw [piece_mid (A := []) hd rfl rfl]; rfl
    rw [this] at hk
    have := hok.1
    omega

theorem p75 (ks : List Int) (hl : ks.length ≤ 9223372036854775807) (k : Int) : ∃ i, Runs Fs 75 [.o (.sl 1 (ks.map (Mir.D.int .i64))), .n (.int .i64 k)] [] (.n (.int .i64 i)) [] ∧ (0 ≤ i ↔ k ∈ ks) := by
  have hvc : Vc Fs c75.body (argsQ c75 [.o (.sl 1 (ks.map (Mir.D.int .i64))), .n (.int .i64 k)]) [] (endQ c75 fun r => ∃ i, r = .n (.int .i64 i) ∧ (0 ≤ i ↔ k ∈ ks)) := by
    rw [vc75]
    refine ⟨fun l v n i => l = ks.map (Mir.D.int .i64) ∧ v = k ∧ n = ks.length ∧ 0 ≤ i ∧ i ≤ ks.length ∧ k ∉ ks.take i.toNat, fun l v n i => (n - i).toNat, ⟨rfl, rfl, rfl, by simp, by omega, by omega, by simp⟩, ?_⟩
    rintro l v n i ⟨rfl, rfl, rfl, h0, h1, hno⟩ j
    refine sel_dec (fun h => ?_) (fun h => ?_)
    · have hlt : i.toNat < ks.length := by omega
      refine ⟨rfl, h0, .int .i64 ks[i.toNat], by rw [List.getElem?_map, List.getElem?_eq_getElem hlt]; rfl, _, rfl, sel_intro (fun he => ?_) (fun he => ?_)⟩
      · have : v = ks[i.toNat] := by simpa using he
        exact ⟨i, rfl, fun _ => by rw [this]; exact List.getElem_mem hlt, fun _ => h0⟩
      · have : v ≠ ks[i.toNat] := by simpa using he
        rw [i64_in (i + 1) (by omega)]
        refine ⟨rfl, ⟨rfl, rfl, rfl, by omega, by omega, ?_⟩, by dsimp only; omega⟩
        rw [show (i + 1).toNat = i.toNat + 1 by omega, List.take_add_one, List.getElem?_eq_getElem hlt]
        intro hm
        rcases List.mem_append.1 hm with hm | hm
        · exact hno hm
        · exact this (by simpa using hm)
    · refine ⟨-1, rfl, fun h => by omega, fun hm => ?_⟩
      rw [show i.toNat = ks.length by omega, List.take_length] at hno
      exact absurd hm hno
  obtain ⟨r, hr, i, rfl, hi⟩ := vc_runs fs75 rfl hvc
  exact ⟨i, hr, hi⟩
theorem p51 (ks : List Int) (hl : ks.length ≤ 9223372036854775807) (k : Int) : Runs Fs 51 [.o (.sl 1 (ks.map (Mir.D.int .i64))), .n (.int .i64 k)] [] (.n (.bool (decide (k ∈ ks)))) [] := by
  refine vc_eq fs51 rfl ?_
  rw [vc51]
  obtain ⟨i, hr, hi⟩ := p75 ks hl k
  exact ⟨_, hr, congrArg (fun z => AV.n (Mir.D.bool z)) (decide_eq_decide.2 hi)⟩
theorem p38_err (s : ByteArray) (hs : (s.size : Int) ≤ 9223372036854775807) (ks : List Int) (e : Int) (he : e ≠ 0) (h : GetPR s = pErr e) : Runs Fs 38 [.n (.str s), .o (.sl 1 (ks.map (Mir.D.int .i64)))] [] (pErr e) [] := by
  refine vc_eq fs38 rfl ?_
  rw [vc38]
  have g := p50 s hs
  rw [h] at g
  exact ⟨_, _, _, _, g, sel_intro (fun _ => rfl) (fun h => absurd (by simpa using h) he)⟩
theorem p38_ok (s : ByteArray) (hs : (s.size : Int) ≤ 9223372036854775807) (ks : List Int) (hl : ks.length ≤ 9223372036854775807) (k g : Int) (b : ByteArray) (h : GetPR s = .tup [pg k g b, .n (.int .i64 0)]) : Runs Fs 38 [.n (.str s), .o (.sl 1 (ks.map (Mir.D.int .i64)))] [] (if k ∈ ks then .tup [pg k g b, .n (.int .i64 0)] else pErr 40) [] := by
  refine vc_eq fs38 rfl ?_
  rw [vc38]
  have h21 := p50 s hs
  rw [h] at h21
  refine ⟨_, _, _, _, h21, sel_intro (fun h => by cases h) (fun _ => ⟨_, p51 ks hl k, ?_⟩)⟩
  by_cases hk : k ∈ ks
  · rw [decide_eq_true hk, if_pos hk]
    exact sel_intro (fun h => by cases h) (fun _ => rfl)
  · rw [decide_eq_false hk, if_neg hk]
    exact sel_intro (fun _ => rfl) (fun h => by cases h)

theorem mm_zero (k : Int) (n : Nat) (hn : n ≤ 4096) : 0 ≤ mmI false (mmI true k 0) (mmI true (IntKind.i64.wrap (4096 - (n : Int))) 0) ∧ mmI false (mmI true k 0) (mmI true (IntKind.i64.wrap (4096 - (n : Int))) 0) ≤ 4096 - n := by
  rw [i64_in _ (by omega)]
  unfold mmI
  simp only [if_true, Bool.false_eq_true, if_false]
  repeat' split
  all_goals omega
theorem app_zeros (s : ByteArray) (n : Nat) : s ++ ByteArray.mk (List.toArray (List.map Mir.byteOf (List.replicate n (Mir.D.int .u8 0)))) = padB s n := by
  refine bytes_ext ?_
  rw [app_data, padB_data]
  simp [Mir.byteOf]
theorem mm_ten (n : Nat) : 0 ≤ mmI false ((n : Nat) : Int) 10 ∧ mmI false ((n : Nat) : Int) 10 ≤ n ∧ mmI false ((n : Nat) : Int) 10 ≤ 10 := by
  unfold mmI
  simp only [Bool.false_eq_true, if_false]
  split <;> omega
end Go.Proofs.YtmmnobdpccdeoaaGreatDoor.M
