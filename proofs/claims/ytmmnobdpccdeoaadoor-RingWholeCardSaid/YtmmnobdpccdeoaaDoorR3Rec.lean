import Derived.Test.YtmmnobdpccdeoaaDoorR3Scan
import Derived.Test.YtmmnobdpccdeoaaDoorR3Sup7
namespace Go.Proofs.YtmmnobdpccdeoaaDoor.M
set_option linter.unusedVariables false
set_option linter.unusedSimpArgs false
open Go Go.Mir
set_option linter.unusedVariables false

/-! All or nothing. -/
theorem at_none {s : ByteArray} {k : Nat} (h : s.size ≤ k) : At s k = 0 := by
  rw [At, atL, List.getElem?_eq_none (by rw [size_list]; exact h)]; rfl
theorem mix_small {a b : ByteArray} (m : Int) (ha : a.size ≤ 512) (hb : b.size ≤ 512) (ta : TrimS a = a) (tb : TrimS b = b) : MixS a b m = if bt m 0 then b else a := by
  refine tm_ext (mix_trim a b m) (by split <;> assumption) fun k => ?_
  rw [mix_at]
  by_cases h : k < 512
  · rw [if_pos (by omega), Nat.div_eq_of_lt h]
  · rw [show At (if bt m 0 then b else a) k = 0 by split <;> exact at_none (by omega)]
    split
    · split <;> exact at_none (by omega)
    · rfl
theorem p4 (gen no : Int) (body old : ByteArray) (mask : Int) : Runs Fs 4 [.n (.int .i64 gen), .n (.int .i64 no), .n (.str body), .n (.str old), .n (.int .i64 mask)] [] (.n (.bool true)) [] := by
  refine vc_eq fs4 rfl ?_
  rw [vc4, V4]
  obtain ⟨m1, m2, m3⟩ := mm480 old
  have g1 := p19 gen no body
  generalize hG : mmI true (IntKind.wrap .i64 (gen - 1)) 1 = G
  have g2 := p19 G no (cut480 old)
  rw [m3]
  rcases rPut_cases gen no body with ⟨ok1, h1⟩ | ⟨_, e1, n1, h1⟩
  · rw [h1] at g1
    rcases rPut_cases G no (cut480 old) with ⟨ok2, h2⟩ | ⟨_, e2, n2, h2⟩
    · rw [h2] at g2
      refine ⟨_, _, g1, m1, m2, _, _, g2, sel_intro (fun h => by cases h) (fun _ => sel_intro (fun h => by cases h) (fun _ => ?_))⟩
      have z1 := recS_size ok1
      have z2 := recS_size ok2
      have t1 := recS_trim gen no body
      have t2 := recS_trim G no (cut480 old)
      have hrt : Rt [RecS G no (cut480 old)] [(0, RecS gen no body, ())] = true := rt_mk ⟨by simp, by simp, by simp⟩ (fun s hs => by
        rw [List.mem_singleton.1 hs]; exact tm_of t2 (by omega)) (fun w hw => by
        rw [List.mem_singleton.1 hw]
        rw [Wm, tm_of t1 (by omega)]; rfl)
      have g3 := p21 [RecS G no (cut480 old)] [(0, RecS gen no body, ())] [mask] ⟨by simp, by simp, fun s hs => by
        rw [List.mem_singleton.1 hs]; omega, fun w hw => by
        rw [List.mem_singleton.1 hw]
        dsimp only
        omega⟩
      rw [CrashR, if_pos hrt] at g3
      have hcr : CrL (mk false [mask]) [RecS G no (cut480 old)] [(0, RecS gen no body, ())] [((0 : Int), RecS gen no body, ())].length = [MixS (RecS G no (cut480 old)) (RecS gen no body) mask] := rfl
      rw [hcr, mix_small mask (by omega) (by omega) t2 t1] at g3
      have hbt : decide (mask % 2 = 1) = bt mask 0 := by
        have : mask.fdiv (2 ^ 0) = mask := by simp
        rw [bt, this]
      refine ⟨rfl, rfl, rfl, _, _, _, g3, sel_intro (fun h => by cases h) (fun _ => sel_intro (fun h => by cases h) (fun _ => ?_))⟩
      rw [show IntKind.bits .i64 = 64 from rfl, and_bit, hbt]
      refine sel_intro (fun h => ?_) (fun h => ?_)
      · have hb : bt mask 0 = true := h
        refine ⟨_, p20, sel_intro (fun _ => ⟨rfl, by decide, _, rfl, _, rfl, ?_⟩) (fun h => by cases h)⟩
        rw [if_pos hb, beq_self_eq_true]
      · have hb : bt mask 0 = false := h
        refine ⟨_, p20, sel_intro (fun _ => ⟨rfl, by decide, _, rfl, _, rfl, ?_⟩) (fun h => by cases h)⟩
        rw [if_neg (by rw [hb]; simp), beq_self_eq_true]
    · rw [h2] at g2
      exact ⟨_, _, g1, m1, m2, _, _, g2, sel_intro (fun h => by cases h) (fun _ => sel_intro (fun _ => ⟨_, p20, rfl⟩) (fun h => absurd (by simpa using h) n2))⟩
  · rw [h1] at g1
    obtain ⟨a, b, e⟩ : ∃ a b, RPutR G no (cut480 old) = .tup [.n (.str a), .n (.int .i64 b)] := by
      rcases rPut_cases G no (cut480 old) with ⟨_, h⟩ | ⟨_, _, _, h⟩ <;> exact ⟨_, _, h⟩
    rw [e] at g2
    exact ⟨_, _, g1, m1, m2, _, _, g2, sel_intro (fun _ => ⟨_, p20, rfl⟩) (fun h => absurd (by simpa using h) n1)⟩

/-! Packed and unpacked. -/
theorem gT_at {s : ByteArray} {A C : List UInt8} {b : UInt8} {a : Int} (h : s.data.toList = A ++ b :: C) (ha : a = A.length) : gT s a 1 = ((b.toNat : Int), a + 1, 0) := by
  have hl : s.size = A.length + 1 + C.length := by rw [← size_list, h]; simp; omega
  have hp : piece s a 1 = [b] := piece_mid (A := A) (B := [b]) (C := C) (by rw [h]; rfl) (by omega) rfl
  rw [gT, getR_good (by omega) (by omega), hp]
  simp [g3, num]
theorem cT_at {s t : ByteArray} {A C : List UInt8} {a : Int} (h : s.data.toList = A ++ ((beB t.size 2 ++ t.data.toList) ++ C)) (ha : a = A.length) (ht : t.size ≤ 65535) : cT s a = (t, a + 2 + t.size, 0) := by
  have e : s = cat [sOf A, TextOf t, sOf C] := bytes_ext (by rw [cat3, sOf_data, sOf_data, textOf_data, h])
  have hA : (sOf A).size = A.length := sOf_size A
  have := cut_back t (sOf A) (sOf C) (by omega)
  rw [← e, hA, ← ha] at this
  rw [cT, this]; rfl
theorem un1_at {s : ByteArray} {A C : List UInt8} {c : Ch} {a : Int} (hc : chOK c = true) (h : s.data.toList = A ++ (chB c ++ C)) (ha : a = A.length) : un1 s a = .inr (c, a + (chB c).length) := by
  obtain ⟨k1, k2, k3⟩ := chOK_sizes hc
  obtain ⟨key, val, gone, u⟩ := c
  cases u
  dsimp only at k1 k2 k3
  cases gone with
  | true =>
    have hv : val = empS := by
      rw [chOK, Bool.and_eq_true] at hc
      simpa using hc.2
    subst hv
    have hd : s.data.toList = A ++ (1 : UInt8) :: ((beB key.size 2 ++ key.data.toList) ++ C) := by rw [h]; simp [chB]
    have e1 := gT_at hd ha
    have e2 := cT_at (s := s) (t := key) (A := A ++ [1]) (C := C) (a := a + 1) (by rw [hd]; simp) (by simp; omega) (by omega)
    have n1 : ((1 : UInt8).toNat : Int) = 1 := rfl
    rw [un1, e1, n1]
    dsimp only
    rw [if_neg (by simp), if_neg (by omega), e2]
    dsimp only
    rw [if_neg (by simp), if_pos rfl]
    have hl : (chB (key, empS, true, ())).length = 1 + 2 + key.size := by simp [chB, beB_length, size_list]; omega
    rw [hl]
    congr 2
    push_cast
    omega
  | false =>
    have hd : s.data.toList = A ++ (0 : UInt8) :: ((beB key.size 2 ++ key.data.toList) ++ ((beB val.size 2 ++ val.data.toList) ++ C)) := by rw [h]; simp [chB]
    have e1 := gT_at hd ha
    have e2 := cT_at (s := s) (t := key) (A := A ++ [0]) (C := (beB val.size 2 ++ val.data.toList) ++ C) (a := a + 1) (by rw [hd]; simp) (by simp; omega) (by omega)
    have hAl : (A ++ [(0 : UInt8)] ++ (beB key.size 2 ++ key.data.toList)).length = A.length + 1 + 2 + key.size := by simp [beB_length, size_list]; omega
    have e3 := cT_at (s := s) (t := val) (A := A ++ [0] ++ (beB key.size 2 ++ key.data.toList)) (C := C) (a := a + 1 + 2 + key.size) (by rw [hd]; simp) (by rw [hAl]; push_cast; omega) (by omega)
    have n0 : ((0 : UInt8).toNat : Int) = 0 := rfl
    rw [un1, e1, n0]
    dsimp only
    rw [if_neg (by simp), if_neg (by omega), e2]
    dsimp only
    rw [if_neg (by simp), if_neg (by omega), e3]
    dsimp only
    rw [if_neg (by simp)]
    have hl : (chB (key, val, false, ())).length = 1 + 2 + key.size + (2 + val.size) := by simp [chB, beB_length, size_list]; omega
    rw [hl]
    congr 2
    push_cast
    omega
theorem unN_at {s : ByteArray} : ∀ (l : List Ch) (A C : List UInt8) (a : Int) (acc : List Ch), (∀ c ∈ l, chOK c = true) → s.data.toList = A ++ ((l.map chB).flatten ++ C) → a = A.length → unN s l.length a acc = .inr (acc ++ l, a + ((l.map chB).flatten).length)
  | [], A, C, a, acc, _, _, _ => by simp [unN]
  | c :: r, A, C, a, acc, hok, h, ha => by
    have h1 := un1_at (hok c (List.mem_cons_self ..)) (A := A) (C := (r.map chB).flatten ++ C) (by rw [h]; simp) ha
    rw [List.length_cons, unN_r h1, unN_at r (A ++ chB c) C _ _ (fun d hd => hok d (List.mem_cons_of_mem _ hd)) (by rw [h]; simp) (by simp; omega)]
    simp only [List.append_assoc, List.cons_append, List.nil_append, List.map_cons, List.flatten_cons, List.length_append]
    congr 2
    push_cast
    omega
theorem pack_back {l : List Ch} (hok : l.any (fun c => !chOK c) = false) (hn : l.length ≤ 255) (hs : (PackB l).length ≤ 480) : UnpackR (sOf (PackB l)) = .tup [.o (.sl 3 (ck l)), .n (.int .i64 0)] := by
  have hok' : ∀ c ∈ l, chOK c = true := fun c hc => by simpa using List.any_eq_false.1 hok c hc
  have hd : (sOf (PackB l)).data.toList = [UInt8.ofNat ((l.length : Int) % 256).toNat] ++ ((l.map chB).flatten ++ []) := by
    rw [sOf_data, PackB, packUp, List.take_length, beB1, List.append_nil]
  have hz : ((UInt8.ofNat ((l.length : Int) % 256).toNat).toNat : Int) = l.length := by
    rw [UInt8.toNat_ofNat']; omega
  have e0 := gT_at (s := sOf (PackB l)) (A := []) (C := (l.map chB).flatten) (b := UInt8.ofNat ((l.length : Int) % 256).toNat) (a := 0) (by rw [hd]; simp) rfl
  rw [hz] at e0
  have hsz := sOf_size (PackB l)
  have hl : (PackB l).length = 1 + ((l.map chB).flatten).length := by
    have := congrArg List.length hd
    rw [sOf_data] at this
    simp only [List.length_append, List.length_cons, List.length_nil] at this
    omega
  rw [unpackR_go (by omega) (by rw [e0]), e0]
  dsimp only
  have := unN_at (s := sOf (PackB l)) l [UInt8.ofNat ((l.length : Int) % 256).toNat] [] 1 [] hok' hd rfl
  rw [show (l.length : Int).toNat = l.length from rfl, show (0 : Int) + 1 = 1 from rfl, this, List.nil_append, unEnd, if_neg (by rw [hsz, hl]; push_cast; omega), if_neg (by rw [hok]; simp)]
/-- The bytes that were read. -/
theorem gT_read {s : ByteArray} {a : Int} (h : (gT s a 1).2.2 = 0) : 0 ≤ a ∧ (gT s a 1).2.1 = a + 1 ∧ a + 1 ≤ s.size ∧ ∃ b : UInt8, (gT s a 1).1 = b.toNat ∧ s.data.toList.take (a + 1).toNat = s.data.toList.take a.toNat ++ [b] := by
  by_cases h1 : (1 : Int) < 1 ∨ (6 : Int) < 1 ∨ a < 0 ∨ (s.size : Int) < a
  · rw [gT, getR_bad h1] at h; cases h
  · by_cases h2 : (s.size : Int) - a < 1
    · rw [gT, getR_short h1 h2] at h; cases h
    · have hlt : a.toNat < s.data.toList.length := by rw [size_list]; omega
      have hp : piece s a 1 = [s.data.toList[a.toNat]] := by
        unfold piece
        rw [show Int.toNat 1 = 1 from rfl, List.drop_eq_getElem_cons hlt, List.take_succ_cons, List.take_zero]
      refine ⟨by omega, ?_, by omega, s.data.toList[a.toNat], ?_, ?_⟩
      · rw [gT, getR_good h1 h2]; rfl
      · rw [gT, getR_good h1 h2, hp]; simp [g3, num]
      · rw [show (a + 1).toNat = a.toNat + 1 by omega, take_snoc hlt]
theorem cT_read {s : ByteArray} {a : Int} (h : (cT s a).2.2 = 0) : 0 ≤ a ∧ (cT s a).2.1 = a + 2 + (cT s a).1.size ∧ (cT s a).2.1 ≤ s.size ∧ s.data.toList.take (cT s a).2.1.toNat = s.data.toList.take a.toNat ++ (beB (cT s a).1.size 2 ++ (cT s a).1.data.toList) := by
  by_cases h1 : a < 0 ∨ (s.size : Int) < a
  · rw [cT, CutR, if_pos h1] at h; cases h
  by_cases h2 : (s.size : Int) - a < 2
  · rw [cT, CutR, if_neg h1, if_pos h2] at h; cases h
  by_cases h3 : (s.size : Int) - (a + 2) < num (piece s a 2)
  · rw [cT, CutR, if_neg h1, if_neg h2, if_pos h3] at h; cases h
  have e : cT s a = (s.extract (a + 2).toNat (a + 2 + num (piece s a 2)).toNat, a + 2 + num (piece s a 2), 0) := by
    rw [cT, CutR, if_neg h1, if_neg h2, if_neg h3]; rfl
  rw [e]
  dsimp only
  have hn := num_bound (piece s a 2)
  have hpl : (piece s a 2).length = 2 := by
    unfold piece
    rw [List.length_take, List.length_drop, size_list]
    have : Int.toNat 2 = 2 := rfl
    omega
  have hb := beB_num (piece s a 2)
  rw [hpl] at hb
  have hsz : ((s.extract (a + 2).toNat (a + 2 + num (piece s a 2)).toNat).size : Int) = num (piece s a 2) := by
    rw [ByteArray.size_extract]; omega
  rw [hsz, hb, ext_data]
  refine ⟨by omega, rfl, by omega, ?_⟩
  unfold piece
  generalize hN : num (List.take (Int.toNat 2) (List.drop a.toNat s.data.toList)) = N
  have hN' : num (piece s a 2) = N := hN
  rw [hN'] at hn h3
  generalize s.data.toList = L
  rw [show Int.toNat 2 = 2 from rfl, List.drop_take, show (a + 2 + N).toNat = a.toNat + (2 + N.toNat) by omega, List.take_add, List.take_add, List.drop_drop, show (a + 2).toNat = a.toNat + 2 by omega, show a.toNat + (2 + N.toNat) - (a.toNat + 2) = N.toNat by omega]
theorem un1_read {s : ByteArray} {a a' : Int} {c : Ch} (h : un1 s a = .inr (c, a')) : 0 ≤ a ∧ a ≤ a' ∧ a' ≤ s.size ∧ s.data.toList.take a'.toNat = s.data.toList.take a.toNat ++ chB c := by
  unfold un1 at h
  split at h
  · cases h
  rename_i e1
  have e1 : (gT s a 1).2.2 = 0 := by simpa using e1
  obtain ⟨h0, n1, h1, b, hb, t1⟩ := gT_read e1
  split at h
  · cases h
  rename_i e2
  split at h
  · cases h
  rename_i e3
  have e3 : (cT s (gT s a 1).2.1).2.2 = 0 := by simpa using e3
  rw [n1] at h e3
  obtain ⟨_, n2, h2, t2⟩ := cT_read e3
  rw [t1] at t2
  split at h
  · rename_i hg
    simp only [Sum.inr.injEq, Prod.mk.injEq] at h
    obtain ⟨rfl, rfl⟩ := h
    have hb1 : b = 1 := by
      have : (b.toNat : Int) = 1 := by rw [← hb]; exact hg
      exact UInt8.toNat_inj.1 (by rw [show (1 : UInt8).toNat = 1 from rfl]; omega)
    refine ⟨h0, by omega, h2, ?_⟩
    rw [t2, hb1]
    simp [chB]
  · rename_i hg
    split at h
    · cases h
    rename_i e4
    have e4 : (cT s (cT s (a + 1)).2.1).2.2 = 0 := by simpa using e4
    obtain ⟨_, n3, h3, t3⟩ := cT_read e4
    rw [t2] at t3
    simp only [Sum.inr.injEq, Prod.mk.injEq] at h
    obtain ⟨rfl, rfl⟩ := h
    have hb0 : b = 0 := by
      have h5 : ¬ (b.toNat : Int) = 1 := by rw [← hb]; exact hg
      have h6 : ¬ 1 < (b.toNat : Int) := by rw [← hb]; exact e2
      exact UInt8.toNat_inj.1 (by rw [show (0 : UInt8).toNat = 0 from rfl]; omega)
    refine ⟨h0, by omega, h3, ?_⟩
    rw [t3, hb0]
    simp [chB]
theorem unN_read {s : ByteArray} : ∀ (n : Nat) (a a' : Int) (acc l : List Ch), unN s n a acc = .inr (l, a') → ∃ r, l = acc ++ r ∧ r.length = n ∧ (0 ≤ a → a ≤ s.size → a ≤ a' ∧ a' ≤ s.size ∧ s.data.toList.take a'.toNat = s.data.toList.take a.toNat ++ (r.map chB).flatten)
  | 0, a, a', acc, l, h => by
    simp only [unN, Sum.inr.injEq, Prod.mk.injEq] at h
    obtain ⟨rfl, rfl⟩ := h
    exact ⟨[], by simp, rfl, fun h0 h1 => ⟨Int.le_refl _, h1, by simp⟩⟩
  | n + 1, a, a', acc, l, h => by
    cases hu : un1 s a with
    | inl e => rw [unN_l hu] at h; cases h
    | inr x =>
      obtain ⟨c, a1⟩ := x
      rw [unN_r hu] at h
      obtain ⟨r, hr, hn, hd⟩ := unN_read n a1 a' (acc ++ [c]) l h
      obtain ⟨h0, h1, h2, t1⟩ := un1_read hu
      refine ⟨c :: r, by rw [hr]; simp, by simp [hn], fun _ _ => ?_⟩
      obtain ⟨h3, h4, t2⟩ := hd (by omega) h2
      refine ⟨by omega, h4, ?_⟩
      rw [t2, t1]; simp
theorem unpack_cases (s : ByteArray) : (∃ e, e ≠ 0 ∧ UnpackR s = uErr e) ∨ ∃ l : List Ch, UnpackR s = .tup [.o (.sl 3 (ck l)), .n (.int .i64 0)] ∧ PackR l = .tup [.n (.str s), .n (.int .i64 0)] ∧ l.length ≤ 255 := by
  by_cases h1 : 480 < s.size
  · exact .inl ⟨2, by decide, by rw [UnpackR, if_pos h1]⟩
  by_cases h2 : (gT s 0 1).2.2 = 0
  · obtain ⟨_, n1, hsz, b, hb, t1⟩ := gT_read h2
    rw [unpackR_go h1 h2]
    cases hu : unN s (gT s 0 1).1.toNat (gT s 0 1).2.1 [] with
    | inl e =>
      by_cases he : e = 0
      · subst he
        exfalso
        -- no reading ends in no error
        have : ∀ (n : Nat) (a : Int) (l : List Ch), unN s n a l ≠ .inl 0 := fun n => by
          induction n with
          | zero => intro a l h; simp [unN] at h
          | succ n ih =>
            intro a l h
            cases h3 : un1 s a with
            | inl e =>
              rw [unN_l h3] at h
              simp only [Sum.inl.injEq] at h
              subst h
              unfold un1 at h3
              split at h3
              · rename_i h4; simp only [Sum.inl.injEq] at h3; exact h4 h3
              split at h3
              · simp at h3
              split at h3
              · rename_i h4; simp only [Sum.inl.injEq] at h3; exact h4 h3
              split at h3
              · simp at h3
              split at h3
              · rename_i h4; simp only [Sum.inl.injEq] at h3; exact h4 h3
              · simp at h3
            | inr x => rw [unN_r h3] at h; exact ih _ _ h
        exact this _ _ _ hu
      · exact .inl ⟨e, he, rfl⟩
    | inr x =>
      obtain ⟨l, a'⟩ := x
      rw [unEnd]
      by_cases h3 : a' ≠ (s.size : Int)
      · rw [if_pos h3]; exact .inl ⟨4, by decide, rfl⟩
      rw [if_neg h3]
      by_cases h4 : l.any (fun c => !chOK c) = true
      · rw [if_pos h4]; exact .inl ⟨4, by decide, rfl⟩
      rw [if_neg h4]
      refine .inr ⟨l, rfl, ?_⟩
      obtain ⟨r, hr, hn, hd⟩ := unN_read _ _ _ _ _ hu
      rw [List.nil_append] at hr
      rw [hr] at h4
      rw [hr]
      obtain ⟨_, _, t2⟩ := hd (by omega) (by omega)
      have hbn := b.toNat_lt
      have hl : r.length = b.toNat := by rw [hn, hb]; rfl
      rw [n1] at t2
      have ha' : a'.toNat = s.data.toList.length := by rw [size_list]; have : a' = s.size := by simpa using h3
                                                       omega
      rw [ha', List.take_length, show (0 : Int) + 1 = 1 from rfl] at t2
      rw [show (0 : Int) + 1 = 1 from rfl] at t1
      rw [t1] at t2
      have hP : PackB r = s.data.toList := by
        rw [t2, PackB, packUp, List.take_length, beB1, hl]
        have : UInt8.ofNat (((b.toNat : Nat) : Int) % 256).toNat = b := by
          rw [show (((b.toNat : Nat) : Int) % 256).toNat = b.toNat by omega]
          exact UInt8.ofNat_toNat
        rw [this]; simp
      refine ⟨?_, by omega⟩
      rw [PackR, if_neg h4, if_neg (by omega), hP, if_neg (by rw [size_list]; exact h1)]
      congr 3
  · exact .inl ⟨_, h2, unpackR_bad h1 h2⟩
theorem pack_cases (l : List Ch) : (∃ e, e ≠ 0 ∧ PackR l = sErr e) ∨ (PackR l = .tup [.n (.str (sOf (PackB l))), .n (.int .i64 0)] ∧ (PackB l).length ≤ 480 ∧ l.length ≤ 255 ∧ UnpackR (sOf (PackB l)) = .tup [.o (.sl 3 (ck l)), .n (.int .i64 0)]) := by
  unfold PackR
  by_cases h1 : l.any (fun c => !chOK c) = true
  · rw [if_pos h1]; exact .inl ⟨1, by decide, rfl⟩
  rw [if_neg h1]
  by_cases h2 : 255 < l.length
  · rw [if_pos h2]; exact .inl ⟨2, by decide, rfl⟩
  rw [if_neg h2]
  by_cases h3 : 480 < (PackB l).length
  · rw [if_pos h3]; exact .inl ⟨2, by decide, rfl⟩
  rw [if_neg h3]
  exact .inr ⟨rfl, by omega, by omega, pack_back (by simpa using h1) (by omega) (by omega)⟩
theorem fewC_len (l : List Ch) : (fewC l).length ≤ 300 := by
  unfold fewC; split <;> (rw [List.length_take]; omega)
/-- What comes last of RingBack. -/
theorem back_end (body : ByteArray) (hb : (body.size : Int) ≤ 9223372036854775807) : ∃ x : List D, ∃ e : Int, Runs Fs 32 [.n (.str body)] [] (.tup [.o (.sl 3 x), .n (.int .i64 e)]) [] ∧
    sel (e != 0) (∃ y : Bool, Runs Fs 20 [] [] (.n (.bool y)) [] ∧ sel y (AV.n (D.bool ((((x.length) : Nat) : Int) == 0)) = AV.n (D.bool true)) (AV.n (D.bool false) = AV.n (D.bool true)))
      (∃ a : ByteArray, ∃ f : Int, Runs Fs 31 [.o (.sl 3 x)] [] (.tup [.n (.str a), .n (.int .i64 f)]) [] ∧ ∃ y : Bool, Runs Fs 20 [] [] (.n (.bool y)) [] ∧ sel y (sel (f == 0) (AV.n (D.bool (a.toList == body.toList)) = AV.n (D.bool true)) (AV.n (D.bool false) = AV.n (D.bool true))) (AV.n (D.bool false) = AV.n (D.bool true))) := by
  have g := p32 body hb
  rcases unpack_cases body with ⟨e, he, h⟩ | ⟨l, h, hp, hl⟩
  · rw [h] at g
    exact ⟨_, _, g, sel_intro (fun _ => ⟨_, p20, rfl⟩) (fun h => absurd (by simpa using h) he)⟩
  · rw [h] at g
    have g2 := p31 l (by omega)
    rw [hp] at g2
    exact ⟨_, _, g, sel_intro (fun h => by cases h) (fun _ => ⟨_, _, g2, _, p20, sel_intro (fun _ => sel_intro (fun _ => by rw [beq_self_eq_true]) (fun h => by cases h)) (fun h => by cases h)⟩)⟩
/-- What comes ahead of that. -/
theorem back_mid (l : List Ch) (hl : l.length ≤ 300) (body : ByteArray) (hb : (body.size : Int) ≤ 9223372036854775807) (E : Prop) (hE : E) :
    ∃ a : ByteArray, ∃ e : Int, Runs Fs 31 [.o (.sl 3 (ck l))] [] (.tup [.n (.str a), .n (.int .i64 e)]) [] ∧
      sel (e == 0) (∃ x : List D, ∃ f : Int, Runs Fs 32 [.n (.str a)] [] (.tup [.o (.sl 3 x), .n (.int .i64 f)]) [] ∧ sel (f != 0) (AV.n (D.bool false) = AV.n (D.bool true)) (∃ y : Bool, Runs Fs 33 [.o (.sl 3 x), .o (.sl 3 (ck l))] [] (.n (.bool y)) [] ∧
        sel (!y) (AV.n (D.bool false) = AV.n (D.bool true)) (sel (decide ((((ByteArray.size a) : Nat) : Int) > 480)) (AV.n (D.bool false) = AV.n (D.bool true)) E))) E := by
  have g := p31 l (by omega)
  rcases pack_cases l with ⟨e, he, h⟩ | ⟨h, h1, h2, h3⟩
  · rw [h] at g
    exact ⟨_, _, g, sel_intro (fun h => absurd (by simpa using h) he) (fun _ => hE)⟩
  · rw [h] at g
    have hs := sOf_size (PackB l)
    have g2 := p32 (sOf (PackB l)) (by omega)
    rw [h3] at g2
    exact ⟨_, _, g, sel_intro (fun _ => ⟨_, _, g2, sel_intro (fun h => by cases h) (fun _ => ⟨_, p33 l (by omega), sel_intro (fun h => by cases h) (fun _ => sel_dec (fun h => by omega) (fun _ => hE))⟩)⟩) (fun h => by cases h)⟩
theorem p10 (gen no : Int) (body : ByteArray) (l : List Ch) (hb : (body.size : Int) ≤ 9223372036854775807) : Runs Fs 10 [.n (.int .i64 gen), .n (.int .i64 no), .n (.str body), .o (.sl 3 (ck l))] [] (.n (.bool true)) [] := by
  refine vc_eq fs10 rfl ?_
  rw [vc10, V10]
  have hl := fewC_len l
  refine ⟨_, p29 l, ?_⟩
  generalize fewC l = L at hl
  have g := p19 gen no body
  rcases rPut_cases gen no body with ⟨ok, h⟩ | ⟨_, e, he, h⟩
  · rw [h] at g
    have hz := recS_size ok
    have g1 := p30 (RecS gen no body) (by omega) gen
    have g2 := p30 (RecS gen no body) (by omega) (IntKind.wrap .i64 (gen + 1))
    have hw : IntKind.wrap .i64 (gen + 1) ≠ gen := by
      have h1 := ok.1
      have h2 := ok.2.1
      rw [i64_in _ (by omega)]; omega
    rw [rget_self ok, tri_eq] at g1
    rw [rget_other ok hw, tri_eq] at g2
    refine ⟨_, _, g, sel_intro (fun _ => ?_) (fun h => by cases h)⟩
    refine ⟨_, _, _, g1, _, _, _, g2, sel_intro (fun h => by cases h) (fun _ => sel_intro (fun h => by simp at h) (fun _ => sel_intro (fun h => by simp at h) (fun _ => sel_dec (fun h => by omega) (fun _ => sel_intro (fun h => by simp at h) (fun _ => ?_)))))⟩
    exact back_mid L hl body hb _ (back_end body hb)
  · rw [h] at g
    exact ⟨_, _, g, sel_intro (fun h => absurd (by simpa using h) he) (fun _ => back_mid L hl body hb _ (back_end body hb))⟩
theorem law10 (gen no : Int) (body : ByteArray) (x : chT.T) (hb : (body.size : Int) ≤ 9223372036854775807) : Runs Fs 10 [.n (.int .i64 gen), .n (.int .i64 no), .n (.str body), chT.av x] [] (.n (.bool true)) [] :=
  p10 gen no body x hb
end Go.Proofs.YtmmnobdpccdeoaaDoor.M
