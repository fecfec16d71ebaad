import Derived.Test.YtmmnobdpccdeoaaDoorR3Ring
import Derived.Test.YtmmnobdpccdeoaaDoorR3FunX
import Derived.Test.YtmmnobdpccdeoaaDoorR3FunU
namespace Go.Proofs.YtmmnobdpccdeoaaDoor.M
set_option linter.unusedVariables false
set_option linter.unusedSimpArgs false
open Go Go.Mir
set_option linter.unusedVariables false

/-- A superblock: Gen, Root, Map, Size. -/
structure Su where
  g : Int
  r : Int
  m : Int
  z : Int
def su0 : Su := ⟨0, 0, 0, 0⟩
def suV (s : Su) : AV := .agg [.n (.int .i64 s.g), .n (.int .i64 s.r), .n (.int .i64 s.m), .n (.int .i64 s.z)]
def suOK (s : Su) : Prop := 1 ≤ s.g ∧ s.g ≤ 1099511627776 ∧ 24 ≤ s.z ∧ s.z ≤ 2048 ∧ (s.r = 0 ∨ (10 ≤ s.r ∧ s.r < s.z)) ∧ 10 ≤ s.m ∧ s.m < s.z ∧ s.m ≠ s.r
instance (s : Su) : Decidable (suOK s) := by unfold suOK; infer_instance
def suH (s : Su) : Heap := [(2400000, .box [.n (.int .i64 s.g), .n (.int .i64 s.r), .n (.int .i64 s.m), .n (.int .i64 s.z)])]
theorem p56 (x : Int) (s : Su) : Runs Fs 56 [.n (.int .i64 x), .ptr 2400000 0] (suH s) (.n (.bool (decide (10 ≤ x ∧ x < s.z)))) (suH s) := by
  refine vc_look fs56 rfl (by kernel_rfl) ?_
  rw [suH, vc56h, V56h]
  refine sel_dec (fun h => ⟨?_, rfl⟩) (fun h => ⟨?_, rfl⟩)
  · congr 3; simp only [eq_iff_iff]; omega
  · congr 2; rw [decide_eq_false (by omega)]
theorem no_su {s : Su} (h : ¬ suOK s) : AV.n (D.bool false) = .n (.bool (decide (suOK s))) := by rw [decide_eq_false h]
theorem bne_dec (a b : Int) : (a != b) = decide (a ≠ b) := by
  by_cases h : a = b
  · subst h; simp
  · simp [h]
theorem p24 (s : Su) : Runs Fs 24 [suV s] [] (.n (.bool (decide (suOK s)))) [] := by
  refine vc_eq fs24 rfl ?_
  rw [suV, vc24, V24]
  refine sel_dec (fun h1 => ?_) (fun h1 => no_su (by unfold suOK; omega))
  refine sel_dec (fun h2 => ?_) (fun h2 => no_su (by unfold suOK; omega))
  refine sel_dec (fun h3 => ?_) (fun h3 => no_su (by unfold suOK; omega))
  refine sel_dec (fun h4 => ?_) (fun h4 => no_su (by unfold suOK; omega))
  have last : (s.r = 0 ∨ (10 ≤ s.r ∧ s.r < s.z)) → ∃ x : Bool, Runs Fs 56 [.n (.int .i64 s.m), .ptr 2400000 0] (suH s) (.n (.bool x)) (suH s) ∧ sel x (AV.n (D.bool (s.m != s.r)) = .n (.bool (decide (suOK s)))) (AV.n (D.bool false) = .n (.bool (decide (suOK s)))) := fun hr => by
    refine ⟨_, p56 s.m s, sel_dec (fun h5 => ?_) (fun h5 => no_su (by unfold suOK; omega))⟩
    rw [bne_dec]; congr 3; simp only [eq_iff_iff]; unfold suOK; omega
  refine sel_intro (fun h => last (.inl (by simpa using h))) (fun h => ?_)
  have h0 : s.r ≠ 0 := by simpa using h
  refine ⟨_, p56 s.r s, sel_dec (fun h5 => last (.inr h5)) (fun h5 => no_su (by unfold suOK; omega))⟩
theorem p23 (s : Su) : Runs Fs 23 [suV s] [] (.n (.bool (decide (suOK s)))) [] := by
  refine vc_eq fs23 rfl ?_
  rw [suV, vc23, V23]
  refine sel_dec (fun h1 => no_su (by unfold suOK; omega)) (fun h1 => ?_)
  refine sel_dec (fun h2 => no_su (by unfold suOK; omega)) (fun h2 => ?_)
  refine sel_dec (fun h3 => no_su (by unfold suOK; omega)) (fun h3 => ?_)
  refine sel_dec (fun h4 => no_su (by unfold suOK; omega)) (fun h4 => ?_)
  have last : (s.r = 0 ∨ (10 ≤ s.r ∧ s.r < s.z)) → sel (decide (s.m ≥ 10)) (sel (decide (s.m < s.z)) (AV.n (D.bool (s.m != s.r)) = .n (.bool (decide (suOK s)))) (AV.n (D.bool false) = .n (.bool (decide (suOK s))))) (AV.n (D.bool false) = .n (.bool (decide (suOK s)))) := fun hr => by
    refine sel_dec (fun h5 => ?_) (fun h5 => no_su (by unfold suOK; omega))
    refine sel_dec (fun h6 => ?_) (fun h6 => no_su (by unfold suOK; omega))
    rw [bne_dec]; congr 3; simp only [eq_iff_iff]; unfold suOK; omega
  refine sel_intro (fun h => ?_) (fun h => last (.inl (by simpa using h)))
  have h0 : s.r ≠ 0 := by simpa using h
  refine sel_dec (fun h5 => no_su (by unfold suOK; omega)) (fun h5 => ?_)
  refine sel_dec (fun h6 => no_su (by unfold suOK; omega)) (fun h6 => last (.inr (by omega)))

/-- Its bytes. -/
def SuB (s : Su) : ByteArray := cat [strOf (be s.r 2), strOf (be s.m 2), strOf (be s.z 2)]
def SuS (s : Su) : ByteArray := PageS 4 s.g (SuB s)
def SuPut (s : Su) : AV := if suOK s then .tup [.n (.str (SuS s)), .n (.int .i64 0)] else sErr 1
theorem suB_size (s : Su) : (SuB s).size = 6 := by
  rw [SuB, cat3_size]; simp only [strOf_size, be_length]
theorem suB_data (s : Su) : (SuB s).data.toList = beB s.r 2 ++ (beB s.m 2 ++ beB s.z 2) := by
  rw [SuB, cat3]; simp only [strOf_data, be_bytes]
theorem su_pgOK {s : Su} (h : suOK s) : pgOK 4 s.g (SuB s) := by
  have := suB_size s
  obtain ⟨h1, h2, _⟩ := h
  exact ⟨by omega, by omega, by omega, h2, by omega⟩
theorem p22 (s : Su) : Runs Fs 22 [suV s] [] (SuPut s) [] := by
  refine vc_eq fs22 rfl ?_
  rw [suV, vc22, V22]
  refine ⟨_, p24 s, ?_⟩
  by_cases h : suOK s
  · rw [decide_eq_true h]
    refine sel_intro (fun h => by cases h) (fun _ => ?_)
    obtain ⟨h1, h2, h3, h4, h5, h6, h7, h8⟩ := id h
    have g1 := p50_good s.r 2 (by omega) (by omega) (by omega) (by simp; omega)
    have g2 := p50_good s.m 2 (by omega) (by omega) (by omega) (by simp; omega)
    have g3 := p50_good s.z 2 (by omega) (by omega) (by omega) (by simp; omega)
    have g4 := p52 [strOf (be s.r 2), strOf (be s.m 2), strOf (be s.z 2)] (by simp) (by simp only [sizes, strOf_size, be_length]; omega)
    have g5 := p51 4 s.g (SuB s)
    rw [PutPR, if_pos (su_pgOK h)] at g5
    refine ⟨_, _, g1, _, _, g2, _, _, g3, rfl, _, g4, _, _, g5, ?_⟩
    rw [SuPut, if_pos h]; rfl
  · rw [decide_eq_false h]
    refine sel_intro (fun _ => ?_) (fun h => by cases h)
    rw [SuPut, if_neg h]; rfl
theorem two_bytes (n : Int) (h0 : 0 ≤ n) (h1 : n < 65536) : [D.int .u8 (IntKind.wrap .u8 (IntKind.wrap .i64 (Int.tdiv n 256))), D.int .u8 (IntKind.wrap .u8 (Int.tmod n 256))] = be n 2 := by
  have e : be n 2 = [D.int .u8 (n / 256 % 256), D.int .u8 (n % 256)] := by
    rw [be_succ, be_succ]
    simp [be]
  rw [e, u8_wrap, u8_wrap, i64_in _ (by rw [Int.tdiv_eq_ediv_of_nonneg h0]; omega), Int.tdiv_eq_ediv_of_nonneg h0, Int.tmod_eq_emod_of_nonneg h0]
  congr 3
  omega
theorem p25 (s : Su) (h : suOK s) : Runs Fs 25 [suV s] [] (.n (.str (SuS s))) [] := by
  refine vc_eq fs25 rfl ?_
  rw [suV, vc25, V25]
  obtain ⟨h1, h2, h3, h4, h5, h6, h7, h8⟩ := id h
  have e : [D.int .u8 (IntKind.wrap .u8 (IntKind.wrap .i64 (Int.tdiv s.r 256))), D.int .u8 (IntKind.wrap .u8 (Int.tmod s.r 256)), D.int .u8 (IntKind.wrap .u8 (IntKind.wrap .i64 (Int.tdiv s.m 256))), D.int .u8 (IntKind.wrap .u8 (Int.tmod s.m 256)), D.int .u8 (IntKind.wrap .u8 (IntKind.wrap .i64 (Int.tdiv s.z 256))), D.int .u8 (IntKind.wrap .u8 (Int.tmod s.z 256))] = be s.r 2 ++ (be s.m 2 ++ be s.z 2) := by
    rw [← two_bytes s.r (by omega) (by omega), ← two_bytes s.m (by omega) (by omega), ← two_bytes s.z (by omega) (by omega)]; rfl
  rw [e]
  have e2 : ByteArray.mk (List.toArray (List.map Mir.byteOf (be s.r 2 ++ (be s.m 2 ++ be s.z 2)))) = SuB s := by
    refine bytes_ext ?_
    rw [suB_data]
    simp only [List.map_append, be_bytes]
  rw [e2]
  have g := p57 4 s.g (SuB s) (su_pgOK h)
  refine ⟨by decide, by decide, by decide, by decide, by decide, by decide, rfl, .inl rfl, ?_, _, g, rfl⟩
  simp only [be, List.all_append, Bool.and_eq_true]
  exact ⟨all_be _ _, all_be _ _, all_be _ _⟩

/-- What is read of bytes. -/
def suOf (g : Int) (b : ByteArray) : Su := ⟨g, num (piece b 0 2), num (piece b 2 2), num (piece b 4 2)⟩
def sGet (p : AV) : Su × Int :=
  match p with
  | .tup [.agg [.n (.int _ k), .n (.int _ g), .n (.str b)], .n (.int _ e)] =>
    if e ≠ 0 then (su0, e) else if k ≠ 4 then (su0, 40) else if b.size ≠ 6 then (su0, 4) else if suOK (suOf g b) then (suOf g b, 0) else (su0, 4)
  | _ => (su0, 0)
def SGet (s : ByteArray) : Su × Int := sGet (GetPR s)
def duo (x : Su × Int) : AV := .tup [suV x.1, .n (.int .i64 x.2)]
theorem sGet_err {e : Int} (he : e ≠ 0) : sGet (pErr e) = (su0, e) := by
  simp only [sGet, pErr, pg, if_pos he]
theorem sGet_ok (k g : Int) (b : ByteArray) : sGet (.tup [pg k g b, .n (.int .i64 0)]) = if k ≠ 4 then (su0, 40) else if b.size ≠ 6 then (su0, 4) else if suOK (suOf g b) then (suOf g b, 0) else (su0, 4) := by
  simp only [sGet, pg]; rw [if_neg (by simp)]
theorem p14 (s : ByteArray) (hs : (s.size : Int) ≤ 9223372036854775807) : Runs Fs 14 [.n (.str s)] [] (duo (SGet s)) [] := by
  refine vc_eq fs14 rfl ?_
  rw [vc14, SGet]
  refine ⟨rfl, ?_⟩
  rcases getP_cases s with ⟨e, he, h⟩ | ⟨k, g, b, h, hok, _⟩
  · have g := p47_err s hs [4] e he h
    rw [h, sGet_err he]
    refine ⟨_, _, _, _, g, sel_intro (fun _ => rfl) (fun h => absurd (by simpa using h) he)⟩
  · have h53 := p47_ok s hs [4] (by simp) k g b h
    rw [h, sGet_ok]
    by_cases hk : k = 4
    · rw [if_pos (by simp [hk])] at h53
      rw [if_neg (by simp [hk])]
      obtain ⟨_, _, _, _, hb⟩ := hok
      refine ⟨_, _, _, _, h53, sel_intro (fun h => by cases h) (fun _ => ?_)⟩
      have short : ∀ a : Int, a = 0 ∨ a = 2 ∨ a = 4 → a ≤ b.size → ¬ ((b.size : Int) - a < 2) ∨ b.size ≠ 6 := fun a ha hab => by omega
      refine ⟨fun at_ i _ p q => 0 ≤ i ∧ i ≤ 3 ∧ at_ = 2 * i ∧ 2 * i ≤ b.size ∧ p = (k, g, b, ()) ∧ q = (g, (if 0 < i then num (piece b 0 2) else 0), (if 1 < i then num (piece b 2 2) else 0), (if 2 < i then num (piece b 4 2) else 0), ()),
        fun _ i _ _ _ => (3 - i).toNat, ⟨rfl, by omega, by omega, by omega, by omega, rfl, rfl⟩, ?_⟩
      rintro at_ i q0 p q ⟨h0, h1, rfl, h2, rfl, rfl⟩ _
      refine sel_dec (fun hlt => ?_) (fun hge => ?_)
      · have g4 := p48 b (by omega) (2 * i) 2
        refine ⟨h0, by omega, ?_⟩
        have bad : (b.size : Int) - 2 * i < 2 → duo (su0, 4) = duo (if b.size ≠ 6 then (su0, 4) else if suOK (suOf g b) then (suOf g b, 0) else (su0, 4)) := fun hz => by
          rw [if_pos (by omega)]
        refine sel_intro (fun hi => ?_) (fun hi => sel_intro (fun hi2 => ?_) (fun hi2 => sel_intro (fun hi3 => ?_) (fun hi3 => ?_)))
        · have hi : i = 0 := by simpa using hi
          subst hi
          by_cases hz : (b.size : Int) - 2 * 0 < 2
          · rw [getR_short (by omega) hz] at g4
            exact ⟨_, _, _, g4, sel_intro (fun _ => bad hz) (fun h => by cases h)⟩
          · rw [getR_good (by omega) hz] at g4
            refine ⟨_, _, _, g4, sel_intro (fun h => by cases h) (fun _ => ?_)⟩
            repeat (refine And.intro rfl ?_)
            rw [i64_in _ (by omega)]
            exact ⟨⟨by omega, by omega, by omega, by omega, rfl, rfl⟩, by dsimp only; omega⟩
        · have hi2 : i = 1 := by simpa using hi2
          subst hi2
          by_cases hz : (b.size : Int) - 2 * 1 < 2
          · rw [getR_short (by omega) hz] at g4
            exact ⟨_, _, _, g4, sel_intro (fun _ => bad hz) (fun h => by cases h)⟩
          · rw [getR_good (by omega) hz] at g4
            refine ⟨_, _, _, g4, sel_intro (fun h => by cases h) (fun _ => ?_)⟩
            repeat (refine And.intro rfl ?_)
            rw [i64_in _ (by omega)]
            exact ⟨⟨by omega, by omega, by omega, by omega, rfl, rfl⟩, by dsimp only; omega⟩
        · have hi3 : i = 2 := by simpa using hi3
          subst hi3
          by_cases hz : (b.size : Int) - 2 * 2 < 2
          · rw [getR_short (by omega) hz] at g4
            exact ⟨_, _, _, g4, sel_intro (fun _ => bad hz) (fun h => by cases h)⟩
          · rw [getR_good (by omega) hz] at g4
            refine ⟨_, _, _, g4, sel_intro (fun h => by cases h) (fun _ => ?_)⟩
            repeat (refine And.intro rfl ?_)
            rw [i64_in _ (by omega)]
            exact ⟨⟨by omega, by omega, by omega, by omega, rfl, rfl⟩, by dsimp only; omega⟩
        · exfalso
          have a1 : i ≠ 0 := by simpa using hi
          have a2 : i ≠ 1 := by simpa using hi2
          have a3 : i ≠ 2 := by simpa using hi3
          omega
      · obtain rfl : i = 3 := by omega
        refine sel_intro (fun hne => ?_) (fun hne => ?_)
        · have hne : (2 * 3 : Int) ≠ b.size := by simpa using hne
          rw [if_pos (by omega)]; rfl
        · have hne : (2 * 3 : Int) = b.size := by simpa using hne
          rw [if_neg (show ¬ b.size ≠ 6 by omega)]
          simp only [if_pos (show (0 : Int) < 3 by decide), if_pos (show (1 : Int) < 3 by decide), if_pos (show (2 : Int) < 3 by decide)]
          refine ⟨_, p24 (suOf g b), ?_⟩
          by_cases hS : suOK (suOf g b)
          · rw [decide_eq_true hS, if_pos hS]; rfl
          · rw [decide_eq_false hS, if_neg hS]; rfl
    · rw [if_neg (by simp [hk])] at h53
      rw [if_pos hk]
      exact ⟨_, _, _, _, h53, sel_intro (fun _ => rfl) (fun h => by cases h)⟩
theorem piece_at (b : ByteArray) (i : Nat) (h : i + 1 < b.size) : ∃ x y : UInt8, b.data.toList[i]? = some x ∧ b.data.toList[i + 1]? = some y ∧ num (piece b i 2) = 256 * (x.toNat : Int) + y.toNat := by
  have h1 : i < b.data.toList.length := by rw [size_list]; omega
  have h2 : i + 1 < b.data.toList.length := by rw [size_list]; omega
  refine ⟨_, _, List.getElem?_eq_getElem h1, List.getElem?_eq_getElem h2, ?_⟩
  have : piece b i 2 = [b.data.toList[i], b.data.toList[i + 1]] := by
    unfold piece
    rw [show Int.toNat (i : Int) = i from rfl, show Int.toNat 2 = 2 from rfl, List.drop_eq_getElem_cons h1, List.take_succ_cons, List.drop_eq_getElem_cons h2, List.take_succ_cons, List.take_zero]
  rw [this, num_cons, num_cons]
  simp only [num, List.length_cons, List.length_nil, List.foldl_nil]
  omega
theorem p15 (s : ByteArray) (hs : (s.size : Int) ≤ 9223372036854775807) : Runs Fs 15 [.n (.str s)] [] (duo (SGet s)) [] := by
  refine vc_eq fs15 rfl ?_
  rw [vc15, SGet]
  have h55 := p49 s hs
  rcases getP_cases s with ⟨e, he, h⟩ | ⟨k, g, b, h, hok, _⟩
  · rw [h] at h55
    rw [h, sGet_err he]
    refine ⟨_, _, _, _, h55, sel_intro (fun _ => rfl) (fun h => absurd (by simpa using h) he)⟩
  · rw [h] at h55
    rw [h, sGet_ok]
    refine ⟨_, _, _, _, h55, sel_intro (fun h => by cases h) (fun _ => ?_)⟩
    refine sel_intro (fun hk => by rw [if_pos (by simpa using hk)]; rfl) (fun hk => ?_)
    rw [if_neg (by simpa using hk)]
    refine sel_intro (fun hz => ?_) (fun hz => ?_)
    · have hz : (b.size : Int) ≠ 6 := by simpa using hz
      rw [if_pos (by omega)]; rfl
    · have hz : (b.size : Int) = 6 := by simpa using hz
      rw [if_neg (by omega)]
      obtain ⟨x0, x1, e0, e1, n0⟩ := piece_at b 0 (by omega)
      obtain ⟨x2, x3, e2, e3, n1⟩ := piece_at b 2 (by omega)
      obtain ⟨x4, x5, e4, e5, n2⟩ := piece_at b 4 (by omega)
      have w1 : ∀ x y : UInt8, IntKind.wrap .i64 (IntKind.wrap .i64 (256 * IntKind.wrap .i64 ((x.toNat : Nat) : Int)) + IntKind.wrap .i64 ((y.toNat : Nat) : Int)) = 256 * (x.toNat : Int) + y.toNat := fun x y => by
        have := x.toNat_lt
        have := y.toNat_lt
        rw [i64_in ((x.toNat : Nat) : Int) (by omega), i64_in ((y.toNat : Nat) : Int) (by omega), i64_in (256 * _) (by omega), i64_in _ (by omega)]
      refine ⟨by omega, x0, e0, by omega, x1, e1, by omega, x2, e2, by omega, x3, e3, by omega, x4, e4, by omega, x5, e5, ?_⟩
      rw [w1, w1, w1, ← n0, ← n1, ← n2]
      refine ⟨_, p23 (suOf g b), ?_⟩
      by_cases hS : suOK (suOf g b)
      · rw [decide_eq_true hS, if_pos hS]; rfl
      · rw [decide_eq_false hS, if_neg hS]; rfl
end Go.Proofs.YtmmnobdpccdeoaaDoor.M
