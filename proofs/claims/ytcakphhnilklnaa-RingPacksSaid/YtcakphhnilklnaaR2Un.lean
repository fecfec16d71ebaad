import Derived.Test.YtcakphhnilklnaaR2Pack
namespace Go.Proofs.Ytcakphhnilklnaa.M
set_option linter.unusedVariables false
set_option linter.unusedSimpArgs false
open Go Go.Mir
set_option linter.unusedVariables false

theorem p23 (c : Ch) : Runs Fs 23 [chV c] [] (.n (.bool (!chOK c))) [] := by
  refine vc_eq fs23 rfl ?_
  rw [chV, vc23]
  exact ⟨_, p13 c, rfl⟩
theorem p26q (l : List Ch) (hl : (l.length : Int) ≤ 9223372036854775807) : ∃ r : Int, decide (r ≥ 0) = l.any (fun c => !chOK c) ∧ Runs Fs 26 [.o (.sl 3 (ck l)), .fn 23 []] [] (.n (.int .i64 r)) [] := by
  have key : ∃ r, Runs Fs 26 [.o (.sl 3 (ck l)), .fn 23 []] [] r [] ∧ ∃ k : Int, r = .n (.int .i64 k) ∧ decide (k ≥ 0) = l.any (fun c => !chOK c) := by
    refine vc_runs (R := fun r => ∃ k : Int, r = .n (.int .i64 k) ∧ decide (k ≥ 0) = l.any (fun c => !chOK c)) fs26 rfl ?_
    rw [vc26q, V26q, ck_len]
    refine ⟨fun i => 0 ≤ i ∧ i ≤ l.length ∧ ∀ j : Nat, (j : Int) < i → ∀ h : j < l.length, chOK l[j] = true, fun i => (l.length - i).toNat, ⟨rfl, by omega, by omega, fun j hj => by omega⟩, ?_⟩
    rintro i ⟨h0, h1, hok⟩ _
    refine sel_dec (fun h => ?_) (fun h => ?_)
    · have hi : i.toNat < l.length := by omega
      refine ⟨rfl, h0, _, ck_at hi, _, _, _, rfl, Nat.le_refl _, _, p23 l[i.toNat], sel_intro (fun hb => ?_) (fun hb => ?_)⟩
      · refine ⟨i, rfl, ?_⟩
        rw [decide_eq_true (by omega : i ≥ 0)]
        exact (List.any_eq_true.2 ⟨_, List.getElem_mem hi, hb⟩).symm
      · repeat (refine And.intro rfl ?_)
        rw [i64_in _ (by omega)]
        refine ⟨⟨by omega, by omega, fun j hj hjl => ?_⟩, by first | omega | (dsimp only; omega)⟩
        by_cases hji : (j : Int) < i
        · exact hok j hji hjl
        · obtain rfl : j = i.toNat := by omega
          simpa using hb
    · refine ⟨-1, rfl, ?_⟩
      rw [decide_eq_false (by omega)]
      refine (List.any_eq_false.2 fun p hp => ?_).symm
      obtain ⟨j, hj, rfl⟩ := List.getElem_of_mem hp
      rw [hok j (by omega) hj]; simp
  obtain ⟨r, hr, k, rfl, hk⟩ := key
  exact ⟨k, hk, hr⟩
theorem p11q (l : List Ch) (hl : (l.length : Int) ≤ 9223372036854775807) : Runs Fs 11 [.o (.sl 3 (ck l)), .fn 23 []] [] (.n (.bool (l.any fun c => !chOK c))) [] := by
  refine vc_eq fs11 rfl ?_
  rw [vc11q]
  obtain ⟨r, hr, h⟩ := p26q l hl
  exact ⟨r, h, by rw [hr]⟩


/-- Answers as plain data. -/
def g3 : AV → Int × Int × Int
  | .tup [.n (.int _ a), .n (.int _ b), .n (.int _ c)] => (a, b, c)
  | _ => (0, 0, 0)
def c3T : AV → ByteArray × Int × Int
  | .tup [.n (.str a), .n (.int _ b), .n (.int _ c)] => (a, b, c)
  | _ => (empS, 0, 0)
def gT (s : ByteArray) (a k : Int) : Int × Int × Int := g3 (GetR s a k)
def cT (s : ByteArray) (a : Int) : ByteArray × Int × Int := c3T (CutR s a)
theorem gT_eq (s : ByteArray) (a k : Int) : GetR s a k = .tup [.n (.int .i64 (gT s a k).1), .n (.int .i64 (gT s a k).2.1), .n (.int .i64 (gT s a k).2.2)] := by
  obtain ⟨x, y, z, h⟩ := getR_three s a k
  rw [gT, h]; rfl
theorem cT_eq (s : ByteArray) (a : Int) : CutR s a = .tup [.n (.str (cT s a).1), .n (.int .i64 (cT s a).2.1), .n (.int .i64 (cT s a).2.2)] := by
  obtain ⟨x, y, z, h⟩ := cutR_three s a
  rw [cT, h]; rfl
theorem gT_bad {s : ByteArray} {a k : Int} (h : (gT s a k).2.2 ≠ 0) : (gT s a k).1 = 0 := by
  by_cases h1 : k < 1 ∨ 6 < k ∨ a < 0 ∨ (s.size : Int) < a
  · rw [gT, getR_bad h1]; rfl
  · by_cases h2 : (s.size : Int) - a < k
    · rw [gT, getR_short h1 h2]; rfl
    · rw [gT, getR_good h1 h2] at h; exact absurd rfl h
theorem gT_byte (s : ByteArray) (a : Int) : 0 ≤ (gT s a 1).1 ∧ (gT s a 1).1 ≤ 255 := by
  by_cases h1 : (1 : Int) < 1 ∨ (6 : Int) < 1 ∨ a < 0 ∨ (s.size : Int) < a
  · rw [gT, getR_bad h1]; exact ⟨by decide, by decide⟩
  · by_cases h2 : (s.size : Int) - a < 1
    · rw [gT, getR_short h1 h2]; exact ⟨by decide, by decide⟩
    · rw [gT, getR_good h1 h2]
      have h3 := num_bound (piece s a 1)
      have h4 := piece_len s a 1
      have h5 : (256 : Int) ^ (piece s a 1).length ≤ 256 := by
        have : (piece s a 1).length = 0 ∨ (piece s a 1).length = 1 := by have : (1 : Int).toNat = 1 := rfl; omega
        rcases this with h | h <;> rw [h] <;> decide
      exact ⟨h3.1, by show num (piece s a 1) ≤ 255; omega⟩
def nx (s : ByteArray) (n e : Int) : Int × Int × Int := if e ≠ 0 then (0, n, e) else gT s n 1
def tx (s : ByteArray) (n e : Int) : ByteArray × Int × Int := if e ≠ 0 then (empS, n, e) else cT s n
def H7 (s : ByteArray) (n e : Int) : Heap := [(700000, .box [.n (.str s)]), (700300, .box [.n (.int .i64 n)]), (700301, .box [.n (.int .i64 e)])]
theorem p19 (s : ByteArray) (hs : (s.size : Int) ≤ 9223372036854775807) (n e : Int) : Runs Fs 19 [.ptr 700301 0, .ptr 700000 0, .ptr 700300 0] (H7 s n e) (.n (.int .i64 (nx s n e).1)) (H7 s (nx s n e).2.1 (nx s n e).2.2) := by
  refine vc_mut fs19 rfl (by kernel_rfl) ?_
  rw [H7, vc19h]
  refine sel_intro (fun h => ?_) (fun h => ?_)
  · rw [nx, if_pos (by simpa using h)]; exact ⟨rfl, rfl⟩
  · rw [nx, if_neg (by simpa using h)]
    have g := p20 s hs n 1
    rw [gT_eq] at g
    exact ⟨_, _, _, g, rfl, rfl⟩
theorem p21 (s : ByteArray) (hs : (s.size : Int) ≤ 9223372036854775807) (n e : Int) : Runs Fs 21 [.ptr 700301 0, .ptr 700000 0, .ptr 700300 0] (H7 s n e) (.n (.str (tx s n e).1)) (H7 s (tx s n e).2.1 (tx s n e).2.2) := by
  refine vc_mut fs21 rfl (by kernel_rfl) ?_
  rw [H7, vc21h]
  refine sel_intro (fun h => ?_) (fun h => ?_)
  · rw [tx, if_pos (by simpa using h)]; exact ⟨rfl, rfl⟩
  · rw [tx, if_neg (by simpa using h)]
    have g := p22 s hs n
    rw [cT_eq] at g
    exact ⟨_, _, _, g, rfl, rfl⟩

/-- One change read, or why not. -/
def un1 (s : ByteArray) (a : Int) : Sum Int (Ch × Int) :=
  if (gT s a 1).2.2 ≠ 0 then .inl (gT s a 1).2.2
  else if 1 < (gT s a 1).1 then .inl 4
  else if (cT s (gT s a 1).2.1).2.2 ≠ 0 then .inl (cT s (gT s a 1).2.1).2.2
  else if (gT s a 1).1 = 1 then .inr (((cT s (gT s a 1).2.1).1, empS, true, ()), (cT s (gT s a 1).2.1).2.1)
  else if (cT s (cT s (gT s a 1).2.1).2.1).2.2 ≠ 0 then .inl (cT s (cT s (gT s a 1).2.1).2.1).2.2
  else .inr (((cT s (gT s a 1).2.1).1, (cT s (cT s (gT s a 1).2.1).2.1).1, false, ()), (cT s (cT s (gT s a 1).2.1).2.1).2.1)
def unN (s : ByteArray) : Nat → Int → List Ch → Sum Int (List Ch × Int)
  | 0, a, l => .inr (l, a)
  | n + 1, a, l => match un1 s a with
    | .inl e => .inl e
    | .inr (c, a') => unN s n a' (l ++ [c])
theorem unN_l {s : ByteArray} {n : Nat} {a : Int} {l : List Ch} {e : Int} (h : un1 s a = .inl e) : unN s (n + 1) a l = .inl e := by rw [unN, h]
theorem unN_r {s : ByteArray} {n : Nat} {a : Int} {l : List Ch} {c : Ch} {a' : Int} (h : un1 s a = .inr (c, a')) : unN s (n + 1) a l = unN s n a' (l ++ [c]) := by rw [unN, h]
def uErr (e : Int) : AV := .tup [.o (.sl 3 []), .n (.int .i64 e)]
def unEnd (s : ByteArray) : Sum Int (List Ch × Int) → AV
  | .inl e => uErr e
  | .inr (l, a) => if a ≠ s.size then uErr 4 else if l.any (fun c => !chOK c) then uErr 4 else .tup [.o (.sl 3 (ck l)), .n (.int .i64 0)]
def UnpackR (s : ByteArray) : AV :=
  if 480 < s.size then uErr 2 else if (gT s 0 1).2.2 ≠ 0 then uErr (gT s 0 1).2.2 else unEnd s (unN s (gT s 0 1).1.toNat (gT s 0 1).2.1 [])
theorem ck_snoc (l : List Ch) (a b : ByteArray) (g : Bool) : ck l ++ [.rcd [.str a, .str b, .bool g]] = ck (l ++ [(a, b, g, ())]) := by simp [ck, chD]

theorem unpackR_go {s : ByteArray} (h : ¬ 480 < s.size) (h2 : (gT s 0 1).2.2 = 0) : UnpackR s = unEnd s (unN s (gT s 0 1).1.toNat (gT s 0 1).2.1 []) := by
  rw [UnpackR, if_neg h, if_neg (by rw [h2]; simp)]
theorem unpackR_bad {s : ByteArray} (h : ¬ 480 < s.size) (h2 : (gT s 0 1).2.2 ≠ 0) : UnpackR s = uErr (gT s 0 1).2.2 := by
  rw [UnpackR, if_neg h, if_pos h2]
set_option maxRecDepth 10000 in
set_option maxHeartbeats 1000000 in
theorem p7 (s : ByteArray) (hs : (s.size : Int) ≤ 9223372036854775807) : Runs Fs 7 [.n (.str s)] [] (UnpackR s) [] := by
  refine vc_eq fs7 rfl ?_
  rw [vc7, V7]
  refine sel_dec (fun h => by rw [UnpackR, if_pos (by omega)]; rfl) (fun h => ?_)
  have h480 : ¬ 480 < s.size := by omega
  have g0 := p19 s hs 0 0
  have e0 : nx s 0 0 = gT s 0 1 := if_neg (by simp)
  rw [e0] at g0
  have hb0 := gT_byte s 0
  refine ⟨_, _, _, _, g0, fun v i S N E L => S.1 = s ∧ L.1 = v ∧ 0 ≤ i ∧ ∃ l, L.2 = ck l ∧ (l.length : Int) + i ≤ 255 ∧ ((E.1 = 0 ∧ UnpackR s = unEnd s (unN s i.toNat N.1 l)) ∨ (E.1 ≠ 0 ∧ UnpackR s = uErr E.1)), fun v i S N E L => i.toNat, ⟨rfl, rfl, rfl, hb0.1, [], rfl, by simp; omega, ?_⟩, ?_⟩
  · by_cases h2 : (gT s 0 1).2.2 = 0
    · exact .inl ⟨h2, unpackR_go h480 h2⟩
    · exact .inr ⟨h2, unpackR_bad h480 h2⟩
  rintro v i ⟨S, _⟩ ⟨N, _⟩ ⟨E, _⟩ ⟨lv, L⟩ ⟨hS, hL, hi0, l, hl, hlen, hinv⟩ _
  dsimp only at hS hL hl hinv ⊢
  subst hS hL hl
  refine sel_dec (fun hi => ?_) (fun hi => ?_)
  · refine sel_intro (fun hE => ?_) (fun hE => ?_)
    · have hE : E = 0 := by simpa using hE
      subst hE
      have hU := (hinv.resolve_right fun h => h.1 rfl).2
      obtain ⟨j, hj⟩ : ∃ j, i.toNat = j + 1 := ⟨i.toNat - 1, by omega⟩
      have hj' : (i - 1).toNat = j := by omega
      rw [hj] at hU
      have g1 := p19 S hs N 0
      rw [show nx S N 0 = gT S N 1 from if_neg (by simp)] at g1
      refine ⟨_, _, _, _, g1, sel_intro (fun he => ?_) (fun he => ?_)⟩
      · have he : (gT S N 1).2.2 = 0 := by simpa using he
        refine sel_dec (fun hg => ?_) (fun hg => ?_)
        · have hu : un1 S N = .inl 4 := by rw [un1, if_neg (by rw [he]; simp), if_pos (by omega)]
          rw [hU, unN_l hu]; rfl
        have g2 := p21 S hs (gT S N 1).2.1 (gT S N 1).2.2
        rw [he, show tx S (gT S N 1).2.1 0 = cT S (gT S N 1).2.1 from if_neg (by simp)] at g2
        rw [he]
        refine ⟨_, _, _, _, g2, sel_intro (fun hn => ?_) (fun hn => ?_)⟩
        · have hn : ¬ (gT S N 1).1 = 1 := fun e => by rw [e] at hn; simp at hn
          have g3 := p21 S hs (cT S (gT S N 1).2.1).2.1 (cT S (gT S N 1).2.1).2.2
          refine ⟨_, _, _, _, g3, rfl, .inl rfl, ⟨⟨rfl, rfl⟩, rfl⟩, by simp [ck_len]; omega, ?_⟩
          repeat (refine And.intro rfl ?_)
          rw [i64_in _ (by omega), show ((gT S N 1).1 == 1) = false from beq_eq_false_iff_ne.2 hn, ck_snoc]
          refine ⟨⟨rfl, rfl, by omega, _, rfl, by simp; omega, ?_⟩, by first | omega | (dsimp only; omega)⟩
          rw [hj', tx]
          by_cases hk : (cT S (gT S N 1).2.1).2.2 = 0
          · rw [if_neg (by rw [hk]; simp)]
            by_cases hv : (cT S (cT S (gT S N 1).2.1).2.1).2.2 = 0
            · refine .inl ⟨hv, ?_⟩
              have hu : un1 S N = .inr (((cT S (gT S N 1).2.1).1, (cT S (cT S (gT S N 1).2.1).2.1).1, false, ()), (cT S (cT S (gT S N 1).2.1).2.1).2.1) := by
                rw [un1, if_neg (by rw [he]; simp), if_neg (by omega), if_neg (by rw [hk]; simp), if_neg hn, if_neg (by rw [hv]; simp)]
              rw [hU, unN_r hu]
            · refine .inr ⟨hv, ?_⟩
              have hu : un1 S N = .inl (cT S (cT S (gT S N 1).2.1).2.1).2.2 := by
                rw [un1, if_neg (by rw [he]; simp), if_neg (by omega), if_neg (by rw [hk]; simp), if_neg hn, if_pos hv]
              rw [hU, unN_l hu]; rfl
          · rw [if_pos hk]
            refine .inr ⟨hk, ?_⟩
            have hu : un1 S N = .inl (cT S (gT S N 1).2.1).2.2 := by
              rw [un1, if_neg (by rw [he]; simp), if_neg (by omega), if_pos hk]
            rw [hU, unN_l hu]; rfl
        · have hn : (gT S N 1).1 = 1 := by simpa using hn
          refine ⟨rfl, .inl rfl, ⟨⟨rfl, rfl⟩, rfl⟩, by simp [ck_len]; omega, ?_⟩
          repeat (refine And.intro rfl ?_)
          rw [i64_in _ (by omega), show ((gT S N 1).1 == 1) = true by rw [hn]; rfl, ck_snoc]
          refine ⟨⟨rfl, rfl, by omega, _, rfl, by simp; omega, ?_⟩, by first | omega | (dsimp only; omega)⟩
          rw [hj']
          by_cases hk : (cT S (gT S N 1).2.1).2.2 = 0
          · refine .inl ⟨hk, ?_⟩
            have hu : un1 S N = .inr (((cT S (gT S N 1).2.1).1, empS, true, ()), (cT S (gT S N 1).2.1).2.1) := by
              rw [un1, if_neg (by rw [he]; simp), if_neg (by omega), if_neg (by rw [hk]; simp), if_pos hn]
            rw [hU, unN_r hu]; rfl
          · refine .inr ⟨hk, ?_⟩
            have hu : un1 S N = .inl (cT S (gT S N 1).2.1).2.2 := by
              rw [un1, if_neg (by rw [he]; simp), if_neg (by omega), if_pos hk]
            rw [hU, unN_l hu]; rfl
      · have he : (gT S N 1).2.2 ≠ 0 := fun e => by rw [e] at he; cases he
        have hg0 := gT_bad he
        have g2 := p21 S hs (gT S N 1).2.1 (gT S N 1).2.2
        rw [show tx S (gT S N 1).2.1 (gT S N 1).2.2 = (empS, (gT S N 1).2.1, (gT S N 1).2.2) from if_pos he] at g2
        rw [hg0]
        refine ⟨_, _, _, _, g2, sel_intro (fun hn => ?_) (fun hn => by cases hn)⟩
        refine ⟨_, _, _, _, g2, rfl, .inl rfl, ⟨⟨rfl, rfl⟩, rfl⟩, by simp [ck_len]; omega, ?_⟩
        repeat (refine And.intro rfl ?_)
        rw [i64_in _ (by omega), ck_snoc]
        refine ⟨⟨rfl, rfl, by omega, _, rfl, by simp; omega, .inr ⟨he, ?_⟩⟩, by first | omega | (dsimp only; omega)⟩
        have hu : un1 S N = .inl (gT S N 1).2.2 := by rw [un1, if_pos he]
        rw [hU, unN_l hu]; rfl
    · have hE' : E ≠ 0 := fun e => by rw [e] at hE; cases hE
      rcases hinv with ⟨h1, _⟩ | ⟨_, h2⟩
      · exact absurd h1 hE'
      refine sel_intro (fun hb => by rw [h2]; rfl) (fun hb => absurd (by simpa using hb) hE')
  · refine sel_intro (fun hb => ?_) (fun hb => ?_)
    · rcases hinv with ⟨h1, _⟩ | ⟨_, h2⟩
      · rw [h1] at hb; cases hb
      · rw [h2]; rfl
    · have hE : E = 0 := by simpa using hb
      rcases hinv with ⟨_, h2⟩ | ⟨h1, _⟩
      · rw [h2, show i.toNat = 0 by omega, unN, unEnd]
        refine sel_intro (fun hn => by rw [if_pos (by simpa using hn)]; rfl) (fun hn => ?_)
        rw [if_neg (by simpa using hn)]
        refine ⟨rfl, _, p11q l (by omega), sel_intro (fun ha => by rw [if_pos ha]; rfl) (fun ha => ?_)⟩
        rw [if_neg (by rw [ha]; simp)]
        exact ⟨rfl, rfl⟩
      · exact absurd hE h1
theorem p17 (c : Ch) : Runs Fs 17 [chV c] [] (.n (.bool (chOK c))) [] := by
  refine vc_eq fs17 rfl ?_
  rw [chV, vc17]
  refine sel_dec (fun h1 => ?_) (fun h1 => by rw [chOK_no (by omega)])
  refine sel_dec (fun h2 => ?_) (fun h2 => by rw [chOK_no (by omega)])
  refine sel_dec (fun h3 => ?_) (fun h3 => by rw [chOK_no (by omega)])
  rw [chOK, decide_eq_true (by omega : 1 ≤ c.1.size ∧ c.1.size ≤ 32 ∧ c.2.1.size ≤ 200)]
  refine sel_intro (fun h => by rw [h]; rfl) (fun h => ?_)
  rw [h, beq_dec]; rfl
set_option maxRecDepth 10000 in
set_option maxHeartbeats 1000000 in
theorem p8 (s : ByteArray) (hs : (s.size : Int) ≤ 9223372036854775807) : Runs Fs 8 [.n (.str s)] [] (UnpackR s) [] := by
  refine vc_eq fs8 rfl ?_
  rw [vc8, V8]
  refine sel_dec (fun h => by rw [UnpackR, if_pos (by omega)]; rfl) (fun h => ?_)
  have h480 : ¬ 480 < s.size := by omega
  have g0 := p24 s hs 0 1
  rw [gT_eq] at g0
  have hb0 := gT_byte s 0
  refine ⟨_, _, _, g0, sel_intro (fun hb => by rw [unpackR_bad h480 (by simpa using hb)]; rfl) (fun hb => ?_)⟩
  have hU0 := unpackR_go h480 (by simpa using hb : (gT s 0 1).2.2 = 0)
  generalize (gT s 0 1).1 = n0 at *
  generalize (gT s 0 1).2.1 = a0 at *
  refine ⟨fun v a i L => L.1 = v ∧ 0 ≤ i ∧ i ≤ n0 ∧ ∃ l, L.2 = ck l ∧ (l.length : Int) = i ∧ UnpackR s = unEnd s (unN s (n0 - i).toNat a l), fun v a i L => (n0 - i).toNat, ⟨rfl, rfl, by omega, by omega, [], rfl, rfl, by rw [hU0, Int.sub_zero]⟩, ?_⟩
  rintro v N i ⟨lv, L⟩ ⟨hL, hi0, hi1, l, hl, hlen, hU⟩ _
  dsimp only at hL hl ⊢
  subst hL hl
  refine sel_dec (fun hi => ?_) (fun hi => ?_)
  · obtain ⟨j, hj⟩ : ∃ j, (n0 - i).toNat = j + 1 := ⟨(n0 - i).toNat - 1, by omega⟩
    have hj' : (n0 - (i + 1)).toNat = j := by omega
    rw [hj] at hU
    have g1 := p24 s hs N 1
    rw [gT_eq] at g1
    refine ⟨_, _, _, g1, sel_intro (fun he => ?_) (fun he => ?_)⟩
    · have he : (gT s N 1).2.2 ≠ 0 := by simpa using he
      rw [hU, unN_l (show un1 s N = .inl (gT s N 1).2.2 by rw [un1, if_pos he])]; rfl
    have he : (gT s N 1).2.2 = 0 := by simpa using he
    refine sel_dec (fun hg => ?_) (fun hg => ?_)
    · have hu : un1 s N = .inl 4 := by rw [un1, if_neg (by rw [he]; simp), if_pos (by omega)]
      rw [hU, unN_l hu]; rfl
    have g2 := p25 s hs (gT s N 1).2.1
    rw [cT_eq] at g2
    refine ⟨_, _, _, g2, sel_intro (fun hk => ?_) (fun hk => ?_)⟩
    · have hk : (cT s (gT s N 1).2.1).2.2 ≠ 0 := by simpa using hk
      have hu : un1 s N = .inl (cT s (gT s N 1).2.1).2.2 := by
        rw [un1, if_neg (by rw [he]; simp), if_neg (by omega), if_pos hk]
      rw [hU, unN_l hu]; rfl
    have hk : (cT s (gT s N 1).2.1).2.2 = 0 := by simpa using hk
    have hgb := (gT_byte s N).1
    refine sel_intro (fun hn => ?_) (fun hn => ?_)
    · have hn : (gT s N 1).1 = 0 := by simpa using hn
      have g3 := p25 s hs (cT s (gT s N 1).2.1).2.1
      rw [cT_eq] at g3
      refine ⟨_, _, _, g3, sel_intro (fun hv => ?_) (fun hv => ?_)⟩
      · have hv : (cT s (cT s (gT s N 1).2.1).2.1).2.2 ≠ 0 := by simpa using hv
        have hu : un1 s N = .inl (cT s (cT s (gT s N 1).2.1).2.1).2.2 := by
          rw [un1, if_neg (by rw [he]; simp), if_neg (by omega), if_neg (by rw [hk]; simp), if_neg (by omega), if_pos hv]
        rw [hU, unN_l hu]; rfl
      have hv : (cT s (cT s (gT s N 1).2.1).2.1).2.2 = 0 := by simpa using hv
      refine ⟨rfl, .inl rfl, ⟨⟨rfl, rfl⟩, rfl⟩, by simp [ck_len]; omega, ?_⟩
      repeat (refine And.intro rfl ?_)
      rw [i64_in _ (by omega), show ((gT s N 1).1 == 1) = false by rw [hn]; rfl, ck_snoc]
      refine ⟨⟨rfl, by omega, by omega, _, rfl, by simp; omega, ?_⟩, by first | omega | (dsimp only; omega)⟩
      have hu : un1 s N = .inr (((cT s (gT s N 1).2.1).1, (cT s (cT s (gT s N 1).2.1).2.1).1, false, ()), (cT s (cT s (gT s N 1).2.1).2.1).2.1) := by
        rw [un1, if_neg (by rw [he]; simp), if_neg (by omega), if_neg (by rw [hk]; simp), if_neg (by omega), if_neg (by rw [hv]; simp)]
      rw [hj', hU, unN_r hu]
    · have hn0 : ¬ (gT s N 1).1 = 0 := fun e => by rw [e] at hn; cases hn
      have hn : (gT s N 1).1 = 1 := by omega
      refine ⟨rfl, .inl rfl, ⟨⟨rfl, rfl⟩, rfl⟩, by simp [ck_len]; omega, ?_⟩
      repeat (refine And.intro rfl ?_)
      rw [i64_in _ (by omega), show ((gT s N 1).1 == 1) = true by rw [hn]; rfl, ck_snoc]
      refine ⟨⟨rfl, by omega, by omega, _, rfl, by simp; omega, ?_⟩, by first | omega | (dsimp only; omega)⟩
      have hu : un1 s N = .inr (((cT s (gT s N 1).2.1).1, empS, true, ()), (cT s (gT s N 1).2.1).2.1) := by
        rw [un1, if_neg (by rw [he]; simp), if_neg (by omega), if_neg (by rw [hk]; simp), if_pos hn]
      rw [hj', hU, unN_r hu]; rfl
  · rw [hU, show (n0 - i).toNat = 0 by omega, unN, unEnd]
    refine sel_intro (fun hn => by rw [if_pos (by simpa using hn)]; rfl) (fun hn => ?_)
    rw [if_neg (by simpa using hn), ck_len]
    refine ⟨rfl, fun k => 0 ≤ k ∧ k ≤ l.length ∧ ∀ j : Nat, (j : Int) < k → ∀ h : j < l.length, chOK l[j] = true, fun k => (l.length - k).toNat, ⟨rfl, by omega, by omega, fun j hj => by omega⟩, ?_⟩
    rintro k ⟨hk0, hk1, hok⟩ _
    refine sel_dec (fun hk => ?_) (fun hk => ?_)
    · have hi : k.toNat < l.length := by omega
      refine ⟨⟨rfl, rfl⟩, hk0, hk, ⟨rfl, rfl⟩, _, ck_at hi, _, _, _, rfl, Nat.le_refl _, _, p17 l[k.toNat], sel_intro (fun hb => ?_) (fun hb => ?_)⟩
      · rw [if_pos (List.any_eq_true.2 ⟨_, List.getElem_mem hi, hb⟩)]; rfl
      · repeat (refine And.intro rfl ?_)
        rw [i64_in _ (by omega)]
        refine ⟨⟨by omega, by omega, fun j hj hjl => ?_⟩, by first | omega | (dsimp only; omega)⟩
        by_cases hji : (j : Int) < k
        · exact hok j hji hjl
        · obtain rfl : j = k.toNat := by omega
          simpa using hb
    · have : l.any (fun c => !chOK c) = false := List.any_eq_false.2 fun c hc => by
        obtain ⟨j, hj, rfl⟩ := List.getElem_of_mem hc
        rw [hok j (by omega) hj]; simp
      rw [if_neg (by rw [this]; simp)]
      exact ⟨rfl, rfl⟩
end Go.Proofs.Ytcakphhnilklnaa.M
