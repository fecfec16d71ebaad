import Derived.Test.YtmmnobdpccdeoaaDoorR3Ring
import Derived.Test.YtmmnobdpccdeoaaDoorR3FunX
namespace Go.Proofs.YtmmnobdpccdeoaaDoor.M
set_option linter.unusedVariables false
set_option linter.unusedSimpArgs false
open Go Go.Mir
set_option linter.unusedVariables false

theorem p66 (c : Ch) : Runs Fs 66 [chV c] [] (.n (.bool (!chOK c))) [] := by
  refine vc_eq fs66 rfl ?_
  rw [chV, vc66]
  exact ⟨_, p61 c, rfl⟩
theorem p98q (l : List Ch) (hl : (l.length : Int) ≤ 9223372036854775807) : ∃ r : Int, decide (r ≥ 0) = l.any (fun c => !chOK c) ∧ Runs Fs 98 [.o (.sl 3 (ck l)), .fn 66 []] [] (.n (.int .i64 r)) [] := by
  have key : ∃ r, Runs Fs 98 [.o (.sl 3 (ck l)), .fn 66 []] [] r [] ∧ ∃ k : Int, r = .n (.int .i64 k) ∧ decide (k ≥ 0) = l.any (fun c => !chOK c) := by
    refine vc_runs (R := fun r => ∃ k : Int, r = .n (.int .i64 k) ∧ decide (k ≥ 0) = l.any (fun c => !chOK c)) fs98 rfl ?_
    rw [vc98q, V98q, ck_len]
    refine ⟨fun i => 0 ≤ i ∧ i ≤ l.length ∧ ∀ j : Nat, (j : Int) < i → ∀ h : j < l.length, chOK l[j] = true, fun i => (l.length - i).toNat, ⟨rfl, by omega, by omega, fun j hj => by omega⟩, ?_⟩
    rintro i ⟨h0, h1, hok⟩ _
    refine sel_dec (fun h => ?_) (fun h => ?_)
    · have hi : i.toNat < l.length := by omega
      refine ⟨rfl, h0, _, ck_at hi, _, _, _, rfl, Nat.le_refl _, _, p66 l[i.toNat], sel_intro (fun hb => ?_) (fun hb => ?_)⟩
      · refine ⟨i, rfl, ?_⟩
        rw [decide_eq_true (by omega : i ≥ 0)]
        exact (List.any_eq_true.2 ⟨_, List.getElem_mem hi, hb⟩).symm
      · repeat (refine And.intro rfl ?_)
        rw [i64_in _ (by omega)]
        refine ⟨⟨by omega, by omega, fun j hj hjl => ?_⟩, by first | omega | (dsimp only; omega)⟩
        by_cases hji : (j : Int) < i
        · exact hok j hji hjl
        · obtain rfl : j = i.toNat := by omega
          simpa using hb
    · refine ⟨-1, rfl, ?_⟩
      rw [decide_eq_false (by omega)]
      refine (List.any_eq_false.2 fun p hp => ?_).symm
      obtain ⟨j, hj, rfl⟩ := List.getElem_of_mem hp
      rw [hok j (by omega) hj]; simp
  obtain ⟨r, hr, k, rfl, hk⟩ := key
  exact ⟨k, hk, hr⟩
theorem p59q (l : List Ch) (hl : (l.length : Int) ≤ 9223372036854775807) : Runs Fs 59 [.o (.sl 3 (ck l)), .fn 66 []] [] (.n (.bool (l.any fun c => !chOK c))) [] := by
  refine vc_eq fs59 rfl ?_
  rw [vc59q]
  obtain ⟨r, hr, h⟩ := p98q l hl
  exact ⟨r, h, by rw [hr]⟩


/-- Answers as plain data. -/
def g3 : AV → Int × Int × Int
  | .tup [.n (.int _ a), .n (.int _ b), .n (.int _ c)] => (a, b, c)
  | _ => (0, 0, 0)
def c3T : AV → ByteArray × Int × Int
  | .tup [.n (.str a), .n (.int _ b), .n (.int _ c)] => (a, b, c)
  | _ => (empS, 0, 0)
def gT (s : ByteArray) (a k : Int) : Int × Int × Int := g3 (GetR s a k)
def cT (s : ByteArray) (a : Int) : ByteArray × Int × Int := c3T (CutR s a)
theorem gT_eq (s : ByteArray) (a k : Int) : GetR s a k = .tup [.n (.int .i64 (gT s a k).1), .n (.int .i64 (gT s a k).2.1), .n (.int .i64 (gT s a k).2.2)] := by
  obtain ⟨x, y, z, h⟩ := getR_three s a k
  rw [gT, h]; rfl
theorem cT_eq (s : ByteArray) (a : Int) : CutR s a = .tup [.n (.str (cT s a).1), .n (.int .i64 (cT s a).2.1), .n (.int .i64 (cT s a).2.2)] := by
  obtain ⟨x, y, z, h⟩ := cutR_three s a
  rw [cT, h]; rfl
theorem gT_bad {s : ByteArray} {a k : Int} (h : (gT s a k).2.2 ≠ 0) : (gT s a k).1 = 0 := by
  by_cases h1 : k < 1 ∨ 6 < k ∨ a < 0 ∨ (s.size : Int) < a
  · rw [gT, getR_bad h1]; rfl
  · by_cases h2 : (s.size : Int) - a < k
    · rw [gT, getR_short h1 h2]; rfl
    · rw [gT, getR_good h1 h2] at h; exact absurd rfl h
theorem gT_byte (s : ByteArray) (a : Int) : 0 ≤ (gT s a 1).1 ∧ (gT s a 1).1 ≤ 255 := by
  by_cases h1 : (1 : Int) < 1 ∨ (6 : Int) < 1 ∨ a < 0 ∨ (s.size : Int) < a
  · rw [gT, getR_bad h1]; exact ⟨by decide, by decide⟩
  · by_cases h2 : (s.size : Int) - a < 1
    · rw [gT, getR_short h1 h2]; exact ⟨by decide, by decide⟩
    · rw [gT, getR_good h1 h2]
      have h3 := num_bound (piece s a 1)
      have h4 := piece_len s a 1
      have h5 : (256 : Int) ^ (piece s a 1).length ≤ 256 := by
        have : (piece s a 1).length = 0 ∨ (piece s a 1).length = 1 := by have : (1 : Int).toNat = 1 := rfl; omega
        rcases this with h | h <;> rw [h] <;> decide
      exact ⟨h3.1, by show num (piece s a 1) ≤ 255; omega⟩
def nx (s : ByteArray) (n e : Int) : Int × Int × Int := if e ≠ 0 then (0, n, e) else gT s n 1
def tx (s : ByteArray) (n e : Int) : ByteArray × Int × Int := if e ≠ 0 then (empS, n, e) else cT s n
def H7 (s : ByteArray) (n e : Int) : Heap := [(3200000, .box [.n (.str s)]), (3200300, .box [.n (.int .i64 n)]), (3200301, .box [.n (.int .i64 e)])]
theorem p63 (s : ByteArray) (hs : (s.size : Int) ≤ 9223372036854775807) (n e : Int) : Runs Fs 63 [.ptr 3200301 0, .ptr 3200000 0, .ptr 3200300 0] (H7 s n e) (.n (.int .i64 (nx s n e).1)) (H7 s (nx s n e).2.1 (nx s n e).2.2) := by
  refine vc_mut fs63 rfl (by kernel_rfl) ?_
  rw [H7, vc63h]
  refine sel_intro (fun h => ?_) (fun h => ?_)
  · rw [nx, if_pos (by simpa using h)]; exact ⟨rfl, rfl⟩
  · rw [nx, if_neg (by simpa using h)]
    have g := p48 s hs n 1
    rw [gT_eq] at g
    exact ⟨_, _, _, g, rfl, rfl⟩
theorem p64 (s : ByteArray) (hs : (s.size : Int) ≤ 9223372036854775807) (n e : Int) : Runs Fs 64 [.ptr 3200301 0, .ptr 3200000 0, .ptr 3200300 0] (H7 s n e) (.n (.str (tx s n e).1)) (H7 s (tx s n e).2.1 (tx s n e).2.2) := by
  refine vc_mut fs64 rfl (by kernel_rfl) ?_
  rw [H7, vc64h]
  refine sel_intro (fun h => ?_) (fun h => ?_)
  · rw [tx, if_pos (by simpa using h)]; exact ⟨rfl, rfl⟩
  · rw [tx, if_neg (by simpa using h)]
    have g := p65 s hs n
    rw [cT_eq] at g
    exact ⟨_, _, _, g, rfl, rfl⟩

/-- One change read, or why not. -/
def un1 (s : ByteArray) (a : Int) : Sum Int (Ch × Int) :=
  if (gT s a 1).2.2 ≠ 0 then .inl (gT s a 1).2.2
  else if 1 < (gT s a 1).1 then .inl 4
  else if (cT s (gT s a 1).2.1).2.2 ≠ 0 then .inl (cT s (gT s a 1).2.1).2.2
  else if (gT s a 1).1 = 1 then .inr (((cT s (gT s a 1).2.1).1, empS, true, ()), (cT s (gT s a 1).2.1).2.1)
  else if (cT s (cT s (gT s a 1).2.1).2.1).2.2 ≠ 0 then .inl (cT s (cT s (gT s a 1).2.1).2.1).2.2
  else .inr (((cT s (gT s a 1).2.1).1, (cT s (cT s (gT s a 1).2.1).2.1).1, false, ()), (cT s (cT s (gT s a 1).2.1).2.1).2.1)
def unN (s : ByteArray) : Nat → Int → List Ch → Sum Int (List Ch × Int)
  | 0, a, l => .inr (l, a)
  | n + 1, a, l => match un1 s a with
    | .inl e => .inl e
    | .inr (c, a') => unN s n a' (l ++ [c])
theorem unN_l {s : ByteArray} {n : Nat} {a : Int} {l : List Ch} {e : Int} (h : un1 s a = .inl e) : unN s (n + 1) a l = .inl e := by rw [unN, h]
theorem unN_r {s : ByteArray} {n : Nat} {a : Int} {l : List Ch} {c : Ch} {a' : Int} (h : un1 s a = .inr (c, a')) : unN s (n + 1) a l = unN s n a' (l ++ [c]) := by rw [unN, h]
def uErr (e : Int) : AV := .tup [.o (.sl 3 []), .n (.int .i64 e)]
def unEnd (s : ByteArray) : Sum Int (List Ch × Int) → AV
  | .inl e => uErr e
  | .inr (l, a) => if a ≠ s.size then uErr 4 else if l.any (fun c => !chOK c) then uErr 4 else .tup [.o (.sl 3 (ck l)), .n (.int .i64 0)]
def UnpackR (s : ByteArray) : AV :=
  if 480 < s.size then uErr 2 else if (gT s 0 1).2.2 ≠ 0 then uErr (gT s 0 1).2.2 else unEnd s (unN s (gT s 0 1).1.toNat (gT s 0 1).2.1 [])
theorem ck_snoc (l : List Ch) (a b : ByteArray) (g : Bool) : ck l ++ [.rcd [.str a, .str b, .bool g]] = ck (l ++ [(a, b, g, ())]) := by simp [ck, chD]

theorem unpackR_go {s : ByteArray} (h : ¬ 480 < s.size) (h2 : (gT s 0 1).2.2 = 0) : UnpackR s = unEnd s (unN s (gT s 0 1).1.toNat (gT s 0 1).2.1 []) := by
  rw [UnpackR, if_neg h, if_neg (by rw [h2]; simp)]
theorem unpackR_bad {s : ByteArray} (h : ¬ 480 < s.size) (h2 : (gT s 0 1).2.2 ≠ 0) : UnpackR s = uErr (gT s 0 1).2.2 := by
  rw [UnpackR, if_neg h, if_pos h2]
set_option maxRecDepth 10000 in
set_option maxHeartbeats 3300000 in
theorem p32 (s : ByteArray) (hs : (s.size : Int) ≤ 9223372036854775807) : Runs Fs 32 [.n (.str s)] [] (UnpackR s) [] := by
  refine vc_eq fs32 rfl ?_
  rw [vc32, V32]
  refine sel_dec (fun h => by rw [UnpackR, if_pos (by omega)]; rfl) (fun h => ?_)
  have h480 : ¬ 480 < s.size := by omega
  have g0 := p63 s hs 0 0
  have e0 : nx s 0 0 = gT s 0 1 := if_neg (by simp)
  rw [e0] at g0
  have hb0 := gT_byte s 0
  refine ⟨_, _, _, _, g0, fun v i S N E L => S.1 = s ∧ L.1 = v ∧ 0 ≤ i ∧ ∃ l, L.2 = ck l ∧ (l.length : Int) + i ≤ 255 ∧ ((E.1 = 0 ∧ UnpackR s = unEnd s (unN s i.toNat N.1 l)) ∨ (E.1 ≠ 0 ∧ UnpackR s = uErr E.1)), fun v i S N E L => i.toNat, ⟨rfl, rfl, rfl, hb0.1, [], rfl, by simp; omega, ?_⟩, ?_⟩
  · by_cases h2 : (gT s 0 1).2.2 = 0
    · exact .inl ⟨h2, unpackR_go h480 h2⟩
    · exact .inr ⟨h2, unpackR_bad h480 h2⟩
  rintro v i ⟨S, _⟩ ⟨N, _⟩ ⟨E, _⟩ ⟨lv, L⟩ ⟨hS, hL, hi0, l, hl, hlen, hinv⟩ _
  dsimp only at hS hL hl hinv ⊢
  subst hS hL hl
  refine sel_dec (fun hi => ?_) (fun hi => ?_)
  · refine sel_intro (fun hE => ?_) (fun hE => ?_)
    · have hE : E = 0 := by simpa using hE
      subst hE
      have hU := (hinv.resolve_right fun h => h.1 rfl).2
      obtain ⟨j, hj⟩ : ∃ j, i.toNat = j + 1 := ⟨i.toNat - 1, by omega⟩
      have hj' : (i - 1).toNat = j := by omega
      rw [hj] at hU
      have g1 := p63 S hs N 0
      rw [show nx S N 0 = gT S N 1 from if_neg (by simp)] at g1
      refine ⟨_, _, _, _, g1, sel_intro (fun he => ?_) (fun he => ?_)⟩
      · have he : (gT S N 1).2.2 = 0 := by simpa using he
        refine sel_dec (fun hg => ?_) (fun hg => ?_)
        · have hu : un1 S N = .inl 4 := by rw [un1, if_neg (by rw [he]; simp), if_pos (by omega)]
          rw [hU, unN_l hu]; rfl
        have g2 := p64 S hs (gT S N 1).2.1 (gT S N 1).2.2
        rw [he, show tx S (gT S N 1).2.1 0 = cT S (gT S N 1).2.1 from if_neg (by simp)] at g2
        rw [he]
        refine ⟨_, _, _, _, g2, sel_intro (fun hn => ?_) (fun hn => ?_)⟩
        · have hn : ¬ (gT S N 1).1 = 1 := fun e => by rw [e] at hn; simp at hn
          have g3 := p64 S hs (cT S (gT S N 1).2.1).2.1 (cT S (gT S N 1).2.1).2.2
          refine ⟨_, _, _, _, g3, rfl, .inl rfl, ⟨⟨rfl, rfl⟩, rfl⟩, by simp [ck_len]; omega, ?_⟩
          repeat (refine And.intro rfl ?_)
          rw [i64_in _ (by omega), show ((gT S N 1).1 == 1) = false from beq_eq_false_iff_ne.2 hn, ck_snoc]
          refine ⟨⟨rfl, rfl, by omega, _, rfl, by simp; omega, ?_⟩, by first | omega | (dsimp only; omega)⟩
          rw [hj', tx]
          by_cases hk : (cT S (gT S N 1).2.1).2.2 = 0
          · rw [if_neg (by rw [hk]; simp)]
            by_cases hv : (cT S (cT S (gT S N 1).2.1).2.1).2.2 = 0
            · refine .inl ⟨hv, ?_⟩
              have hu : un1 S N = .inr (((cT S (gT S N 1).2.1).1, (cT S (cT S (gT S N 1).2.1).2.1).1, false, ()), (cT S (cT S (gT S N 1).2.1).2.1).2.1) := by
                rw [un1, if_neg (by rw [he]; simp), if_neg (by omega), if_neg (by rw [hk]; simp), if_neg hn, if_neg (by rw [hv]; simp)]
              rw [hU, unN_r hu]
            · refine .inr ⟨hv, ?_⟩
              have hu : un1 S N = .inl (cT S (cT S (gT S N 1).2.1).2.1).2.2 := by
                rw [un1, if_neg (by rw [he]; simp), if_neg (by omega), if_neg (by rw [hk]; simp), if_neg hn, if_pos hv]
              rw [hU, unN_l hu]; rfl
          · rw [if_pos hk]
            refine .inr ⟨hk, ?_⟩
            have hu : un1 S N = .inl (cT S (gT S N 1).2.1).2.2 := by
              rw [un1, if_neg (by rw [he]; simp), if_neg (by omega), if_pos hk]
            rw [hU, unN_l hu]; rfl
        · have hn : (gT S N 1).1 = 1 := by simpa using hn
          refine ⟨rfl, .inl rfl, ⟨⟨rfl, rfl⟩, rfl⟩, by simp [ck_len]; omega, ?_⟩
          repeat (refine And.intro rfl ?_)
          rw [i64_in _ (by omega), show ((gT S N 1).1 == 1) = true by rw [hn]; rfl, ck_snoc]
          refine ⟨⟨rfl, rfl, by omega, _, rfl, by simp; omega, ?_⟩, by first | omega | (dsimp only; omega)⟩
          rw [hj']
          by_cases hk : (cT S (gT S N 1).2.1).2.2 = 0
          · refine .inl ⟨hk, ?_⟩
            have hu : un1 S N = .inr (((cT S (gT S N 1).2.1).1, empS, true, ()), (cT S (gT S N 1).2.1).2.1) := by
              rw [un1, if_neg (by rw [he]; simp), if_neg (by omega), if_neg (by rw [hk]; simp), if_pos hn]
            rw [hU, unN_r hu]; rfl
          · refine .inr ⟨hk, ?_⟩
            have hu : un1 S N = .inl (cT S (gT S N 1).2.1).2.2 := by
              rw [un1, if_neg (by rw [he]; simp), if_neg (by omega), if_pos hk]
            rw [hU, unN_l hu]; rfl
      · have he : (gT S N 1).2.2 ≠ 0 := fun e => by rw [e] at he; cases he
        have hg0 := gT_bad he
        have g2 := p64 S hs (gT S N 1).2.1 (gT S N 1).2.2
        rw [show tx S (gT S N 1).2.1 (gT S N 1).2.2 = (empS, (gT S N 1).2.1, (gT S N 1).2.2) from if_pos he] at g2
        rw [hg0]
        refine ⟨_, _, _, _, g2, sel_intro (fun hn => ?_) (fun hn => by cases hn)⟩
        refine ⟨_, _, _, _, g2, rfl, .inl rfl, ⟨⟨rfl, rfl⟩, rfl⟩, by simp [ck_len]; omega, ?_⟩
        repeat (refine And.intro rfl ?_)
        rw [i64_in _ (by omega), ck_snoc]
        refine ⟨⟨rfl, rfl, by omega, _, rfl, by simp; omega, .inr ⟨he, ?_⟩⟩, by first | omega | (dsimp only; omega)⟩
        have hu : un1 S N = .inl (gT S N 1).2.2 := by rw [un1, if_pos he]
        rw [hU, unN_l hu]; rfl
    · have hE' : E ≠ 0 := fun e => by rw [e] at hE; cases hE
      rcases hinv with ⟨h1, _⟩ | ⟨_, h2⟩
      · exact absurd h1 hE'
      refine sel_intro (fun hb => by rw [h2]; rfl) (fun hb => absurd (by simpa using hb) hE')
  · refine sel_intro (fun hb => ?_) (fun hb => ?_)
    · rcases hinv with ⟨h1, _⟩ | ⟨_, h2⟩
      · rw [h1] at hb; cases hb
      · rw [h2]; rfl
    · have hE : E = 0 := by simpa using hb
      rcases hinv with ⟨_, h2⟩ | ⟨h1, _⟩
      · rw [h2, show i.toNat = 0 by omega, unN, unEnd]
        refine sel_intro (fun hn => by rw [if_pos (by simpa using hn)]; rfl) (fun hn => ?_)
        rw [if_neg (by simpa using hn)]
        refine ⟨rfl, _, p59q l (by omega), sel_intro (fun ha => by rw [if_pos ha]; rfl) (fun ha => ?_)⟩
        rw [if_neg (by rw [ha]; simp)]
        exact ⟨rfl, rfl⟩
      · exact absurd hE h1
theorem chB_len {c : Ch} (h : chOK c = true) : (chB c).length ≤ 237 := by
  obtain ⟨k1, k2, k3⟩ := chOK_sizes h
  unfold chB
  cases c.2.2.1 <;> simp [beB_length, size_list] <;> omega
theorem packUp_bound {l : List Ch} (h : ∀ c ∈ l, chOK c = true) : ∀ i, i ≤ l.length → (packUp l i).length ≤ 1 + 237 * i
  | 0, _ => by simp [packUp, beB_length]
  | i + 1, hi => by
    have h1 := packUp_bound h i (by omega)
    rw [packUp_succ l i (by omega), List.length_append]
    have := chB_len (h _ (List.getElem_mem (by omega : i < l.length)))
    omega
theorem app_sOf (o : List UInt8) (c : Ch) (h : c.2.2.1 = true) : (sOf o ++ ByteArray.mk (List.toArray [1])) ++ TextOf c.1 = sOf (o ++ chB c) := by
  refine bytes_ext ?_
  rw [app_data, app_data, sOf_data, sOf_data, textOf_data, chB, h]
  simp
theorem app_sOf2 (o : List UInt8) (c : Ch) (h : c.2.2.1 = false) : ((sOf o ++ ByteArray.mk (List.toArray [0])) ++ TextOf c.1) ++ TextOf c.2.1 = sOf (o ++ chB c) := by
  refine bytes_ext ?_
  rw [app_data, app_data, app_data, sOf_data, sOf_data, textOf_data, textOf_data, chB, h]
  simp
theorem ch_same (c : Ch) : ((c.1.toList == c.1.toList) && ((c.2.1.toList == c.2.1.toList) && ((c.2.2.1 == c.2.2.1) && true))) = true := by
  simp
theorem p33 (l : List Ch) (hl : (l.length : Int) ≤ 9223372036854775807) : Runs Fs 33 [.o (.sl 3 (ck l)), .o (.sl 3 (ck l))] [] (.n (.bool true)) [] := by
  refine vc_eq fs33 rfl ?_
  rw [vc33, V33, ck_len]
  refine sel_intro (fun h => by simp at h) (fun _ => ?_)
  refine ⟨fun i => 0 ≤ i ∧ i ≤ l.length, fun i => (l.length - i).toNat, ⟨rfl, by omega, by omega⟩, ?_⟩
  rintro i ⟨h0, h1⟩ _
  refine sel_dec (fun h => ?_) (fun h => rfl)
  have hi : i.toNat < l.length := by omega
  refine ⟨rfl, h0, _, ck_at hi, _, _, _, rfl, Nat.le_refl _, rfl, h0, _, ck_at hi, _, _, _, rfl, Nat.le_refl _, ?_⟩
  rw [ch_same]
  refine sel_intro (fun h => by cases h) (fun _ => ?_)
  repeat (refine And.intro rfl ?_)
  rw [i64_in _ (by omega)]
  exact ⟨⟨by omega, by omega⟩, by first | omega | (dsimp only; omega)⟩
theorem p33_nil : Runs Fs 33 [.o (.sl 3 []), .o (.sl 3 [])] [] (.n (.bool true)) [] := p33 [] (by simp)
def fewC (l : List Ch) : List Ch := if 30 < l.length ∧ l.length < 256 then l.take 30 else l.take 300
theorem ck_take (l : List Ch) (n : Nat) : List.drop 0 (List.take n (ck l)) = ck (l.take n) := by simp [ck]
set_option maxRecDepth 20000 in
theorem p29 (l : List Ch) : Runs Fs 29 [.o (.sl 3 (ck l))] [] (.o (.sl 3 (ck (fewC l)))) [] := by
  refine vc_eq fs29 rfl ?_
  rw [vc29, V29, ck_len, mmF]
  have key : ¬ (30 < l.length ∧ l.length < 256) → List.take (Min.min ((l.length : Nat) : Int) 300).toNat l = fewC l := fun h => by
    rw [fewC, if_neg h]
    by_cases h2 : l.length ≤ 300
    · rw [List.take_of_length_le (by omega), List.take_of_length_le h2]
    · rw [show (Min.min ((l.length : Nat) : Int) 300).toNat = 300 by omega]
  refine sel_dec (fun h => ?_) (fun h => ?_)
  · refine sel_dec (fun h2 => ?_) (fun h2 => ?_)
    · refine ⟨rfl, by omega, by omega, ?_⟩
      rw [ck_take, fewC, if_pos (by omega)]; rfl
    · refine ⟨rfl, by omega, by omega, ?_⟩
      rw [ck_take, key (by omega)]
  · refine ⟨rfl, by omega, by omega, ?_⟩
    rw [ck_take, key (by omega)]
theorem unpackR_form (s : ByteArray) : ∃ l e, UnpackR s = .tup [.o (.sl 3 (ck l)), .n (.int .i64 e)] ∧ l.length ≤ 255 := by
  have un : ∀ (n : Nat) a l, match unN s n a l with | .inl _ => True | .inr (l', _) => l'.length = l.length + n := fun n => by
    induction n with
    | zero => intro a l; simp [unN]
    | succ n ih =>
      intro a l
      rw [unN]
      cases h : un1 s a with
      | inl e => trivial
      | inr x =>
        obtain ⟨c, a'⟩ := x
        have := ih a' (l ++ [c])
        revert this
        dsimp only
        cases unN s n a' (l ++ [c]) with
        | inl e => exact fun _ => trivial
        | inr y => intro h2; simp at h2 ⊢; omega
  rw [UnpackR]
  split
  · exact ⟨[], 2, rfl, by simp⟩
  split
  · exact ⟨[], _, rfl, by simp⟩
  have h := un (gT s 0 1).1.toNat (gT s 0 1).2.1 []
  have hb := gT_byte s 0
  cases hu : unN s (gT s 0 1).1.toNat (gT s 0 1).2.1 [] with
  | inl e => exact ⟨[], e, rfl, by simp⟩
  | inr x =>
    obtain ⟨l, a⟩ := x
    rw [hu] at h
    simp at h
    rw [unEnd]
    split
    · exact ⟨[], 4, rfl, by simp⟩
    split
    · exact ⟨[], 4, rfl, by simp⟩
    · exact ⟨l, 0, rfl, by omega⟩
theorem packR_two (l : List Ch) : ∃ a b, PackR l = .tup [.n (.str a), .n (.int .i64 b)] := by
  unfold PackR
  split
  · exact ⟨_, _, rfl⟩
  split
  · exact ⟨_, _, rfl⟩
  split <;> exact ⟨_, _, rfl⟩
abbrev chT : Ty := .sl (.st [.str, .str, .bool])
theorem len_of (x : chT.T) (h : chT.fit x) : (List.length (show List Ch from x) : Int) ≤ 9223372036854775807 := by
  have h1 : List.length (show List Ch from x) ≤ maxLen := h.1
  have e : maxLen = 9223372036854775807 := rfl
  omega
end Go.Proofs.YtmmnobdpccdeoaaDoor.M
