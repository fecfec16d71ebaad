import Derived.Test.YtmmnobdpccdeoaaGreatDoorZ3Nod2
namespace Go.Proofs.YtmmnobdpccdeoaaGreatDoor.M
set_option linter.unusedVariables false
set_option linter.unusedSimpArgs false
open Go Go.Mir
set_option linter.unusedVariables false

/-! A node's bytes, read. -/
def nxk (s : ByteArray) (n e k : Int) : Int × Int × Int := if e ≠ 0 then (0, n, e) else gT s n k
def h99 (s : ByteArray) (n e : Int) : Heap := [(3900302, .box [.n (.str s), .n (.int .i64 n), .n (.int .i64 e)])]
theorem p52 (s : ByteArray) (hs : Small s.size) (n e k : Int) : Runs Fs2 52 [.ptr 3900302 0, .n (.int .i64 k)] (h99 s n e) (.n (.int .i64 (nxk s n e k).1)) (h99 s (nxk s n e k).2.1 (nxk s n e k).2.2) := by
  refine vc_mut fs52 rfl (by kernel_rfl) ?_
  rw [h99, vc52h]
  refine sel_intro (fun h => ?_) (fun h => ?_)
  · rw [nxk, if_pos (by simpa using h)]; exact ⟨rfl, rfl⟩
  · rw [nxk, if_neg (by simpa using h)]
    have g := (p71 s hs n k).up up2
    rw [gT_eq] at g
    exact ⟨_, _, _, g, rfl, rfl⟩
theorem p53 (s : ByteArray) (hs : Small s.size) (n e : Int) : Runs Fs2 53 [.ptr 3900302 0] (h99 s n e) (.n (.str (tx s n e).1)) (h99 s (tx s n e).2.1 (tx s n e).2.2) := by
  refine vc_mut fs53 rfl (by kernel_rfl) ?_
  rw [h99, vc53h]
  refine sel_intro (fun h => ?_) (fun h => ?_)
  · rw [tx, if_pos (by simpa using h)]; exact ⟨rfl, rfl⟩
  · rw [tx, if_neg (by simpa using h)]
    have g := (p76 s hs n).up up2
    rw [cT_eq] at g
    exact ⟨_, _, _, g, rfl, rfl⟩
def lfUp (s : ByteArray) : Nat → Int → List ByteArray → List ByteArray → Sum Int (List ByteArray × List ByteArray × Int)
  | 0, a, ks, vs => .inr (ks, vs, a)
  | m + 1, a, ks, vs =>
    if (cT s a).2.2 ≠ 0 then .inl (cT s a).2.2
    else if (cT s (cT s a).2.1).2.2 ≠ 0 then .inl (cT s (cT s a).2.1).2.2
    else lfUp s m (cT s (cT s a).2.1).2.1 (ks ++ [(cT s a).1]) (vs ++ [(cT s (cT s a).2.1).1])
def inUp (s : ByteArray) : Nat → Int → List Int → List ByteArray → Sum Int (List Int × List ByteArray × Int)
  | 0, a, bs, ks => .inr (bs, ks, a)
  | m + 1, a, bs, ks =>
    if (gT s a 2).2.2 ≠ 0 then .inl (gT s a 2).2.2
    else if (cT s (gT s a 2).2.1).2.2 ≠ 0 then .inl (cT s (gT s a 2).2.1).2.2
    else inUp s m (cT s (gT s a 2).2.1).2.1 (bs ++ [(gT s a 2).1]) (ks ++ [(cT s (gT s a 2).2.1).1])
noncomputable def nFin (s : ByteArray) (n : Nd) (a : Int) : Nd × Int := if a ≠ s.size ∨ ¬ NdOK n true then (nd0, 4) else (n, 0)
noncomputable def nCont (s : ByteArray) (leaf : Bool) (m : Nat) (a : Int) (ks vs : List ByteArray) (bs : List Int) : Nd × Int :=
  if leaf then match lfUp s m a ks vs with
    | .inl e => (nd0, e)
    | .inr (ks, vs, a) => nFin s ⟨true, ks, vs, bs⟩ a
  else match inUp s m a bs ks with
    | .inl e => (nd0, e)
    | .inr (bs, ks, a) => if (gT s a 2).2.2 ≠ 0 then (nd0, (gT s a 2).2.2) else nFin s ⟨false, ks, vs, bs ++ [(gT s a 2).1]⟩ (gT s a 2).2.1
noncomputable def NGet (kind : Int) (s : ByteArray) : Nd × Int :=
  if kind ≠ 1 ∧ kind ≠ 2 then (nd0, 81)
  else if (gT s 0 1).2.2 ≠ 0 then (nd0, (gT s 0 1).2.2)
  else nCont s (kind == 1) (gT s 0 1).1.toNat (gT s 0 1).2.1 [] [] []
def nduo (x : Nd × Int) : AV := .tup [ndV x.1, .n (.int .i64 x.2)]
theorem ndV_eq (n : Nd) : ndV n = .agg [.n (.bool n.leaf), .o (.sl 1 (sl_ n.keys)), .o (.sl 1 (sl_ n.vals)), .o (.sl 1 (il n.kids))] := rfl
theorem nduo0 (e : Int) : nduo (nd0, e) = .tup [.agg [.n (.bool false), .o (.sl 1 []), .o (.sl 1 []), .o (.sl 1 [])], .n (.int .i64 e)] := rfl
theorem lf_k {s : ByteArray} {m : Nat} {a : Int} {ks vs : List ByteArray} (h : (cT s a).2.2 ≠ 0) : lfUp s (m + 1) a ks vs = .inl (cT s a).2.2 := by rw [lfUp, if_pos h]
theorem lf_v {s : ByteArray} {m : Nat} {a : Int} {ks vs : List ByteArray} (h : (cT s a).2.2 = 0) (h2 : (cT s (cT s a).2.1).2.2 ≠ 0) : lfUp s (m + 1) a ks vs = .inl (cT s (cT s a).2.1).2.2 := by rw [lfUp, if_neg (by rw [h]; simp), if_pos h2]
theorem lf_go {s : ByteArray} {m : Nat} {a : Int} {ks vs : List ByteArray} (h : (cT s a).2.2 = 0) (h2 : (cT s (cT s a).2.1).2.2 = 0) : lfUp s (m + 1) a ks vs = lfUp s m (cT s (cT s a).2.1).2.1 (ks ++ [(cT s a).1]) (vs ++ [(cT s (cT s a).2.1).1]) := by rw [lfUp, if_neg (by rw [h]; simp), if_neg (by rw [h2]; simp)]
theorem in_b {s : ByteArray} {m : Nat} {a : Int} {bs : List Int} {ks : List ByteArray} (h : (gT s a 2).2.2 ≠ 0) : inUp s (m + 1) a bs ks = .inl (gT s a 2).2.2 := by rw [inUp, if_pos h]
theorem in_k {s : ByteArray} {m : Nat} {a : Int} {bs : List Int} {ks : List ByteArray} (h : (gT s a 2).2.2 = 0) (h2 : (cT s (gT s a 2).2.1).2.2 ≠ 0) : inUp s (m + 1) a bs ks = .inl (cT s (gT s a 2).2.1).2.2 := by rw [inUp, if_neg (by rw [h]; simp), if_pos h2]
theorem in_go {s : ByteArray} {m : Nat} {a : Int} {bs : List Int} {ks : List ByteArray} (h : (gT s a 2).2.2 = 0) (h2 : (cT s (gT s a 2).2.1).2.2 = 0) : inUp s (m + 1) a bs ks = inUp s m (cT s (gT s a 2).2.1).2.1 (bs ++ [(gT s a 2).1]) (ks ++ [(cT s (gT s a 2).2.1).1]) := by rw [inUp, if_neg (by rw [h]; simp), if_neg (by rw [h2]; simp)]
theorem nc_true (s : ByteArray) (m : Nat) (a : Int) (ks vs : List ByteArray) (bs : List Int) : nCont s true m a ks vs bs = match lfUp s m a ks vs with
    | .inl e => (nd0, e)
    | .inr (ks, vs, a) => nFin s ⟨true, ks, vs, bs⟩ a := by rw [nCont, if_pos rfl]
theorem nc_false (s : ByteArray) (m : Nat) (a : Int) (ks vs : List ByteArray) (bs : List Int) : nCont s false m a ks vs bs = match inUp s m a bs ks with
    | .inl e => (nd0, e)
    | .inr (bs, ks, a) => if (gT s a 2).2.2 ≠ 0 then (nd0, (gT s a 2).2.2) else nFin s ⟨false, ks, vs, bs ++ [(gT s a 2).1]⟩ (gT s a 2).2.1 := by rw [nCont, if_neg (by simp)]
theorem il_snoc (l : List Int) (b : Int) : il l ++ [D.int .i64 b] = il (l ++ [b]) := by simp [il]
theorem nFits_small {n : Nd} (h1 : n.keys.length ≤ 300) (h2 : n.vals.length ≤ 300) (h3 : n.kids.length ≤ 300) : NdFits n := ⟨by omega, by omega, by omega⟩
/-- What stands behind all reading. -/
theorem p39_end (s : ByteArray) (n : Nd) (a : Int) (hf : NdFits n) : sel (a != (s.size : Int)) (nduo (nd0, 4) = nduo (nFin s n a)) (∃ x : Bool, Runs Fs2 40 [ndV n, .n (.bool true)] [] (.n (.bool x)) [] ∧ sel (!x) (nduo (nd0, 4) = nduo (nFin s n a)) (nduo (n, 0) = nduo (nFin s n a))) := by
  refine sel_intro (fun h => ?_) (fun h => ?_)
  · rw [nFin, if_pos (.inl (by simpa using h))]
  · have ha : a = s.size := by simpa using h
    refine ⟨_, p40 n true hf, ?_⟩
    by_cases hk : NdOK n true
    · rw [decide_eq_true hk]
      refine sel_intro (fun h => by cases h) (fun _ => ?_)
      rw [nFin, if_neg (by simp [ha, hk])]
    · rw [decide_eq_false hk]
      refine sel_intro (fun _ => ?_) (fun h => by cases h)
      rw [nFin, if_pos (.inr hk)]
set_option maxRecDepth 10000 in
set_option maxHeartbeats 4300000 in
theorem p39 (kind : Int) (s : ByteArray) (hs : Small s.size) : Runs Fs2 39 [.n (.int .i64 kind), .n (.str s)] [] (nduo (NGet kind s)) [] := by
  refine vc_eq fs39 rfl ?_
  rw [vc39, V39]
  have g0 := p52 s hs 0 0 1
  have e0 : nxk s 0 0 1 = gT s 0 1 := if_neg (by simp)
  rw [e0] at g0
  have hb0 := gT_byte s 0
  have bad : kind ≠ 1 → kind ≠ 2 → NGet kind s = (nd0, 81) := fun h1 h2 => by rw [NGet, if_pos ⟨h1, h2⟩]
  have start : ¬ (kind ≠ 1 ∧ kind ≠ 2) → NGet kind s = if (gT s 0 1).2.2 ≠ 0 then (nd0, (gT s 0 1).2.2) else nCont s (kind == 1) (gT s 0 1).1.toNat (gT s 0 1).2.1 [] [] [] := fun h => by rw [NGet, if_neg h]
  refine sel_intro (fun h1 => sel_intro (fun h2 => by rw [bad (by simpa using h1) (by simpa using h2)]; rfl) (fun h2 => ?_)) (fun h1 => ?_)
  all_goals
    have hst := start (by
      rintro ⟨k1, k2⟩
      simp only [bne_eq_false_iff_eq, bne_iff_ne] at h1
      first
        | exact k1 h1
        | (simp only [bne_eq_false_iff_eq] at h2; exact k2 h2))
    generalize hleaf : (kind == 1) = leaf at hst
    refine ⟨_, _, _, _, g0, ?_⟩
    refine ⟨fun i S N K V B => 0 ≤ i ∧ S.1 = s ∧ N.1 = leaf ∧ N.2.1 = K.1 ∧ N.2.2.1 = V.1 ∧ N.2.2.2.1 = B.1 ∧ ∃ (ks vs : List ByteArray) (bs : List Int), K.2 = sl_ ks ∧ V.2 = sl_ vs ∧ B.2 = il bs ∧ (ks.length : Int) ≤ i ∧ (vs.length : Int) ≤ i ∧ (bs.length : Int) ≤ i ∧
        (leaf = true → bs = []) ∧ (leaf = false → vs = []) ∧ i ≤ 256 ∧
        ((S.2.2.1 = 0 ∧ i ≤ (gT s 0 1).1 ∧ NGet kind s = nCont s leaf ((gT s 0 1).1 - i).toNat S.2.1 ks vs bs) ∨ (S.2.2.1 ≠ 0 ∧ NGet kind s = (nd0, S.2.2.1))), fun i _ _ _ _ _ => ((gT s 0 1).1 - i).toNat,
      ⟨rfl, Int.le_refl _, rfl, rfl, rfl, rfl, rfl, [], [], [], rfl, rfl, rfl, by simp, by simp, by simp, fun _ => rfl, fun _ => rfl, by omega, ?_⟩, ?_⟩
    · by_cases h2 : (gT s 0 1).2.2 = 0
      · refine .inl ⟨h2, hb0.1, ?_⟩
        rw [hst, if_neg (by rw [h2]; simp), Int.sub_zero]
      · exact .inr ⟨h2, by rw [hst, if_pos h2]⟩
    rintro i ⟨S, N, E, _⟩ ⟨lf, va, vb, vc, _⟩ ⟨ka, K⟩ ⟨kb, V⟩ ⟨kc, B⟩ ⟨h0, hS, hlf, rfl, rfl, rfl, ks, vs, bs, rfl, rfl, rfl, lk, lv, lb, nb, nv, hi256, hinv⟩ _
    dsimp only at hS hlf hinv ⊢
    subst hS hlf
    refine sel_dec (fun hlt => ?_) (fun hge => ?_)
    · refine sel_intro (fun hE => ?_) (fun hE => ?_)
      · have hE : E = 0 := by simpa using hE
        subst hE
        have hU := (hinv.resolve_right fun h => h.1 rfl).2.2
        obtain ⟨j, hj⟩ : ∃ j, ((gT S 0 1).1 - i).toNat = j + 1 := ⟨((gT S 0 1).1 - i).toNat - 1, by omega⟩
        have hj' : ((gT S 0 1).1 - (i + 1)).toNat = j := by omega
        rw [hj] at hU
        refine sel_intro (fun hl => ?_) (fun hl => ?_)
        · subst hl
          have g1 := p53 S hs N 0
          rw [show tx S N 0 = cT S N from if_neg (by simp)] at g1
          have g2 := p53 S hs (cT S N).2.1 (cT S N).2.2
          refine ⟨_, _, _, _, g1, rfl, .inl rfl, ⟨⟨rfl, rfl⟩, rfl⟩, by simp [sl_len]; omega, _, _, _, _, g2, rfl, .inl rfl, ⟨⟨rfl, rfl⟩, rfl⟩, by simp [sl_len]; omega, ?_⟩
          repeat (refine And.intro rfl ?_)
          rw [i64_in _ (by omega), sl_snoc, sl_snoc]
          refine ⟨⟨by omega, rfl, rfl, rfl, rfl, rfl, _, _, _, rfl, rfl, rfl, (by simp; omega), (by simp; omega), by omega, fun _ => nb rfl, (fun h => by cases h), by omega, ?_⟩, by first | omega | (dsimp only; omega)⟩
          rw [hj']
          by_cases hk : (cT S N).2.2 = 0
          · rw [tx, if_neg (by rw [hk]; simp)]
            by_cases hv : (cT S (cT S N).2.1).2.2 = 0
            · refine .inl ⟨hv, by omega, ?_⟩
              rw [hU, nc_true, nc_true, lf_go hk hv]
            · refine .inr ⟨hv, ?_⟩
              rw [hU, nc_true, lf_v hk hv]
          · rw [tx, if_pos hk]
            refine .inr ⟨hk, ?_⟩
            rw [hU, nc_true, lf_k hk]
        · subst hl
          have g1 := p52 S hs N 0 2
          rw [show nxk S N 0 2 = gT S N 2 from if_neg (by simp)] at g1
          have g2 := p53 S hs (gT S N 2).2.1 (gT S N 2).2.2
          refine ⟨_, _, _, _, g1, rfl, .inl rfl, ⟨⟨rfl, rfl⟩, rfl⟩, by simp [il_len]; omega, _, _, _, _, g2, rfl, .inl rfl, ⟨⟨rfl, rfl⟩, rfl⟩, by simp [sl_len]; omega, ?_⟩
          repeat (refine And.intro rfl ?_)
          rw [i64_in _ (by omega), sl_snoc, il_snoc]
          refine ⟨⟨by omega, rfl, rfl, rfl, rfl, rfl, _, _, _, rfl, rfl, rfl, (by simp; omega), by omega, (by simp; omega), (fun h => by cases h), fun _ => nv rfl, by omega, ?_⟩, by first | omega | (dsimp only; omega)⟩
          rw [hj']
          by_cases hk : (gT S N 2).2.2 = 0
          · rw [tx, if_neg (by rw [hk]; simp)]
            by_cases hv : (cT S (gT S N 2).2.1).2.2 = 0
            · refine .inl ⟨hv, by omega, ?_⟩
              rw [hU, nc_false, nc_false, in_go hk hv]
            · refine .inr ⟨hv, ?_⟩
              rw [hU, nc_false, in_k hk hv]
          · rw [tx, if_pos hk]
            refine .inr ⟨hk, ?_⟩
            rw [hU, nc_false, in_b hk]
      · have hE : E ≠ 0 := by simpa using hE
        have hx : (E = 0 ∧ NGet kind S = nCont S lf 0 N ks vs bs) ∨ (E ≠ 0 ∧ NGet kind S = (nd0, E)) := .inr ⟨hE, (hinv.resolve_left fun h => hE h.1).2⟩
        refine sel_intro (fun hl => ?_) (fun hl => ?_)
        · have hl : lf = false := by simpa using hl
          subst hl
          have gx := p52 S hs N E 2
          rcases hx with ⟨rfl, hN⟩ | ⟨hE, hN⟩
          · have ex : nxk S N 0 2 = gT S N 2 := if_neg (by simp)
            rw [ex] at gx
            rw [nc_false] at hN
            simp only [inUp] at hN
            refine ⟨_, _, _, _, gx, rfl, .inl rfl, ⟨⟨rfl, rfl⟩, rfl⟩, by simp [il_len]; omega, ?_⟩
            refine sel_intro (fun he => ?_) (fun he => ?_)
            · rw [hN, if_pos (by simpa using he)]; rfl
            · have he : (gT S N 2).2.2 = 0 := by simpa using he
              rw [hN, if_neg (by rw [he]; simp), il_snoc]
              refine sel_intro (fun hz => ?_) (fun hz => ⟨rfl, rfl, rfl, _, p40 ⟨false, ks, vs, bs ++ [(gT S N 2).1]⟩ true (nFits_small (by dsimp only; omega) (by dsimp only; omega) (by simp; omega)), ?_⟩)
              · rw [nFin, if_pos (.inl (by simpa using hz))]; rfl
              · by_cases hk : NdOK ⟨false, ks, vs, bs ++ [(gT S N 2).1]⟩ true
                · rw [decide_eq_true hk]
                  refine sel_intro (fun h => by cases h) (fun _ => ⟨rfl, rfl, rfl, ?_⟩)
                  rw [nFin, if_neg (by
                    rintro (h | h)
                    · exact h (by simpa using hz)
                    · exact h hk)]; rfl
                · rw [decide_eq_false hk]
                  refine sel_intro (fun _ => ?_) (fun h => by cases h)
                  rw [nFin, if_pos (.inr hk)]; rfl
          · have ex : nxk S N E 2 = (0, N, E) := if_pos hE
            rw [ex] at gx
            refine ⟨_, _, _, _, gx, rfl, .inl rfl, ⟨⟨rfl, rfl⟩, rfl⟩, by simp [il_len]; omega, ?_⟩
            refine sel_intro (fun he => ?_) (fun he => absurd (by simpa using he) hE)
            rw [hN]; rfl
        · have hl : lf = true := by simpa using hl
          subst hl
          rcases hx with ⟨rfl, hN⟩ | ⟨hE, hN⟩
          · rw [nc_true] at hN
            simp only [lfUp] at hN
            refine sel_intro (fun h => by simp at h) (fun _ => ?_)
            rw [hN]
            refine sel_intro (fun hz => ?_) (fun hz => ⟨rfl, rfl, rfl, _, p40 ⟨true, ks, vs, bs⟩ true (nFits_small (by dsimp only; omega) (by dsimp only; omega) (by simp; omega)), ?_⟩)
            · rw [nFin, if_pos (.inl (by simpa using hz))]; rfl
            · by_cases hk : NdOK ⟨true, ks, vs, bs⟩ true
              · rw [decide_eq_true hk]
                refine sel_intro (fun h => by cases h) (fun _ => ⟨rfl, rfl, rfl, ?_⟩)
                rw [nFin, if_neg (by
                  rintro (h | h)
                  · exact h (by simpa using hz)
                  · exact h hk)]; rfl
              · rw [decide_eq_false hk]
                refine sel_intro (fun _ => ?_) (fun h => by cases h)
                rw [nFin, if_pos (.inr hk)]; rfl
          · refine sel_intro (fun _ => by rw [hN]; rfl) (fun h => absurd (by simpa using h) hE)
    · have hx : (E = 0 ∧ NGet kind S = nCont S lf 0 N ks vs bs) ∨ (E ≠ 0 ∧ NGet kind S = (nd0, E)) := by
        rcases hinv with ⟨h1, h2, h3⟩ | h
        · exact .inl ⟨h1, by rw [show ((gT S 0 1).1 - i).toNat = 0 by omega] at h3; exact h3⟩
        · exact .inr h
      refine sel_intro (fun hl => ?_) (fun hl => ?_)
      · have hl : lf = false := by simpa using hl
        subst hl
        have gx := p52 S hs N E 2
        rcases hx with ⟨rfl, hN⟩ | ⟨hE, hN⟩
        · have ex : nxk S N 0 2 = gT S N 2 := if_neg (by simp)
          rw [ex] at gx
          rw [nc_false] at hN
          simp only [inUp] at hN
          refine ⟨_, _, _, _, gx, rfl, .inl rfl, ⟨⟨rfl, rfl⟩, rfl⟩, by simp [il_len]; omega, ?_⟩
          refine sel_intro (fun he => ?_) (fun he => ?_)
          · rw [hN, if_pos (by simpa using he)]; rfl
          · have he : (gT S N 2).2.2 = 0 := by simpa using he
            rw [hN, if_neg (by rw [he]; simp), il_snoc]
            refine sel_intro (fun hz => ?_) (fun hz => ⟨rfl, rfl, rfl, _, p40 ⟨false, ks, vs, bs ++ [(gT S N 2).1]⟩ true (nFits_small (by dsimp only; omega) (by dsimp only; omega) (by simp; omega)), ?_⟩)
            · rw [nFin, if_pos (.inl (by simpa using hz))]; rfl
            · by_cases hk : NdOK ⟨false, ks, vs, bs ++ [(gT S N 2).1]⟩ true
              · rw [decide_eq_true hk]
                refine sel_intro (fun h => by cases h) (fun _ => ⟨rfl, rfl, rfl, ?_⟩)
                rw [nFin, if_neg (by
                  rintro (h | h)
                  · exact h (by simpa using hz)
                  · exact h hk)]; rfl
              · rw [decide_eq_false hk]
                refine sel_intro (fun _ => ?_) (fun h => by cases h)
                rw [nFin, if_pos (.inr hk)]; rfl
        · have ex : nxk S N E 2 = (0, N, E) := if_pos hE
          rw [ex] at gx
          refine ⟨_, _, _, _, gx, rfl, .inl rfl, ⟨⟨rfl, rfl⟩, rfl⟩, by simp [il_len]; omega, ?_⟩
          refine sel_intro (fun he => ?_) (fun he => absurd (by simpa using he) hE)
          rw [hN]; rfl
      · have hl : lf = true := by simpa using hl
        subst hl
        rcases hx with ⟨rfl, hN⟩ | ⟨hE, hN⟩
        · rw [nc_true] at hN
          simp only [lfUp] at hN
          refine sel_intro (fun h => by simp at h) (fun _ => ?_)
          rw [hN]
          refine sel_intro (fun hz => ?_) (fun hz => ⟨rfl, rfl, rfl, _, p40 ⟨true, ks, vs, bs⟩ true (nFits_small (by dsimp only; omega) (by dsimp only; omega) (by simp; omega)), ?_⟩)
          · rw [nFin, if_pos (.inl (by simpa using hz))]; rfl
          · by_cases hk : NdOK ⟨true, ks, vs, bs⟩ true
            · rw [decide_eq_true hk]
              refine sel_intro (fun h => by cases h) (fun _ => ⟨rfl, rfl, rfl, ?_⟩)
              rw [nFin, if_neg (by
                rintro (h | h)
                · exact h (by simpa using hz)
                · exact h hk)]; rfl
            · rw [decide_eq_false hk]
              refine sel_intro (fun _ => ?_) (fun h => by cases h)
              rw [nFin, if_pos (.inr hk)]; rfl
        · refine sel_intro (fun _ => by rw [hN]; rfl) (fun h => absurd (by simpa using h) hE)
end Go.Proofs.YtmmnobdpccdeoaaGreatDoor.M
