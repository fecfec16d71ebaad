import Derived.Test.YtmmnobdpccdeoaaGreatDoorZ3Wood
namespace Go.Proofs.YtmmnobdpccdeoaaGreatDoor.M
set_option linter.unusedVariables false
set_option linter.unusedSimpArgs false
open Go Go.Mir
set_option linter.unusedVariables false

/-! What a block holds. -/
theorem nFin_ok {s : ByteArray} {n : Nd} {a : Int} (h : (nFin s n a).2 = 0) : nFin s n a = (n, 0) ∧ NdOK n true := by
  unfold nFin at h ⊢
  by_cases hc : a ≠ s.size ∨ ¬ NdOK n true
  · rw [if_pos hc] at h; cases h
  · rw [if_neg hc]
    exact ⟨rfl, Classical.byContradiction fun h2 => hc (.inr h2)⟩
theorem nFin_cases (s : ByteArray) (n : Nd) (a : Int) : nFin s n a = (nd0, 4) ∨ (nFin s n a = (n, 0) ∧ NdOK n true) := by
  unfold nFin
  by_cases hc : a ≠ s.size ∨ ¬ NdOK n true
  · rw [if_pos hc]; exact .inl rfl
  · rw [if_neg hc]; exact .inr ⟨rfl, Classical.byContradiction fun h2 => hc (.inr h2)⟩
theorem lf_err {s : ByteArray} : ∀ (m : Nat) (a : Int) (ks vs : List ByteArray) (e : Int), lfUp s m a ks vs = .inl e → e ≠ 0
  | 0, a, ks, vs, e, h => by simp [lfUp] at h
  | m + 1, a, ks, vs, e, h => by
    unfold lfUp at h
    split at h
    · rename_i h1; simp only [Sum.inl.injEq] at h; rw [← h]; exact h1
    split at h
    · rename_i h1; simp only [Sum.inl.injEq] at h; rw [← h]; exact h1
    · exact lf_err m _ _ _ e h
theorem in_err {s : ByteArray} : ∀ (m : Nat) (a : Int) (bs : List Int) (ks : List ByteArray) (e : Int), inUp s m a bs ks = .inl e → e ≠ 0
  | 0, a, bs, ks, e, h => by simp [inUp] at h
  | m + 1, a, bs, ks, e, h => by
    unfold inUp at h
    split at h
    · rename_i h1; simp only [Sum.inl.injEq] at h; rw [← h]; exact h1
    split at h
    · rename_i h1; simp only [Sum.inl.injEq] at h; rw [← h]; exact h1
    · exact in_err m _ _ _ e h
theorem nget_cases (k : Int) (s : ByteArray) : ((NGet k s).2 = 0 ∧ NdOK (NGet k s).1 true ∧ (k = 1 ∨ k = 2) ∧ (NGet k s).1.leaf = (k == 1)) ∨ ((NGet k s).2 ≠ 0 ∧ (NGet k s).1 = nd0) := by
  unfold NGet
  by_cases h1 : k ≠ 1 ∧ k ≠ 2
  · rw [if_pos h1]; exact .inr ⟨by simp, rfl⟩
  rw [if_neg h1]
  by_cases h2 : (gT s 0 1).2.2 ≠ 0
  · rw [if_pos h2]; exact .inr ⟨h2, rfl⟩
  rw [if_neg h2]
  have hk : k = 1 ∨ k = 2 := by omega
  cases hl : (k == 1) with
  | true =>
    rw [nc_true]
    cases hu : lfUp s (gT s 0 1).1.toNat (gT s 0 1).2.1 [] [] with
    | inl e => exact .inr ⟨lf_err _ _ _ _ _ hu, rfl⟩
    | inr x =>
      obtain ⟨ks, vs, a⟩ := x
      dsimp only
      rcases nFin_cases s ⟨true, ks, vs, []⟩ a with h | ⟨h, hok⟩
      · rw [h]; exact .inr ⟨by simp, rfl⟩
      · rw [h]; exact .inl ⟨rfl, hok, hk, rfl⟩
  | false =>
    rw [nc_false]
    cases hu : inUp s (gT s 0 1).1.toNat (gT s 0 1).2.1 [] [] with
    | inl e => exact .inr ⟨in_err _ _ _ _ _ hu, rfl⟩
    | inr x =>
      obtain ⟨bs, ks, a⟩ := x
      dsimp only
      split
      · rename_i h; exact .inr ⟨h, rfl⟩
      · rcases nFin_cases s ⟨false, ks, [], bs ++ [(gT s a 2).1]⟩ (gT s a 2).2.1 with h | ⟨h, hok⟩
        · rw [h]; exact .inr ⟨by simp, rfl⟩
        · rw [h]; exact .inl ⟨rfl, hok, hk, rfl⟩
theorem nget_ok {k : Int} {s : ByteArray} (h : (NGet k s).2 = 0) : NdOK (NGet k s).1 true ∧ (NGet k s).1.leaf = (k == 1) := by
  rcases nget_cases k s with ⟨_, h1, _, h2⟩ | ⟨h1, _⟩
  · exact ⟨h1, h2⟩
  · exact absurd h h1
theorem ndOK_fits {n : Nd} {root : Bool} (h : NdOK n root) : NdFits n ∧ n.keys.length ≤ 8 ∧ n.vals.length ≤ 8 ∧ n.kids.length ≤ 9 := by
  obtain ⟨hs, h8, _⟩ := h
  rcases hs.2.2 with ⟨_, h1, h2, _⟩ | ⟨_, h1, _, h2, _⟩
  · rw [NdFits, h1]; simp; omega
  · rw [NdFits, h1]; simp; omega
noncomputable def hPage (p : AV) (gen : Int) (root : Bool) : Option Nd :=
  match p with
  | .tup [.agg [.n (.int _ k), .n (.int _ g), .n (.str b)], .n (.int _ e)] =>
    if e ≠ 0 then none else if g > gen then none else if (NGet k b).2 ≠ 0 then none else if NdOK (NGet k b).1 root then some (NGet k b).1 else none
  | _ => none
theorem hPage_err {e : Int} (he : e ≠ 0) (gen : Int) (root : Bool) : hPage (pErr e) gen root = none := by
  simp only [hPage, pErr, pg, if_pos he]
theorem hPage_ok (k g : Int) (b : ByteArray) (gen : Int) (root : Bool) : hPage (.tup [pg k g b, .n (.int .i64 0)]) gen root = if g > gen then none else if (NGet k b).2 ≠ 0 then none else if NdOK (NGet k b).1 root then some (NGet k b).1 else none := by
  simp only [hPage, pg]; rw [if_neg (by simp)]
def pgAt (w : Wd) (block : Int) : ByteArray := (w.pages[block.toNat]?).getD empS
noncomputable def Hold (w : Wd) (block : Int) (root : Bool) : Option Nd :=
  if block < 10 ∨ block ≥ w.now.length ∨ block ≥ w.pages.length ∨ tr w.now block.toNat = false then none else hPage (GetPR (pgAt w block)) w.gen root
def hV : Option Nd → AV
  | some n => .tup [ndV n, .n (.bool true)]
  | none => .tup [ndV nd0, .n (.bool false)]
theorem hold_no {w : Wd} {block : Int} {root : Bool} (h : block < 10 ∨ block ≥ w.now.length ∨ block ≥ w.pages.length ∨ tr w.now block.toNat = false) : Hold w block root = none := by rw [Hold, if_pos h]
theorem hold_go {w : Wd} {block : Int} {root : Bool} (h : ¬ (block < 10 ∨ block ≥ w.now.length ∨ block ≥ w.pages.length ∨ tr w.now block.toNat = false)) : Hold w block root = hPage (GetPR (pgAt w block)) w.gen root := by rw [Hold, if_neg h]
theorem kind_out {k : Int} (h : k ∉ [(1 : Int), 2]) (b : ByteArray) : (NGet k b).2 ≠ 0 := by
  rw [NGet, if_pos (by simp at h; omega)]; simp
theorem pgAt_get {w : Wd} {block : Int} (h : block.toNat < w.pages.length) : w.pages[block.toNat] = pgAt w block := by
  unfold pgAt; rw [List.getElem?_eq_getElem h]; rfl
theorem p36 (w : Wd) (hf : WFits w) (block : Int) (root : Bool) : Runs Fs2 36 [wdV w, .n (.int .i64 block), .n (.bool root)] [] (hV (Hold w block root)) [] := by
  refine vc_eq fs36 rfl ?_
  rw [wdV, vc36, V36, blD_len, sl_len]
  refine sel_dec (fun h => by rw [hold_no (.inl h)]; rfl) (fun h1 => sel_dec (fun h => by rw [hold_no (.inr (.inl h))]; rfl) (fun h2 => sel_dec (fun h => by rw [hold_no (.inr (.inr (.inl h)))]; rfl) (fun h3 => ?_)))
  have hi : block.toNat < w.now.length := by omega
  have hj : block.toNat < w.pages.length := by omega
  refine ⟨rfl, by omega, _, blD_at hi, _, rfl, ?_⟩
  rw [← tr_at hi]
  refine sel_intro (fun h => by rw [hold_no (.inr (.inr (.inr (by simpa using h))))]; rfl) (fun h4 => ?_)
  have h4 : tr w.now block.toNat = true := by simpa using h4
  rw [hold_go (by rw [h4]; simp; omega)]
  refine ⟨rfl, by omega, _, sl_at hj, _, rfl, ?_⟩
  rw [pgAt_get hj]
  have hsz : Small (pgAt w block).size := by rw [← pgAt_get hj]; exact hf.s _ (List.getElem_mem hj)
  have h55 := (p47 _ hsz).up up2
  rcases getP_cases (pgAt w block) with ⟨e, he, h⟩ | ⟨k, g, b, h, hok, _⟩
  · rw [h] at h55
    rw [h, hPage_err he]
    exact ⟨_, _, _, _, h55, sel_intro (fun _ => rfl) (fun h => absurd (by simpa using h) he)⟩
  · rw [h] at h55
    rw [h, hPage_ok]
    refine ⟨_, _, _, _, h55, sel_intro (fun h => by cases h) (fun _ => sel_dec (fun hg => by rw [if_pos hg]; rfl) (fun hg => ?_))⟩
    rw [if_neg hg]
    obtain ⟨_, _, _, _, hb⟩ := hok
    have g2 := p48 k b (by omega)
    refine ⟨_, _, _, _, _, g2, sel_intro (fun he => by rw [if_pos (by simpa using he)]; rfl) (fun he => ?_)⟩
    have he : (NGet k b).2 = 0 := by simpa using he
    rw [if_neg (by rw [he]; simp)]
    have hok2 := (nget_ok he).1
    refine ⟨_, p49 (NGet k b).1 root (ndOK_fits hok2).1, ?_⟩
    by_cases hn : NdOK (NGet k b).1 root
    · rw [decide_eq_true hn, if_pos hn]; rfl
    · rw [decide_eq_false hn, if_neg hn]; rfl
def h68a (w : Wd) : Heap := [(2000302, .box [.o (.sl 1 (blD w.base)), .o (.sl 1 (blD w.now)), .o (.sl 1 (sl_ w.pages)), .n (.int .i64 w.root), .n (.int .i64 w.gen), .n (.str (ByteArray.mk (List.toArray []))), .n (.int .i64 0), .n (.int .i64 0), .n .nil, .n (.str (ByteArray.mk (List.toArray []))), .n (.bool false), .n (.bool false)])]
theorem p28a (w : Wd) (hf : WFits w) (hp : w.pages.length = w.now.length) (block : Int) (root : Bool) : Runs Fs2 28 [.ptr 2000302 0, .n (.int .i64 block), .n (.bool root)] (h68a w) (hV (Hold w block root)) (h68a w) := by
  refine vc_look fs28 rfl (by kernel_rfl) ?_
  rw [h68a, vc28a, V28a, blD_len]
  refine sel_dec (fun h => by rw [hold_no (.inl h)]; exact ⟨rfl, rfl⟩) (fun h1 => sel_dec (fun h => by rw [hold_no (.inr (.inl h))]; exact ⟨rfl, rfl⟩) (fun h2 => ?_))
  have hi : block.toNat < w.now.length := by omega
  have hj : block.toNat < w.pages.length := by omega
  refine ⟨rfl, by omega, _, blD_at hi, _, rfl, ?_⟩
  rw [← tr_at hi]
  refine sel_intro (fun h => by rw [hold_no (.inr (.inr (.inr (by simpa using h))))]; exact ⟨rfl, rfl⟩) (fun h4 => ?_)
  have h4 : tr w.now block.toNat = true := by simpa using h4
  rw [hold_go (by rw [h4]; simp; omega)]
  refine ⟨rfl, by omega, _, sl_at hj, _, rfl, ?_⟩
  rw [pgAt_get hj]
  have hsz : Small (pgAt w block).size := by rw [← pgAt_get hj]; exact hf.s _ (List.getElem_mem hj)
  refine ⟨rfl, ?_⟩
  rcases getP_cases (pgAt w block) with ⟨e, he, h⟩ | ⟨k, g, b, h, hok, _⟩
  · have g1 := (p38_err _ hsz [1, 2] e he h).up up2
    rw [h, hPage_err he]
    exact ⟨_, _, _, _, g1, sel_intro (fun _ => ⟨rfl, rfl⟩) (fun h => absurd (by simpa using h) he)⟩
  · have h53 := (p38_ok _ hsz [1, 2] (by simp) k g b h).up up2
    rw [h, hPage_ok]
    by_cases hk : k ∈ [(1 : Int), 2]
    · rw [if_pos hk] at h53
      refine ⟨_, _, _, _, h53, sel_intro (fun h => by cases h) (fun _ => sel_dec (fun hg => by rw [if_pos hg]; exact ⟨rfl, rfl⟩) (fun hg => ?_))⟩
      rw [if_neg hg]
      obtain ⟨_, _, _, _, hb⟩ := hok
      have g2 := p39 k b (by omega)
      refine ⟨_, _, _, _, _, g2, sel_intro (fun he => by rw [if_pos (by simpa using he)]; exact ⟨rfl, rfl⟩) (fun he => ?_)⟩
      have he : (NGet k b).2 = 0 := by simpa using he
      rw [if_neg (by rw [he]; simp)]
      have hok2 := (nget_ok he).1
      refine ⟨_, p40 (NGet k b).1 root (ndOK_fits hok2).1, ?_⟩
      by_cases hn : NdOK (NGet k b).1 root
      · rw [decide_eq_true hn, if_pos hn]; exact ⟨rfl, rfl⟩
      · rw [decide_eq_false hn, if_neg hn]; exact ⟨rfl, rfl⟩
    · rw [if_neg hk] at h53
      have hno := kind_out hk b
      refine ⟨_, _, _, _, h53, sel_intro (fun _ => ?_) (fun h => by cases h)⟩
      have : (if g > w.gen then none else if (NGet k b).2 ≠ 0 then none else if NdOK (NGet k b).1 root then some (NGet k b).1 else none) = (none : Option Nd) := by
        split
        · rfl
        · first | rfl | rw [if_pos hno]
      rw [this]; exact ⟨rfl, rfl⟩
def h68b (w : Wd) : Heap := [(4300302, .box [.o (.sl 1 (blD w.base)), .o (.sl 1 (blD w.now)), .o (.sl 1 (sl_ w.pages)), .n (.int .i64 w.root), .n (.int .i64 w.gen), .n (.str (ByteArray.mk (List.toArray []))), .n (.int .i64 0), .n (.int .i64 0), .n .nil, .n (.str (ByteArray.mk (List.toArray []))), .n (.bool false), .n (.bool false)])]
theorem p28b (w : Wd) (hf : WFits w) (hp : w.pages.length = w.now.length) (block : Int) (root : Bool) : Runs Fs2 28 [.ptr 4300302 0, .n (.int .i64 block), .n (.bool root)] (h68b w) (hV (Hold w block root)) (h68b w) := by
  refine vc_look fs28 rfl (by kernel_rfl) ?_
  rw [h68b, vc28b, V28b, blD_len]
  refine sel_dec (fun h => by rw [hold_no (.inl h)]; exact ⟨rfl, rfl⟩) (fun h1 => sel_dec (fun h => by rw [hold_no (.inr (.inl h))]; exact ⟨rfl, rfl⟩) (fun h2 => ?_))
  have hi : block.toNat < w.now.length := by omega
  have hj : block.toNat < w.pages.length := by omega
  refine ⟨rfl, by omega, _, blD_at hi, _, rfl, ?_⟩
  rw [← tr_at hi]
  refine sel_intro (fun h => by rw [hold_no (.inr (.inr (.inr (by simpa using h))))]; exact ⟨rfl, rfl⟩) (fun h4 => ?_)
  have h4 : tr w.now block.toNat = true := by simpa using h4
  rw [hold_go (by rw [h4]; simp; omega)]
  refine ⟨rfl, by omega, _, sl_at hj, _, rfl, ?_⟩
  rw [pgAt_get hj]
  have hsz : Small (pgAt w block).size := by rw [← pgAt_get hj]; exact hf.s _ (List.getElem_mem hj)
  refine ⟨rfl, ?_⟩
  rcases getP_cases (pgAt w block) with ⟨e, he, h⟩ | ⟨k, g, b, h, hok, _⟩
  · have g1 := (p38_err _ hsz [1, 2] e he h).up up2
    rw [h, hPage_err he]
    exact ⟨_, _, _, _, g1, sel_intro (fun _ => ⟨rfl, rfl⟩) (fun h => absurd (by simpa using h) he)⟩
  · have h53 := (p38_ok _ hsz [1, 2] (by simp) k g b h).up up2
    rw [h, hPage_ok]
    by_cases hk : k ∈ [(1 : Int), 2]
    · rw [if_pos hk] at h53
      refine ⟨_, _, _, _, h53, sel_intro (fun h => by cases h) (fun _ => sel_dec (fun hg => by rw [if_pos hg]; exact ⟨rfl, rfl⟩) (fun hg => ?_))⟩
      rw [if_neg hg]
      obtain ⟨_, _, _, _, hb⟩ := hok
      have g2 := p39 k b (by omega)
      refine ⟨_, _, _, _, _, g2, sel_intro (fun he => by rw [if_pos (by simpa using he)]; exact ⟨rfl, rfl⟩) (fun he => ?_)⟩
      have he : (NGet k b).2 = 0 := by simpa using he
      rw [if_neg (by rw [he]; simp)]
      have hok2 := (nget_ok he).1
      refine ⟨_, p40 (NGet k b).1 root (ndOK_fits hok2).1, ?_⟩
      by_cases hn : NdOK (NGet k b).1 root
      · rw [decide_eq_true hn, if_pos hn]; exact ⟨rfl, rfl⟩
      · rw [decide_eq_false hn, if_neg hn]; exact ⟨rfl, rfl⟩
    · rw [if_neg hk] at h53
      have hno := kind_out hk b
      refine ⟨_, _, _, _, h53, sel_intro (fun _ => ?_) (fun h => by cases h)⟩
      have : (if g > w.gen then none else if (NGet k b).2 ≠ 0 then none else if NdOK (NGet k b).1 root then some (NGet k b).1 else none) = (none : Option Nd) := by
        split
        · rfl
        · first | rfl | rw [if_pos hno]
      rw [this]; exact ⟨rfl, rfl⟩
/-- Load. -/
noncomputable def LoadR (w : Wd) (block : Int) (root : Bool) : Nd × Int := if WRight w then match Hold w block root with | some n => (n, 0) | none => (nd0, 81) else (nd0, 1)
theorem p43 (w : Wd) (hf : WFits w) (block : Int) (root : Bool) : Runs Fs2 43 [wdV w, .n (.int .i64 block), .n (.bool root)] [] (nduo (LoadR w block root)) [] := by
  have g41 := p24 w hf
  refine vc_eq fs43 rfl ?_
  rw [wdV, vc43, V43]
  by_cases hr : WRight w
  · rw [decide_eq_true hr] at g41
    have g68 := p28b w hf hr.2.1 block root
    refine ⟨_, g41, sel_intro (fun h => by cases h) (fun _ => ?_)⟩
    rw [LoadR, if_pos hr]
    cases hh : Hold w block root with
    | none =>
      rw [hh] at g68
      exact ⟨_, _, _, _, _, _, _, _, _, _, _, _, _, _, _, _, g68, sel_intro (fun _ => rfl) (fun h => by cases h)⟩
    | some n =>
      rw [hh] at g68
      exact ⟨_, _, _, _, _, _, _, _, _, _, _, _, _, _, _, _, g68, sel_intro (fun h => by cases h) (fun _ => rfl)⟩
  · rw [decide_eq_false hr] at g41
    refine ⟨_, g41, sel_intro (fun _ => ?_) (fun h => by cases h)⟩
    rw [LoadR, if_neg hr]; rfl
end Go.Proofs.YtmmnobdpccdeoaaGreatDoor.M
