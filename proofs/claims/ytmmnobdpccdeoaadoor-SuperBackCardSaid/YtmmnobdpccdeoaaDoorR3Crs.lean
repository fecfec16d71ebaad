import Derived.Test.YtmmnobdpccdeoaaDoorR3Mix
namespace Go.Proofs.YtmmnobdpccdeoaaDoor.M
set_option linter.unusedVariables false
set_option linter.unusedSimpArgs false
open Go Go.Mir
set_option linter.unusedVariables false

/-- Masks. -/
def ml (ms : List Int) : List Mir.D := ms.map (.int .i64)
theorem ml_len (ms : List Int) : (ml ms).length = ms.length := by simp [ml]
theorem ml_at {ms : List Int} {i : Nat} (h : i < ms.length) : (ml ms)[i]? = some (.int .i64 ms[i]) := by simp [ml, h]
def mk (all : Bool) (ms : List Int) (k : Nat) : Int := if all then 255 else (ms[k]?).getD 0
/-- The blocks when so many writes have come to them. -/
def CrL (f : Nat → Int) (b : List ByteArray) (p : List Wr) : Nat → List ByteArray
  | 0 => b
  | i + 1 => match p[i]? with
    | some w => (CrL f b p i).set w.1.toNat (MixS (((CrL f b p i)[w.1.toNat]?).getD noS) w.2.1 (f i))
    | none => CrL f b p i
theorem crL_len (f : Nat → Int) (b : List ByteArray) (p : List Wr) : ∀ i, (CrL f b p i).length = b.length
  | 0 => rfl
  | i + 1 => by
    rw [CrL]
    split
    · rw [List.length_set, crL_len]
    · exact crL_len f b p i
theorem crL_succ (f : Nat → Int) (b : List ByteArray) (p : List Wr) (i : Nat) (h : i < p.length) (hb : p[i].1.toNat < b.length) :
    CrL f b p (i + 1) = (CrL f b p i).set p[i].1.toNat (MixS ((CrL f b p i)[p[i].1.toNat]'(by rw [crL_len]; exact hb)) p[i].2.1 (f i)) := by
  rw [CrL, List.getElem?_eq_getElem h]
  simp only
  rw [List.getElem?_eq_getElem (by rw [crL_len]; exact hb)]
  rfl
theorem bk_set (l : List ByteArray) (i : Nat) (s : ByteArray) : (bk l).set i (.str s) = bk (l.set i s) := by simp [bk, List.map_set]
theorem bk_snoc (l : List ByteArray) (s : ByteArray) : bk l ++ [.str s] = bk (l ++ [s]) := by simp [bk]
theorem crL_all (P : ByteArray → Prop) (hm : ∀ a b m, P (MixS a b m)) (f : Nat → Int) (b : List ByteArray) (p : List Wr) (h : ∀ s ∈ b, P s) : ∀ i, ∀ s ∈ CrL f b p i, P s
  | 0 => h
  | i + 1 => by
    intro s hs
    rw [CrL] at hs
    split at hs
    · rcases List.mem_or_eq_of_mem_set hs with hs | rfl
      · exact crL_all P hm f b p h i s hs
      · exact hm _ _ _
    · exact crL_all P hm f b p h i s hs
/-- What a crash finds of a device that may be. -/
structure Ok (b : List ByteArray) (p : List Wr) : Prop where
  bl : b.length ≤ 2048
  pl : p.length ≤ 2048
  bs : ∀ s ∈ b, (s.size : Int) ≤ 9223372036854775807
  ps : ∀ w ∈ p, (w.2.1.size : Int) ≤ 9223372036854775807
  pb : ∀ w ∈ p, 0 ≤ w.1 ∧ w.1 < b.length
theorem ok_of {b : List ByteArray} {p : List Wr} (hf : Fits b p) (h : Rt b p = true) : Ok b p := by
  rw [Rt, Bool.and_eq_true, decide_eq_true_iff, Bool.and_eq_true] at h
  obtain ⟨⟨h1, h2, h3⟩, h4, h5⟩ := h
  refine ⟨h2, h3, fun s hs => by have := hf.bs s hs; omega, fun w hw => by have := hf.ps w hw; omega, fun w hw => ?_⟩
  have := List.all_eq_true.1 h5 w hw
  rw [Wm, Bool.and_eq_true, Bool.and_eq_true, decide_eq_true_iff, decide_eq_true_iff] at this
  omega
theorem mix_le (a b : ByteArray) (m : Int) : ((MixS a b m).size : Int) ≤ 9223372036854775807 := by
  have := mix_size a b m; omega
theorem crL_bs {b : List ByteArray} {p : List Wr} (h : Ok b p) (f : Nat → Int) (i : Nat) : ∀ s ∈ CrL f b p i, (s.size : Int) ≤ 9223372036854775807 :=
  crL_all (fun s => (s.size : Int) ≤ 9223372036854775807) mix_le f b p h.bs i
theorem p55 (k : Int) (hk : 0 ≤ k) (ms : List Int) : Runs Fs 55 [.n (.int .i64 k), .ptr 2100001 0] [(2100001, .box [.o (.sl 1 (ml ms))])] (.n (.int .i64 (mk false ms k.toNat))) [(2100001, .box [.o (.sl 1 (ml ms))])] := by
  refine vc_look fs55 rfl (by kernel_rfl) ?_
  rw [vc55c, V55c, ml_len]
  refine sel_dec (fun h => ?_) (fun h => ?_)
  · have hi : k.toNat < ms.length := by omega
    refine ⟨rfl, hk, _, ml_at hi, _, rfl, ?_, rfl⟩
    rw [mk, if_neg (by simp), List.getElem?_eq_getElem hi]; rfl
  · refine ⟨?_, rfl⟩
    rw [mk, if_neg (by simp), List.getElem?_eq_none (by omega)]; rfl
theorem clone60 (b : List ByteArray) (h : b.length ≤ 2048) : Runs Fs 94 [.o (.sl 1 (bk b))] [] (.row 9400001 0) [(9400001, .row false false 0 9 1 (bk b))] :=
  clone_runs fs94 _ (by rw [bk_len]; omega)
theorem p54c (b : List ByteArray) (p : List Wr) (ms : List Int) (h : Ok b p) :
    Runs Fs 54 [Dev b p, .fn 55 [.ptr 2100001 0]] [(2100001, .box [.o (.sl 1 (ml ms))])] (Dev (CrL (mk false ms) b p p.length) []) [(2100001, .box [.o (.sl 1 (ml ms))])] := by
  refine vc_look fs54 rfl (by kernel_rfl) ?_
  rw [Dev, vc54c, V54c, pk_len]
  have hpl := h.pl
  refine ⟨_, _, clone60 b h.bl, fun i r => 0 ≤ i ∧ i ≤ p.length ∧ r.1 = 0 ∧ r.2 = bk (CrL (mk false ms) b p i.toNat), fun i r => (p.length - i).toNat, ⟨rfl, by omega, by omega, rfl, rfl⟩, ?_⟩
  rintro i r ⟨h0, h1, hr1, hr2⟩ _
  refine sel_dec (fun hlt => ?_) (fun hge => ?_)
  · have hi : i.toNat < p.length := by omega
    obtain ⟨hb0, hb1⟩ := h.pb _ (List.getElem_mem hi)
    have hbi : p[i.toNat].1.toNat < (CrL (mk false ms) b p i.toNat).length := by rw [crL_len]; omega
    refine ⟨rfl, h0, _, pk_at hi, _, _, rfl, Nat.le_refl _, ⟨hr1, rfl⟩, hb0, by rw [hr2, bk_len, crL_len]; exact hb1, ⟨hr1.symm, rfl⟩, _, by rw [hr2]; exact bk_at hbi, _, rfl, _, p55 i h0 ms, _,
      p95 _ _ _ (crL_bs h _ _ _ (List.getElem_mem hbi)) (h.ps _ (List.getElem_mem hi)), ⟨hr1, rfl⟩, hb0, by rw [hr2, bk_len, crL_len]; exact hb1, ⟨⟨⟨hr1.symm, rfl⟩, rfl⟩, rfl⟩, by rw [hr2, bk_len]; exact hbi, ?_⟩
    repeat (refine And.intro rfl ?_)
    rw [i64_in _ (by omega), hr2, bk_set]
    refine ⟨⟨by omega, by omega, hr1, ?_⟩, by dsimp only; omega⟩
    rw [show (i + 1).toNat = i.toNat + 1 by omega, crL_succ _ _ _ _ hi (by omega)]
  · refine ⟨hr1, ?_, rfl⟩
    rw [hr2, show i.toNat = p.length by omega]
    rfl
def CrashR (b : List ByteArray) (p : List Wr) (ms : List Int) : AV := if Rt b p then .tup [Dev (CrL (mk false ms) b p p.length) [], .n (.int .i64 0)] else .tup [Dev [] [], .n (.int .i64 1)]
theorem p21 (b : List ByteArray) (p : List Wr) (ms : List Int) (hf : Fits b p) : Runs Fs 21 [Dev b p, .o (.sl 1 (ml ms))] [] (CrashR b p ms) [] := by
  refine vc_eq fs21 rfl ?_
  rw [Dev, vc21]
  refine ⟨_, p53 b p hf, sel_intro (fun h => ?_) (fun h => ?_)⟩
  · rw [CrashR, if_neg (by simpa using h)]; rfl
  · have h : Rt b p = true := by simpa using h
    refine ⟨_, _, p54c b p ms (ok_of hf h), ?_⟩
    rw [CrashR, if_pos h]; rfl
theorem tm_of {s : ByteArray} (h1 : TrimS s = s) (h2 : (s.size : Int) ≤ 4096) : Tm s = true := by rw [Tm, decide_eq_true h1, decide_eq_true h2]; rfl
theorem tm_mix (a b : ByteArray) (m : Int) : Tm (MixS a b m) = true := tm_of (mix_trim a b m) (by have := mix_size a b m; omega)
theorem fits_cr {b : List ByteArray} {p : List Wr} (h : Ok b p) (f : Nat → Int) (i : Nat) : Fits (CrL f b p i) [] := by
  refine ⟨by rw [crL_len]; have := h.bl; omega, by simp, fun s hs => ?_, fun x hx => by cases hx⟩
  have := crL_bs h f i s hs
  omega
theorem rt_tms {b : List ByteArray} {p : List Wr} (h : Rt b p = true) : (∀ s ∈ b, Tm s = true) ∧ (1 ≤ b.length ∧ b.length ≤ 2048 ∧ p.length ≤ 2048) ∧ ∀ w ∈ p, Wm b.length w = true := by
  rw [Rt, Bool.and_eq_true, decide_eq_true_iff, Bool.and_eq_true] at h
  exact ⟨fun s hs => List.all_eq_true.1 h.2.1 s hs, h.1, fun w hw => List.all_eq_true.1 h.2.2 w hw⟩
theorem rt_mk {b : List ByteArray} {p : List Wr} (h : 1 ≤ b.length ∧ b.length ≤ 2048 ∧ p.length ≤ 2048) (hb : ∀ s ∈ b, Tm s = true) (hp : ∀ w ∈ p, Wm b.length w = true) : Rt b p = true := by
  rw [Rt, decide_eq_true h, List.all_eq_true.2 hb, List.all_eq_true.2 hp]; rfl
theorem rt_cr {b : List ByteArray} {p : List Wr} (h : Rt b p = true) (f : Nat → Int) (i : Nat) : Rt (CrL f b p i) [] = true := by
  obtain ⟨h1, h2, h3⟩ := rt_tms h
  exact rt_mk (by rw [crL_len]; exact ⟨h2.1, h2.2.1, by simp⟩) (crL_all (fun s => Tm s = true) tm_mix f b p h1 i) (fun w hw => by cases hw)
end Go.Proofs.YtmmnobdpccdeoaaDoor.M
