import Derived.Test.YtcakphhnilklnaaDoorD2FunV
import Derived.Test.YtcakphhnilklnaaDoorD2Base
import Derived.Test.YtcakphhnilklnaaDoorMirO
namespace Go.Proofs.YtcakphhnilklnaaDoor.M
set_option linter.unusedVariables false
set_option linter.unusedSimpArgs false
open Go Go.Mir
set_option linter.unusedVariables false

/-- A write that is on its way, as an argument's element. -/
abbrev Wr := Int × ByteArray × Unit
def bk (l : List ByteArray) : List Mir.D := l.map .str
def pk (l : List Wr) : List Mir.D := l.map fun p => .rcd [.int .i64 p.1, .str p.2.1]
def Dev (b : List ByteArray) (p : List Wr) : AV := .agg [.o (.sl 1 (bk b)), .o (.sl 2 (pk p))]
theorem bk_len (l : List ByteArray) : (bk l).length = l.length := by simp [bk]
theorem pk_len (l : List Wr) : (pk l).length = l.length := by simp [pk]
theorem bk_at {l : List ByteArray} {i : Nat} (h : i < l.length) : (bk l)[i]? = some (.str l[i]) := by simp [bk, h]
theorem pk_at {l : List Wr} {i : Nat} (h : i < l.length) : (pk l)[i]? = some (.rcd [.int .i64 l[i].1, .str l[i].2.1]) := by simp [pk, h]
theorem bk_take (l : List ByteArray) (n : Nat) : List.drop 0 (List.take n (bk l)) = bk (l.take n) := by simp [bk]
theorem pk_take (l : List Wr) (n : Nat) : List.drop 0 (List.take n (pk l)) = pk (l.take n) := by simp [pk]

/-- Its bytes stand without zeros at their end, and are no more than a block's. -/
def Tm (s : ByteArray) : Bool := decide ((s.size : Int) ≤ 4096) && decide (TrimS s = s)
theorem p34 (s : ByteArray) (hs : (s.size : Int) ≤ 9223372036854775807) : Runs Fs 34 [.n (.str s)] [] (.n (.bool (Tm s))) [] := by
  refine vc_eq fs34 rfl ?_
  rw [vc34]
  refine sel_dec (fun h => ?_) (fun h => ?_)
  · refine ⟨_, p39 s hs, ?_⟩
    rw [beq_dec, Tm, decide_eq_true h]; rfl
  · rw [Tm, decide_eq_false h]; rfl
theorem tz_last (l : List UInt8) (b : UInt8) : tz (l ++ [b]) = l ++ [b] ↔ b ≠ 0 := by
  constructor
  · intro h e
    subst e
    rw [tz_snoc0] at h
    have := congrArg List.length h
    have h2 := tz_len l
    simp at this
    omega
  · exact tz_snoc l b
theorem trimS_iff (s : ByteArray) : TrimS s = s ↔ tz s.data.toList = s.data.toList :=
  ⟨fun h => by rw [← trimS_data, h], fun h => bytes_ext (by rw [trimS_data, h])⟩
theorem p37 (s : ByteArray) (hs : (s.size : Int) ≤ 9223372036854775807) : Runs Fs 37 [.n (.str s)] [] (.n (.bool (Tm s))) [] := by
  refine vc_eq fs37 rfl ?_
  rw [vc37]
  refine sel_dec (fun h => ?_) (fun h => ?_)
  · refine sel_intro (fun h0 => ?_) (fun h0 => ?_)
    · have h0 : s.size = 0 := by have := beq_iff_eq.1 h0; omega
      have : s.data.toList = [] := List.length_eq_zero_iff.1 (by rw [size_list]; exact h0)
      rw [Tm, decide_eq_true h, decide_eq_true ((trimS_iff s).2 (by rw [this, tz_nil]))]; rfl
    · have h0 : s.size ≠ 0 := fun e => by rw [e] at h0; simp at h0
      rw [i64_in _ (by omega)]
      have hlt : ((s.size : Int) - 1).toNat < s.data.toList.length := by rw [size_list]; omega
      refine ⟨by omega, _, List.getElem?_eq_getElem hlt, ?_⟩
      rw [Tm, decide_eq_true h, Bool.true_and]
      congr 2
      rw [Bool.eq_iff_iff, decide_eq_true_iff, bne_iff_ne, trimS_iff]
      have hsp : ∃ r, s.data.toList = r ++ [s.data.toList[((s.size : Int) - 1).toNat]] := by
        have := List.take_add_one (l := s.data.toList) (i := ((s.size : Int) - 1).toNat)
        rw [List.getElem?_eq_getElem hlt, List.take_of_length_le (by rw [size_list]; omega)] at this
        exact ⟨_, this⟩
      obtain ⟨r, hsp⟩ := hsp
      generalize s.data.toList[((s.size : Int) - 1).toNat] = b at hsp ⊢
      rw [hsp, tz_last]
      constructor
      · intro h e; subst e; exact h rfl
      · intro h e
        refine h (UInt8.toNat_inj.1 ?_)
        have : (0 : UInt8).toNat = 0 := rfl
        omega
  · rw [Tm, decide_eq_false h]; rfl

/-- A write that may be, on so many blocks. -/
def Wm (n : Int) (p : Wr) : Bool := decide (0 ≤ p.1) && (decide (p.1 < n) && Tm p.2.1)
theorem p36 (n : Int) (p : Wr) (hs : (p.2.1.size : Int) ≤ 9223372036854775807) : Runs Fs 36 [.agg [.n (.int .i64 p.1), .n (.str p.2.1)], .ptr 1600103 0] [(1600103, .box [.n (.int .i64 n)])] (.n (.bool (!(Wm n p)))) [(1600103, .box [.n (.int .i64 n)])] := by
  refine vc_look fs36 rfl (by kernel_rfl) ?_
  rw [vc36r]
  refine sel_dec (fun h => ?_) (fun h => ?_)
  · refine ⟨?_, rfl⟩
    rw [Wm, decide_eq_false (by omega : ¬ 0 ≤ p.1)]; rfl
  · refine sel_dec (fun h2 => ?_) (fun h2 => ?_)
    · refine ⟨?_, rfl⟩
      rw [Wm, decide_eq_false (by omega : ¬ p.1 < n), decide_eq_true (by omega : 0 ≤ p.1)]; rfl
    · refine ⟨_, p34 _ hs, ?_, rfl⟩
      rw [Wm, decide_eq_true (by omega : p.1 < n), decide_eq_true (by omega : 0 ≤ p.1)]; rfl
/-- Where the first one is that may not be. -/
def BadW (n : Int) (l : List Wr) : Bool := l.any fun p => !(Wm n p)
theorem p57 (n : Int) (l : List Wr) (hl : (l.length : Int) ≤ 9223372036854775807) (hs : ∀ p ∈ l, (p.2.1.size : Int) ≤ 9223372036854775807) : ∃ r : Int, decide (r ≥ 0) = BadW n l ∧
    Runs Fs 57 [.o (.sl 2 (pk l)), .fn 36 [.ptr 1600103 0]] [(1600103, .box [.n (.int .i64 n)])] (.n (.int .i64 r)) [(1600103, .box [.n (.int .i64 n)])] := by
  have key : ∃ r H', Runs Fs 57 [.o (.sl 2 (pk l)), .fn 36 [.ptr 1600103 0]] [(1600103, .box [.n (.int .i64 n)])] r H' ∧ (H' = [(1600103, .box [.n (.int .i64 n)])] ∧ ∃ k : Int, r = .n (.int .i64 k) ∧ decide (k ≥ 0) = BadW n l) := by
    refine vc_objs (R := fun r H' => H' = [(1600103, .box [.n (.int .i64 n)])] ∧ ∃ k : Int, r = .n (.int .i64 k) ∧ decide (k ≥ 0) = BadW n l) fs57 rfl (by kernel_rfl) ?_
    rw [vc57r]
    refine ⟨fun i => 0 ≤ i ∧ i ≤ l.length ∧ ∀ j : Nat, (j : Int) < i → ∀ h : j < l.length, Wm n l[j] = true, fun i => (l.length - i).toNat, ⟨rfl, by omega, by omega, fun j hj => by omega⟩, ?_⟩
    rintro i ⟨h0, h1, hok⟩ _
    rw [pk_len]
    refine sel_dec (fun h => ?_) (fun h => ?_)
    · have hi : i.toNat < l.length := by omega
      refine ⟨rfl, h0, _, pk_at hi, _, _, rfl, Nat.le_refl _, _, p36 n l[i.toNat] (hs _ (List.getElem_mem hi)), sel_intro (fun hb => ?_) (fun hb => ?_)⟩
      · refine ⟨rfl, i, rfl, ?_⟩
        rw [decide_eq_true (by omega : i ≥ 0)]
        exact (List.any_eq_true.2 ⟨_, List.getElem_mem hi, hb⟩).symm
      · rw [i64_in _ (by omega)]
        refine ⟨rfl, rfl, rfl, rfl, ⟨by omega, by omega, fun j hj hjl => ?_⟩, by dsimp only; omega⟩
        by_cases hji : (j : Int) < i
        · exact hok j hji hjl
        · obtain rfl : j = i.toNat := by omega
          simpa using hb
    · refine ⟨rfl, -1, rfl, ?_⟩
      rw [decide_eq_false (by omega)]
      refine (List.any_eq_false.2 fun p hp => ?_).symm
      obtain ⟨j, hj, rfl⟩ := List.getElem_of_mem hp
      rw [hok j (by omega) hj]; simp
  obtain ⟨r, H', hr, rfl, k, rfl, hk⟩ := key
  exact ⟨k, hk, hr⟩
theorem p35 (n : Int) (l : List Wr) (hl : (l.length : Int) ≤ 9223372036854775807) (hs : ∀ p ∈ l, (p.2.1.size : Int) ≤ 9223372036854775807) :
    Runs Fs 35 [.o (.sl 2 (pk l)), .fn 36 [.ptr 1600103 0]] [(1600103, .box [.n (.int .i64 n)])] (.n (.bool (BadW n l))) [(1600103, .box [.n (.int .i64 n)])] := by
  refine vc_look fs35 rfl (by kernel_rfl) ?_
  rw [vc35r]
  obtain ⟨r, hr, h⟩ := p57 n l hl hs
  exact ⟨r, h, by rw [hr], rfl⟩

/-- What an argument keeps. -/
structure Fits (b : List ByteArray) (p : List Wr) : Prop where
  bl : b.length ≤ 9223372036854775807
  pl : p.length ≤ 9223372036854775807
  bs : ∀ s ∈ b, s.size ≤ 9223372036854775807
  ps : ∀ x ∈ p, x.2.1.size ≤ 9223372036854775807
abbrev devT : Ty := .st [.sl .str, .sl (.st [.int .i64, .str])]
theorem fits_of (x : devT.T) (h : devT.fit x) : Fits x.1 x.2.1 := by
  obtain ⟨⟨h1, h2⟩, ⟨h3, h4⟩, _⟩ := h
  have e : maxLen = 9223372036854775807 := rfl
  refine ⟨e ▸ h1, e ▸ h3, fun y hy => e ▸ h2 y hy, fun y hy => ?_⟩
  have h5 : y.2.1.size ≤ maxLen := (h4 y hy).2.1
  exact e ▸ h5
/-- Which devices may be. -/
def Rt (b : List ByteArray) (p : List Wr) : Bool := decide (1 ≤ b.length ∧ b.length ≤ 2048 ∧ p.length ≤ 2048) && (b.all Tm && p.all (Wm b.length))
theorem rt_count {b : List ByteArray} {p : List Wr} (h : ¬ (1 ≤ b.length ∧ b.length ≤ 2048 ∧ p.length ≤ 2048)) : Rt b p = false := by
  rw [Rt, decide_eq_false h]; rfl
theorem rt_tm {b : List ByteArray} {p : List Wr} {i : Nat} (hi : i < b.length) (h : Tm b[i] = false) : Rt b p = false := by
  rw [Rt]
  have : b.all Tm = false := List.all_eq_false.2 ⟨_, List.getElem_mem hi, by rw [h]; simp⟩
  rw [this, Bool.false_and, Bool.and_false]
theorem rt_good {b : List ByteArray} {p : List Wr} (h : 1 ≤ b.length ∧ b.length ≤ 2048 ∧ p.length ≤ 2048) (hb : ∀ j, ∀ h : j < b.length, Tm b[j] = true) : Rt b p = !(BadW b.length p) := by
  have : b.all Tm = true := List.all_eq_true.2 fun x hx => by obtain ⟨j, hj, rfl⟩ := List.getElem_of_mem hx; exact hb j hj
  rw [Rt, decide_eq_true h, this, Bool.true_and, Bool.true_and, BadW, List.not_any_eq_all_not]
  simp
theorem p16 (b : List ByteArray) (p : List Wr) (hf : Fits b p) : Runs Fs 16 [Dev b p] [] (.n (.bool (Rt b p))) [] := by
  refine vc_eq fs16 rfl ?_
  rw [Dev, vc16]
  rw [V16, bk_len, pk_len]
  have hbl := hf.bl
  have hpl := hf.pl
  refine sel_dec (fun h => by rw [rt_count (by omega)]) (fun h => ?_)
  refine sel_dec (fun h2 => by rw [rt_count (by omega)]) (fun h2 => ?_)
  refine sel_dec (fun h3 => by rw [rt_count (by omega)]) (fun h3 => ?_)
  refine ⟨fun i => 0 ≤ i ∧ i ≤ b.length ∧ ∀ j : Nat, (j : Int) < i → ∀ h : j < b.length, Tm b[j] = true, fun i => (b.length - i).toNat, ⟨rfl, by omega, by omega, fun j hj => by omega⟩, ?_⟩
  rintro i ⟨h0, h1, hok⟩ _
  refine sel_dec (fun h => ?_) (fun h => ?_)
  · have hi : i.toNat < b.length := by omega
    refine ⟨rfl, h0, _, bk_at hi, _, rfl, _, p34 _ (by have := hf.bs _ (List.getElem_mem hi); omega), sel_intro (fun hb => ?_) (fun hb => ?_)⟩
    · rw [rt_tm hi (by simpa using hb)]
    · rw [i64_in _ (by omega)]
      refine ⟨rfl, rfl, rfl, rfl, rfl, ⟨by omega, by omega, fun j hj hjl => ?_⟩, by dsimp only; omega⟩
      by_cases hji : (j : Int) < i
      · exact hok j hji hjl
      · obtain rfl : j = i.toNat := by omega
        simpa using hb
  · refine ⟨_, p35 b.length p (by omega) (fun x hx => by have := hf.ps x hx; omega), ?_⟩
    rw [rt_good ⟨by omega, by omega, by omega⟩ fun j hj => hok j (by omega) hj]
theorem p17 (b : List ByteArray) (p : List Wr) (hf : Fits b p) : Runs Fs 17 [Dev b p] [] (.n (.bool (Rt b p))) [] := by
  refine vc_eq fs17 rfl ?_
  rw [Dev, vc17]
  rw [V17, bk_len, pk_len]
  have hbl := hf.bl
  have hpl := hf.pl
  refine sel_dec (fun h => by rw [rt_count (by omega)]) (fun h => ?_)
  refine sel_dec (fun h2 => by rw [rt_count (by omega)]) (fun h2 => ?_)
  refine sel_dec (fun h3 => by rw [rt_count (by omega)]) (fun h3 => ?_)
  refine ⟨fun i => 0 ≤ i ∧ i ≤ b.length ∧ ∀ j : Nat, (j : Int) < i → ∀ h : j < b.length, Tm b[j] = true, fun i => (b.length - i).toNat, ⟨rfl, by omega, by omega, fun j hj => by omega⟩, ?_⟩
  rintro i ⟨h0, h1, hok⟩ _
  refine sel_dec (fun h => ?_) (fun h => ?_)
  · have hi : i.toNat < b.length := by omega
    refine ⟨rfl, h0, _, bk_at hi, _, rfl, _, p37 _ (by have := hf.bs _ (List.getElem_mem hi); omega), sel_intro (fun hb => ?_) (fun hb => ?_)⟩
    · rw [rt_tm hi (by simpa using hb)]
    · rw [i64_in _ (by omega)]
      refine ⟨rfl, rfl, rfl, rfl, rfl, ⟨by omega, by omega, fun j hj hjl => ?_⟩, by dsimp only; omega⟩
      by_cases hji : (j : Int) < i
      · exact hok j hji hjl
      · obtain rfl : j = i.toNat := by omega
        simpa using hb
  · have hgood := rt_good (b := b) (p := p) ⟨by omega, by omega, by omega⟩ fun j hj => hok j (by omega) hj
    refine ⟨fun i => 0 ≤ i ∧ i ≤ p.length ∧ ∀ j : Nat, (j : Int) < i → ∀ h : j < p.length, Wm b.length p[j] = true, fun i => (p.length - i).toNat, ⟨rfl, by omega, by omega, fun j hj => by omega⟩, ?_⟩
    rintro i ⟨h0, h1, hok⟩ _
    refine sel_dec (fun h => ?_) (fun h => ?_)
    · have hi : i.toNat < p.length := by omega
      have bad : Wm b.length p[i.toNat] = false → Rt b p = false := fun hb => by
        rw [hgood, BadW]
        have : (p.any fun x => !(Wm b.length x)) = true := List.any_eq_true.2 ⟨_, List.getElem_mem hi, by rw [hb]; rfl⟩
        rw [this]; rfl
      refine ⟨rfl, h0, _, pk_at hi, _, _, rfl, Nat.le_refl _, ?_⟩
      refine sel_dec (fun h => ?_) (fun h => ?_)
      · rw [bad (by rw [Wm, decide_eq_false (by omega)]; rfl)]
      refine sel_dec (fun h2 => ?_) (fun h2 => ?_)
      · rw [bad (by rw [Wm, decide_eq_false (by omega : ¬ p[i.toNat].1 < (b.length : Int)), Bool.false_and, Bool.and_false])]
      refine ⟨_, p37 _ (by have := hf.ps _ (List.getElem_mem hi); omega), sel_intro (fun hb => ?_) (fun hb => ?_)⟩
      · rw [bad (by rw [Wm, show Tm p[i.toNat].2.1 = false by simpa using hb, Bool.and_false, Bool.and_false])]
      · rw [i64_in _ (by omega)]
        refine ⟨rfl, rfl, rfl, rfl, ⟨by omega, by omega, fun j hj hjl => ?_⟩, by dsimp only; omega⟩
        by_cases hji : (j : Int) < i
        · exact hok j hji hjl
        · obtain rfl : j = i.toNat := by omega
          rw [Wm, decide_eq_true (by omega : (0 : Int) ≤ p[i.toNat].1), decide_eq_true (by omega : p[i.toNat].1 < (b.length : Int)), Bool.true_and, Bool.true_and]
          simpa using hb
    · rw [hgood, BadW]
      have : (p.any fun x => !(Wm b.length x)) = false := List.any_eq_false.2 fun x hx => by
        obtain ⟨j, hj, rfl⟩ := List.getElem_of_mem hx
        rw [hok j (by omega) hj]; simp
      rw [this]; rfl

/-- Of few blocks and writes, or of too many. -/
def fewB (b : List ByteArray) : List ByteArray := if 40 < b.length ∧ b.length ≤ 2048 then b.take 40 else b
def fewP (p : List Wr) : List Wr := if 40 < p.length ∧ p.length < 2048 then p.take 40 else p
theorem fits_few {b : List ByteArray} {p : List Wr} (h : Fits b p) : Fits (fewB b) (fewP p) := by
  refine ⟨?_, ?_, fun s hs => ?_, fun x hx => ?_⟩
  · unfold fewB; split
    · have := h.bl; simp; omega
    · exact h.bl
  · unfold fewP; split
    · have := h.pl; simp; omega
    · exact h.pl
  · refine h.bs s ?_
    unfold fewB at hs; split at hs
    · exact List.mem_of_mem_take hs
    · exact hs
  · refine h.ps x ?_
    unfold fewP at hx; split at hx
    · exact List.mem_of_mem_take hx
    · exact hx
set_option maxRecDepth 4000 in
theorem p12 (b : List ByteArray) (p : List Wr) : Runs Fs 12 [Dev b p] [] (Dev (fewB b) (fewP p)) [] := by
  refine vc_eq fs12 rfl ?_
  rw [Dev, vc12, V12, bk_len, pk_len]
  have eb1 : 40 < b.length → b.length ≤ 2048 → fewB b = b.take 40 := fun h h2 => by rw [fewB, if_pos ⟨h, h2⟩]
  have eb2 : ¬ (40 < b.length ∧ b.length ≤ 2048) → fewB b = b := fun h => by rw [fewB, if_neg h]
  have ep1 : 40 < p.length → p.length < 2048 → fewP p = p.take 40 := fun h h2 => by rw [fewP, if_pos ⟨h, h2⟩]
  have ep2 : ¬ (40 < p.length ∧ p.length < 2048) → fewP p = p := fun h => by rw [fewP, if_neg h]
  refine sel_dec (fun h => sel_dec (fun h2 => ⟨rfl, by omega, by omega, ?_⟩) (fun h2 => ?_)) (fun h => ?_)
  · by_cases g2 : (p.length : Int) < 2048
    · rw [decide_eq_true g2]
      refine sel_dec (fun g => ⟨rfl, by omega, by omega, ?_⟩) (fun g => ?_)
      · rw [eb1 (by omega) (by omega), ep1 (by omega) (by omega), bk_take, pk_take]; rfl
      · rw [eb1 (by omega) (by omega), ep2 (by omega), bk_take]; rfl
    · rw [decide_eq_false g2]
      refine sel_dec (fun g => ?_) (fun g => ?_)
      · rw [eb1 (by omega) (by omega), ep2 (by omega), bk_take]; rfl
      · rw [eb1 (by omega) (by omega), ep2 (by omega), bk_take]; rfl
  · by_cases g2 : (p.length : Int) < 2048
    · rw [decide_eq_true g2]
      refine sel_dec (fun g => ⟨rfl, by omega, by omega, ?_⟩) (fun g => ?_)
      · rw [eb2 (by omega), ep1 (by omega) (by omega), pk_take]; rfl
      · rw [eb2 (by omega), ep2 (by omega)]; rfl
    · rw [decide_eq_false g2]
      refine sel_dec (fun g => ?_) (fun g => ?_)
      · rw [eb2 (by omega), ep2 (by omega)]; rfl
      · rw [eb2 (by omega), ep2 (by omega)]; rfl
  · by_cases g2 : (p.length : Int) < 2048
    · rw [decide_eq_true g2]
      refine sel_dec (fun g => ⟨rfl, by omega, by omega, ?_⟩) (fun g => ?_)
      · rw [eb2 (by omega), ep1 (by omega) (by omega), pk_take]; rfl
      · rw [eb2 (by omega), ep2 (by omega)]; rfl
    · rw [decide_eq_false g2]
      refine sel_dec (fun g => ?_) (fun g => ?_)
      · rw [eb2 (by omega), ep2 (by omega)]; rfl
      · rw [eb2 (by omega), ep2 (by omega)]; rfl

def noS : ByteArray := ⟨#[]⟩
def NewR (n : Int) : AV := if 1 ≤ n ∧ n ≤ 2048 then .tup [Dev (List.replicate n.toNat noS) [], .n (.int .i64 0)] else .tup [Dev [] [], .n (.int .i64 1)]
theorem p13 (n : Int) : Runs Fs 13 [.n (.int .i64 n)] [] (NewR n) [] := by
  refine vc_eq fs13 rfl ?_
  rw [vc13]
  refine sel_dec (fun h => by rw [NewR, if_neg (by omega)]; rfl) (fun h => ?_)
  refine sel_dec (fun h2 => by rw [NewR, if_neg (by omega)]; rfl) (fun h2 => ?_)
  refine ⟨by omega, by omega, rfl, ?_⟩
  rw [NewR, if_pos (by omega), Dev, bk, List.map_replicate]; rfl

/-- Two devices. -/
def Lk (b : List ByteArray) (p : List Wr) (b' : List ByteArray) (p' : List Wr) : Bool := decide (b = b') && decide (p = p')
theorem lk_self (b : List ByteArray) (p : List Wr) : Lk b p b p = true := by simp [Lk]
theorem wr_eq {x y : Wr} : ((x.1 == y.1) && ((x.2.1.toList == y.2.1.toList) && true)) = decide (x = y) := by
  obtain ⟨x1, x2, _⟩ := x
  obtain ⟨y1, y2, _⟩ := y
  rw [beq_dec]
  rw [Bool.and_true]
  by_cases h1 : x1 = y1
  · by_cases h2 : x2 = y2
    · subst h1; subst h2; simp
    · rw [decide_eq_false h2, decide_eq_false (fun e => h2 (by simpa using congrArg (fun z : Wr => z.2.1) e)), Bool.and_false]
  · rw [show (x1 == y1) = false from beq_eq_false_iff_ne.2 h1, Bool.false_and, decide_eq_false (fun e => h1 (congrArg (Prod.fst : Wr → Int) e))]
theorem p14 (b : List ByteArray) (p : List Wr) (b' : List ByteArray) (p' : List Wr) (hf : Fits b p) (hf' : Fits b' p') : Runs Fs 14 [Dev b p, Dev b' p'] [] (.n (.bool (Lk b p b' p'))) [] := by
  refine vc_eq fs14 rfl ?_
  rw [Dev, Dev, vc14, V14]
  rw [bk_len b, bk_len b', pk_len p, pk_len p']
  have hbl := hf.bl
  have hpl := hf.pl
  have no : ¬ (b = b' ∧ p = p') → AV.n (Mir.D.bool false) = AV.n (Mir.D.bool (Lk b p b' p')) := fun h => by
    rw [Lk, ← Bool.decide_and, decide_eq_false h]
  refine sel_intro (fun h => no fun e => by rw [e.1] at h; simp at h) (fun h => ?_)
  refine sel_intro (fun h2 => no fun e => by rw [e.2] at h2; simp at h2) (fun h2 => ?_)
  have e1 : b.length = b'.length := by have := bne_eq_false_iff_eq.1 h; omega
  have e2 : p.length = p'.length := by have := bne_eq_false_iff_eq.1 h2; omega
  refine ⟨fun i => 0 ≤ i ∧ i ≤ b.length ∧ ∀ j : Nat, (j : Int) < i → b[j]? = b'[j]?, fun i => (b.length - i).toNat, ⟨rfl, by omega, by omega, fun j hj => by omega⟩, ?_⟩
  rintro i ⟨h0, h1, hok⟩ _
  refine sel_dec (fun h => ?_) (fun h => ?_)
  · have hi : i.toNat < b.length := by omega
    have hi' : i.toNat < b'.length := by omega
    refine ⟨rfl, h0, _, bk_at hi, _, rfl, rfl, h0, _, bk_at hi', _, rfl, sel_nb (fun hne => no fun e => hne ?_) (fun he => ?_)⟩
    · have := e.1; subst this; rfl
    · rw [i64_in _ (by omega)]
      refine ⟨rfl, rfl, rfl, rfl, ⟨by omega, by omega, fun j hj => ?_⟩, by dsimp only; omega⟩
      by_cases hji : (j : Int) < i
      · exact hok j hji
      · obtain rfl : j = i.toNat := by omega
        rw [List.getElem?_eq_getElem hi, List.getElem?_eq_getElem hi', he]
  · have hb : b = b' := List.ext_getElem? fun j => by
      by_cases hj : (j : Int) < i
      · exact hok j hj
      · rw [List.getElem?_eq_none (by omega), List.getElem?_eq_none (by omega)]
    refine ⟨fun i => 0 ≤ i ∧ i ≤ p.length ∧ ∀ j : Nat, (j : Int) < i → p[j]? = p'[j]?, fun i => (p.length - i).toNat, ⟨rfl, by omega, by omega, fun j hj => by omega⟩, ?_⟩
    rintro i ⟨h0, h1, hok⟩ _
    refine sel_dec (fun h => ?_) (fun h => ?_)
    · have hi : i.toNat < p.length := by omega
      have hi' : i.toNat < p'.length := by omega
      refine ⟨rfl, h0, _, pk_at hi, _, _, rfl, Nat.le_refl _, rfl, h0, _, pk_at hi', _, _, rfl, Nat.le_refl _, ?_⟩
      rw [wr_eq]
      refine sel_intro (fun hne => no fun e => ?_) (fun he => ?_)
      · have := e.2; subst this; simp at hne
      · rw [i64_in _ (by omega)]
        have he : p[i.toNat] = p'[i.toNat] := by simpa using he
        refine ⟨rfl, rfl, rfl, rfl, ⟨by omega, by omega, fun j hj => ?_⟩, by dsimp only; omega⟩
        by_cases hji : (j : Int) < i
        · exact hok j hji
        · obtain rfl : j = i.toNat := by omega
          rw [List.getElem?_eq_getElem hi, List.getElem?_eq_getElem hi', he]
    · have hp : p = p' := List.ext_getElem? fun j => by
        by_cases hj : (j : Int) < i
        · exact hok j hj
        · rw [List.getElem?_eq_none (by omega), List.getElem?_eq_none (by omega)]
      rw [Lk, decide_eq_true hb, decide_eq_true hp]; rfl
theorem tm_no : Tm noS = true := by
  rw [Tm, decide_eq_true ((trimS_iff noS).2 rfl)]; rfl
theorem fits_new (n : Int) (h : n ≤ 2048) : Fits (List.replicate n.toNat noS) [] := by
  refine ⟨by simp; omega, by simp, fun s hs => ?_, fun x hx => by cases hx⟩
  rw [(List.mem_replicate.1 hs).2]; decide
theorem rt_new (n : Int) (h1 : 1 ≤ n) (h2 : n ≤ 2048) : Rt (List.replicate n.toNat noS) [] = true := by
  have e := rt_good (b := List.replicate n.toNat noS) (p := []) (by simp; omega) (fun j hj => by simp [tm_no])
  rw [e]; rfl
theorem p15 : Runs Fs 15 [] [] (.n (.bool true)) [] := by
  refine vc_eq fs15 rfl ?_
  rw [vc15]
  have h13 := p13 1
  rw [NewR, if_pos (by omega)] at h13
  refine ⟨_, _, _, h13, sel_beq ⟨_, p16 _ _ (fits_new 1 (by omega)), ?_⟩⟩
  rw [rt_new 1 (by omega) (by omega)]
theorem p3 (b : List ByteArray) (p : List Wr) (n : Int) (hf : Fits b p) : Runs Fs 3 [Dev b p, .n (.int .i64 n)] [] (.n (.bool true)) [] := by
  refine vc_eq fs3 rfl ?_
  rw [Dev, vc3]
  have h13 := p13 n
  have hff := fits_few hf
  have last : ∀ x, Runs Fs 15 [] [] (.n (.bool x)) [] → True := fun _ _ => trivial
  by_cases hn : 1 ≤ n ∧ n ≤ 2048
  · rw [NewR, if_pos hn] at h13
    refine ⟨_, _, p12 b p, _, _, _, h13, ?_⟩
    refine sel_dec (fun h => by omega) (fun _ => sel_dec (fun h => by omega) (fun _ => ?_))
    have h14 := p14 _ _ (List.replicate n.toNat noS) [] (fits_new n hn.2) (fits_new n hn.2)
    have e : bk (List.replicate n.toNat noS) = List.replicate n.toNat (Mir.D.str ⟨#[]⟩) := by simp [bk, noS]
    rw [lk_self, Dev, e] at h14
    rw [e]
    refine sel_intro (fun h => by simp at h) (fun _ => ⟨by omega, by omega, rfl, _, h14, sel_intro (fun h => by cases h) (fun _ => ⟨_, p15, sel_intro (fun _ => ⟨_, p16 _ _ hff, _, p17 _ _ hff, ?_⟩) (fun h => by cases h)⟩)⟩)
    rw [beq_self_eq_true]
  · rw [NewR, if_neg hn] at h13
    refine ⟨_, _, p12 b p, _, _, _, h13, ?_⟩
    have fin : sel (1 != 1) ((fun x => x = AV.n (Mir.D.bool true)) (AV.n (Mir.D.bool false))) (sel (((0 : Nat) : Int) != 0) ((fun x => x = AV.n (Mir.D.bool true)) (AV.n (Mir.D.bool false))) (∃ x5 : Bool, Runs Fs 15 [] [] (AV.n (Mir.D.bool x5)) [] ∧ sel x5 (∃ x6 : Bool, Runs Fs 16 [Dev (fewB b) (fewP p)] [] (AV.n (Mir.D.bool x6)) [] ∧ ∃ x7 : Bool, Runs Fs 17 [Dev (fewB b) (fewP p)] [] (AV.n (Mir.D.bool x7)) [] ∧ (fun x => x = AV.n (Mir.D.bool true)) (AV.n (Mir.D.bool (x6 == x7)))) ((fun x => x = AV.n (Mir.D.bool true)) (AV.n (Mir.D.bool false))))) := by
      refine sel_intro (fun h => by simp at h) (fun _ => sel_intro (fun h => by simp at h) (fun _ => ⟨_, p15, sel_intro (fun _ => ⟨_, p16 _ _ hff, _, p17 _ _ hff, ?_⟩) (fun h => by cases h)⟩))
      rw [beq_self_eq_true]
    refine sel_dec (fun h => fin) (fun _ => sel_dec (fun h => fin) (fun h2 => by omega))
end Go.Proofs.YtcakphhnilklnaaDoor.M
