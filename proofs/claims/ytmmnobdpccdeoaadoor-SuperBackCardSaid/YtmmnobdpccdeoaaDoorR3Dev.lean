import Derived.Test.YtmmnobdpccdeoaaDoorR3FunW
import Derived.Test.YtmmnobdpccdeoaaDoorR3Last
import Derived.Test.YtmmnobdpccdeoaaDoorMirO
namespace Go.Proofs.YtmmnobdpccdeoaaDoor.M
set_option linter.unusedVariables false
set_option linter.unusedSimpArgs false
open Go Go.Mir
set_option linter.unusedVariables false

/-- A write that is on its way, as an argument's element. -/
abbrev Wr := Int × ByteArray × Unit
def bk (l : List ByteArray) : List Mir.D := l.map .str
def pk (l : List Wr) : List Mir.D := l.map fun p => .rcd [.int .i64 p.1, .str p.2.1]
def Dev (b : List ByteArray) (p : List Wr) : AV := .agg [.o (.sl 1 (bk b)), .o (.sl 2 (pk p))]
theorem bk_len (l : List ByteArray) : (bk l).length = l.length := by simp [bk]
theorem pk_len (l : List Wr) : (pk l).length = l.length := by simp [pk]
theorem bk_at {l : List ByteArray} {i : Nat} (h : i < l.length) : (bk l)[i]? = some (.str l[i]) := by simp [bk, h]
theorem pk_at {l : List Wr} {i : Nat} (h : i < l.length) : (pk l)[i]? = some (.rcd [.int .i64 l[i].1, .str l[i].2.1]) := by simp [pk, h]
theorem bk_take (l : List ByteArray) (n : Nat) : List.drop 0 (List.take n (bk l)) = bk (l.take n) := by simp [bk]
theorem pk_take (l : List Wr) (n : Nat) : List.drop 0 (List.take n (pk l)) = pk (l.take n) := by simp [pk]

/-- Its bytes stand without zeros at their end, and are no more than a block's. -/
def Tm (s : ByteArray) : Bool := decide ((s.size : Int) ≤ 4096) && decide (TrimS s = s)
theorem p91 (s : ByteArray) (hs : (s.size : Int) ≤ 9223372036854775807) : Runs Fs 91 [.n (.str s)] [] (.n (.bool (Tm s))) [] := by
  refine vc_eq fs91 rfl ?_
  rw [vc91]
  refine sel_dec (fun h => ?_) (fun h => ?_)
  · refine ⟨_, p88 s hs, ?_⟩
    rw [beq_dec, Tm, decide_eq_true h]; rfl
  · rw [Tm, decide_eq_false h]; rfl
theorem tz_last (l : List UInt8) (b : UInt8) : tz (l ++ [b]) = l ++ [b] ↔ b ≠ 0 := by
  constructor
  · intro h e
    subst e
    rw [tz_snoc0] at h
    have := congrArg List.length h
    have h2 := tz_len l
    simp at this
    omega
  · exact tz_snoc l b
theorem trimS_iff (s : ByteArray) : TrimS s = s ↔ tz s.data.toList = s.data.toList :=
  ⟨fun h => by rw [← trimS_data, h], fun h => bytes_ext (by rw [trimS_data, h])⟩
/-- A write that may be, on so many blocks. -/
def Wm (n : Int) (p : Wr) : Bool := decide (0 ≤ p.1) && (decide (p.1 < n) && Tm p.2.1)
theorem p93 (n : Int) (p : Wr) (hs : (p.2.1.size : Int) ≤ 9223372036854775807) : Runs Fs 93 [.agg [.n (.int .i64 p.1), .n (.str p.2.1)], .ptr 5300103 0] [(5300103, .box [.n (.int .i64 n)])] (.n (.bool (!(Wm n p)))) [(5300103, .box [.n (.int .i64 n)])] := by
  refine vc_look fs93 rfl (by kernel_rfl) ?_
  rw [vc93r]
  refine sel_dec (fun h => ?_) (fun h => ?_)
  · refine ⟨?_, rfl⟩
    rw [Wm, decide_eq_false (by omega : ¬ 0 ≤ p.1)]; rfl
  · refine sel_dec (fun h2 => ?_) (fun h2 => ?_)
    · refine ⟨?_, rfl⟩
      rw [Wm, decide_eq_false (by omega : ¬ p.1 < n), decide_eq_true (by omega : 0 ≤ p.1)]; rfl
    · refine ⟨_, p91 _ hs, ?_, rfl⟩
      rw [Wm, decide_eq_true (by omega : p.1 < n), decide_eq_true (by omega : 0 ≤ p.1)]; rfl
/-- Where the first one is that may not be. -/
def BadW (n : Int) (l : List Wr) : Bool := l.any fun p => !(Wm n p)
theorem p118 (n : Int) (l : List Wr) (hl : (l.length : Int) ≤ 9223372036854775807) (hs : ∀ p ∈ l, (p.2.1.size : Int) ≤ 9223372036854775807) : ∃ r : Int, decide (r ≥ 0) = BadW n l ∧
    Runs Fs 118 [.o (.sl 2 (pk l)), .fn 93 [.ptr 5300103 0]] [(5300103, .box [.n (.int .i64 n)])] (.n (.int .i64 r)) [(5300103, .box [.n (.int .i64 n)])] := by
  have key : ∃ r H', Runs Fs 118 [.o (.sl 2 (pk l)), .fn 93 [.ptr 5300103 0]] [(5300103, .box [.n (.int .i64 n)])] r H' ∧ (H' = [(5300103, .box [.n (.int .i64 n)])] ∧ ∃ k : Int, r = .n (.int .i64 k) ∧ decide (k ≥ 0) = BadW n l) := by
    refine vc_objs (R := fun r H' => H' = [(5300103, .box [.n (.int .i64 n)])] ∧ ∃ k : Int, r = .n (.int .i64 k) ∧ decide (k ≥ 0) = BadW n l) fs118 rfl (by kernel_rfl) ?_
    rw [vc118r]
    refine ⟨fun i => 0 ≤ i ∧ i ≤ l.length ∧ ∀ j : Nat, (j : Int) < i → ∀ h : j < l.length, Wm n l[j] = true, fun i => (l.length - i).toNat, ⟨rfl, by omega, by omega, fun j hj => by omega⟩, ?_⟩
    rintro i ⟨h0, h1, hok⟩ _
    rw [pk_len]
    refine sel_dec (fun h => ?_) (fun h => ?_)
    · have hi : i.toNat < l.length := by omega
      refine ⟨rfl, h0, _, pk_at hi, _, _, rfl, Nat.le_refl _, _, p93 n l[i.toNat] (hs _ (List.getElem_mem hi)), sel_intro (fun hb => ?_) (fun hb => ?_)⟩
      · refine ⟨rfl, i, rfl, ?_⟩
        rw [decide_eq_true (by omega : i ≥ 0)]
        exact (List.any_eq_true.2 ⟨_, List.getElem_mem hi, hb⟩).symm
      · rw [i64_in _ (by omega)]
        refine ⟨rfl, rfl, rfl, rfl, ⟨by omega, by omega, fun j hj hjl => ?_⟩, by dsimp only; omega⟩
        by_cases hji : (j : Int) < i
        · exact hok j hji hjl
        · obtain rfl : j = i.toNat := by omega
          simpa using hb
    · refine ⟨rfl, -1, rfl, ?_⟩
      rw [decide_eq_false (by omega)]
      refine (List.any_eq_false.2 fun p hp => ?_).symm
      obtain ⟨j, hj, rfl⟩ := List.getElem_of_mem hp
      rw [hok j (by omega) hj]; simp
  obtain ⟨r, H', hr, rfl, k, rfl, hk⟩ := key
  exact ⟨k, hk, hr⟩
theorem p92 (n : Int) (l : List Wr) (hl : (l.length : Int) ≤ 9223372036854775807) (hs : ∀ p ∈ l, (p.2.1.size : Int) ≤ 9223372036854775807) :
    Runs Fs 92 [.o (.sl 2 (pk l)), .fn 93 [.ptr 5300103 0]] [(5300103, .box [.n (.int .i64 n)])] (.n (.bool (BadW n l))) [(5300103, .box [.n (.int .i64 n)])] := by
  refine vc_look fs92 rfl (by kernel_rfl) ?_
  rw [vc92r]
  obtain ⟨r, hr, h⟩ := p118 n l hl hs
  exact ⟨r, h, by rw [hr], rfl⟩

/-- What an argument keeps. -/
structure Fits (b : List ByteArray) (p : List Wr) : Prop where
  bl : b.length ≤ 9223372036854775807
  pl : p.length ≤ 9223372036854775807
  bs : ∀ s ∈ b, s.size ≤ 9223372036854775807
  ps : ∀ x ∈ p, x.2.1.size ≤ 9223372036854775807
abbrev devT : Ty := .st [.sl .str, .sl (.st [.int .i64, .str])]
theorem fits_of (x : devT.T) (h : devT.fit x) : Fits x.1 x.2.1 := by
  obtain ⟨⟨h1, h2⟩, ⟨h3, h4⟩, _⟩ := h
  have e : maxLen = 9223372036854775807 := rfl
  refine ⟨e ▸ h1, e ▸ h3, fun y hy => e ▸ h2 y hy, fun y hy => ?_⟩
  have h5 : y.2.1.size ≤ maxLen := (h4 y hy).2.1
  exact e ▸ h5
/-- Which devices may be. -/
def Rt (b : List ByteArray) (p : List Wr) : Bool := decide (1 ≤ b.length ∧ b.length ≤ 2048 ∧ p.length ≤ 2048) && (b.all Tm && p.all (Wm b.length))
theorem rt_count {b : List ByteArray} {p : List Wr} (h : ¬ (1 ≤ b.length ∧ b.length ≤ 2048 ∧ p.length ≤ 2048)) : Rt b p = false := by
  rw [Rt, decide_eq_false h]; rfl
theorem rt_tm {b : List ByteArray} {p : List Wr} {i : Nat} (hi : i < b.length) (h : Tm b[i] = false) : Rt b p = false := by
  rw [Rt]
  have : b.all Tm = false := List.all_eq_false.2 ⟨_, List.getElem_mem hi, by rw [h]; simp⟩
  rw [this, Bool.false_and, Bool.and_false]
theorem rt_good {b : List ByteArray} {p : List Wr} (h : 1 ≤ b.length ∧ b.length ≤ 2048 ∧ p.length ≤ 2048) (hb : ∀ j, ∀ h : j < b.length, Tm b[j] = true) : Rt b p = !(BadW b.length p) := by
  have : b.all Tm = true := List.all_eq_true.2 fun x hx => by obtain ⟨j, hj, rfl⟩ := List.getElem_of_mem hx; exact hb j hj
  rw [Rt, decide_eq_true h, this, Bool.true_and, Bool.true_and, BadW, List.not_any_eq_all_not]
  simp
theorem p53 (b : List ByteArray) (p : List Wr) (hf : Fits b p) : Runs Fs 53 [Dev b p] [] (.n (.bool (Rt b p))) [] := by
  refine vc_eq fs53 rfl ?_
  rw [Dev, vc53]
  rw [V53, bk_len, pk_len]
  have hbl := hf.bl
  have hpl := hf.pl
  refine sel_dec (fun h => by rw [rt_count (by omega)]) (fun h => ?_)
  refine sel_dec (fun h2 => by rw [rt_count (by omega)]) (fun h2 => ?_)
  refine sel_dec (fun h3 => by rw [rt_count (by omega)]) (fun h3 => ?_)
  refine ⟨fun i => 0 ≤ i ∧ i ≤ b.length ∧ ∀ j : Nat, (j : Int) < i → ∀ h : j < b.length, Tm b[j] = true, fun i => (b.length - i).toNat, ⟨rfl, by omega, by omega, fun j hj => by omega⟩, ?_⟩
  rintro i ⟨h0, h1, hok⟩ _
  refine sel_dec (fun h => ?_) (fun h => ?_)
  · have hi : i.toNat < b.length := by omega
    refine ⟨rfl, h0, _, bk_at hi, _, rfl, _, p91 _ (by have := hf.bs _ (List.getElem_mem hi); omega), sel_intro (fun hb => ?_) (fun hb => ?_)⟩
    · rw [rt_tm hi (by simpa using hb)]
    · rw [i64_in _ (by omega)]
      refine ⟨rfl, rfl, rfl, rfl, rfl, ⟨by omega, by omega, fun j hj hjl => ?_⟩, by dsimp only; omega⟩
      by_cases hji : (j : Int) < i
      · exact hok j hji hjl
      · obtain rfl : j = i.toNat := by omega
        simpa using hb
  · refine ⟨_, p92 b.length p (by omega) (fun x hx => by have := hf.ps x hx; omega), ?_⟩
    rw [rt_good ⟨by omega, by omega, by omega⟩ fun j hj => hok j (by omega) hj]
/-- Of few blocks and writes, or of too many. -/
def fewB (b : List ByteArray) : List ByteArray := if 40 < b.length ∧ b.length ≤ 2048 then b.take 40 else b
def fewP (p : List Wr) : List Wr := if 40 < p.length ∧ p.length < 2048 then p.take 40 else p
theorem fits_few {b : List ByteArray} {p : List Wr} (h : Fits b p) : Fits (fewB b) (fewP p) := by
  refine ⟨?_, ?_, fun s hs => ?_, fun x hx => ?_⟩
  · unfold fewB; split
    · have := h.bl; simp; omega
    · exact h.bl
  · unfold fewP; split
    · have := h.pl; simp; omega
    · exact h.pl
  · refine h.bs s ?_
    unfold fewB at hs; split at hs
    · exact List.mem_of_mem_take hs
    · exact hs
  · refine h.ps x ?_
    unfold fewP at hx; split at hx
    · exact List.mem_of_mem_take hx
    · exact hx
def noS : ByteArray := ⟨#[]⟩
def NewR (n : Int) : AV := if 1 ≤ n ∧ n ≤ 2048 then .tup [Dev (List.replicate n.toNat noS) [], .n (.int .i64 0)] else .tup [Dev [] [], .n (.int .i64 1)]
/-- Two devices. -/
def Lk (b : List ByteArray) (p : List Wr) (b' : List ByteArray) (p' : List Wr) : Bool := decide (b = b') && decide (p = p')
theorem lk_self (b : List ByteArray) (p : List Wr) : Lk b p b p = true := by simp [Lk]
theorem wr_eq {x y : Wr} : ((x.1 == y.1) && ((x.2.1.toList == y.2.1.toList) && true)) = decide (x = y) := by
  obtain ⟨x1, x2, _⟩ := x
  obtain ⟨y1, y2, _⟩ := y
  rw [beq_dec]
  rw [Bool.and_true]
  by_cases h1 : x1 = y1
  · by_cases h2 : x2 = y2
    · subst h1; subst h2; simp
    · rw [decide_eq_false h2, decide_eq_false (fun e => h2 (by simpa using congrArg (fun z : Wr => z.2.1) e)), Bool.and_false]
  · rw [show (x1 == y1) = false from beq_eq_false_iff_ne.2 h1, Bool.false_and, decide_eq_false (fun e => h1 (congrArg (Prod.fst : Wr → Int) e))]
theorem tm_no : Tm noS = true := by
  rw [Tm, decide_eq_true ((trimS_iff noS).2 rfl)]; rfl
theorem fits_new (n : Int) (h : n ≤ 2048) : Fits (List.replicate n.toNat noS) [] := by
  refine ⟨by simp; omega, by simp, fun s hs => ?_, fun x hx => by cases hx⟩
  rw [(List.mem_replicate.1 hs).2]; decide
theorem rt_new (n : Int) (h1 : 1 ≤ n) (h2 : n ≤ 2048) : Rt (List.replicate n.toNat noS) [] = true := by
  have e := rt_good (b := List.replicate n.toNat noS) (p := []) (by simp; omega) (fun j hj => by simp [tm_no])
  rw [e]; rfl
end Go.Proofs.YtmmnobdpccdeoaaDoor.M
