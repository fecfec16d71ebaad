import Derived.Test.YtmmnobdpccdeoaaDoorR3Un
import Derived.Test.YtmmnobdpccdeoaaDoorR3Crs
import Derived.Test.YtmmnobdpccdeoaaDoorR3SupL
namespace Go.Proofs.YtmmnobdpccdeoaaDoor.M
set_option linter.unusedVariables false
set_option linter.unusedSimpArgs false
open Go Go.Mir
set_option linter.unusedVariables false

/-! Records. -/
def rOK (gen no : Int) (body : ByteArray) : Prop := 1 ≤ gen ∧ gen ≤ 1099511627776 ∧ 0 ≤ no ∧ no ≤ 7 ∧ body.size ≤ 480
def RecS (gen no : Int) (body : ByteArray) : ByteArray := PageS 5 gen (RecB no body)
theorem rPut_cases (gen no : Int) (body : ByteArray) : (rOK gen no body ∧ RPutR gen no body = .tup [.n (.str (RecS gen no body)), .n (.int .i64 0)]) ∨ (¬ rOK gen no body ∧ ∃ e, e ≠ 0 ∧ RPutR gen no body = sErr e) := by
  unfold RPutR
  by_cases h1 : gen < 1 ∨ 1099511627776 < gen ∨ no < 0 ∨ 7 < no
  · rw [if_pos h1]; exact .inr ⟨by unfold rOK; omega, 1, by decide, rfl⟩
  · rw [if_neg h1]
    by_cases h2 : 480 < body.size
    · rw [if_pos h2]; exact .inr ⟨by unfold rOK; omega, 2, by decide, rfl⟩
    · rw [if_neg h2]; exact .inl ⟨by unfold rOK; omega, rfl⟩
theorem rec_pgOK {gen no : Int} {body : ByteArray} (h : rOK gen no body) : pgOK 5 gen (RecB no body) := by
  obtain ⟨h1, h2, h3, h4, h5⟩ := h
  have := recB_size no body
  exact ⟨by omega, by omega, by omega, by omega, by omega⟩
theorem recB_data (no : Int) (body : ByteArray) : (RecB no body).data.toList = beB no 1 ++ body.data.toList := by
  rw [RecB, cat_data]; simp [strOf_data, be_bytes]
theorem recS_size {gen no : Int} {body : ByteArray} (h : rOK gen no body) : (RecS gen no body).size ≤ 494 := by
  have := trimS_size (SealS (PageB 5 gen (RecB no body)))
  rw [sealS_size, pageB_size, recB_size] at this
  have := h.2.2.2.2
  unfold RecS PageS
  omega
theorem recS_trim (gen no : Int) (body : ByteArray) : TrimS (RecS gen no body) = RecS gen no body := by
  refine bytes_ext ?_
  rw [trimS_data, RecS, PageS, trimS_data, tz_idem]
theorem rget_self {gen no : Int} {body : ByteArray} (h : rOK gen no body) : RGet (RecS gen no body) gen = (no, body, 0) := by
  unfold RGet RecS
  obtain ⟨h1, h2, h3, h4, h5⟩ := id h
  have hsz := recB_size no body
  have hd := recB_data no body
  have p0 : piece (RecB no body) 0 1 = beB no 1 := piece_mid (A := []) (C := body.data.toList) hd rfl (beB_length _ _)
  have n0 : num (piece (RecB no body) 0 1) = no := by rw [p0, num_beB]; show no % 256 = no; omega
  have x1 : (RecB no body).extract 1 (RecB no body).size = body := ext_mid (A := beB no 1) (C := []) (by rw [hd, List.append_nil]) (by rw [beB_length]) (by rw [beB_length, hsz])
  rw [get_self (rec_pgOK h), rGet_ok, if_neg (by simp), n0, if_neg (by omega), x1]
theorem rget_other {gen gen' no : Int} {body : ByteArray} (h : rOK gen no body) (hg : gen' ≠ gen) : RGet (RecS gen no body) gen' = (0, empS, 4) := by
  unfold RGet RecS
  rw [get_self (rec_pgOK h), rGet_ok, if_neg (by simp), if_pos (.inl (fun e => hg e.symm))]
theorem rget_no {s : ByteArray} {gen : Int} (h : (RGet s gen).2.2 = 0) : 0 ≤ (RGet s gen).1 ∧ (RGet s gen).1 ≤ 7 ∧ (RGet s gen).2.1.size ≤ 4000 := by
  unfold RGet at h ⊢
  rcases getP_cases s with ⟨e, he, h'⟩ | ⟨k, g, b, h', hok, _⟩
  · rw [h', rGet_err he] at h; exact absurd h he
  · rw [h', rGet_ok] at h ⊢
    by_cases h1 : k ≠ 5
    · rw [if_pos h1] at h; cases h
    rw [if_neg h1] at h ⊢
    by_cases h2 : g ≠ gen ∨ b.size < 1 ∨ 481 < b.size ∨ 7 < num (piece b 0 1)
    · rw [if_pos h2] at h; cases h
    · rw [if_neg h2]
      have := (num_bound (piece b 0 1)).1
      refine ⟨this, by omega, ?_⟩
      show (b.extract 1 b.size).size ≤ 4000
      rw [ByteArray.size_extract]
      omega
def scan (gen : Int) : Nat → List ByteArray → List ByteArray
  | _, [] => []
  | i, b :: r => if (RGet b gen).2.2 = 0 ∧ (RGet b gen).1 = i then (RGet b gen).2.1 :: scan gen (i + 1) r else []
theorem scan_end (gen : Int) (i : Nat) : scan gen i [] = [] := rfl
theorem scan_go {gen : Int} {i : Nat} {b : ByteArray} {r : List ByteArray} (h : (RGet b gen).2.2 = 0) (h2 : (RGet b gen).1 = i) : scan gen i (b :: r) = (RGet b gen).2.1 :: scan gen (i + 1) r := by rw [scan, if_pos ⟨h, h2⟩]
theorem scan_stop {gen : Int} {i : Nat} {b : ByteArray} {r : List ByteArray} (h : (RGet b gen).2.2 ≠ 0 ∨ (RGet b gen).1 ≠ i) : scan gen i (b :: r) = [] := by
  rw [scan, if_neg (by rintro ⟨h1, h2⟩; rcases h with h | h <;> contradiction)]
theorem tri_eq (x : Int × ByteArray × Int) : tri x = .tup [.n (.int .i64 x.1), .n (.str x.2.1), .n (.int .i64 x.2.2)] := rfl
theorem p27 (gen : Int) (l : List ByteArray) (hl : Fits' l) : Runs Fs 27 [.n (.int .i64 gen), .o (.sl 1 (sl_ l))] [] (.o (.sl 1 (sl_ (scan gen 0 l)))) [] := by
  refine vc_eq fs27 rfl ?_
  rw [vc27, V27, sl_len]
  have hL := hl.1
  refine ⟨fun ver i row => 0 ≤ i ∧ i ≤ l.length ∧ i ≤ 8 ∧ ∃ acc : List ByteArray, row = (ver, sl_ acc) ∧ (acc.length : Int) = i ∧ acc ++ scan gen i.toNat (l.drop i.toNat) = scan gen 0 l, fun _ i _ => (l.length - i).toNat, ⟨rfl, by omega, by omega, by omega, [], rfl, by simp, by simp⟩, ?_⟩
  rintro ver i row ⟨h0, h1, h8, acc, rfl, ha, hinv⟩ _
  refine sel_dec (fun h => ?_) (fun h => ?_)
  · have hi : i.toNat < l.length := by omega
    have g := p30 l[i.toNat] (hl.2 _ (List.getElem_mem hi)) gen
    rw [tri_eq] at g
    rw [List.drop_eq_getElem_cons hi] at hinv
    refine ⟨rfl, h0, _, sl_at hi, _, rfl, _, _, _, g, ?_⟩
    refine sel_intro (fun he => ⟨rfl, ?_⟩) (fun he => sel_intro (fun hn => ⟨rfl, ?_⟩) (fun hn => ?_))
    · rw [scan_stop (.inl (by simpa using he)), List.append_nil] at hinv
      rw [hinv]
    · rw [scan_stop (.inr (by
        have : (RGet l[i.toNat] gen).1 ≠ i := by simpa using hn
        omega)), List.append_nil] at hinv
      rw [hinv]
    · have he : (RGet l[i.toNat] gen).2.2 = 0 := by simpa using he
      have hn : (RGet l[i.toNat] gen).1 = i := by simpa using hn
      have h7 := rget_no he
      rw [scan_go he (by omega)] at hinv
      refine ⟨rfl, .inl rfl, ⟨⟨rfl, rfl⟩, rfl⟩, by simp only [sl_len, List.length_singleton]; omega, ?_⟩
      repeat (refine And.intro rfl ?_)
      rw [i64_in _ (by omega)]
      refine ⟨⟨by omega, by omega, by omega, acc ++ [(RGet l[i.toNat] gen).2.1], by rw [sl_snoc], by simp; omega, ?_⟩, by first | omega | (dsimp only; omega)⟩
      rw [show (i + 1).toNat = i.toNat + 1 by omega, ← hinv]; simp
  · rw [List.drop_of_length_le (by omega), scan_end, List.append_nil] at hinv
    exact ⟨rfl, by rw [hinv]⟩
theorem p28 (gen : Int) (l : List ByteArray) (hl : Fits' l) : Runs Fs 28 [.n (.int .i64 gen), .o (.sl 1 (sl_ l))] [] (.o (.sl 1 (sl_ (scan gen 0 l)))) [] := by
  refine vc_eq fs28 rfl ?_
  rw [vc28, V28, sl_len]
  have hL := hl.1
  refine ⟨fun ver i row => 0 ≤ i ∧ i ≤ l.length ∧ i ≤ 8 ∧ ∃ acc : List ByteArray, row = (ver, sl_ acc) ∧ (acc.length : Int) = i ∧ acc ++ scan gen i.toNat (l.drop i.toNat) = scan gen 0 l, fun _ i _ => (l.length - i).toNat, ⟨rfl, by omega, by omega, by omega, [], rfl, by simp, by simp⟩, ?_⟩
  rintro ver i row ⟨h0, h1, h8, acc, rfl, ha, hinv⟩ _
  refine sel_dec (fun h => ?_) (fun h => ?_)
  · have hi : i.toNat < l.length := by omega
    have g := p58 l[i.toNat] (hl.2 _ (List.getElem_mem hi)) gen
    rw [tri_eq] at g
    rw [List.drop_eq_getElem_cons hi] at hinv
    refine ⟨rfl, h0, _, sl_at hi, _, rfl, _, _, _, g, ?_⟩
    refine sel_intro (fun he => ⟨rfl, ?_⟩) (fun he => sel_intro (fun hn => ⟨rfl, ?_⟩) (fun hn => ?_))
    · rw [scan_stop (.inl (by simpa using he)), List.append_nil] at hinv
      rw [hinv]
    · rw [scan_stop (.inr (by
        have : (RGet l[i.toNat] gen).1 ≠ i := by simpa using hn
        omega)), List.append_nil] at hinv
      rw [hinv]
    · have he : (RGet l[i.toNat] gen).2.2 = 0 := by simpa using he
      have hn : (RGet l[i.toNat] gen).1 = i := by simpa using hn
      have h7 := rget_no he
      rw [scan_go he (by omega)] at hinv
      refine ⟨rfl, .inl rfl, ⟨⟨rfl, rfl⟩, rfl⟩, by simp only [sl_len, List.length_singleton]; omega, ?_⟩
      repeat (refine And.intro rfl ?_)
      rw [i64_in _ (by omega)]
      refine ⟨⟨by omega, by omega, by omega, acc ++ [(RGet l[i.toNat] gen).2.1], by rw [sl_snoc], by simp; omega, ?_⟩, by first | omega | (dsimp only; omega)⟩
      rw [show (i + 1).toNat = i.toNat + 1 by omega, ← hinv]; simp
  · rw [List.drop_of_length_le (by omega), scan_end, List.append_nil] at hinv
    exact ⟨rfl, by rw [hinv]⟩
theorem p26 (l : List ByteArray) (hl : (l.length : Int) ≤ 9223372036854775807) : Runs Fs 26 [.o (.sl 1 (sl_ l)), .o (.sl 1 (sl_ l))] [] (.n (.bool true)) [] := by
  refine vc_eq fs26 rfl ?_
  rw [vc26, V26, sl_len]
  refine sel_intro (fun h => by simp at h) (fun _ => ?_)
  refine ⟨fun i => 0 ≤ i ∧ i ≤ l.length, fun i => (l.length - i).toNat, ⟨rfl, by omega, by omega⟩, ?_⟩
  rintro i ⟨h0, h1⟩ _
  refine sel_dec (fun h => ?_) (fun _ => rfl)
  have hi : i.toNat < l.length := by omega
  refine ⟨rfl, h0, _, sl_at hi, _, rfl, rfl, h0, _, sl_at hi, _, rfl, ?_⟩
  refine sel_intro (fun h => by simp at h) (fun _ => ?_)
  repeat (refine And.intro rfl ?_)
  rw [i64_in _ (by omega)]
  exact ⟨⟨by omega, by omega⟩, by first | omega | (dsimp only; omega)⟩
theorem scan_len (gen : Int) : ∀ (l : List ByteArray) (i : Nat), (scan gen i l).length ≤ l.length
  | [], i => by simp [scan]
  | b :: r, i => by
    rw [scan]
    split
    · have := scan_len gen r (i + 1); simp; omega
    · simp
theorem p8 (gen : Int) (l : List ByteArray) (hl : Fits' l) : Runs Fs 8 [.n (.int .i64 gen), .o (.sl 1 (sl_ l))] [] (.n (.bool true)) [] := by
  refine vc_eq fs8 rfl ?_
  rw [vc8, V8, sl_len]
  obtain ⟨N, hN, h1, _⟩ := mm_low l.length 12 (by decide)
  rw [hN, show Int.toNat (N : Int) = N from rfl, sl_take]
  have hf := fits_take hl N
  have := scan_len gen (l.take N) 0
  have h2 := hf.1
  exact ⟨rfl, by omega, by omega, _, p20, sel_intro (fun _ => ⟨_, p27 gen _ hf, _, p28 gen _ hf, _, p26 _ (by omega), rfl⟩) (fun h => by cases h)⟩

/-! Rows of records. -/
def rows (gen : Int) : Nat → List ByteArray → List ByteArray
  | _, [] => []
  | k, b :: r => RecS gen k b :: rows gen (k + 1) r
theorem rows_len (gen : Int) : ∀ (l : List ByteArray) (k : Nat), (rows gen k l).length = l.length
  | [], _ => rfl
  | b :: r, k => by simp [rows, rows_len gen r (k + 1)]
theorem rows_snoc (gen : Int) (b : ByteArray) : ∀ (l : List ByteArray) (k : Nat), rows gen k (l ++ [b]) = rows gen k l ++ [RecS gen (k + l.length : Nat) b]
  | [], k => by simp [rows]
  | c :: r, k => by
    rw [List.cons_append, rows, rows, rows_snoc gen b r (k + 1)]
    simp only [List.cons_append, List.length_cons]
    rw [show k + 1 + r.length = k + (r.length + 1) by omega]
theorem scan_rows {gen : Int} (hg : 1 ≤ gen ∧ gen ≤ 1099511627776) (E : List ByteArray) : ∀ (l : List ByteArray) (k : Nat), k + l.length ≤ 8 → (∀ b ∈ l, b.size ≤ 480) → scan gen k (rows gen k l ++ E) = l ++ scan gen (k + l.length) E
  | [], k, _, _ => by simp [rows]
  | b :: r, k, hk, hs => by
    simp only [List.length_cons] at hk
    have ok : rOK gen k b := ⟨hg.1, hg.2, by omega, by omega, hs b (List.mem_cons_self ..)⟩
    rw [rows, List.cons_append, scan_go (by rw [rget_self ok]) (by rw [rget_self ok]), rget_self ok, scan_rows hg E r (k + 1) (by omega) fun c hc => hs c (List.mem_cons_of_mem _ hc)]
    simp only [List.cons_append, List.length_cons]
    rw [show k + 1 + r.length = k + (r.length + 1) by omega]
theorem scan_other {gen gen' : Int} (hg : 1 ≤ gen ∧ gen ≤ 1099511627776) (hne : gen' ≠ gen) {l E : List ByteArray} {k i : Nat} (hl : l ≠ []) (hk : k ≤ 7) (hs : ∀ b ∈ l, b.size ≤ 480) : scan gen' i (rows gen k l ++ E) = [] := by
  cases l with
  | nil => exact absurd rfl hl
  | cons b r =>
    have ok : rOK gen k b := ⟨hg.1, hg.2, by omega, by omega, hs b (List.mem_cons_self ..)⟩
    rw [rows, List.cons_append, scan_stop (.inl (by rw [rget_other ok hne]; simp))]
def cut480 (b : ByteArray) : ByteArray := b.extract 0 (min b.size 480)
theorem cut480_size (b : ByteArray) : (cut480 b).size ≤ 480 := by
  unfold cut480; rw [ByteArray.size_extract]; omega
theorem mm480 (b : ByteArray) : 0 ≤ mmI false ((b.size : Nat) : Int) 480 ∧ mmI false ((b.size : Nat) : Int) 480 ≤ (b.size : Nat) ∧ ByteArray.extract b 0 (Int.toNat (mmI false ((b.size : Nat) : Int) 480)) = cut480 b := by
  have e : Int.toNat (mmI false ((b.size : Nat) : Int) 480) = min b.size 480 := by rw [mmF]; omega
  rw [cut480, e]
  rw [mmF]
  exact ⟨by omega, by omega, rfl⟩
theorem rows_size {gen : Int} (hg : 1 ≤ gen ∧ gen ≤ 1099511627776) : ∀ (l : List ByteArray) (k : Nat), k + l.length ≤ 8 → (∀ b ∈ l, b.size ≤ 480) → ∀ s ∈ rows gen k l, (s.size : Int) ≤ 9223372036854775807
  | [], _, _, _, s, hs => by cases hs
  | b :: r, k, hk, hb, s, hs => by
    simp only [List.length_cons] at hk
    rw [rows] at hs
    rcases List.mem_cons.1 hs with rfl | hs
    · have := recS_size (gen := gen) (no := k) (body := b) ⟨hg.1, hg.2, by omega, by omega, hb b (List.mem_cons_self ..)⟩
      omega
    · exact rows_size hg r (k + 1) (by omega) (fun c hc => hb c (List.mem_cons_of_mem _ hc)) s hs
theorem p9 (gen0 : Int) (bodies elder : List ByteArray) (hb : Fits' bodies) (he : Fits' elder) : Runs Fs 9 [.n (.int .i64 gen0), .o (.sl 1 (sl_ bodies)), .o (.sl 1 (sl_ elder))] [] (.n (.bool true)) [] := by
  refine vc_eq fs9 rfl ?_
  rw [vc9, V9, sl_len, sl_len]
  obtain ⟨N, hN, h1, h8⟩ := mm_low bodies.length 8 (by decide)
  rw [hN, show Int.toNat (N : Int) = N from rfl, sl_take, sl_len]
  have hL8 : (bodies.take N).length ≤ 8 := by rw [List.length_take]; omega
  generalize bodies.take N = L at hL8
  have hG : 2 ≤ mmI false (mmI true gen0 2) 1099511627776 ∧ mmI false (mmI true gen0 2) 1099511627776 ≤ 1099511627776 := by
    have := mmI_true gen0 2
    rw [mmF]; omega
  generalize mmI false (mmI true gen0 2) 1099511627776 = G at hG
  have hg : 1 ≤ G ∧ G ≤ 1099511627776 := ⟨by omega, hG.2⟩
  have hg1 : 1 ≤ G - 1 ∧ G - 1 ≤ 1099511627776 := ⟨by omega, by omega⟩
  have hw1 : IntKind.wrap .i64 (G - 1) = G - 1 := i64_in _ (by omega)
  rw [hw1]
  have hE := he.1
  -- what is told at the end
  have last : ∀ (B E : List ByteArray), B.length ≤ 8 → (∀ b ∈ B, b.size ≤ 480) → (∀ b ∈ E, b.size ≤ 480) → B.length + E.length ≤ 8 → ∀ (v1 v2 : Nat),
      ∃ x : List D, Runs Fs 27 [.n (.int .i64 G), .o (.sl 1 (sl_ (rows G 0 B ++ rows (G - 1) B.length E)))] [] (.o (.sl 1 x)) [] ∧ (v2 = v2 ∧ ∃ y : Bool, Runs Fs 26 [.o (.sl 1 x), .o (.sl 1 (sl_ B))] [] (.n (.bool y)) [] ∧
        sel y (v2 = v2 ∧ sel ((((sl_ B).length : Nat) : Int) == 0) (AV.n (D.bool true) = AV.n (D.bool true)) (v1 = v1 ∧ ∃ z : List D, Runs Fs 27 [.n (.int .i64 (G - 1)), .o (.sl 1 (sl_ (rows G 0 B ++ rows (G - 1) B.length E)))] [] (.o (.sl 1 z)) [] ∧ AV.n (D.bool ((((z.length) : Nat) : Int) == 0)) = AV.n (D.bool true))) (AV.n (D.bool false) = AV.n (D.bool true))) := by
    intro B E hB8 hB hE' hBE v1 v2
    have hfit : Fits' (rows G 0 B ++ rows (G - 1) B.length E) := ⟨by rw [List.length_append, rows_len, rows_len]; omega, fun s hs => by
      rcases List.mem_append.1 hs with hs | hs
      · exact rows_size hg B 0 (by omega) hB s hs
      · exact rows_size hg1 E B.length (by omega) hE' s hs⟩
    have e1 : scan G 0 (rows G 0 B ++ rows (G - 1) B.length E) = B := by
      rw [scan_rows hg _ B 0 (by omega) hB, Nat.zero_add]
      by_cases hEn : E = []
      · subst hEn; simp [rows, scan]
      · have := scan_other (gen := G - 1) (gen' := G) hg1 (by omega) (l := E) (E := []) (k := B.length) (i := B.length) hEn (by
          have : E.length ≠ 0 := fun h => hEn (List.length_eq_zero_iff.1 h)
          omega) hE'
        rw [List.append_nil] at this
        rw [this, List.append_nil]
    have g := p27 G _ hfit
    rw [e1] at g
    refine ⟨_, g, rfl, _, p26 B (by omega), sel_intro (fun _ => ⟨rfl, ?_⟩) (fun h => by cases h)⟩
    refine sel_intro (fun _ => rfl) (fun hn => ⟨rfl, ?_⟩)
    have hBn : B ≠ [] := fun e => by subst e; simp [sl_] at hn
    have g2 := p27 (G - 1) _ hfit
    rw [scan_other hg (by omega) hBn (by omega) hB] at g2
    exact ⟨_, g2, rfl⟩
  refine ⟨rfl, by omega, by omega, fun v w i r q => 0 ≤ i ∧ i ≤ L.length ∧ r = (v, sl_ (rows G 0 ((L.take i.toNat).map cut480))) ∧ q = (w, sl_ ((L.take i.toNat).map cut480)), fun _ _ i _ _ => (L.length - i).toNat, ⟨rfl, by omega, by omega, rfl, rfl⟩, ?_⟩
  rintro v w i r q ⟨h0, h2, rfl, rfl⟩ _
  refine sel_dec (fun hlt => ?_) (fun hge => ?_)
  · have hi : i.toNat < L.length := by omega
    obtain ⟨m1, m2, m3⟩ := mm480 L[i.toNat]
    have ok : rOK G i (cut480 L[i.toNat]) := ⟨by omega, by omega, by omega, by omega, cut480_size _⟩
    have g := p19 G i (cut480 L[i.toNat])
    have hp := (rPut_cases G i (cut480 L[i.toNat])).resolve_right fun h => h.1 ok
    replace hp := hp.2
    rw [hp] at g
    refine ⟨rfl, h0, _, sl_at hi, _, rfl, m1, m2, ?_⟩
    rw [m3]
    have hm : L.take (i + 1).toNat = L.take i.toNat ++ [L[i.toNat]] := by rw [show (i + 1).toNat = i.toNat + 1 by omega]; exact take_snoc hi
    have hlen : ((L.take i.toNat).map cut480).length = i.toNat := by rw [List.length_map, List.length_take]; omega
    refine ⟨_, _, g, sel_intro (fun h => by cases h) (fun _ => ?_)⟩
    refine ⟨rfl, .inl rfl, ⟨⟨rfl, rfl⟩, rfl⟩, by simp only [sl_len, rows_len, hlen, List.length_singleton]; omega, rfl, .inl rfl, ⟨⟨rfl, rfl⟩, rfl⟩, by simp only [sl_len, hlen, List.length_singleton]; omega, ?_⟩
    repeat (refine And.intro rfl ?_)
    rw [i64_in _ (by omega)]
    refine ⟨⟨by omega, by omega, ?_, ?_⟩, by first | omega | (dsimp only; omega)⟩
    · dsimp only
      rw [sl_snoc, hm, List.map_append, show List.map cut480 [L[i.toNat]] = [cut480 L[i.toNat]] from rfl, rows_snoc, Nat.zero_add, hlen, show ((i.toNat : Nat) : Int) = i by omega]
    · dsimp only
      rw [sl_snoc, hm, List.map_append]; rfl
  · have hiL : i.toNat = L.length := by omega
    rw [hiL, List.take_length]
    have hB8 : (L.map cut480).length ≤ 8 := by rw [List.length_map]; exact hL8
    have hBs : ∀ b ∈ L.map cut480, b.size ≤ 480 := fun b hb => by
      obtain ⟨c, _, rfl⟩ := List.mem_map.1 hb
      exact cut480_size c
    generalize L.map cut480 = B at hB8 hBs
    dsimp only
    refine ⟨fun v' w' i r => 0 ≤ i ∧ i ≤ elder.length ∧ w' = w ∧ ∃ E : List ByteArray, r = (v', sl_ (rows G 0 B ++ rows (G - 1) B.length E)) ∧ (∀ b ∈ E, b.size ≤ 480) ∧ B.length + E.length ≤ 8, fun _ _ i _ => (elder.length - i).toNat, ⟨rfl, by omega, by omega, rfl, [], by simp [rows], (fun b hb => by cases hb), (by simp; omega)⟩, ?_⟩
    rintro v' w' i r ⟨h0, h2, rfl, E, rfl, hEs, hBE⟩ _
    dsimp only
    refine sel_dec (fun hlt => ?_) (fun hge => ⟨_, p20, sel_intro (fun _ => ⟨rfl, last B E hB8 hBs hEs hBE v' w'⟩) (fun h => by cases h)⟩)
    have hi : i.toNat < elder.length := by omega
    refine ⟨rfl, h0, _, sl_at hi, _, rfl, ?_⟩
    refine sel_dec (fun h5 => ⟨_, p20, sel_intro (fun _ => ⟨rfl, last B E hB8 hBs hEs hBE v' w'⟩) (fun h => by cases h)⟩) (fun h5 => ?_)
    have hlen : (sl_ (rows G 0 B ++ rows (G - 1) B.length E)).length = B.length + E.length := by rw [sl_len, List.length_append, rows_len, rows_len]
    rw [hlen]
    refine ⟨rfl, sel_dec (fun h8' => ⟨_, p20, sel_intro (fun _ => ⟨rfl, last B E hB8 hBs hEs hBE v' w'⟩) (fun h => by cases h)⟩) (fun h8' => ?_)⟩
    obtain ⟨m1, m2, m3⟩ := mm480 elder[i.toNat]
    have ok : rOK (G - 1) ((B.length + E.length : Nat) : Int) (cut480 elder[i.toNat]) := ⟨by omega, by omega, by omega, by omega, cut480_size _⟩
    have g := p19 (G - 1) ((B.length + E.length : Nat) : Int) (cut480 elder[i.toNat])
    have hp := (rPut_cases (G - 1) ((B.length + E.length : Nat) : Int) (cut480 elder[i.toNat])).resolve_right fun h => h.1 ok
    replace hp := hp.2
    rw [hp] at g
    rw [m3]
    refine ⟨rfl, m1, m2, _, _, g, sel_intro (fun h => by cases h) (fun _ => ?_)⟩
    refine ⟨rfl, .inl rfl, ⟨⟨rfl, rfl⟩, rfl⟩, by simp only [List.length_singleton]; omega, ?_⟩
    repeat (refine And.intro rfl ?_)
    rw [i64_in _ (by omega)]
    refine ⟨⟨by omega, by omega, rfl, E ++ [cut480 elder[i.toNat]], ?_, fun b hb => ?_, by simp; omega⟩, by first | omega | (dsimp only; omega)⟩
    · rw [sl_snoc, rows_snoc, List.append_assoc]
    · rcases List.mem_append.1 hb with hb | hb
      · exact hEs b hb
      · rw [List.mem_singleton.1 hb]; exact cut480_size _
end Go.Proofs.YtmmnobdpccdeoaaDoor.M
