import Derived.Test.YtmmnobdpccdeoaaDoorR3Crs
namespace Go.Proofs.YtmmnobdpccdeoaaDoor.M
set_option linter.unusedVariables false
set_option linter.unusedSimpArgs false
open Go Go.Mir
set_option linter.unusedVariables false

/-- A change, as an element. -/
abbrev Ch := ByteArray × ByteArray × Bool × Unit
def chD (c : Ch) : Mir.D := .rcd [.str c.1, .str c.2.1, .bool c.2.2.1]
def chV (c : Ch) : AV := .agg [.n (.str c.1), .n (.str c.2.1), .n (.bool c.2.2.1)]
def ck (l : List Ch) : List Mir.D := l.map chD
theorem ck_len (l : List Ch) : (ck l).length = l.length := by simp [ck]
theorem ck_at {l : List Ch} {i : Nat} (h : i < l.length) : (ck l)[i]? = some (chD l[i]) := by simp [ck, h]
def empS : ByteArray := ByteArray.mk (List.toArray [])
def chOK (c : Ch) : Bool := decide (1 ≤ c.1.size ∧ c.1.size ≤ 32 ∧ c.2.1.size ≤ 200) && (!c.2.2.1 || decide (c.2.1 = empS))
theorem chOK_no {c : Ch} (h : ¬ (1 ≤ c.1.size ∧ c.1.size ≤ 32 ∧ c.2.1.size ≤ 200)) : chOK c = false := by rw [chOK, decide_eq_false h]; rfl
theorem p61 (c : Ch) : Runs Fs 61 [chV c] [] (.n (.bool (chOK c))) [] := by
  refine vc_eq fs61 rfl ?_
  rw [chV, vc61]
  refine sel_dec (fun h1 => ?_) (fun h1 => by rw [chOK_no (by omega)])
  refine sel_dec (fun h2 => ?_) (fun h2 => by rw [chOK_no (by omega)])
  refine sel_dec (fun h3 => ?_) (fun h3 => by rw [chOK_no (by omega)])
  rw [chOK, decide_eq_true (by omega : 1 ≤ c.1.size ∧ c.1.size ≤ 32 ∧ c.2.1.size ≤ 200)]
  refine sel_intro (fun h => by rw [h]; rfl) (fun h => ?_)
  rw [h, beq_dec]; rfl
theorem p60 (c : Ch) : Runs Fs 60 [chV c] [] (.n (.bool (!chOK c))) [] := by
  refine vc_eq fs60 rfl ?_
  rw [chV, vc60]
  exact ⟨_, p61 c, rfl⟩
theorem p98 (l : List Ch) (hl : (l.length : Int) ≤ 9223372036854775807) : ∃ r : Int, decide (r ≥ 0) = l.any (fun c => !chOK c) ∧ Runs Fs 98 [.o (.sl 3 (ck l)), .fn 60 []] [] (.n (.int .i64 r)) [] := by
  have key : ∃ r, Runs Fs 98 [.o (.sl 3 (ck l)), .fn 60 []] [] r [] ∧ ∃ k : Int, r = .n (.int .i64 k) ∧ decide (k ≥ 0) = l.any (fun c => !chOK c) := by
    refine vc_runs (R := fun r => ∃ k : Int, r = .n (.int .i64 k) ∧ decide (k ≥ 0) = l.any (fun c => !chOK c)) fs98 rfl ?_
    rw [vc98p, V98p, ck_len]
    refine ⟨fun i => 0 ≤ i ∧ i ≤ l.length ∧ ∀ j : Nat, (j : Int) < i → ∀ h : j < l.length, chOK l[j] = true, fun i => (l.length - i).toNat, ⟨rfl, by omega, by omega, fun j hj => by omega⟩, ?_⟩
    rintro i ⟨h0, h1, hok⟩ _
    refine sel_dec (fun h => ?_) (fun h => ?_)
    · have hi : i.toNat < l.length := by omega
      refine ⟨rfl, h0, _, ck_at hi, _, _, _, rfl, Nat.le_refl _, _, p60 l[i.toNat], sel_intro (fun hb => ?_) (fun hb => ?_)⟩
      · refine ⟨i, rfl, ?_⟩
        rw [decide_eq_true (by omega : i ≥ 0)]
        exact (List.any_eq_true.2 ⟨_, List.getElem_mem hi, hb⟩).symm
      · repeat (refine And.intro rfl ?_)
        rw [i64_in _ (by omega)]
        refine ⟨⟨by omega, by omega, fun j hj hjl => ?_⟩, by dsimp only; omega⟩
        by_cases hji : (j : Int) < i
        · exact hok j hji hjl
        · obtain rfl : j = i.toNat := by omega
          simpa using hb
    · refine ⟨-1, rfl, ?_⟩
      rw [decide_eq_false (by omega)]
      refine (List.any_eq_false.2 fun p hp => ?_).symm
      obtain ⟨j, hj, rfl⟩ := List.getElem_of_mem hp
      rw [hok j (by omega) hj]; simp
  obtain ⟨r, hr, k, rfl, hk⟩ := key
  exact ⟨k, hk, hr⟩
theorem p59 (l : List Ch) (hl : (l.length : Int) ≤ 9223372036854775807) : Runs Fs 59 [.o (.sl 3 (ck l)), .fn 60 []] [] (.n (.bool (l.any fun c => !chOK c))) [] := by
  refine vc_eq fs59 rfl ?_
  rw [vc59p]
  obtain ⟨r, hr, h⟩ := p98 l hl
  exact ⟨r, h, by rw [hr]⟩

/-- A change's bytes. -/
def chB (c : Ch) : List UInt8 := (if c.2.2.1 then [1] else [0]) ++ (beB c.1.size 2 ++ c.1.data.toList) ++ (if c.2.2.1 then [] else beB c.2.1.size 2 ++ c.2.1.data.toList)
def packUp (l : List Ch) (i : Nat) : List UInt8 := beB l.length 1 ++ ((l.take i).map chB).flatten
def PackB (l : List Ch) : List UInt8 := packUp l l.length
theorem packUp_succ (l : List Ch) (i : Nat) (h : i < l.length) : packUp l (i + 1) = packUp l i ++ chB l[i] := by
  rw [packUp, packUp, List.take_add_one, List.getElem?_eq_getElem h]
  simp only [List.map_append, List.flatten_append, Option.toList, List.map_cons, List.map_nil, List.flatten_cons, List.flatten_nil, List.append_nil, List.append_assoc]
theorem packUp_le (l : List Ch) {i j : Nat} (h : i ≤ j) : (packUp l i).length ≤ (packUp l j).length := by
  induction j with
  | zero => rw [show i = 0 by omega]; exact Nat.le_refl _
  | succ j ih =>
    by_cases hi : i = j + 1
    · rw [hi]; exact Nat.le_refl _
    · refine Nat.le_trans (ih (by omega)) ?_
      by_cases hj : j < l.length
      · rw [packUp_succ l j hj, List.length_append]; omega
      · rw [packUp, packUp, List.take_of_length_le (by omega), List.take_of_length_le (by omega)]; exact Nat.le_refl _
def sOf (l : List UInt8) : ByteArray := ⟨l.toArray⟩
theorem sOf_data (l : List UInt8) : (sOf l).data.toList = l := by simp [sOf]
theorem sOf_size (l : List UInt8) : (sOf l).size = l.length := by rw [← size_list, sOf_data]
theorem beB1 (n : Int) : beB n 1 = [UInt8.ofNat (n % 256).toNat] := by
  have := be_bytes n 1
  rw [← this]
  simp [be, Mir.byteOf]
def sErr (e : Int) : AV := .tup [.n (.str empS), .n (.int .i64 e)]
def PackR (l : List Ch) : AV := if l.any (fun c => !chOK c) then sErr 1 else if 255 < l.length then sErr 2 else if 480 < (PackB l).length then sErr 2 else .tup [.n (.str (sOf (PackB l))), .n (.int .i64 0)]
theorem chOK_sizes {c : Ch} (h : chOK c = true) : 1 ≤ c.1.size ∧ c.1.size ≤ 32 ∧ c.2.1.size ≤ 200 := by
  rw [chOK, Bool.and_eq_true] at h
  exact of_decide_eq_true h.1
theorem textR_small {s : ByteArray} (h : s.size ≤ 65535) : TextR s = .tup [.n (.str (TextOf s)), .n (.int .i64 0)] := by
  rw [TextR, if_neg (by omega)]
theorem cat_gone (o : List UInt8) (c : Ch) (h : c.2.2.1 = true) : cat [sOf o, ByteArray.mk (List.toArray (List.map Mir.byteOf [(Mir.D.int .u8 1)])), TextOf c.1] = sOf (o ++ chB c) := by
  refine bytes_ext ?_
  rw [cat_data, sOf_data]
  simp only [List.map_cons, List.map_nil, List.flatten_cons, List.flatten_nil, List.append_nil, sOf_data, textOf_data, chB, h, if_true]
  simp [Mir.byteOf]
theorem cat_keeps (o : List UInt8) (c : Ch) (h : c.2.2.1 = false) : cat [sOf o, ByteArray.mk (List.toArray (List.map Mir.byteOf [(Mir.D.int .u8 0)])), TextOf c.1, TextOf c.2.1] = sOf (o ++ chB c) := by
  refine bytes_ext ?_
  rw [cat_data, sOf_data]
  simp only [List.map_cons, List.map_nil, List.flatten_cons, List.flatten_nil, List.append_nil, sOf_data, textOf_data, chB, h]
  simp [Mir.byteOf]
theorem strOf_be1 (n : Int) : strOf (be n 1) = sOf (beB n 1) := bytes_ext (by rw [strOf_data, sOf_data, be_bytes])
set_option maxRecDepth 4000 in
theorem p31 (l : List Ch) (hl : (l.length : Int) ≤ 9223372036854775807) : Runs Fs 31 [.o (.sl 3 (ck l))] [] (PackR l) [] := by
  refine vc_eq fs31 rfl ?_
  rw [vc31, V31, ck_len]
  refine ⟨_, p59 l hl, sel_intro (fun h => by rw [PackR, if_pos h]; rfl) (fun h => ?_)⟩
  have hok : ∀ c ∈ l, chOK c = true := fun c hc => by simpa using List.any_eq_false.1 h c hc
  by_cases hn : 255 < l.length
  · have g := p50_bad (l.length : Int) 1 (.inr (.inr (.inr ⟨by omega, by omega, by simp; omega⟩)))
    refine ⟨_, _, g, ?_⟩
    rw [PackR, if_neg (by rw [h]; simp), if_pos hn]
    exact sel_intro (fun _ => rfl) (fun h => by cases h)
  have g := p50_good (l.length : Int) 1 (by omega) (by omega) (by omega) (by simp; omega)
  refine ⟨_, _, g, sel_intro (fun h => by cases h) (fun _ => ?_)⟩
  refine ⟨fun o i => 0 ≤ i ∧ i ≤ l.length ∧ o = sOf (packUp l i.toNat) ∧ (packUp l i.toNat).length ≤ 480, fun o i => (l.length - i).toNat, ⟨rfl, by omega, by omega, ?_, ?_⟩, ?_⟩
  · rw [show strOf (be (l.length : Int) (1 : Int).toNat) = sOf (beB l.length 1) from strOf_be1 _]
    simp [packUp]
  · simp [packUp, beB_length]
  rintro o i ⟨h0, h1, rfl, ho⟩ _
  refine sel_dec (fun hlt => ?_) (fun hge => ?_)
  · have hi : i.toNat < l.length := by omega
    have hc := hok _ (List.getElem_mem hi)
    obtain ⟨k1, k2, k3⟩ := chOK_sizes hc
    have hs := packUp_succ l i.toNat hi
    have hlong : 480 < (packUp l (i.toNat + 1)).length → PackR l = sErr 2 := fun h2 => by
      rw [PackR, if_neg (by rw [h]; simp), if_neg hn, if_pos]
      exact Nat.lt_of_lt_of_le h2 (packUp_le l (by omega))
    generalize hcc : l[i.toNat] = c at *
    have g1 := p62 c.1
    rw [textR_small (by omega)] at g1
    have g2 := p62 c.2.1
    rw [textR_small (by omega)] at g2
    have t1 := textOf_size c.1
    have t2 := textOf_size c.2.1
    have e1 : (ByteArray.mk (List.toArray (List.map Mir.byteOf [(Mir.D.int .u8 1)]))).size = 1 := by decide
    have e0 : (ByteArray.mk (List.toArray (List.map Mir.byteOf [(Mir.D.int .u8 0)]))).size = 1 := by decide
    have eo := sOf_size (packUp l i.toNat)
    refine ⟨rfl, h0, _, (by rw [ck_at hi, hcc]), _, _, _, rfl, Nat.le_refl _, _, _, g1, sel_intro (fun hg => ?_) (fun hg => ?_)⟩
    · have g3 := p52 [sOf (packUp l i.toNat), ByteArray.mk (List.toArray (List.map Mir.byteOf [(Mir.D.int .u8 1)])), TextOf c.1] (by simp) (by simp only [sizes]; omega)
      rw [cat_gone _ _ hg] at g3
      refine ⟨rfl, .inl rfl, rfl, rfl, _, g3, ?_⟩
      rw [← hs, sOf_size]
      refine sel_dec (fun hz => by rw [hlong (by omega)]; rfl) (fun hz => ?_)
      repeat (refine And.intro rfl ?_)
      rw [i64_in _ (by omega)]
      exact ⟨⟨by omega, by omega, by rw [show (i + 1).toNat = i.toNat + 1 by omega], by rw [show (i + 1).toNat = i.toNat + 1 by omega]; omega⟩, by dsimp only; omega⟩
    · have g3 := p52 [sOf (packUp l i.toNat), ByteArray.mk (List.toArray (List.map Mir.byteOf [(Mir.D.int .u8 0)])), TextOf c.1, TextOf c.2.1] (by simp) (by simp only [sizes]; omega)
      rw [cat_keeps _ _ hg] at g3
      refine ⟨_, _, g2, rfl, .inl rfl, rfl, rfl, _, g3, ?_⟩
      rw [← hs, sOf_size]
      refine sel_dec (fun hz => by rw [hlong (by omega)]; rfl) (fun hz => ?_)
      repeat (refine And.intro rfl ?_)
      rw [i64_in _ (by omega)]
      exact ⟨⟨by omega, by omega, by rw [show (i + 1).toNat = i.toNat + 1 by omega], by rw [show (i + 1).toNat = i.toNat + 1 by omega]; omega⟩, by dsimp only; omega⟩
  · rw [show i.toNat = l.length by omega] at ho ⊢
    rw [PackR, if_neg (by rw [h]; simp), if_neg hn, if_neg (by rw [PackB]; omega)]; rfl
theorem p20 : Runs Fs 20 [] [] (.n (.bool true)) [] := by
  refine vc_eq fs20 rfl ?_
  rw [vc20]
  refine ⟨_, _, p31 [] (by simp), ?_⟩
  exact sel_intro (fun _ => by rw [beq_dec, decide_eq_true (by decide +kernel)]) (fun h => by cases h)

/-- A record's bytes. -/
def RecB (no : Int) (body : ByteArray) : ByteArray := cat [strOf (be no 1), body]
def RPutR (gen no : Int) (body : ByteArray) : AV :=
  if gen < 1 ∨ 1099511627776 < gen ∨ no < 0 ∨ 7 < no then sErr 1 else if 480 < body.size then sErr 2 else .tup [.n (.str (PageS 5 gen (RecB no body))), .n (.int .i64 0)]
theorem recB_size (no : Int) (body : ByteArray) : (RecB no body).size = 1 + body.size := by
  rw [RecB, cat_size]; simp only [sizes, strOf_size, be_length]; omega
theorem rPut_arg {gen no : Int} {body : ByteArray} (h : gen < 1 ∨ 1099511627776 < gen ∨ no < 0 ∨ 7 < no) : RPutR gen no body = sErr 1 := if_pos h
theorem p19 (gen no : Int) (body : ByteArray) : Runs Fs 19 [.n (.int .i64 gen), .n (.int .i64 no), .n (.str body)] [] (RPutR gen no body) [] := by
  refine vc_eq fs19 rfl ?_
  rw [vc19]
  refine sel_dec (fun h => by rw [rPut_arg (by omega)]; rfl) (fun h => ?_)
  refine sel_dec (fun h1 => by rw [rPut_arg (by omega)]; rfl) (fun h1 => ?_)
  refine sel_dec (fun h2 => by rw [rPut_arg (by omega)]; rfl) (fun h2 => ?_)
  refine sel_dec (fun h3 => by rw [rPut_arg (by omega)]; rfl) (fun h3 => ?_)
  refine sel_dec (fun h4 => by rw [RPutR, if_neg (by omega), if_pos (by omega)]; rfl) (fun h4 => ?_)
  have g := p50_good no 1 (by omega) (by omega) (by omega) (by simp; omega)
  have g2 := p52 [strOf (be no 1), body] (by simp) (by simp only [sizes, strOf_size, be_length]; omega)
  have hsz := recB_size no body
  have g3 := p51 5 gen (RecB no body)
  have hok : pgOK 5 gen (RecB no body) := ⟨by omega, by omega, by omega, by omega, by omega⟩
  rw [PutPR, if_pos hok] at g3
  refine ⟨_, _, g, rfl, _, g2, _, _, g3, ?_⟩
  rw [RPutR, if_neg (by omega), if_neg (by omega)]
/-- What is read of a record. -/
def rGet (p : AV) (gen : Int) : Int × ByteArray × Int :=
  match p with
  | .tup [.agg [.n (.int _ k), .n (.int _ g), .n (.str b)], .n (.int _ e)] =>
    if e ≠ 0 then (0, empS, e) else if k ≠ 5 then (0, empS, 40) else if g ≠ gen ∨ b.size < 1 ∨ 481 < b.size ∨ 7 < num (piece b 0 1) then (0, empS, 4) else (num (piece b 0 1), b.extract 1 b.size, 0)
  | _ => (0, empS, 0)
def tri (x : Int × ByteArray × Int) : AV := .tup [.n (.int .i64 x.1), .n (.str x.2.1), .n (.int .i64 x.2.2)]
def RGet (s : ByteArray) (gen : Int) : Int × ByteArray × Int := rGet (GetPR s) gen
theorem rGet_err {e : Int} (he : e ≠ 0) (gen : Int) : rGet (pErr e) gen = (0, empS, e) := by
  simp only [rGet, pErr, pg, if_pos he]
theorem rGet_ok (k g : Int) (b : ByteArray) (gen : Int) : rGet (.tup [pg k g b, .n (.int .i64 0)]) gen = if k ≠ 5 then (0, empS, 40) else if g ≠ gen ∨ b.size < 1 ∨ 481 < b.size ∨ 7 < num (piece b 0 1) then (0, empS, 4) else (num (piece b 0 1), b.extract 1 b.size, 0) := by
  simp only [rGet, pg]; rw [if_neg (by simp)]
theorem getR_first {b : ByteArray} (h : 1 ≤ b.size) : GetR b 0 1 = .tup [.n (.int .i64 (num (piece b 0 1))), .n (.int .i64 1), .n (.int .i64 0)] := getR_good (by omega) (by omega)
theorem p30 (s : ByteArray) (hs : (s.size : Int) ≤ 9223372036854775807) (gen : Int) : Runs Fs 30 [.n (.str s), .n (.int .i64 gen)] [] (tri (RGet s gen)) [] := by
  refine vc_eq fs30 rfl ?_
  rw [vc30]
  rw [RGet]
  rcases getP_cases s with ⟨e, he, h⟩ | ⟨k, g, b, h, hok, _⟩
  · have g := p47_err s hs [5] e he h
    rw [h, rGet_err he]
    refine ⟨rfl, _, _, _, _, g, sel_intro (fun _ => rfl) (fun h => absurd (by simpa using h) he)⟩
  · have h53 := p47_ok s hs [5] (by simp) k g b h
    rw [h, rGet_ok]
    by_cases hk : k = 5
    · rw [if_pos (by simp [hk])] at h53
      rw [if_neg (by simp [hk])]
      refine ⟨rfl, _, _, _, _, h53, sel_intro (fun h => by cases h) (fun _ => ?_)⟩
      obtain ⟨_, _, _, _, hb⟩ := hok
      have h54 := p48 b (by omega) 0 1
      by_cases h1 : b.size < 1
      · rw [getR_short (by omega) (by omega)] at h54
        rw [if_pos (.inr (.inl h1))]
        exact ⟨_, _, _, h54, sel_intro (fun _ => rfl) (fun h => by cases h)⟩
      · rw [getR_first (by omega)] at h54
        refine ⟨_, _, _, h54, sel_intro (fun h => by cases h) (fun _ => ?_)⟩
        refine sel_intro (fun hg => by rw [if_pos (.inl (by simpa using hg))]; rfl) (fun hg => ?_)
        rw [i64_in _ (by omega)]
        refine sel_dec (fun hz => by rw [if_pos (.inr (.inr (.inl (by omega))))]; rfl) (fun hz => ?_)
        refine sel_dec (fun hn => by rw [if_pos (.inr (.inr (.inr (by omega))))]; rfl) (fun hn => ?_)
        have hg : g = gen := by simpa using hg
        rw [if_neg (by omega)]
        exact ⟨by omega, by omega, rfl⟩
    · rw [if_neg (by simp [hk])] at h53
      rw [if_pos hk]
      exact ⟨rfl, _, _, _, _, h53, sel_intro (fun _ => rfl) (fun h => by cases h)⟩
theorem p58 (s : ByteArray) (hs : (s.size : Int) ≤ 9223372036854775807) (gen : Int) : Runs Fs 58 [.n (.str s), .n (.int .i64 gen)] [] (tri (RGet s gen)) [] := by
  refine vc_eq fs58 rfl ?_
  rw [vc58]
  rw [RGet]
  have h55 := p49 s hs
  rcases getP_cases s with ⟨e, he, h⟩ | ⟨k, g, b, h, hok, _⟩
  · rw [h] at h55
    rw [h, rGet_err he]
    refine ⟨_, _, _, _, h55, sel_intro (fun _ => rfl) (fun h => absurd (by simpa using h) he)⟩
  · rw [h] at h55
    rw [h, rGet_ok]
    refine ⟨_, _, _, _, h55, sel_intro (fun h => by cases h) (fun _ => ?_)⟩
    refine sel_intro (fun hk => by rw [if_pos (by simpa using hk)]; rfl) (fun hk => ?_)
    rw [if_neg (by simpa using hk)]
    refine sel_intro (fun hg => by rw [if_pos (.inl (by simpa using hg))]; rfl) (fun hg => ?_)
    have hg : g = gen := by simpa using hg
    refine sel_dec (fun h1 => by rw [if_pos (.inr (.inl (by omega)))]; rfl) (fun h1 => ?_)
    refine sel_dec (fun h1 => by rw [if_pos (.inr (.inr (.inl (by omega))))]; rfl) (fun h2 => ?_)
    have hlt : 0 < b.data.toList.length := by rw [size_list]; omega
    have hat := List.getElem?_eq_getElem hlt
    have hn := piece_zero b _ hat
    refine ⟨Int.le_refl _, _, hat, ?_⟩
    refine sel_dec (fun h3 => by rw [if_pos (.inr (.inr (.inr (by omega))))]; rfl) (fun h3 => ?_)
    rw [if_neg (by omega)]
    refine ⟨Int.le_refl _, _, hat, by omega, by omega, ?_⟩
    rw [i64_in _ (by omega), hn]; rfl
end Go.Proofs.YtmmnobdpccdeoaaDoor.M
