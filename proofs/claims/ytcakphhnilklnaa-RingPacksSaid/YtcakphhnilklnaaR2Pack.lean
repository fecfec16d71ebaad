import Derived.Test.YtcakphhnilklnaaR2FunW
import Derived.Test.YtcakphhnilklnaaR2Code
namespace Go.Proofs.Ytcakphhnilklnaa.M
set_option linter.unusedVariables false
set_option linter.unusedSimpArgs false
open Go Go.Mir
set_option linter.unusedVariables false
theorem toList_data (x : ByteArray) : x.toList = x.data.toList := ByteArray.toList_eq x
theorem beq_dec (x y : ByteArray) : (x.toList == y.toList) = decide (x = y) := by
  rw [toList_data, toList_data]
  by_cases h : x = y
  · subst h; simp
  · rw [decide_eq_false h]
    exact beq_eq_false_iff_ne.2 fun e => h (bytes_ext e)

/-- A change, as an element. -/
abbrev Ch := ByteArray × ByteArray × Bool × Unit
def chD (c : Ch) : Mir.D := .rcd [.str c.1, .str c.2.1, .bool c.2.2.1]
def chV (c : Ch) : AV := .agg [.n (.str c.1), .n (.str c.2.1), .n (.bool c.2.2.1)]
def ck (l : List Ch) : List Mir.D := l.map chD
theorem ck_len (l : List Ch) : (ck l).length = l.length := by simp [ck]
theorem ck_at {l : List Ch} {i : Nat} (h : i < l.length) : (ck l)[i]? = some (chD l[i]) := by simp [ck, h]
def empS : ByteArray := ByteArray.mk (List.toArray [])
def chOK (c : Ch) : Bool := decide (1 ≤ c.1.size ∧ c.1.size ≤ 32 ∧ c.2.1.size ≤ 200) && (!c.2.2.1 || decide (c.2.1 = empS))
theorem chOK_no {c : Ch} (h : ¬ (1 ≤ c.1.size ∧ c.1.size ≤ 32 ∧ c.2.1.size ≤ 200)) : chOK c = false := by rw [chOK, decide_eq_false h]; rfl
theorem p13 (c : Ch) : Runs Fs 13 [chV c] [] (.n (.bool (chOK c))) [] := by
  refine vc_eq fs13 rfl ?_
  rw [chV, vc13]
  refine sel_dec (fun h1 => ?_) (fun h1 => by rw [chOK_no (by omega)])
  refine sel_dec (fun h2 => ?_) (fun h2 => by rw [chOK_no (by omega)])
  refine sel_dec (fun h3 => ?_) (fun h3 => by rw [chOK_no (by omega)])
  rw [chOK, decide_eq_true (by omega : 1 ≤ c.1.size ∧ c.1.size ≤ 32 ∧ c.2.1.size ≤ 200)]
  refine sel_intro (fun h => by rw [h]; rfl) (fun h => ?_)
  rw [h, beq_dec]; rfl
theorem p12 (c : Ch) : Runs Fs 12 [chV c] [] (.n (.bool (!chOK c))) [] := by
  refine vc_eq fs12 rfl ?_
  rw [chV, vc12]
  exact ⟨_, p13 c, rfl⟩
theorem p26 (l : List Ch) (hl : (l.length : Int) ≤ 9223372036854775807) : ∃ r : Int, decide (r ≥ 0) = l.any (fun c => !chOK c) ∧ Runs Fs 26 [.o (.sl 3 (ck l)), .fn 12 []] [] (.n (.int .i64 r)) [] := by
  have key : ∃ r, Runs Fs 26 [.o (.sl 3 (ck l)), .fn 12 []] [] r [] ∧ ∃ k : Int, r = .n (.int .i64 k) ∧ decide (k ≥ 0) = l.any (fun c => !chOK c) := by
    refine vc_runs (R := fun r => ∃ k : Int, r = .n (.int .i64 k) ∧ decide (k ≥ 0) = l.any (fun c => !chOK c)) fs26 rfl ?_
    rw [vc26p, V26p, ck_len]
    refine ⟨fun i => 0 ≤ i ∧ i ≤ l.length ∧ ∀ j : Nat, (j : Int) < i → ∀ h : j < l.length, chOK l[j] = true, fun i => (l.length - i).toNat, ⟨rfl, by omega, by omega, fun j hj => by omega⟩, ?_⟩
    rintro i ⟨h0, h1, hok⟩ _
    refine sel_dec (fun h => ?_) (fun h => ?_)
    · have hi : i.toNat < l.length := by omega
      refine ⟨rfl, h0, _, ck_at hi, _, _, _, rfl, Nat.le_refl _, _, p12 l[i.toNat], sel_intro (fun hb => ?_) (fun hb => ?_)⟩
      · refine ⟨i, rfl, ?_⟩
        rw [decide_eq_true (by omega : i ≥ 0)]
        exact (List.any_eq_true.2 ⟨_, List.getElem_mem hi, hb⟩).symm
      · repeat (refine And.intro rfl ?_)
        rw [i64_in _ (by omega)]
        refine ⟨⟨by omega, by omega, fun j hj hjl => ?_⟩, by dsimp only; omega⟩
        by_cases hji : (j : Int) < i
        · exact hok j hji hjl
        · obtain rfl : j = i.toNat := by omega
          simpa using hb
    · refine ⟨-1, rfl, ?_⟩
      rw [decide_eq_false (by omega)]
      refine (List.any_eq_false.2 fun p hp => ?_).symm
      obtain ⟨j, hj, rfl⟩ := List.getElem_of_mem hp
      rw [hok j (by omega) hj]; simp
  obtain ⟨r, hr, k, rfl, hk⟩ := key
  exact ⟨k, hk, hr⟩
theorem p11 (l : List Ch) (hl : (l.length : Int) ≤ 9223372036854775807) : Runs Fs 11 [.o (.sl 3 (ck l)), .fn 12 []] [] (.n (.bool (l.any fun c => !chOK c))) [] := by
  refine vc_eq fs11 rfl ?_
  rw [vc11p]
  obtain ⟨r, hr, h⟩ := p26 l hl
  exact ⟨r, h, by rw [hr]⟩

/-- A change's bytes. -/
def chB (c : Ch) : List UInt8 := (if c.2.2.1 then [1] else [0]) ++ (beB c.1.size 2 ++ c.1.data.toList) ++ (if c.2.2.1 then [] else beB c.2.1.size 2 ++ c.2.1.data.toList)
def packUp (l : List Ch) (i : Nat) : List UInt8 := beB l.length 1 ++ ((l.take i).map chB).flatten
def PackB (l : List Ch) : List UInt8 := packUp l l.length
theorem packUp_succ (l : List Ch) (i : Nat) (h : i < l.length) : packUp l (i + 1) = packUp l i ++ chB l[i] := by
  rw [packUp, packUp, List.take_add_one, List.getElem?_eq_getElem h]
  simp only [List.map_append, List.flatten_append, Option.toList, List.map_cons, List.map_nil, List.flatten_cons, List.flatten_nil, List.append_nil, List.append_assoc]
theorem packUp_le (l : List Ch) {i j : Nat} (h : i ≤ j) : (packUp l i).length ≤ (packUp l j).length := by
  induction j with
  | zero => rw [show i = 0 by omega]; exact Nat.le_refl _
  | succ j ih =>
    by_cases hi : i = j + 1
    · rw [hi]; exact Nat.le_refl _
    · refine Nat.le_trans (ih (by omega)) ?_
      by_cases hj : j < l.length
      · rw [packUp_succ l j hj, List.length_append]; omega
      · rw [packUp, packUp, List.take_of_length_le (by omega), List.take_of_length_le (by omega)]; exact Nat.le_refl _
def sOf (l : List UInt8) : ByteArray := ⟨l.toArray⟩
theorem sOf_data (l : List UInt8) : (sOf l).data.toList = l := by simp [sOf]
theorem sOf_size (l : List UInt8) : (sOf l).size = l.length := by rw [← size_list, sOf_data]
theorem beB1 (n : Int) : beB n 1 = [UInt8.ofNat (n % 256).toNat] := by
  have := be_bytes n 1
  rw [← this]
  simp [be, Mir.byteOf]
def sErr (e : Int) : AV := .tup [.n (.str empS), .n (.int .i64 e)]
def PackR (l : List Ch) : AV := if l.any (fun c => !chOK c) then sErr 1 else if 255 < l.length then sErr 2 else if 480 < (PackB l).length then sErr 2 else .tup [.n (.str (sOf (PackB l))), .n (.int .i64 0)]
theorem chOK_sizes {c : Ch} (h : chOK c = true) : 1 ≤ c.1.size ∧ c.1.size ≤ 32 ∧ c.2.1.size ≤ 200 := by
  rw [chOK, Bool.and_eq_true] at h
  exact of_decide_eq_true h.1
theorem textR_small {s : ByteArray} (h : s.size ≤ 65535) : TextR s = .tup [.n (.str (TextOf s)), .n (.int .i64 0)] := by
  rw [TextR, if_neg (by omega)]
theorem cat_gone (o : List UInt8) (c : Ch) (h : c.2.2.1 = true) : cat [sOf o, ByteArray.mk (List.toArray (List.map Mir.byteOf [(Mir.D.int .u8 1)])), TextOf c.1] = sOf (o ++ chB c) := by
  refine bytes_ext ?_
  rw [cat_data, sOf_data]
  simp only [List.map_cons, List.map_nil, List.flatten_cons, List.flatten_nil, List.append_nil, sOf_data, textOf_data, chB, h, if_true]
  simp [Mir.byteOf]
theorem cat_keeps (o : List UInt8) (c : Ch) (h : c.2.2.1 = false) : cat [sOf o, ByteArray.mk (List.toArray (List.map Mir.byteOf [(Mir.D.int .u8 0)])), TextOf c.1, TextOf c.2.1] = sOf (o ++ chB c) := by
  refine bytes_ext ?_
  rw [cat_data, sOf_data]
  simp only [List.map_cons, List.map_nil, List.flatten_cons, List.flatten_nil, List.append_nil, sOf_data, textOf_data, chB, h]
  simp [Mir.byteOf]
theorem strOf_be1 (n : Int) : strOf (be n 1) = sOf (beB n 1) := bytes_ext (by rw [strOf_data, sOf_data, be_bytes])
set_option maxRecDepth 4000 in
theorem p5 (l : List Ch) (hl : (l.length : Int) ≤ 9223372036854775807) : Runs Fs 5 [.o (.sl 3 (ck l))] [] (PackR l) [] := by
  refine vc_eq fs5 rfl ?_
  rw [vc5, V5, ck_len]
  refine ⟨_, p11 l hl, sel_intro (fun h => by rw [PackR, if_pos h]; rfl) (fun h => ?_)⟩
  have hok : ∀ c ∈ l, chOK c = true := fun c hc => by simpa using List.any_eq_false.1 h c hc
  by_cases hn : 255 < l.length
  · have g := p14_bad (l.length : Int) 1 (.inr (.inr (.inr ⟨by omega, by omega, by simp; omega⟩)))
    refine ⟨_, _, g, ?_⟩
    rw [PackR, if_neg (by rw [h]; simp), if_pos hn]
    exact sel_intro (fun _ => rfl) (fun h => by cases h)
  have g := p14_good (l.length : Int) 1 (by omega) (by omega) (by omega) (by simp; omega)
  refine ⟨_, _, g, sel_intro (fun h => by cases h) (fun _ => ?_)⟩
  refine ⟨fun o i => 0 ≤ i ∧ i ≤ l.length ∧ o = sOf (packUp l i.toNat) ∧ (packUp l i.toNat).length ≤ 480, fun o i => (l.length - i).toNat, ⟨rfl, by omega, by omega, ?_, ?_⟩, ?_⟩
  · rw [show strOf (be (l.length : Int) (1 : Int).toNat) = sOf (beB l.length 1) from strOf_be1 _]
    simp [packUp]
  · simp [packUp, beB_length]
  rintro o i ⟨h0, h1, rfl, ho⟩ _
  refine sel_dec (fun hlt => ?_) (fun hge => ?_)
  · have hi : i.toNat < l.length := by omega
    have hc := hok _ (List.getElem_mem hi)
    obtain ⟨k1, k2, k3⟩ := chOK_sizes hc
    have hs := packUp_succ l i.toNat hi
    have hlong : 480 < (packUp l (i.toNat + 1)).length → PackR l = sErr 2 := fun h2 => by
      rw [PackR, if_neg (by rw [h]; simp), if_neg hn, if_pos]
      exact Nat.lt_of_lt_of_le h2 (packUp_le l (by omega))
    generalize hcc : l[i.toNat] = c at *
    have g1 := p15 c.1
    rw [textR_small (by omega)] at g1
    have g2 := p15 c.2.1
    rw [textR_small (by omega)] at g2
    have t1 := textOf_size c.1
    have t2 := textOf_size c.2.1
    have e1 : (ByteArray.mk (List.toArray (List.map Mir.byteOf [(Mir.D.int .u8 1)]))).size = 1 := by decide
    have e0 : (ByteArray.mk (List.toArray (List.map Mir.byteOf [(Mir.D.int .u8 0)]))).size = 1 := by decide
    have eo := sOf_size (packUp l i.toNat)
    refine ⟨rfl, h0, _, (by rw [ck_at hi, hcc]), _, _, _, rfl, Nat.le_refl _, _, _, g1, sel_intro (fun hg => ?_) (fun hg => ?_)⟩
    · have g3 := p16 [sOf (packUp l i.toNat), ByteArray.mk (List.toArray (List.map Mir.byteOf [(Mir.D.int .u8 1)])), TextOf c.1] (by simp) (by simp only [sizes]; omega)
      rw [cat_gone _ _ hg] at g3
      refine ⟨rfl, .inl rfl, rfl, rfl, _, g3, ?_⟩
      rw [← hs, sOf_size]
      refine sel_dec (fun hz => by rw [hlong (by omega)]; rfl) (fun hz => ?_)
      repeat (refine And.intro rfl ?_)
      rw [i64_in _ (by omega)]
      exact ⟨⟨by omega, by omega, by rw [show (i + 1).toNat = i.toNat + 1 by omega], by rw [show (i + 1).toNat = i.toNat + 1 by omega]; omega⟩, by dsimp only; omega⟩
    · have g3 := p16 [sOf (packUp l i.toNat), ByteArray.mk (List.toArray (List.map Mir.byteOf [(Mir.D.int .u8 0)])), TextOf c.1, TextOf c.2.1] (by simp) (by simp only [sizes]; omega)
      rw [cat_keeps _ _ hg] at g3
      refine ⟨_, _, g2, rfl, .inl rfl, rfl, rfl, _, g3, ?_⟩
      rw [← hs, sOf_size]
      refine sel_dec (fun hz => by rw [hlong (by omega)]; rfl) (fun hz => ?_)
      repeat (refine And.intro rfl ?_)
      rw [i64_in _ (by omega)]
      exact ⟨⟨by omega, by omega, by rw [show (i + 1).toNat = i.toNat + 1 by omega], by rw [show (i + 1).toNat = i.toNat + 1 by omega]; omega⟩, by dsimp only; omega⟩
  · rw [show i.toNat = l.length by omega] at ho ⊢
    rw [PackR, if_neg (by rw [h]; simp), if_neg hn, if_neg (by rw [PackB]; omega)]; rfl
theorem p9 : Runs Fs 9 [] [] (.n (.bool true)) [] := by
  refine vc_eq fs9 rfl ?_
  rw [vc9]
  refine ⟨_, _, p5 [] (by simp), ?_⟩
  exact sel_intro (fun _ => by rw [beq_dec, decide_eq_true (by decide +kernel)]) (fun h => by cases h)

end Go.Proofs.Ytcakphhnilklnaa.M
