import Derived.Test.YtmmnobdpccdeoaaDoorR3Cho
import Derived.Test.YtmmnobdpccdeoaaDoorMirO
namespace Go.Proofs.YtmmnobdpccdeoaaDoor.M
set_option linter.unusedVariables false
set_option linter.unusedSimpArgs false
open Go Go.Mir
set_option linter.unusedVariables false

theorem mm_low (n : Nat) (k : Int) (hk : 0 ≤ k) : ∃ N : Nat, mmI false (n : Int) k = N ∧ N ≤ n ∧ (N : Int) ≤ k := by
  unfold mmI
  simp only [Bool.false_eq_true, if_false]
  by_cases h : k < (n : Int)
  · exact ⟨k.toNat, by rw [if_pos h]; omega, by omega, by omega⟩
  · exact ⟨n, by rw [if_neg h], by omega, by omega⟩
theorem sl_take (l : List ByteArray) (n : Nat) : List.drop 0 (List.take n (sl_ l)) = sl_ (l.take n) := by simp [sl_, List.map_take]
theorem fits_take {l : List ByteArray} (h : Fits' l) (n : Nat) : Fits' (l.take n) := ⟨by have := h.1; rw [List.length_take]; omega, fun s hs => h.2 s (List.mem_of_mem_take hs)⟩
def chS (b : Su) (a : Int) : Su := if a < 0 then su0 else b
def chA (a : Int) : Int := if a < 0 then 0 else a
def chE (a : Int) : Int := if a < 0 then 120 else 0
theorem chooV_eq (b : Su) (a : Int) : chooV b a = .tup [.agg [.n (.int .i64 (chS b a).g), .n (.int .i64 (chS b a).r), .n (.int .i64 (chS b a).m), .n (.int .i64 (chS b a).z)], .n (.int .i64 (chA a)), .n (.int .i64 (chE a))] := by
  unfold chooV chS chA chE
  by_cases h : a < 0
  · simp only [if_pos h]; rfl
  · simp only [if_neg h]; rfl
theorem su_eq (s : Su) : ((s.g == s.g) && ((s.r == s.r) && ((s.m == s.m) && ((s.z == s.z) && true)))) = true := by simp only [beq_self_eq_true, Bool.and_self]
theorem p3 (l : List ByteArray) (hl : Fits' l) : Runs Fs 3 [.o (.sl 1 (sl_ l))] [] (.n (.bool true)) [] := by
  refine vc_eq fs3 rfl ?_
  rw [vc3, V3, sl_len]
  obtain ⟨N, hN, h1, _⟩ := mm_low l.length 6 (by decide)
  rw [hN, show Int.toNat (N : Int) = N from rfl, sl_take, sl_len]
  have hf := fits_take hl N
  generalize l.take N = L at hf
  have hL := hf.1
  refine ⟨rfl, by omega, by omega, fun i => 0 ≤ i ∧ i ≤ L.length, fun i => (L.length - i).toNat, ⟨rfl, by omega, by omega⟩, ?_⟩
  rintro i ⟨h0, h2⟩ _
  refine sel_dec (fun h => ?_) (fun h => ?_)
  · have hi : i.toNat < L.length := by omega
    have hsz := hf.2 _ (List.getElem_mem hi)
    have g1 := p14 _ hsz
    have g2 := p15 _ hsz
    rw [sg_eta] at g1 g2
    refine ⟨rfl, h0, _, sl_at hi, _, rfl, _, _, _, _, _, g1, _, _, _, _, _, g2, ?_⟩
    rw [su_eq]
    refine sel_intro (fun h => by cases h) (fun _ => ?_)
    refine sel_intro (fun h => by simp at h) (fun _ => ?_)
    repeat (refine And.intro rfl ?_)
    rw [i64_in _ (by omega)]
    exact ⟨⟨by omega, by omega⟩, by dsimp only; omega⟩
  · obtain ⟨b, a, hb, g1⟩ := p16 L hf
    obtain ⟨b', a', hb', g2⟩ := p17 L hf
    obtain ⟨rfl, rfl⟩ := best_one hb hb'
    rw [chooV_eq] at g1 g2
    refine ⟨_, _, _, _, _, _, g1, _, _, _, _, _, _, g2, _, p18, ?_⟩
    refine sel_intro (fun _ => ?_) (fun h => by cases h)
    rw [su_eq]
    refine sel_intro (fun _ => sel_beq ?_) (fun h => by cases h)
    rw [beq_self_eq_true]
theorem p5 (s : Su) : Runs Fs 5 [suV s] [] (.n (.bool true)) [] := by
  refine vc_eq fs5 rfl ?_
  rw [suV, vc5, V5]
  have g22 := p22 s
  by_cases h : suOK s
  · rw [SuPut, if_pos h] at g22
    have g23 := p23 s
    have g24 := p24 s
    rw [decide_eq_true h] at g23 g24
    refine ⟨_, _, g22, _, g23, sel_intro (fun h => by cases h) (fun _ => ⟨_, p18, sel_intro (fun _ => ⟨_, g24, sel_intro (fun _ => sel_intro (fun _ => ⟨_, p25 s h, ?_⟩) (fun h => by cases h)) (fun h => by cases h)⟩) (fun h => by cases h)⟩)⟩
    rw [beq_self_eq_true]
  · rw [SuPut, if_neg h] at g22
    have g23 := p23 s
    have g24 := p24 s
    rw [decide_eq_false h] at g23 g24
    refine ⟨_, _, g22, _, g23, sel_intro (fun _ => ⟨_, p18, sel_intro (fun _ => ⟨_, g24, sel_intro (fun _ => sel_intro (fun _ => by rw [show empS.toList = (ByteArray.mk (List.toArray [])).toList from rfl, beq_self_eq_true]) (fun h => by cases h)) (fun h => by cases h)⟩) (fun h => by cases h)⟩) (fun h => by cases h)⟩
theorem get_self {k g : Int} {b : ByteArray} (h : pgOK k g b) : GetPR (PageS k g b) = .tup [pg k g b, .n (.int .i64 0)] :=
  get_back' k g b _ h (by have := pageS_size k g b h; omega) (by
    refine bytes_ext ?_
    rw [trimS_data, PageS, trimS_data, tz_idem])
theorem suS_size (s : Su) : (SuS s).size ≤ 19 := by
  have := trimS_size (SealS (PageB 4 s.g (SuB s)))
  rw [sealS_size, pageB_size, suB_size] at this
  exact this
theorem suOf_B {s : Su} (h : suOK s) : suOf s.g (SuB s) = s := by
  obtain ⟨h1, h2, h3, h4, h5, h6, h7, h8⟩ := h
  have hd := suB_data s
  have e0 : piece (SuB s) 0 2 = beB s.r 2 := piece_mid (A := []) (C := beB s.m 2 ++ beB s.z 2) hd rfl (beB_length _ _)
  have e1 : piece (SuB s) 2 2 = beB s.m 2 := piece_mid (A := beB s.r 2) (C := beB s.z 2) hd (beB_length _ _) (beB_length _ _)
  have e2 : piece (SuB s) 4 2 = beB s.z 2 := piece_mid (A := beB s.r 2 ++ beB s.m 2) (B := beB s.z 2) (C := []) (by rw [hd]; simp only [List.append_assoc, List.append_nil]) (by simp [beB_length]) (beB_length _ _)
  have m : ∀ n : Int, 0 ≤ n → n < 65536 → n % 256 ^ 2 = n := fun n a b => by
    show n % 65536 = n
    omega
  unfold suOf
  rw [e0, e1, e2, num_beB, num_beB, num_beB, m _ (by omega) (by omega), m _ (by omega) (by omega), m _ (by omega) (by omega)]
theorem sget_self {s : Su} (h : suOK s) : SGet (SuS s) = (s, 0) := by
  unfold SGet SuS
  rw [get_self (su_pgOK h), sGet_ok, if_neg (by simp), if_neg (by rw [suB_size]; simp), suOf_B h, if_pos h]
theorem sget_back {s : ByteArray} (h0 : (SGet s).2 = 0) : SuS (SGet s).1 = TrimS s := by
  unfold SGet at h0 ⊢
  rcases getP_cases s with ⟨e, he, h⟩ | ⟨k, g, b, h, hok, h1, h2, h3, hk, hg, hb, hz⟩
  · rw [h, sGet_err he] at h0; exact absurd h0 he
  · rw [h, sGet_ok] at h0 ⊢
    by_cases k4 : k ≠ 4
    · rw [if_pos k4] at h0; cases h0
    rw [if_neg k4] at h0 ⊢
    by_cases b6 : b.size ≠ 6
    · rw [if_pos b6] at h0; cases h0
    rw [if_neg b6] at h0 ⊢
    by_cases hs : suOK (suOf g b)
    · rw [if_pos hs]
      have e4 : k = 4 := by simpa using k4
      have e6 : b.size = 6 := by simpa using b6
      subst e4
      have hl := size_list b
      have eB : SuB (suOf g b) = b := by
        refine bytes_ext ?_
        rw [suB_data]
        have pl : ∀ i : Int, 0 ≤ i → i ≤ 4 → (piece b i 2).length = 2 := fun i a c => by
          unfold piece
          rw [List.length_take, List.length_drop, hl]
          have : Int.toNat 2 = 2 := rfl
          omega
        have bb : ∀ i : Int, 0 ≤ i → i ≤ 4 → beB (num (piece b i 2)) 2 = piece b i 2 := fun i a c => by
          have := beB_num (piece b i 2)
          rw [pl i a c] at this
          exact this
        unfold suOf
        dsimp only
        rw [bb 0 (by omega) (by omega), bb 2 (by omega) (by omega), bb 4 (by omega) (by omega)]
        unfold piece
        generalize b.data.toList = t at *
        have hl : t.length = 6 := by omega
        match t, hl with
        | [a0, a1, a2, a3, a4, a5], _ => rfl
      have e : (suOf g b).g = g := rfl
      unfold SuS
      rw [eB, e]
      exact put_back s 4 g b h1 h2 h3 hk hg hb hz
    · rw [if_neg hs] at h0; cases h0
theorem trim_pre (s : ByteArray) : s.extract 0 (TrimS s).size = TrimS s := by
  obtain ⟨n, h, _⟩ := tz_split _ s.data.toList rfl
  exact ext_pre (C := List.replicate n 0) (by rw [trimS_data]; exact h) rfl
theorem p6 (s : Su) (bs : ByteArray) (hb : (bs.size : Int) ≤ 9223372036854775807) : Runs Fs 6 [suV s, .n (.str bs)] [] (.n (.bool true)) [] := by
  refine vc_eq fs6 rfl ?_
  rw [suV, vc6, V6]
  have g22 := p22 s
  have g14 := p14 bs hb
  rw [sg_eta] at g14
  have rest : ∀ (x y : Prop), x = y → y → x := fun x y h hy => h ▸ hy
  by_cases h : suOK s
  · rw [SuPut, if_pos h] at g22
    have gs := p14 (SuS s) (by have := suS_size s; omega)
    rw [sget_self h] at gs
    refine ⟨_, _, g22, sel_intro (fun _ => ⟨_, _, _, _, _, gs, sel_intro (fun h => by cases h) (fun _ => ?_)⟩) (fun h => by cases h)⟩
    rw [su_eq]
    refine sel_intro (fun h => by cases h) (fun _ => sel_dec (fun hz => ?_) (fun _ => ?_))
    · have := suS_size s
      omega
    refine ⟨_, _, _, _, _, g14, ?_⟩
    rcases sget_cases bs with ⟨h0, hok⟩ | ⟨h0, he⟩
    · refine sel_intro (fun h => by simp [h0] at h) (fun _ => ?_)
      have g22' := p22 (SGet bs).1
      rw [SuPut, if_pos hok, sget_back h0] at g22'
      have g24 := p24 (SGet bs).1
      rw [decide_eq_true hok] at g24
      have hts := trimS_size bs
      refine ⟨_, _, g22', _, p18, sel_intro (fun _ => sel_intro (fun _ => sel_dec (fun _ => ⟨by omega, by omega, ?_⟩) (fun h => by omega)) (fun h => by cases h)) (fun h => by cases h)⟩
      rw [show Int.toNat ((TrimS bs).size : Int) = (TrimS bs).size from rfl, trim_pre]
      exact sel_beq ⟨_, g24, rfl⟩
    · refine sel_intro (fun _ => ⟨_, p18, sel_intro (fun _ => ?_) (fun h => by cases h)⟩) (fun h => absurd (by simpa using h) h0)
      rw [he]; rfl
  · rw [SuPut, if_neg h] at g22
    refine ⟨_, _, g22, sel_intro (fun h => by cases h) (fun _ => ⟨_, _, _, _, _, g14, ?_⟩)⟩
    rcases sget_cases bs with ⟨h0, hok⟩ | ⟨h0, he⟩
    · refine sel_intro (fun h => by simp [h0] at h) (fun _ => ?_)
      have g22' := p22 (SGet bs).1
      rw [SuPut, if_pos hok, sget_back h0] at g22'
      have g24 := p24 (SGet bs).1
      rw [decide_eq_true hok] at g24
      have hts := trimS_size bs
      refine ⟨_, _, g22', _, p18, sel_intro (fun _ => sel_intro (fun _ => sel_dec (fun _ => ⟨by omega, by omega, ?_⟩) (fun h => by omega)) (fun h => by cases h)) (fun h => by cases h)⟩
      rw [show Int.toNat ((TrimS bs).size : Int) = (TrimS bs).size from rfl, trim_pre]
      exact sel_beq ⟨_, g24, rfl⟩
    · refine sel_intro (fun _ => ⟨_, p18, sel_intro (fun _ => ?_) (fun h => by cases h)⟩) (fun h => absurd (by simpa using h) h0)
      rw [he]; rfl

/-! Of many. -/
def suD (s : Su) : D := .rcd [.int .i64 s.g, .int .i64 s.r, .int .i64 s.m, .int .i64 s.z]
def suL (l : List Su) : List D := l.map suD
theorem suL_len (l : List Su) : (suL l).length = l.length := by simp [suL]
theorem suL_at {l : List Su} {i : Nat} (h : i < l.length) : (suL l)[i]? = some (suD l[i]) := by simp [suL, h]
def putJ (junk : ByteArray) (s : Su) : ByteArray := if suOK s then SuS s else junk
def mostOf (l : List Su) : Int := l.foldl (fun m s => if suOK s then mmI true m s.g else m) 0
theorem mostOf_snoc (l : List Su) (s : Su) : mostOf (l ++ [s]) = if suOK s then mmI true (mostOf l) s.g else mostOf l := by simp [mostOf]
theorem take_snoc {α : Type} {l : List α} {i : Nat} (h : i < l.length) : l.take (i + 1) = l.take i ++ [l[i]] := by
  rw [List.take_add_one, List.getElem?_eq_getElem h]; rfl
theorem mmI_true (x y : Int) : x ≤ mmI true x y ∧ y ≤ mmI true x y ∧ (mmI true x y = x ∨ mmI true x y = y) := by
  unfold mmI; simp only [if_true]; split <;> omega
theorem mostOf_spec (l : List Su) : ∀ i, i ≤ l.length → 0 ≤ mostOf (l.take i) ∧ (∀ (j : Nat) (h : j < l.length), j < i → suOK l[j] → l[j].g ≤ mostOf (l.take i)) ∧ (mostOf (l.take i) = 0 ∨ ∃ (j : Nat) (h : j < l.length), j < i ∧ suOK l[j] ∧ l[j].g = mostOf (l.take i)) := by
  intro i
  induction i with
  | zero => intro _; exact ⟨by simp [mostOf], fun j h hj => by omega, .inl (by simp [mostOf])⟩
  | succ i ih =>
    intro hi
    have hi' : i < l.length := by omega
    obtain ⟨h1, h2, h3⟩ := ih (by omega)
    rw [take_snoc hi', mostOf_snoc]
    by_cases hs : suOK l[i]
    · rw [if_pos hs]
      obtain ⟨m1, m2, m3⟩ := mmI_true (mostOf (l.take i)) l[i].g
      refine ⟨by omega, fun j h hj hok => ?_, ?_⟩
      · by_cases e : j = i
        · subst e; exact m2
        · have := h2 j h (by omega) hok; omega
      · rcases m3 with m3 | m3
        · rw [m3]
          rcases h3 with h3 | ⟨j, hj, h4, h5, h6⟩
          · exact .inl h3
          · exact .inr ⟨j, hj, by omega, h5, h6⟩
        · exact .inr ⟨i, hi', by omega, hs, m3.symm⟩
    · rw [if_neg hs]
      refine ⟨h1, fun j h hj hok => ?_, ?_⟩
      · by_cases e : j = i
        · subst e; exact absurd hok hs
        · exact h2 j h (by omega) hok
      · rcases h3 with h3 | ⟨j, hj, h4, h5, h6⟩
        · exact .inl h3
        · exact .inr ⟨j, hj, by omega, h5, h6⟩
theorem sAt_put {junk : ByteArray} {l : List Su} {j : Nat} (h : j < l.length) : sAt (l.map (putJ junk)) j = if suOK l[j] then (l[j], 0) else SGet junk := by
  rw [sAt_get (by simpa using h), List.getElem_map, putJ]
  by_cases hs : suOK l[j]
  · rw [if_pos hs, if_pos hs, sget_self hs]
  · rw [if_neg hs, if_neg hs]
theorem best_most {junk : ByteArray} (hj : (SGet junk).2 ≠ 0) {l : List Su} {b : Su} {a : Int} (h : Best (l.map (putJ junk)) 0 l.length b a) : b.g = mostOf l := by
  obtain ⟨h1, h2, h3⟩ := mostOf_spec l l.length (Nat.le_refl _)
  rw [List.take_length] at h1 h2 h3
  have okAt : ∀ (j : Nat) (hl : j < l.length), suOK l[j] → sAt (l.map (putJ junk)) j = (l[j], 0) := fun j hl hs => by rw [sAt_put hl, if_pos hs]
  rcases h with ⟨_, rfl, h4⟩ | ⟨k, rfl, _, hk, h5, h6⟩
  · rcases h3 with h3 | ⟨j, hl, hj', hs, h3⟩
    · rw [h3]; rfl
    · exact absurd (by rw [okAt j hl hs]) (h4 j (by omega) hj')
  · have hs : suOK l[k] := by
      refine Classical.byContradiction fun hn => hj ?_
      rw [sAt_put hk, if_neg hn] at h5
      rw [h5]
    rw [okAt k hk hs] at h5
    simp only [Prod.mk.injEq, and_true] at h5
    subst h5
    have g1 := h2 k hk hk hs
    rcases h3 with h3 | ⟨j, hl, hj', hsj, h3⟩
    · have := hs.1; omega
    · have := h6 j (by omega) hj' (by rw [okAt j hl hsj])
      rw [okAt j hl hsj] at this
      dsimp only at this
      by_cases e : j = k
      · subst e; exact h3
      · rcases Nat.lt_or_gt_of_ne e with hlt | hlt
        · have := this.1 hlt; omega
        · have := this.2 hlt; omega
theorem best_with {junk : ByteArray} (hj : (SGet junk).2 ≠ 0) {B : List ByteArray} {at_ : Nat} (hat : at_ ≤ B.length) {b : Su} {a : Int} (h : Best B 0 B.length b a) : Best (B.take at_ ++ [junk] ++ B.drop at_) 0 (B.length + 1) b (if a ≥ at_ then a + 1 else a) := by
  have hl : (B.take at_).length = at_ := by rw [List.length_take]; omega
  have e1 : ∀ j, j < at_ → sAt (B.take at_ ++ [junk] ++ B.drop at_) j = sAt B j := fun j hj => by
    unfold sAt
    rw [List.append_assoc, List.getElem?_append_left (by omega), List.getElem?_take_of_lt hj]
  have e2 : sAt (B.take at_ ++ [junk] ++ B.drop at_) at_ = SGet junk := by
    unfold sAt
    rw [List.append_assoc, List.getElem?_append_right (by omega), hl, Nat.sub_self]; rfl
  have e3 : ∀ j, at_ < j → sAt (B.take at_ ++ [junk] ++ B.drop at_) j = sAt B (j - 1) := fun j hj => by
    unfold sAt
    rw [List.append_assoc, List.getElem?_append_right (by omega), hl, List.getElem?_append_right (by simp; omega), List.getElem?_drop]
    simp only [List.length_singleton]
    rw [show at_ + (j - at_ - 1) = j - 1 by omega]
  rcases h with ⟨rfl, rfl, h2⟩ | ⟨k, rfl, _, hk, h3, h4⟩
  · rw [if_neg (by omega)]
    refine .inl ⟨rfl, rfl, fun j _ hj2 => ?_⟩
    rcases Nat.lt_trichotomy j at_ with hlt | rfl | hgt
    · rw [e1 j hlt]; exact h2 j (by omega) (by omega)
    · rw [e2]; exact hj
    · rw [e3 j hgt]; exact h2 (j - 1) (by omega) (by omega)
  · have back : ∀ j, j < B.length + 1 → (sAt (B.take at_ ++ [junk] ++ B.drop at_) j).2 = 0 → ∃ i, i < B.length ∧ sAt (B.take at_ ++ [junk] ++ B.drop at_) j = sAt B i ∧ ((j < at_ ∧ i = j) ∨ (at_ < j ∧ i = j - 1)) := fun j hj2 h0 => by
      rcases Nat.lt_trichotomy j at_ with hlt | rfl | hgt
      · exact ⟨j, by omega, e1 j hlt, .inl ⟨hlt, rfl⟩⟩
      · rw [e2] at h0; exact absurd h0 hj
      · exact ⟨j - 1, by omega, e3 j hgt, .inr ⟨hgt, rfl⟩⟩
    by_cases hka : at_ ≤ k
    · rw [if_pos (by omega)]
      refine .inr ⟨k + 1, by omega, by omega, by omega, by rw [e3 _ (by omega)]; exact h3, fun j _ hj2 h0 => ?_⟩
      obtain ⟨i, hi, ei, hc⟩ := back j hj2 h0
      rw [ei] at h0 ⊢
      obtain ⟨g1, g2⟩ := h4 i (by omega) hi h0
      exact ⟨fun h => g1 (by omega), fun h => g2 (by omega)⟩
    · rw [if_neg (by omega)]
      refine .inr ⟨k, rfl, by omega, by omega, by rw [e1 _ (by omega)]; exact h3, fun j _ hj2 h0 => ?_⟩
      obtain ⟨i, hi, ei, hc⟩ := back j hj2 h0
      rw [ei] at h0 ⊢
      obtain ⟨g1, g2⟩ := h4 i (by omega) hi h0
      exact ⟨fun h => g1 (by omega), fun h => g2 (by omega)⟩
theorem suPut_pair (s : Su) (junk : ByteArray) : ∃ x e, SuPut s = .tup [.n (.str x), .n (.int .i64 e)] ∧ ((suOK s ∧ e = 0 ∧ x = SuS s) ∨ (¬ suOK s ∧ e = 1)) := by
  by_cases h : suOK s
  · exact ⟨_, _, by rw [SuPut, if_pos h], .inl ⟨h, rfl, rfl⟩⟩
  · exact ⟨_, _, by rw [SuPut, if_neg h, sErr], .inr ⟨h, rfl⟩⟩
theorem sl_snoc (l : List ByteArray) (x : ByteArray) : sl_ l ++ [D.str x] = sl_ (l ++ [x]) := by simp [sl_]
theorem at_bounds (a : Int) (n : Nat) (hn : n ≤ 6) : ∃ k : Nat, k ≤ n ∧ Int.tmod (IntKind.wrap .i64 (IntKind.wrap .i64 (Int.tmod a (IntKind.wrap .i64 ((n : Int) + 1)) + (n : Int)) + 1)) (IntKind.wrap .i64 ((n : Int) + 1)) = k := by
  have hp : (0 : Int) < (n : Int) + 1 := by omega
  have h1 := Int.tmod_lt_of_pos a hp
  have h2 : -((n : Int) + 1) < Int.tmod a ((n : Int) + 1) := by
    have := Int.lt_tmod_of_pos a hp
    omega
  rw [i64_in ((n : Int) + 1) (by omega), i64_in (Int.tmod a _ + _) (by omega), i64_in _ (by omega)]
  have h3 := Int.tmod_nonneg ((n : Int) + 1) (show 0 ≤ Int.tmod a ((n : Int) + 1) + (n : Int) + 1 by omega)
  have h4 := Int.tmod_lt_of_pos (Int.tmod a ((n : Int) + 1) + (n : Int) + 1) hp
  exact ⟨(Int.tmod (Int.tmod a ((n : Int) + 1) + (n : Int) + 1) ((n : Int) + 1)).toNat, by omega, by omega⟩
end Go.Proofs.YtmmnobdpccdeoaaDoor.M
