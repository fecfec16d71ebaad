import Derived.Test.YtmmnobdpccdeoaaGreatDoorZ3ScanP
namespace Go.Proofs.YtmmnobdpccdeoaaGreatDoor.M
set_option linter.unusedVariables false
set_option linter.unusedSimpArgs false
open Go Go.Mir
set_option linter.unusedVariables false

theorem p29i (n : Nd) (key : ByteArray) (hfit : NdFits n) (hs : Stands n) (hl : n.leaf = false) : Runs Fs2 29 [ndV n, .n (.str key)] [] (.n (.int .i64 (kidI n key : Nat))) [] := by
  have g := p29 n key hfit hs hl
  have e : ((srch n.keys key : Nat) : Int) + (if isAt n.keys key then 1 else 0) = (kidI n key : Nat) := by
    unfold kidI; split <;> simp
  rw [e] at g
  exact g
set_option maxRecDepth 10000 in
set_option maxHeartbeats 4000000 in
theorem p25 (w : Wd) (hf : WFits w) (hr : WRight w) (fr : ByteArray) (mo : Int) (hmo : 0 ≤ mo ∧ mo ≤ 256) : ∀ (f : Nat) (b d : Int) (s : SC) (v : Nat), d + f = 10 → 1 ≤ d → 1 ≤ f → SInv fr mo w.now.length s → s.bad = false →
    ∃ v', Runs Fs2 25 [.ptr 1500304 0, .n (.int .i64 b), .n (.int .i64 d)] (hSc w fr mo s v) (.tup []) (hSc w fr mo (walkS (Hold w) w.now.length fr mo f b d s) v')
  | 0, b, d, s, v, _, _, hf1, _, _ => by omega
  | f + 1, b, d, s, v, hdf, hd, _, hs, hb => by
    have hn := wr_now hr
    have hse := hs.se
    have hse2 := hse.2 hb
    have hol := hs.len
    have g28 := p28c fr mo { s with se := s.se + 1 } v w hf hr.2.1 b (d == 1)
    have key : ∃ r H', Runs Fs2 25 [.ptr 1500304 0, .n (.int .i64 b), .n (.int .i64 d)] (hSc w fr mo s v) r H' ∧ r = .tup [] ∧ ∃ v', H' = hSc w fr mo (walkS (Hold w) w.now.length fr mo (f + 1) b d s) v' := by
      refine vc_objs (R := fun r H' => r = .tup [] ∧ ∃ v', H' = hSc w fr mo (walkS (Hold w) w.now.length fr mo (f + 1) b d s) v') fs25 rfl (by kernel_rfl) ?_
      show Vc Fs2 c25.body (argsQ c25 [.ptr 1500304 0, .n (.int .i64 b), .n (.int .i64 d)]) [(1500304, .box [.o (.sl 1 (blD w.base)), .o (.sl 1 (blD w.now)), .o (.sl 1 (sl_ w.pages)), .n (.int .i64 w.root), .n (.int .i64 w.gen), .n (.str fr), .n (.int .i64 mo), .n (.int .i64 s.se), .row 1590001 v, .n (.str s.nx), .n (.bool s.full), .n (.bool s.bad)]), (1590001, .row false false v 51 2 (psD s.out))] (endQH c25 [(1500304, .box [.o (.sl 1 (blD w.base)), .o (.sl 1 (blD w.now)), .o (.sl 1 (sl_ w.pages)), .n (.int .i64 w.root), .n (.int .i64 w.gen), .n (.str fr), .n (.int .i64 mo), .n (.int .i64 s.se), .row 1590001 v, .n (.str s.nx), .n (.bool s.full), .n (.bool s.bad)]), (1590001, .row false false v 51 2 (psD s.out))] _)
      rw [vc25h, V25h, i64_in (s.se + 1) (by omega)]
      have bad : walkS (Hold w) w.now.length fr mo (f + 1) b d s = { s with se := s.se + 1, bad := true } → ∃ v', ([hB 1500304 [.o (.sl 1 (blD w.base)), .o (.sl 1 (blD w.now)), .o (.sl 1 (sl_ w.pages)), .n (.int .i64 w.root), .n (.int .i64 w.gen), .n (.str fr), .n (.int .i64 mo), .n (.int .i64 (s.se + 1)), .row 1590001 v, .n (.str s.nx), .n (.bool s.full), .n (.bool true)], hR 1590001 v 51 2 (psD s.out)] : Heap) = hSc w fr mo (walkS (Hold w) w.now.length fr mo (f + 1) b d s) v' := fun e => ⟨v, by rw [e]; rfl⟩
      cases hh : Hold w b (d == 1) with
      | none =>
        rw [hh] at g28
        exact ⟨_, _, _, _, _, _, _, _, _, _, _, _, _, _, _, _, _, _, _, g28, sel_intro (fun _ => ⟨rfl, bad (by rw [walkS, hh])⟩) (fun h => by cases h)⟩
      | some n =>
        rw [hh] at g28
        have hok := hold_ok hh
        have hk8 := hok.2.1
        have hfit := (ndOK_fits hok).1
        have eq : walkS (Hold w) w.now.length fr mo (f + 1) b d s = if d > 8 ∨ s.se + 1 > w.now.length then { s with se := s.se + 1, bad := true }
          else if n.leaf then takesS fr mo { s with se := s.se + 1 } (n.keys.zip n.vals)
          else kidsS (fun c s => walkS (Hold w) w.now.length fr mo f c (d + 1) s) (n.kids.drop (kidI n fr)) { s with se := s.se + 1 } := by
          rw [walkS, hh]
        refine ⟨_, _, _, _, _, _, _, _, _, _, _, _, _, _, _, _, _, _, _, g28, sel_intro (fun h => by cases h) (fun _ => sel_dec (fun h => ⟨rfl, bad (by rw [eq, if_pos (.inl h)])⟩) (fun h8 => ?_))⟩
        rw [blD_len]
        refine sel_dec (fun h => ⟨rfl, bad (by rw [eq, if_pos (.inr h)])⟩) (fun hN => ?_)
        have hN : ¬ s.se + 1 > (w.now.length : Int) := hN
        rw [if_neg (by omega)] at eq
        have hs1 : SInv fr mo w.now.length { s with se := s.se + 1 } := ⟨hs.inc, hs.low, hs.len, hs.nx, hs.nf, by show 0 ≤ s.se + 1; omega, fun _ => by show s.se + 1 ≤ (w.now.length : Int); omega⟩
        rw [sl_len, il_len]
        cases hl : n.leaf with
        | true =>
          have hvl : n.vals.length = n.keys.length := by
            rcases hok.1.2.2 with ⟨_, _, h, _⟩ | ⟨h, _⟩
            · exact h
            · rw [hl] at h; cases h
          rw [hl, if_pos rfl] at eq
          refine sel_intro (fun _ => ?_) (fun h => by cases h)
          refine ⟨fun i S Q => 0 ≤ i ∧ i ≤ n.keys.length ∧ ∃ (s' : SC) (v' : Nat), s' = takesS fr mo { s with se := s.se + 1 } ((n.keys.zip n.vals).take i.toNat) ∧ S = (blD w.base, blD w.now, sl_ w.pages, w.root, w.gen, fr, mo, s'.se, v', s'.nx, s'.full, s'.bad, ()) ∧ Q = (v', psD s'.out), fun i _ _ => (n.keys.length - i).toNat, ⟨rfl, by omega, by omega, { s with se := s.se + 1 }, v, rfl, rfl, rfl⟩, ?_⟩
          rintro i S Q ⟨h0, h1, s', v', hs', rfl, rfl⟩ _
          dsimp only
          refine sel_dec (fun hlt => ?_) (fun hge => ?_)
          · have hi : i.toNat < n.keys.length := by omega
            have hv : i.toNat < n.vals.length := by omega
            have hz : i.toNat < (n.keys.zip n.vals).length := by rw [List.length_zip]; omega
            have hi2 := takesS_inv (l := (n.keys.zip n.vals).take i.toNat) hs1
            rw [← hs'] at hi2
            have := hi2.len
            obtain ⟨v'', g35⟩ := p35 w fr mo s' v' n.keys[i.toNat] n.vals[i.toNat] (by omega)
            refine ⟨rfl, h0, _, sl_at hi, _, rfl, rfl, h0, _, sl_at hv, _, rfl, _, _, _, _, _, _, _, _, _, _, _, _, _, _, g35, ?_⟩
            repeat (refine And.intro rfl ?_)
            rw [i64_in _ (by omega)]
            refine ⟨⟨by omega, by omega, takeS fr mo s' (n.keys[i.toNat], n.vals[i.toNat]), v'', ?_, rfl, rfl⟩, by first | omega | (dsimp only; omega)⟩
            rw [show (i + 1).toNat = i.toNat + 1 by omega, take_snoc hz, takesS_app, ← hs', List.getElem_zip]; rfl
          · refine ⟨rfl, v', ?_⟩
            rw [List.take_of_length_le (by rw [List.length_zip]; omega), ← eq] at hs'
            rw [← hs']; rfl
        | false =>
          rw [hl, if_neg (by simp)] at eq
          have hk := kid_lt hok.1 hl fr
          have h9 := (ndOK_fits hok).2.2.2
          have g29 := p29i n fr hfit hok.1 hl
          rw [ndV, hl] at g29
          refine sel_intro (fun h => by cases h) (fun _ => ⟨_, g29, ?_⟩)
          refine ⟨fun i S Q => 0 ≤ i ∧ i ≤ n.kids.length ∧ ∃ (s' : SC) (v' : Nat), SInv fr mo w.now.length s' ∧ S = (blD w.base, blD w.now, sl_ w.pages, w.root, w.gen, fr, mo, s'.se, v', s'.nx, s'.full, s'.bad, ()) ∧ Q = (v', psD s'.out) ∧ walkS (Hold w) w.now.length fr mo (f + 1) b d s = kidsS (fun c s => walkS (Hold w) w.now.length fr mo f c (d + 1) s) (n.kids.drop i.toNat) s', fun i _ _ => (n.kids.length - i).toNat,
            ⟨rfl, by omega, by omega, { s with se := s.se + 1 }, v, hs1, rfl, rfl, eq⟩, ?_⟩
          rintro i S Q ⟨h0, h1, s', v', hs', rfl, rfl, hinv⟩ _
          dsimp only
          rw [i64_in (d + 1) (by omega), i64_in (i + 1) (by omega)]
          refine sel_dec (fun hlt => ?_) (fun hge => ?_)
          · have hi : i.toNat < n.kids.length := by omega
            rw [List.drop_eq_getElem_cons hi, kidsS] at hinv
            refine sel_intro (fun hfu => sel_intro (fun hbd => ?_) (fun hbd => ?_)) (fun hfu => ?_)
            · have hfu : s'.full = false := by simpa using hfu
              have hbd : s'.bad = false := by simpa using hbd
              rw [if_neg (by rw [hfu, hbd]; simp)] at hinv
              obtain ⟨v'', g⟩ := p25 w hf hr fr mo hmo f n.kids[i.toNat] (d + 1) s' v' (by omega) (by omega) (by omega) hs' hbd
              refine ⟨rfl, h0, _, il_at hi, _, rfl, _, _, _, _, _, _, _, _, _, _, _, _, _, _, g, ?_⟩
              repeat (refine And.intro rfl ?_)
              refine ⟨⟨by omega, by omega, _, v'', walkS_inv f _ (d + 1) s' hs' hbd, rfl, rfl, ?_⟩, by first | omega | (dsimp only; omega)⟩
              rw [hinv, show (i + 1).toNat = i.toNat + 1 by omega]
            · have hbd : s'.bad = true := by simpa using hbd
              rw [if_pos (.inr hbd)] at hinv
              exact ⟨rfl, v', by rw [hinv]; rfl⟩
            · have hfu : s'.full = true := by simpa using hfu
              rw [if_pos (.inl hfu)] at hinv
              exact ⟨rfl, v', by rw [hinv]; rfl⟩
          · rw [List.drop_of_length_le (by omega), kidsS] at hinv
            exact ⟨rfl, v', by rw [hinv]; rfl⟩
    obtain ⟨r, H', hr', rfl, v', rfl⟩ := key
    exact ⟨v', hr'⟩
def scV (x : List Pr × ByteArray × Int) : AV := .tup [.o (.sl 2 (psD x.1)), .n (.str x.2.1), .n (.int .i64 x.2.2)]
theorem p15 (w : Wd) (hf : WFits w) (fr : ByteArray) (mo : Int) : Runs Fs2 15 [wdV w, .n (.str fr), .n (.int .i64 mo)] [] (scV (ScanW w fr mo)) [] := by
  have g24 := p24 w hf
  refine vc_eq fs15 rfl ?_
  rw [wdV, vc15, V15]
  refine ⟨_, g24, ?_⟩
  by_cases hr : WRight w
  · rw [decide_eq_true hr]
    refine sel_intro (fun h => by cases h) (fun _ => sel_dec (fun h => by rw [ScanW, if_pos (.inr (.inl (by omega)))]; rfl) (fun h1 => sel_dec (fun h => by rw [ScanW, if_pos (.inr (.inr (.inl h)))]; rfl) (fun h2 => sel_dec (fun h => by rw [ScanW, if_pos (.inr (.inr (.inr h)))]; rfl) (fun h3 => ?_))))
    have hgo : ScanW w fr mo = if (if w.root = 0 then sc0 else walkS (Hold w) w.now.length fr mo 9 w.root 1 sc0).bad = true then ([], empS, 81) else ((if w.root = 0 then sc0 else walkS (Hold w) w.now.length fr mo 9 w.root 1 sc0).out, (if w.root = 0 then sc0 else walkS (Hold w) w.now.length fr mo 9 w.root 1 sc0).nx, 0) := by
      rw [ScanW, if_neg (by
        rintro (h | h | h | h)
        · exact h hr
        · omega
        · omega
        · omega)]
    refine sel_intro (fun h => ?_) (fun h => ⟨rfl, ?_⟩)
    · have h0 : w.root ≠ 0 := by simpa using h
      simp only [if_neg h0] at hgo
      obtain ⟨v', g⟩ := p25 w hf hr fr mo ⟨by omega, by omega⟩ 9 w.root 1 sc0 0 (by omega) (by omega) (by omega) (sc0_inv (by omega) (by omega)) rfl
      refine ⟨_, _, _, _, _, _, _, _, _, _, _, _, _, _, g, sel_intro (fun hb => ?_) (fun hb => ⟨rfl, ?_⟩)⟩
      · rw [hgo, if_pos hb]; rfl
      · rw [hgo, if_neg (by rw [hb]; simp)]; rfl
    · have h0 : w.root = 0 := by simpa using h
      simp only [if_pos h0] at hgo
      rw [hgo, if_neg (by simp [sc0])]; rfl
  · rw [decide_eq_false hr]
    refine sel_intro (fun _ => ?_) (fun h => by cases h)
    rw [ScanW, if_pos (.inl hr)]; rfl
/-! The document's scan; two rows of pairs. -/
theorem psD_snoc' (l : List Pr) (p : Pr) : psD l ++ [.rcd [.str p.1, .str p.2]] = psD (l ++ [p]) := by simp [psD]
theorem p18 (l : List Pr) (hl : l.length ≤ 1073741824) (fr : ByteArray) (mo : Int) : Runs Fs2 18 [.o (.sl 2 (psD l)), .n (.str fr), .n (.int .i64 mo)] [] (.tup [.o (.sl 2 (psD (scanR fr mo l []).1)), .n (.str (scanR fr mo l []).2)]) [] := by
  refine vc_eq fs18 rfl ?_
  rw [vc18, V18, psD_len]
  refine ⟨fun v i Q => 0 ≤ i ∧ i ≤ l.length ∧ ∃ out, Q = (v, psD out) ∧ (out.length : Int) ≤ i ∧ scanR fr mo l [] = scanR fr mo (l.drop i.toNat) out, fun _ i _ => (l.length - i).toNat, ⟨rfl, by omega, by omega, [], rfl, by simp, rfl⟩, ?_⟩
  rintro v i Q ⟨h0, h1, out, rfl, ho, hinv⟩ _
  dsimp only
  refine sel_dec (fun hlt => ?_) (fun hge => ⟨rfl, ?_⟩)
  · have hi : i.toNat < l.length := by omega
    have e1 : (i + 1).toNat = i.toNat + 1 := by omega
    rw [List.drop_eq_getElem_cons hi, scanR] at hinv
    refine ⟨rfl, h0, _, psD_at hi, _, _, rfl, Nat.le_refl 2, ?_⟩
    show sel (lt l[i.toNat].1 fr) _ _
    refine sel_intro (fun h => ?_) (fun h => ⟨rfl, ?_⟩)
    · rw [if_pos h] at hinv
      repeat (refine And.intro rfl ?_)
      rw [i64_in _ (by omega)]
      exact ⟨⟨by omega, by omega, out, rfl, by omega, by rw [hinv, e1]⟩, by first | omega | (dsimp only; omega)⟩
    · rw [if_neg (by rw [h]; simp)] at hinv
      rw [psD_len]
      refine sel_intro (fun h2 => ⟨rfl, ?_⟩) (fun h2 => ?_)
      · rw [if_pos (by simpa using h2)] at hinv
        rw [hinv]
      · rw [if_neg (by simpa using h2)] at hinv
        refine ⟨rfl, .inl rfl, ⟨⟨rfl, rfl⟩, rfl⟩, by simp only [List.length_singleton]; omega, ?_⟩
        repeat (refine And.intro rfl ?_)
        rw [i64_in _ (by omega)]
        exact ⟨⟨by omega, by omega, out ++ [l[i.toNat]], by rw [psD_snoc'], by simp; omega, by rw [hinv, e1]⟩, by first | omega | (dsimp only; omega)⟩
  · rw [List.drop_of_length_le (by omega), scanR] at hinv
    rw [hinv]; rfl
theorem p19 (a b : List Pr) (ha : Small a.length) (hb : Small b.length) : Runs Fs2 19 [.o (.sl 2 (psD a)), .o (.sl 2 (psD b))] [] (.n (.bool (decide (a = b)))) [] := by
  refine vc_eq fs19 rfl ?_
  rw [vc19, V19, psD_len, psD_len]
  refine sel_intro (fun h => ?_) (fun h => ?_)
  · rw [decide_eq_false]
    rintro rfl
    simp at h
  have hl : a.length = b.length := by
    have : (a.length : Int) = b.length := by simpa using h
    omega
  refine ⟨fun i => 0 ≤ i ∧ i ≤ a.length ∧ ∀ j : Nat, (j : Int) < i → a[j]? = b[j]?, fun i => (a.length - i).toNat, ⟨rfl, by omega, by omega, fun j hj => by omega⟩, ?_⟩
  rintro i ⟨h0, h1, hok⟩ _
  refine sel_dec (fun hlt => ?_) (fun hge => ?_)
  · have hi : i.toNat < a.length := by omega
    have hj : i.toNat < b.length := by omega
    refine ⟨rfl, h0, _, psD_at hi, _, _, rfl, Nat.le_refl 2, rfl, h0, _, psD_at hj, _, _, rfl, Nat.le_refl 2, ?_⟩
    rw [beq_dec, beq_dec]
    refine sel_intro (fun hx => ?_) (fun hx => ?_)
    · rw [decide_eq_false]
      rintro rfl
      simp at hx
    · have hx : a[i.toNat].1 = b[i.toNat].1 ∧ a[i.toNat].2 = b[i.toNat].2 := by simpa using hx
      repeat (refine And.intro rfl ?_)
      rw [i64_in _ (by omega)]
      refine ⟨⟨by omega, by omega, fun j hji => ?_⟩, by first | omega | (dsimp only; omega)⟩
      by_cases e : (j : Int) < i
      · exact hok j e
      · obtain rfl : j = i.toNat := by omega
        rw [List.getElem?_eq_getElem hi, List.getElem?_eq_getElem hj, Prod.ext hx.1 hx.2]
  · rw [decide_eq_true]
    refine List.ext_getElem? fun j => ?_
    by_cases hj : j < a.length
    · exact hok j (by omega)
    · rw [List.getElem?_eq_none (by omega), List.getElem?_eq_none (by omega)]
end Go.Proofs.YtmmnobdpccdeoaaGreatDoor.M
