import Derived.Test.YtmmnobdpccdeoaaGreatDoorZ3ScanQ
import Derived.Test.YtmmnobdpccdeoaaGreatDoorZ3LX
import Derived.Test.YtmmnobdpccdeoaaGreatDoorZ3WdT
namespace Go.Proofs.YtmmnobdpccdeoaaGreatDoor.M
set_option linter.unusedVariables false
set_option linter.unusedSimpArgs false
open Go Go.Mir
set_option linter.unusedVariables false

/-! A scan's parts: plain. -/
def filt (fr : ByteArray) (P : List Pr) : List Pr := P.filter fun p => !(lt p.1 fr)
def headK : List Pr → ByteArray
  | [] => empS
  | p :: _ => p.1
theorem scanR_eq {fr : ByteArray} {m : Nat} : ∀ {P out : List Pr}, out.length ≤ m → scanR fr m P out = (out ++ (filt fr P).take (m - out.length), headK ((filt fr P).drop (m - out.length)))
  | [], out, h => by simp [scanR, filt, headK]
  | p :: P, out, h => by
    rw [scanR]
    by_cases h1 : lt p.1 fr = true
    · rw [if_pos h1, scanR_eq h]
      have : filt fr (p :: P) = filt fr P := by rw [filt, List.filter_cons_of_neg (by rw [h1]; simp)]; rfl
      rw [this]
    · have h1 : lt p.1 fr = false := by simpa using h1
      have e : filt fr (p :: P) = p :: filt fr P := by rw [filt, List.filter_cons_of_pos (by rw [h1]; simp)]; rfl
      rw [if_neg (by rw [h1]; simp), e]
      by_cases h2 : (out.length : Int) = m
      · rw [if_pos h2, show m - out.length = 0 by omega]; simp [headK]
      · rw [if_neg h2, scanR_eq (by simp; omega)]
        obtain ⟨k, hk⟩ : ∃ k, m - out.length = k + 1 := ⟨m - out.length - 1, by omega⟩
        rw [hk, show m - (out ++ [p]).length = k by simp; omega]
        simp
theorem scanR_top (fr : ByteArray) (m : Nat) (P : List Pr) : scanR fr m P [] = ((filt fr P).take m, headK ((filt fr P).drop m)) := by
  rw [scanR_eq (by simp)]; simp
theorem filt_all (P : List Pr) : filt empS P = P := List.filter_eq_self.2 fun p _ => by rw [lt_nil]; rfl
/-- From the key at a place on. -/
theorem filt_at {P : List Pr} (h : Inc P) {i : Nat} (hi : i < P.length) : filt P[i].1 P = P.drop i := by
  have e : P = P.take i ++ P.drop i := (List.take_append_drop i P).symm
  have h2 : Inc (P.take i ++ P.drop i) := by rw [← e]; exact h
  have h3 := List.pairwise_append.1 h2
  have hd := List.drop_eq_getElem_cons hi
  have hmem : P[i] ∈ P.drop i := by rw [hd]; exact List.mem_cons_self
  rw [show filt P[i].1 P = filt P[i].1 (P.take i ++ P.drop i) by rw [← e]]
  unfold filt
  rw [List.filter_append, List.filter_eq_nil_iff.2 (fun p hp => by rw [h3.2.2 p hp _ hmem]; simp), List.nil_append]
  refine List.filter_eq_self.2 fun p hp => ?_
  have h4 := h3.2.1
  rw [hd] at h4 hp
  rcases List.mem_cons.1 hp with rfl | hp
  · rw [lt_irr]; rfl
  · rw [lt_asym ((List.pairwise_cons.1 h4).1 p hp)]; rfl
theorem filt_inc {P : List Pr} (fr : ByteArray) (h : Inc P) : Inc (filt fr P) := h.filter _
theorem filt_filt {P : List Pr} {fr k : ByteArray} (h : lt k fr = false) : filt k P = filt k (filt fr P) := by
  unfold filt
  rw [List.filter_filter]
  refine List.filter_congr fun p _ => ?_
  cases h1 : lt p.1 k with
  | true => simp
  | false =>
    have : lt p.1 fr = false := by
      rcases nlt_iff.1 h1 with e | e
      · rw [e]; exact h
      · rcases nlt_iff.1 h with e2 | e2
        · rw [← e2]; exact h1
        · exact lt_asym (lt_trans e2 e)
    simp [this]
/-! Sizes of a tree's keys. -/
def KSz (P : List Pr) : Prop := ∀ p ∈ P, 1 ≤ p.1.size ∧ p.1.size ≤ 32
theorem KTr.ksz {R : Int → ByteArray → ByteArray → List Pr → List Int → Prop} (m : ∀ c lo hi P B, R c lo hi P B → KSz P) : ∀ {ks : List ByteArray} {cs : List Int} {lo hi : ByteArray} {P : List Pr} {B : List Int},
    KTr R lo hi ks cs P B → KSz P
  | [], [], _, _, _, _, h => h.elim
  | [], [c], lo, hi, P, B, h => m _ _ _ _ _ h
  | [], _ :: _ :: _, _, _, _, _, h => h.elim
  | _ :: _, [], _, _, _, _, h => h.elim
  | k :: ks, c :: cs, lo, hi, P, B, h => by
    obtain ⟨P1, B1, P2, B2, h1, h2, rfl, rfl⟩ := h
    intro p hp
    rcases List.mem_append.1 hp with hp | hp
    · exact m _ _ _ _ _ h1 p hp
    · exact KTr.ksz m h2 p hp
theorem Tr.ksz {H : Hd} (ho : HOK H) : ∀ {h : Nat} {b : Int} {root : Bool} {lo hi : ByteArray} {P : List Pr} {B : List Int}, Tr H h b root lo hi P B → KSz P
  | 0, _, _, _, _, _, _, h => h.elim
  | h + 1, b, root, lo, hi, P, B, ht => by
    obtain ⟨n, hn, _, hh⟩ := ht
    rcases hh with ⟨_, _, _, rfl, _⟩ | ⟨_, C, rfl, h2⟩
    · intro p hp
      obtain ⟨i, hi, he⟩ := List.getElem_of_mem (zip_mem hp)
      have := (ho _ _ _ hn).1.2.1 i hi hi
      rw [he] at this
      exact ⟨this.1, this.2.1⟩
    · exact KTr.ksz (fun c lo hi P B hc => Tr.ksz ho hc) h2
theorem isTree_ksz {w : Wd} {h : Nat} {P : List Pr} {B : List Int} (ht : IsTree w h P B) : KSz P := by
  rcases ht with ⟨_, _, rfl, _⟩ | ⟨_, _, _, h3, _⟩
  · intro p hp; cases hp
  · exact h3.ksz (hold_hok w)
theorem isTree_inc {w : Wd} {h : Nat} {P : List Pr} {B : List Int} (ht : IsTree w h P B) : Inc P := by
  rcases ht with ⟨_, _, rfl, _⟩ | ⟨_, _, _, h3, _⟩
  · simp [Inc]
  · exact h3.inc (hold_hok w)
theorem isTree_len {w : Wd} (hn : w.now.length ≤ 2048) {h : Nat} {P : List Pr} {B : List Int} (ht : IsTree w h P B) : B.length ≤ w.now.length ∧ P.length ≤ 9 * B.length := by
  have he := tree_full ht
  have hi := treeW_inv hn
  rw [he] at hi
  refine ⟨nodup_bound _ B hi.nd fun b hb => ?_, hi.ps⟩
  have : ∃ r n, Hold w b r = some n := by
    rcases ht with ⟨_, _, _, rfl⟩ | ⟨_, _, _, h3, _⟩
    · cases hb
    · exact h3.held b hb
  obtain ⟨r, n, hh⟩ := this
  have := hold_rg hn hh
  omega
theorem headK_nil {P : List Pr} (h : KSz P) (hk : headK P = empS) : P = [] := by
  cases P with
  | nil => rfl
  | cons p r =>
    have := (h p (by simp)).1
    rw [show p.1 = empS from hk] at this
    exact absurd this (by decide)
theorem p14r : Runs Fs2 14 [] [] (.n (.bool true)) [] := p14
/-! The laws. -/
theorem scan_inv {w : Wd} {fr : ByteArray} {mo : Int} (h0 : (ScanW w fr mo).2.2 = 0) : Inc (ScanW w fr mo).1 ∧ (∀ p ∈ (ScanW w fr mo).1, lt p.1 fr = false) ∧ ((ScanW w fr mo).1.length : Int) ≤ mo ∧ ((ScanW w fr mo).2.1 = empS ∨ lastLt (ScanW w fr mo).1 (ScanW w fr mo).2.1 = true) := by
  unfold ScanW at h0 ⊢
  by_cases h1 : ¬ WRight w ∨ 32 < fr.size ∨ mo < 0 ∨ 256 < mo
  · rw [if_pos h1] at h0; cases h0
  rw [if_neg h1] at h0 ⊢
  dsimp only at h0 ⊢
  by_cases h2 : (if w.root = 0 then sc0 else walkS (Hold w) w.now.length fr mo 9 w.root 1 sc0).bad = true
  · rw [if_pos h2] at h0; cases h0
  rw [if_neg h2]
  dsimp only
  have hs : SInv fr mo w.now.length (if w.root = 0 then sc0 else walkS (Hold w) w.now.length fr mo 9 w.root 1 sc0) := by
    split
    · exact sc0_inv (by omega) (by omega)
    · exact walkS_inv 9 w.root 1 sc0 (sc0_inv (by omega) (by omega)) rfl
  refine ⟨hs.inc, hs.low, hs.len, ?_⟩
  cases hf : (if w.root = 0 then sc0 else walkS (Hold w) w.now.length fr mo 9 w.root 1 sc0).full with
  | true => exact .inr (hs.nx hf)
  | false => exact .inl (hs.nf hf)
theorem scan_err {w : Wd} {fr : ByteArray} {mo : Int} (hr : WRight w) (h1 : fr.size ≤ 32) (h2 : 0 ≤ mo) (h3 : mo ≤ 256) (h0 : (ScanW w fr mo).2.2 ≠ 0) : ScanW w fr mo = ([], empS, 81) := by
  unfold ScanW at h0 ⊢
  have h1 : ¬ (¬ WRight w ∨ 32 < fr.size ∨ mo < 0 ∨ 256 < mo) := by
    rintro (h | h | h | h)
    · exact h hr
    · omega
    · omega
    · omega
  rw [if_neg h1] at h0 ⊢
  dsimp only at h0 ⊢
  generalize (if w.root = 0 then sc0 else walkS (Hold w) w.now.length fr mo 9 w.root 1 sc0) = s at h0 ⊢
  by_cases hb : s.bad = true
  · rw [if_pos hb]
  · rw [if_neg hb] at h0; exact absurd rfl h0
theorem scan_len (w : Wd) (fr : ByteArray) (mo : Int) : (ScanW w fr mo).1.length ≤ 256 := by
  by_cases h0 : (ScanW w fr mo).2.2 = 0
  · have h1 := (scan_inv h0).2.2.1
    by_cases h2 : mo ≤ 256
    · omega
    · rw [ScanW, if_pos (.inr (.inr (.inr (by omega))))]; simp
  · unfold ScanW at h0 ⊢
    split
    · simp
    · rename_i h1
      rw [if_neg h1] at h0
      dsimp only at h0 ⊢
      generalize (if w.root = 0 then sc0 else walkS (Hold w) w.now.length fr mo 9 w.root 1 sc0) = s at h0 ⊢
      by_cases hb : s.bad = true
      · rw [if_pos hb]; simp
      · rw [if_neg hb] at h0; exact absurd rfl h0
set_option maxRecDepth 10000 in
theorem p4 (w : Wd) (hf : WFits w) (fr : ByteArray) (mo : Int) : Runs Fs2 4 [wdV w, .n (.str fr), .n (.int .i64 mo)] [] (.n (.bool true)) [] := by
  have g13 := p13 w
  have g15 := p15 w hf fr mo
  have g16 := p16 w hf
  have hlen := scan_len w fr mo
  refine vc_eq fs4 rfl ?_
  rw [wdV, vc4, V4]
  refine ⟨_, g13, sel_intro (fun _ => ⟨_, p14, rfl⟩) (fun _ => ⟨_, _, _, g15, ?_⟩)⟩
  have emp : ∀ s : ByteArray, (s.toList == (ByteArray.mk (List.toArray [])).toList) = decide (s = empS) := fun s => beq_dec s empS
  rw [psD_len, emp (ScanW w fr mo).2.1]
  have bad1 : ScanW w fr mo = ([], empS, 1) → ∃ x6 : Bool, Runs Fs2 14 [] [] (.n (.bool x6)) [] ∧ sel x6 (sel ((ScanW w fr mo).2.2 == 1) (sel (((ScanW w fr mo).1.length : Int) == 0) (AV.n (.bool (decide ((ScanW w fr mo).2.1 = empS))) = .n (.bool true)) (AV.n (.bool false) = .n (.bool true))) (AV.n (.bool false) = .n (.bool true))) (AV.n (.bool false) = .n (.bool true)) := fun e => by
    rw [e]
    exact ⟨_, p14, sel_intro (fun _ => sel_intro (fun _ => sel_intro (fun _ => by simp) (fun h => by simp at h)) (fun h => by simp at h)) (fun h => by cases h)⟩
  by_cases hr : WRight w
  · rw [decide_eq_true hr] at g16
    have hn := wr_now hr
    refine ⟨_, g16, sel_intro (fun h => by cases h) (fun _ => sel_dec (fun h => bad1 (by rw [ScanW, if_pos (.inr (.inl (by omega)))])) (fun h1 => sel_dec (fun h => bad1 (by rw [ScanW, if_pos (.inr (.inr (.inl h)))])) (fun h2 => sel_dec (fun h => bad1 (by rw [ScanW, if_pos (.inr (.inr (.inr h)))])) (fun h3 => ?_))))⟩
    obtain ⟨va, vb, g17⟩ := p17 w hf hn
    refine ⟨(), _, _, _, _, _, _, _, _, g17, sel_intro (fun hb => ⟨rfl, ?_⟩) (fun hb => ?_)⟩
    · have hb : (treeW w).bad = false := by simpa using hb
      obtain ⟨h, P, B, ht, he⟩ := tree_sound hb
      obtain ⟨l1, l2⟩ := isTree_len hn ht
      have hsc := scanW_tree (fr := fr) (mo := mo) hr (by omega) (by omega) (by omega) ht l1
      have h19 : (scanR fr mo P []).1.length ≤ 256 := by rw [hsc] at hlen; exact hlen
      rw [he, hsc]
      dsimp only
      have hx := p19 (scanR fr mo P []).1 (scanR fr mo P []).1 (by omega) (by omega)
      rw [decide_eq_true rfl] at hx
      exact ⟨_, _, p18 P (by omega) fr mo, _, p14, sel_intro (fun _ => sel_intro (fun _ => ⟨_, hx, sel_intro (fun _ => by rw [beq_dec, decide_eq_true rfl]) (fun h => by cases h)⟩) (fun h => by simp at h)) (fun h => by cases h)⟩
    · refine sel_intro (fun he => ?_) (fun he => ?_)
      · have he := scan_err (fr := fr) (mo := mo) hr (by omega) (by omega) (by omega) (by simpa using he)
        rw [he]
        exact ⟨_, p14, sel_intro (fun _ => sel_intro (fun _ => sel_intro (fun _ => by simp) (fun h => by simp at h)) (fun h => by simp at h)) (fun h => by cases h)⟩
      · have he : (ScanW w fr mo).2.2 = 0 := by simpa using he
        obtain ⟨i1, i2, i3, i4⟩ := scan_inv he
        generalize ScanW w fr mo = X at *
        obtain ⟨l, nx, e⟩ := X
        dsimp only at *
        refine ⟨fun i => 0 ≤ i ∧ i ≤ l.length, fun i => (l.length - i).toNat, ⟨rfl, by omega, by omega⟩, ?_⟩
        rintro i ⟨h0, h1⟩ _
        refine sel_dec (fun hlt => ?_) (fun hge => ?_)
        · have hi : i.toNat < l.length := by omega
          refine ⟨rfl, h0, _, psD_at hi, _, _, rfl, Nat.le_refl 2, ?_⟩
          show sel (lt l[i.toNat].1 fr) _ _
          rw [i2 _ (List.getElem_mem hi)]
          refine sel_intro (fun h => by cases h) (fun _ => sel_dec (fun hp => ?_) (fun hp => ?_))
          · have hi1 : (IntKind.wrap .i64 (i - 1)).toNat < l.length := by rw [i64_in _ (by omega)]; omega
            have hlt2 : lt (l[(IntKind.wrap .i64 (i - 1)).toNat]'hi1).1 l[i.toNat].1 = true := by
              have e1 : (IntKind.wrap .i64 (i - 1)).toNat < i.toNat := by rw [i64_in _ (by omega)]; omega
              exact List.pairwise_iff_getElem.1 i1 _ _ hi1 hi e1
            refine ⟨rfl, by rw [i64_in _ (by omega)]; omega, _, psD_at hi1, _, rfl, ?_⟩
            have e2 : (Op.bytesLess l[i.toNat].1.toList (l[(IntKind.wrap .i64 (i - 1)).toNat]'hi1).1.toList || (l[i.toNat].1.toList == (l[(IntKind.wrap .i64 (i - 1)).toNat]'hi1).1.toList)) = false := by
              rw [beq_dec, show Op.bytesLess l[i.toNat].1.toList (l[(IntKind.wrap .i64 (i - 1)).toNat]'hi1).1.toList = lt l[i.toNat].1 (l[(IntKind.wrap .i64 (i - 1)).toNat]'hi1).1 from rfl, lt_asym hlt2, decide_eq_false (fun e => lt_ne hlt2 e.symm)]; rfl
            rw [e2]
            refine sel_intro (fun h => by cases h) (fun _ => ?_)
            repeat (refine And.intro rfl ?_)
            rw [i64_in (i + 1) (by omega)]
            exact ⟨⟨by omega, by omega⟩, by first | omega | (dsimp only; omega)⟩
          · repeat (refine And.intro rfl ?_)
            rw [i64_in _ (by omega)]
            exact ⟨⟨by omega, by omega⟩, by first | omega | (dsimp only; omega)⟩
        · refine ⟨_, p14, sel_intro (fun _ => sel_dec (fun _ => sel_dec (fun _ => by simp) (fun hne => sel_intro (fun _ => by simp) (fun hl0 => ?_))) (fun h => absurd i3 h)) (fun h => by cases h)⟩
          have hl0 : (l.length : Int) ≠ 0 := by simpa using hl0
          have hi1 : (IntKind.wrap .i64 ((l.length : Int) - 1)).toNat < l.length := by rw [i64_in _ (by omega)]; omega
          refine ⟨rfl, by rw [i64_in _ (by omega)]; omega, _, psD_at hi1, _, rfl, ?_⟩
          have hla := i4.resolve_left hne
          rw [last_at (by omega)] at hla
          have e1 : (IntKind.wrap .i64 ((l.length : Int) - 1)).toNat = l.length - 1 := by rw [i64_in _ (by omega)]; omega
          have e3 : (l[(IntKind.wrap .i64 ((l.length : Int) - 1)).toNat]'hi1).1 = (l[l.length - 1]'(by omega)).1 := by simp only [e1]
          rw [e3, beq_dec, show Op.bytesLess nx.toList (l[l.length - 1]'(by omega)).1.toList = lt nx (l[l.length - 1]'(by omega)).1 from rfl, lt_asym hla, decide_eq_false (fun e => lt_ne hla e.symm)]
          rfl
  · rw [decide_eq_false hr] at g16
    exact ⟨_, g16, sel_intro (fun _ => bad1 (by rw [ScanW, if_pos (.inl hr)])) (fun h => by cases h)⟩
theorem p4x (x : wdT.T) (h : wdT.fit x) (fr : ByteArray) (mo : Int) : Runs Fs2 4 [wdT.av x, .n (.str fr), .n (.int .i64 mo)] [] (.n (.bool true)) [] := by
  rw [wd_av]; exact p4 (toWd x) (wd_fit x h) fr mo
end Go.Proofs.YtmmnobdpccdeoaaGreatDoor.M
