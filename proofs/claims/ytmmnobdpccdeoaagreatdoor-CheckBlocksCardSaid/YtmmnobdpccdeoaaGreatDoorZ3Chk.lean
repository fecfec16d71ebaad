import Derived.Test.YtmmnobdpccdeoaaGreatDoorZ3Gets
namespace Go.Proofs.YtmmnobdpccdeoaaGreatDoor.M
set_option linter.unusedVariables false
set_option linter.unusedSimpArgs false
open Go Go.Mir
set_option linter.unusedVariables false

/-! What a check goes through. -/
def hW (lo hi : ByteArray) : Heap := [hB 3100000 [.n (.str lo)], hB 3100001 [.n (.str hi)]]
theorem p44 (k lo hi : ByteArray) : Runs Fs2 44 [.n (.str k), .ptr 3100000 0, .ptr 3100001 0] (hW lo hi) (.n (.bool (!(within k lo hi)))) (hW lo hi) := by
  refine vc_look fs44 rfl (by kernel_rfl) ?_
  show Vc Fs2 c44.body (argsQ c44 [.n (.str k), .ptr 3100000 0, .ptr 3100001 0]) [(3100000, .box [.n (.str lo)]), (3100001, .box [.n (.str hi)])] (endQH c44 [(3100000, .box [.n (.str lo)]), (3100001, .box [.n (.str hi)])] _)
  rw [vc44h, V44h]
  have e : (hi.toList == (ByteArray.mk (List.toArray [])).toList) = decide (hi = empS) := beq_dec hi empS
  rw [e]
  show sel (lt k lo) _ _
  refine sel_intro (fun h => ⟨by rw [within, h]; rfl, rfl⟩) (fun h => sel_intro (fun h2 => ⟨?_, rfl⟩) (fun h2 => ⟨?_, rfl⟩))
  · have h2 : decide (hi = empS) = false := by simpa using h2
    rw [within, h, h2]; rfl
  · have h2 : decide (hi = empS) = true := by simpa using h2
    rw [within, h, h2]; rfl
theorem p46r (l : List ByteArray) (hl : Small l.length) (lo hi : ByteArray) : ∃ r : Int, decide (r ≥ 0) = l.any (fun k => !(within k lo hi)) ∧ Runs Fs2 46 [.o (.sl 1 (sl_ l)), .fn 44 [.ptr 3100000 0, .ptr 3100001 0]] (hW lo hi) (.n (.int .i64 r)) (hW lo hi) := by
  have key : ∃ r H', Runs Fs2 46 [.o (.sl 1 (sl_ l)), .fn 44 [.ptr 3100000 0, .ptr 3100001 0]] (hW lo hi) r H' ∧ ∃ k : Int, r = .n (.int .i64 k) ∧ H' = hW lo hi ∧ decide (k ≥ 0) = l.any (fun k => !(within k lo hi)) := by
    refine vc_objs (R := fun r H' => ∃ k : Int, r = .n (.int .i64 k) ∧ H' = hW lo hi ∧ decide (k ≥ 0) = l.any (fun k => !(within k lo hi))) fs46 rfl (by kernel_rfl) ?_
    show Vc Fs2 c46.body (argsQ c46 [.o (.sl 1 (sl_ l)), .fn 44 [.ptr 3100000 0, .ptr 3100001 0]]) [(3100000, .box [.n (.str lo)]), (3100001, .box [.n (.str hi)])] (endQH c46 [(3100000, .box [.n (.str lo)]), (3100001, .box [.n (.str hi)])] _)
    rw [vc46r, V46r, sl_len]
    refine ⟨fun k => 0 ≤ k ∧ k ≤ l.length ∧ ∀ (j : Nat) (h : j < l.length), (j : Int) < k → (!(within l[j] lo hi)) = false, fun k => (l.length - k).toNat, ⟨rfl, by omega, by omega, fun j _ hj => by omega⟩, ?_⟩
    rintro k ⟨k0, k1, hok⟩ _
    refine sel_dec (fun h => ?_) (fun h => ⟨-1, rfl, rfl, ?_⟩)
    · have hi' : k.toNat < l.length := by omega
      refine ⟨rfl, k0, _, sl_at hi', _, rfl, _, p44 _ lo hi, sel_intro (fun hb => ⟨k, rfl, rfl, ?_⟩) (fun hb => ?_)⟩
      · rw [decide_eq_true k0]; exact (any_at (p := fun k : ByteArray => !(within k lo hi)) hi' hb).symm
      · repeat (refine And.intro rfl ?_)
        rw [i64_in _ (by omega)]
        exact ⟨⟨by omega, by omega, step_up (p := fun k : ByteArray => !(within k lo hi)) k0 hi' hb hok⟩, by first | omega | (dsimp only; omega)⟩
    · exact (any_up (p := fun k : ByteArray => !(within k lo hi)) k0 h hok).symm
  obtain ⟨r, H', hr, k, rfl, rfl, hk⟩ := key
  exact ⟨k, hk, hr⟩
theorem p33r (l : List ByteArray) (hl : Small l.length) (lo hi : ByteArray) : Runs Fs2 33 [.o (.sl 1 (sl_ l)), .fn 44 [.ptr 3100000 0, .ptr 3100001 0]] (hW lo hi) (.n (.bool (l.any fun k => !(within k lo hi)))) (hW lo hi) := by
  refine vc_look fs33 rfl (by kernel_rfl) ?_
  show Vc Fs2 c33.body (argsQ c33 [.o (.sl 1 (sl_ l)), .fn 44 [.ptr 3100000 0, .ptr 3100001 0]]) [(3100000, .box [.n (.str lo)]), (3100001, .box [.n (.str hi)])] (endQH c33 [(3100000, .box [.n (.str lo)]), (3100001, .box [.n (.str hi)])] _)
  rw [vc33r, V33r]
  obtain ⟨r, hr, h⟩ := p46r l hl lo hi
  exact ⟨r, h, by rw [hr], rfl⟩
/-- What a walker keeps, of what the document's tree has. -/
structure CS where
  used : List Bool
  np : Int
  he : Int
  nb : Int
  bad : Bool
def marks (N : Nat) (bs : List Int) : List Bool := (List.range N).map fun i : Nat => decide ((i : Int) ∈ bs)
theorem marks_len (N : Nat) (bs : List Int) : (marks N bs).length = N := by simp [marks]
theorem marks_tr {N : Nat} {bs : List Int} {i : Nat} (h : i < N) : tr (marks N bs) i = decide ((i : Int) ∈ bs) := by simp [tr, marks, h]
theorem marks_get {N : Nat} {bs : List Int} {i : Nat} (h : i < (marks N bs).length) : (marks N bs)[i] = decide ((i : Int) ∈ bs) := by simp [marks]
theorem marks_set {N : Nat} {bs : List Int} {b : Int} (h0 : 0 ≤ b) : (marks N bs).set b.toNat true = marks N (bs ++ [b]) := by
  refine List.ext_getElem (by simp [marks]) fun i h1 h2 => ?_
  rw [List.getElem_set, marks_get, marks_get (by simpa [marks] using h1)]
  by_cases e : b.toNat = i
  · rw [if_pos e]
    have : (i : Int) = b := by omega
    simp [this]
  · rw [if_neg e]
    have : (i : Int) ≠ b := by omega
    simp [this]
def csOf (N : Nat) (t : TS) : CS := ⟨marks N t.bs, t.ps.length, t.he, t.bs.length, t.bad⟩
def hC (w : Wd) (s : CS) (v : Nat) : Heap := [hR 2200305 v 4 1 (blD s.used), hB 2200307 [.o (.sl 1 (blD w.base)), .o (.sl 1 (blD w.now)), .o (.sl 1 (sl_ w.pages)), .n (.int .i64 w.root), .n (.int .i64 w.gen), .n (.int .i64 s.np), .n (.int .i64 s.he), .n (.int .i64 s.nb), .row 2200305 v, .n (.bool s.bad)]]
def CRel (N : Nat) (s : CS) (t : TS) : Prop := s.bad = t.bad ∧ (t.bad = false → s = csOf N t)
theorem blD_set (l : List Bool) (i : Nat) (b : Bool) : (blD l).set i (.bool b) = blD (l.set i b) := by simp [blD, List.map_set]
theorem crel_bad {N : Nat} {s : CS} {t : TS} (h1 : s.bad = true) (h2 : t.bad = true) : CRel N s t := ⟨by rw [h1, h2], fun h => by rw [h2] at h; cases h⟩
set_option maxRecDepth 10000 in
set_option maxHeartbeats 4300000 in
theorem p31 (w : Wd) (hf : WFits w) (hr : WRight w) : ∀ (f : Nat) (b d : Int) (lo hi : ByteArray) (t : TS) (v : Nat), d + f = 10 → 1 ≤ d → 1 ≤ f → TInv t → t.bad = false →
    ∃ s', Runs Fs2 31 [.ptr 2200307 0, .n (.int .i64 b), .n (.int .i64 d), .n (.str lo), .n (.str hi)] (hC w (csOf w.now.length t) v) (.tup []) (hC w s' v) ∧ CRel w.now.length s' (below (Hold w) f b d lo hi t)
  | 0, b, d, lo, hi, t, v, _, _, hf1, _, _ => by omega
  | f + 1, b, d, lo, hi, t, v, hdf, hd, _, ht, htb => by
    have g40 := p43 w hf b (d == 1)
    have hn := wr_now hr
    have hlen := ht.len
    have hps := ht.ps
    have key : ∃ r H', Runs Fs2 31 [.ptr 2200307 0, .n (.int .i64 b), .n (.int .i64 d), .n (.str lo), .n (.str hi)] (hC w (csOf w.now.length t) v) r H' ∧ r = .tup [] ∧ ∃ s', H' = hC w s' v ∧ CRel w.now.length s' (below (Hold w) (f + 1) b d lo hi t) := by
      refine vc_objs (R := fun r H' => r = .tup [] ∧ ∃ s', H' = hC w s' v ∧ CRel w.now.length s' (below (Hold w) (f + 1) b d lo hi t)) fs31 rfl (by kernel_rfl) ?_
      show Vc Fs2 c31.body (argsQ c31 [.ptr 2200307 0, .n (.int .i64 b), .n (.int .i64 d), .n (.str lo), .n (.str hi)]) [(2200305, .row false false v 4 1 (blD (marks w.now.length t.bs))), (2200307, .box [.o (.sl 1 (blD w.base)), .o (.sl 1 (blD w.now)), .o (.sl 1 (sl_ w.pages)), .n (.int .i64 w.root), .n (.int .i64 w.gen), .n (.int .i64 t.ps.length), .n (.int .i64 t.he), .n (.int .i64 t.bs.length), .row 2200305 v, .n (.bool t.bad)])] (endQH c31 [(2200305, .row false false v 4 1 (blD (marks w.now.length t.bs))), (2200307, .box [.o (.sl 1 (blD w.base)), .o (.sl 1 (blD w.now)), .o (.sl 1 (sl_ w.pages)), .n (.int .i64 w.root), .n (.int .i64 w.gen), .n (.int .i64 t.ps.length), .n (.int .i64 t.he), .n (.int .i64 t.bs.length), .row 2200305 v, .n (.bool t.bad)])] _)
      rw [vc31h, V31h, blD_len, marks_len, htb]
      rw [LoadR, if_pos hr] at g40
      have bad : ∀ (u : List Bool) (np he nb : Int), (below (Hold w) (f + 1) b d lo hi t).bad = true → ∃ s', ([hR 2200305 v 4 1 (blD u), hB 2200307 [.o (.sl 1 (blD w.base)), .o (.sl 1 (blD w.now)), .o (.sl 1 (sl_ w.pages)), .n (.int .i64 w.root), .n (.int .i64 w.gen), .n (.int .i64 np), .n (.int .i64 he), .n (.int .i64 nb), .row 2200305 v, .n (.bool true)]] : Heap) = hC w s' v ∧ CRel w.now.length s' (below (Hold w) (f + 1) b d lo hi t) := fun u np he nb e => ⟨⟨u, np, he, nb, true⟩, rfl, crel_bad rfl e⟩
      cases hh : Hold w b (d == 1) with
      | none =>
        rw [hh] at g40
        refine ⟨_, _, _, _, _, g40, sel_intro (fun _ => ⟨rfl, bad _ _ _ _ ?_⟩) (fun h => by cases h)⟩
        rw [below]
        split
        · rfl
        · rw [hh]
      | some n =>
        rw [hh] at g40
        have hrg := hold_rg hn hh
        have hok := hold_ok hh
        have hk8 := hok.2.1
        refine ⟨_, _, _, _, _, g40, sel_intro (fun h => by cases h) (fun _ => sel_dec (fun h => ⟨rfl, bad _ _ _ _ ?_⟩) (fun h8 => ?_))⟩
        · rw [below]
          split
          · rfl
          · rw [hh]; dsimp only; rw [if_pos (.inl h)]
        have hbN : b.toNat < w.now.length := by omega
        have hbm : b.toNat < (marks w.now.length t.bs).length := by rw [marks_len]; exact hbN
        have hbb : ((b.toNat : Nat) : Int) = b := by omega
        refine ⟨⟨rfl, rfl⟩, by omega, by omega, ⟨rfl, rfl⟩, _, blD_at hbm, _, rfl, ?_⟩
        rw [marks_get, hbb]
        refine sel_dec (fun h => ⟨rfl, bad _ _ _ _ ?_⟩) (fun hbn => ?_)
        · rw [below, if_pos (.inl h)]
        have hb1 : ¬ (b ∈ t.bs ∨ t.bad = true) := by rw [htb]; simpa using hbn
        have eq : below (Hold w) (f + 1) b d lo hi t = if d > 8 ∨ (n.leaf = true ∧ n.keys = []) then { t with bad := true } else
            if n.leaf then ⟨t.ps ++ n.keys.zip n.vals, t.bs ++ [b], d, offK n lo hi || (t.he != 0 && t.he != d)⟩
            else kidsB (fun c lo hi t => below (Hold w) f c (d + 1) lo hi t) lo hi n.keys n.kids ⟨t.ps, t.bs ++ [b], t.he, offK n lo hi⟩ := by
          rw [below, if_neg hb1, hh]
        rw [blD_set, marks_set (by omega), sl_len, il_len, i64_in ((t.bs.length : Int) + 1) (by omega), i64_in ((t.ps.length : Int) + n.keys.length) (by omega)]
        have ebl : ((t.bs.length : Int) + 1) = ((t.bs ++ [b]).length : Nat) := by simp
        have g74 := p33r n.keys (by omega) lo hi
        have eoff : (n.keys.any fun k => !(within k lo hi)) = offK n lo hi := rfl
        rw [eoff] at g74
        cases hl : n.leaf with
        | true =>
          have hvl : n.vals.length = n.keys.length := by
            rcases hok.1.2.2 with ⟨_, _, h, _⟩ | ⟨h, _⟩
            · exact h
            · rw [hl] at h; cases h
          refine sel_intro (fun _ => sel_intro (fun h => ⟨rfl, bad _ _ _ _ (by rw [eq, if_pos (.inr ⟨hl, nil_of h⟩)])⟩) (fun hk0 => ?_)) (fun h => by cases h)
          have hk0 : n.keys ≠ [] := fun e => by rw [e] at hk0; simp at hk0
          rw [if_neg (by
            rintro (h | h)
            · exact h8 h
            · exact hk0 h.2), hl, if_pos rfl] at eq
          refine ⟨⟨rfl, rfl⟩, by omega, by omega, ⟨⟨⟨rfl, rfl⟩, rfl⟩, rfl⟩, hbN, _, g74, sel_intro (fun ho => ⟨rfl, bad _ _ _ _ (by rw [eq, ho]; rfl)⟩) (fun ho => ?_)⟩
          refine sel_intro (fun _ => sel_intro (fun h => by cases h) (fun _ => ?_)) (fun h => by cases h)
          have ezl : ((t.ps.length : Int) + n.keys.length) = ((t.ps ++ n.keys.zip n.vals).length : Nat) := by rw [List.length_append, List.length_zip]; omega
          rw [ebl, ezl]
          refine sel_intro (fun h1 => ⟨rfl, ⟨marks w.now.length (t.bs ++ [b]), ((t.ps ++ n.keys.zip n.vals).length : Nat), d, ((t.bs ++ [b]).length : Nat), t.he != d⟩, rfl, ?_⟩) (fun h1 => ⟨rfl, ⟨marks w.now.length (t.bs ++ [b]), ((t.ps ++ n.keys.zip n.vals).length : Nat), d, ((t.bs ++ [b]).length : Nat), false⟩, rfl, ?_⟩)
          · rw [eq, ho, h1]
            refine ⟨?_, fun h => ?_⟩
            · show (t.he != d) = (false || (true && (t.he != d)))
              rw [Bool.true_and, Bool.false_or]
            · simp only [csOf, Bool.true_and, Bool.false_or]
          · rw [eq, ho, h1]
            exact ⟨rfl, fun _ => rfl⟩
        | false =>
          refine sel_intro (fun h => by cases h) (fun _ => ?_)
          rw [if_neg (by
            rintro (h | h)
            · exact h8 h
            · rw [hl] at h; cases h.1), hl, if_neg (by simp)] at eq
          have hkl : n.kids.length = n.keys.length + 1 := by
            rcases hok.1.2.2 with ⟨h, _⟩ | ⟨_, _, _, h, _⟩
            · rw [hl] at h; cases h
            · exact h
          refine ⟨⟨rfl, rfl⟩, by omega, by omega, ⟨⟨⟨rfl, rfl⟩, rfl⟩, rfl⟩, hbN, _, g74, sel_intro (fun ho => ⟨rfl, bad _ _ _ _ (by rw [eq, ho, kidsB_bad rfl])⟩) (fun ho => ?_)⟩
          refine sel_intro (fun h => by cases h) (fun _ => ?_)
          rw [ho] at eq
          have hst : TInv ⟨t.ps, t.bs ++ [b], t.he, false⟩ := by
            have := ht.add hbn (b := b) (by omega) (P := []) (by simp) t.he false
            simpa using this
          rw [ebl]
          refine ⟨fun i S Q => 0 ≤ i ∧ i ≤ n.kids.length ∧ ∃ (t' : TS), TInv t' ∧ t'.bad = false ∧ S = (blD w.base, blD w.now, sl_ w.pages, w.root, w.gen, (t'.ps.length : Int), t'.he, (t'.bs.length : Int), v, false, ()) ∧ Q = (v, blD (marks w.now.length t'.bs)) ∧ below (Hold w) (f + 1) b d lo hi t = kidsB (fun c lo hi t => below (Hold w) f c (d + 1) lo hi t) (fromAt lo n.keys i.toNat) hi (n.keys.drop i.toNat) (n.kids.drop i.toNat) t', fun i _ _ => (n.kids.length - i).toNat,
            ⟨rfl, by omega, by omega, ⟨t.ps, t.bs ++ [b], t.he, false⟩, hst, rfl, rfl, rfl, eq⟩, ?_⟩
          rintro i S Q ⟨h0, h1, t', ht', htb', rfl, rfl, hinv⟩ _
          dsimp only
          rw [i64_in (d + 1) (by omega), i64_in (i - 1) (by omega), i64_in (i + 1) (by omega)]
          have e1 : (i + 1).toNat = i.toNat + 1 := by omega
          have e2 : (i - 1).toNat = i.toNat - 1 := by omega
          refine sel_dec (fun hlt => ?_) (fun hge => ?_)
          · have hik : i.toNat < n.kids.length := by omega
            have tail : ∀ (fr tl : ByteArray), kidsB (fun c lo hi t => below (Hold w) f c (d + 1) lo hi t) (fromAt lo n.keys i.toNat) hi (n.keys.drop i.toNat) (n.kids.drop i.toNat) t' = kidsB (fun c lo hi t => below (Hold w) f c (d + 1) lo hi t) (fromAt lo n.keys (i.toNat + 1)) hi (n.keys.drop (i.toNat + 1)) (n.kids.drop (i.toNat + 1)) (if t'.bad then t' else below (Hold w) f n.kids[i.toNat] (d + 1) fr tl t') →
                ∃ s' : CS, Runs Fs2 31 [.ptr 2200307 0, .n (.int .i64 n.kids[i.toNat]), .n (.int .i64 (d + 1)), .n (.str fr), .n (.str tl)] [hR 2200305 v 4 1 (blD (marks w.now.length t'.bs)), hB 2200307 [.o (.sl 1 (blD w.base)), .o (.sl 1 (blD w.now)), .o (.sl 1 (sl_ w.pages)), .n (.int .i64 w.root), .n (.int .i64 w.gen), .n (.int .i64 t'.ps.length), .n (.int .i64 t'.he), .n (.int .i64 t'.bs.length), .row 2200305 v, .n (.bool false)]] (.tup []) (hC w s' v) ∧
                  (s'.bad = true → CRel w.now.length s' (below (Hold w) (f + 1) b d lo hi t)) ∧
                  (s'.bad = false → ∃ (t'' : TS), TInv t'' ∧ t''.bad = false ∧ (blD w.base, blD w.now, sl_ w.pages, w.root, w.gen, s'.np, s'.he, s'.nb, v, s'.bad, ()) = (blD w.base, blD w.now, sl_ w.pages, w.root, w.gen, (t''.ps.length : Int), t''.he, (t''.bs.length : Int), v, false, ()) ∧ (v, blD s'.used) = (v, blD (marks w.now.length t''.bs)) ∧ below (Hold w) (f + 1) b d lo hi t = kidsB (fun c lo hi t => below (Hold w) f c (d + 1) lo hi t) (fromAt lo n.keys (i + 1).toNat) hi (n.keys.drop (i + 1).toNat) (n.kids.drop (i + 1).toNat) t'') := fun fr tl hs => by
              obtain ⟨s', g, c1, c2⟩ := p31 w hf hr f n.kids[i.toNat] (d + 1) fr tl t' v (by omega) (by omega) (by omega) ht' htb'
              rw [hC, csOf, htb'] at g
              refine ⟨s', g, fun hb => crel_bad hb ?_, fun hb => ?_⟩
              · rw [c1] at hb
                rw [hinv, hs, htb']
                show (kidsB _ _ _ _ _ (below (Hold w) f n.kids[i.toNat] (d + 1) fr tl t')).bad = true
                rw [kidsB_bad hb]; exact hb
              · rw [c1] at hb
                have := c2 hb
                subst this
                refine ⟨below (Hold w) f n.kids[i.toNat] (d + 1) fr tl t', below_inv hn f _ (d + 1) fr tl t' ht', hb, by simp only [csOf, hb], rfl, ?_⟩
                rw [hinv, hs, htb', e1]; rfl
            refine ⟨rfl, h0, _, il_at hik, _, rfl, sel_dec (fun hp => ?_) (fun hp => ?_)⟩
            · have hi1 : (i - 1).toNat < n.keys.length := by omega
              have ef : fromAt lo n.keys i.toNat = n.keys[(i - 1).toNat] := by
                rw [fromAt_pos (by omega) (by omega)]
                congr 1; omega
              refine ⟨rfl, by omega, _, sl_at hi1, _, rfl, sel_dec (fun hq => ?_) (fun hq => ?_)⟩
              · have hi2 : i.toNat < n.keys.length := by omega
                have hs := kidsB_in (f := fun c lo hi t => below (Hold w) f c (d + 1) lo hi t) (lo := lo) (hi := hi) (t := t') hi2 hik
                rw [show below (Hold w) f n.kids[i.toNat] (d + 1) (fromAt lo n.keys i.toNat) n.keys[i.toNat] t' = below (Hold w) f n.kids[i.toNat] (d + 1) n.keys[(i - 1).toNat] n.keys[i.toNat] t' by rw [ef]] at hs
                obtain ⟨s', g, c1, c2⟩ := tail _ _ hs
                refine ⟨rfl, h0, _, sl_at hi2, _, rfl, _, _, _, _, _, _, _, _, _, _, _, _, g, sel_intro (fun hb => ⟨rfl, s', rfl, c1 hb⟩) (fun hb => ?_)⟩
                exact ⟨rfl, rfl, rfl, rfl, rfl, rfl, rfl, rfl, ⟨by omega, by omega, c2 hb⟩, by first | omega | (dsimp only; omega)⟩
              · have hs := kidsB_end (f := fun c lo hi t => below (Hold w) f c (d + 1) lo hi t) (lo := lo) (hi := hi) (ks := n.keys) (cs := n.kids) (t := t') (i := i.toNat) (by omega) (by omega)
                have hd2 : n.kids.drop (i.toNat + 1) = [] := List.drop_of_length_le (by omega)
                rw [show below (Hold w) f n.kids[i.toNat] (d + 1) (fromAt lo n.keys i.toNat) hi t' = below (Hold w) f n.kids[i.toNat] (d + 1) n.keys[(i - 1).toNat] hi t' by rw [ef]] at hs
                have hs : _ = kidsB (fun c lo hi t => below (Hold w) f c (d + 1) lo hi t) (fromAt lo n.keys (i.toNat + 1)) hi (n.keys.drop (i.toNat + 1)) (n.kids.drop (i.toNat + 1)) _ := hs.trans (by rw [hd2, kidsB_nil])
                obtain ⟨s', g, c1, c2⟩ := tail _ _ hs
                refine ⟨_, _, _, _, _, _, _, _, _, _, _, _, g, sel_intro (fun hb => ⟨rfl, s', rfl, c1 hb⟩) (fun hb => ?_)⟩
                exact ⟨rfl, rfl, rfl, rfl, rfl, rfl, rfl, rfl, ⟨by omega, by omega, c2 hb⟩, by first | omega | (dsimp only; omega)⟩
            · have hi2 : i.toNat < n.keys.length := by
                rcases hok.1.2.2 with ⟨h, _⟩ | ⟨_, _, h, _⟩
                · rw [hl] at h; cases h
                · omega
              have ef : fromAt lo n.keys i.toNat = lo := by rw [fromAt, if_pos (by omega)]
              have hs := kidsB_in (f := fun c lo hi t => below (Hold w) f c (d + 1) lo hi t) (lo := lo) (hi := hi) (t := t') hi2 hik
              rw [show below (Hold w) f n.kids[i.toNat] (d + 1) (fromAt lo n.keys i.toNat) n.keys[i.toNat] t' = below (Hold w) f n.kids[i.toNat] (d + 1) lo n.keys[i.toNat] t' by rw [ef]] at hs
              refine sel_dec (fun hq => ?_) (fun hq => by omega)
              obtain ⟨s', g, c1, c2⟩ := tail _ _ hs
              refine ⟨rfl, h0, _, sl_at hi2, _, rfl, _, _, _, _, _, _, _, _, _, _, _, _, g, sel_intro (fun hb => ⟨rfl, s', rfl, c1 hb⟩) (fun hb => ?_)⟩
              exact ⟨rfl, rfl, rfl, rfl, rfl, rfl, rfl, rfl, ⟨by omega, by omega, c2 hb⟩, by first | omega | (dsimp only; omega)⟩
          · have hd2 : n.kids.drop i.toNat = [] := List.drop_of_length_le (by omega)
            rw [hd2, kidsB_nil] at hinv
            refine ⟨rfl, csOf w.now.length t', by simp only [hC, csOf, htb'], ?_⟩
            rw [hinv]
            exact ⟨rfl, fun _ => rfl⟩
    obtain ⟨r, H', hr', rfl, s', rfl, hs'⟩ := key
    exact ⟨s', hr', hs'⟩
end Go.Proofs.YtmmnobdpccdeoaaGreatDoor.M
