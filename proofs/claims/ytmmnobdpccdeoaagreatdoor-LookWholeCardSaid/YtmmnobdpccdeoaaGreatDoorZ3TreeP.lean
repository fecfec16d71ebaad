import Derived.Test.YtmmnobdpccdeoaaGreatDoorZ3TreeB
import Derived.Test.YtmmnobdpccdeoaaGreatDoorZ3LW
namespace Go.Proofs.YtmmnobdpccdeoaaGreatDoor.M
set_option linter.unusedVariables false
set_option linter.unusedSimpArgs false
open Go Go.Mir
set_option linter.unusedVariables false

/-! The document's tree, on the mirror. -/
theorem p37 (k lo hi : ByteArray) : Runs Fs2 37 [.n (.str k), .n (.str lo), .n (.str hi)] [] (.n (.bool (within k lo hi))) [] := by
  refine vc_eq fs37 rfl ?_
  rw [vc37, V37]
  show sel (!(lt k lo)) _ _
  have e : (hi.toList == (ByteArray.mk (List.toArray [])).toList) = decide (hi = empS) := beq_dec hi empS
  rw [e]
  refine sel_intro (fun h => sel_dec (fun h2 => ?_) (fun h2 => ?_)) (fun h => ?_)
  · rw [within, h, decide_eq_true h2]; rfl
  · rw [within, h, decide_eq_false h2]; rfl
  · rw [within, h]; rfl
theorem nodup_bound : ∀ (N : Nat) (l : List Int), l.Nodup → (∀ b ∈ l, 0 ≤ b ∧ b < N) → l.length ≤ N
  | 0, [], _, _ => Nat.le_refl _
  | 0, b :: l, _, h => by have := h b (by simp); omega
  | N + 1, l, hn, h => by
    by_cases hN : (N : Int) ∈ l
    · have h1 := nodup_bound N (l.erase N) (hn.erase _) (fun b hb => by
        have h2 := h b (List.mem_of_mem_erase hb)
        have h3 : b ≠ N := fun e => by subst e; exact (List.Nodup.mem_erase_iff hn).1 hb |>.1 rfl
        omega)
      have := List.length_erase_of_mem hN
      omega
    · have := nodup_bound N l hn (fun b hb => by
        have h2 := h b hb
        have h3 : b ≠ N := fun e => hN (e ▸ hb)
        omega)
      omega
/-- What is kept on the way. -/
structure TInv (t : TS) : Prop where
  nd : t.bs.Nodup
  rg : ∀ b ∈ t.bs, 0 ≤ b ∧ b < 2048
  ps : t.ps.length ≤ 9 * t.bs.length
theorem TInv.len {t : TS} (h : TInv t) : t.bs.length ≤ 2048 := nodup_bound 2048 t.bs h.nd h.rg
theorem kidsB_inv {f : Int → ByteArray → ByteArray → TS → TS} (ih : ∀ c lo hi t, TInv t → TInv (f c lo hi t)) : ∀ {ks : List ByteArray} {cs : List Int} {lo hi : ByteArray} {t : TS}, TInv t → TInv (kidsB f lo hi ks cs t)
  | _, [], _, _, _, h => by cases ‹List ByteArray› <;> exact h
  | [], c :: cs, lo, hi, t, h => by
    rw [kidsB]; refine kidsB_inv ih ?_
    split
    · exact h
    · exact ih _ _ _ _ h
  | k :: ks, c :: cs, lo, hi, t, h => by
    rw [kidsB]; refine kidsB_inv ih ?_
    split
    · exact h
    · exact ih _ _ _ _ h
theorem TInv.bad {t : TS} (h : TInv t) : TInv { t with bad := true } := ⟨h.nd, h.rg, h.ps⟩
theorem TInv.add {t : TS} (h : TInv t) {b : Int} (hb : b ∉ t.bs) (h0 : 0 ≤ b ∧ b < 2048) {P : List Pr} (hP : P.length ≤ 9) (he : Int) (bad : Bool) : TInv ⟨t.ps ++ P, t.bs ++ [b], he, bad⟩ := by
  refine ⟨List.nodup_append.2 ⟨h.nd, by simp, fun x hx y hy => ?_⟩, fun x hx => ?_, ?_⟩
  · obtain rfl : y = b := by simpa using hy
    rintro rfl; exact hb hx
  · rcases List.mem_append.1 hx with hx | hx
    · exact h.rg x hx
    · obtain rfl : x = b := by simpa using hx
      exact h0
  · have := h.ps
    simp; omega
theorem hold_rg {w : Wd} (hn : w.now.length ≤ 2048) {b : Int} {r : Bool} {n : Nd} (h : Hold w b r = some n) : 10 ≤ b ∧ b < w.now.length ∧ b < w.pages.length := by
  unfold Hold at h
  split at h
  · cases h
  · omega
theorem below_inv {w : Wd} (hn : w.now.length ≤ 2048) : ∀ (f : Nat) (b d : Int) (lo hi : ByteArray) (t : TS), TInv t → TInv (below (Hold w) f b d lo hi t)
  | 0, _, _, _, _, _, h => h.bad
  | f + 1, b, d, lo, hi, t, h => by
    unfold below
    by_cases h1 : b ∈ t.bs ∨ t.bad = true
    · rw [if_pos h1]; exact h.bad
    rw [if_neg h1]
    cases hh : Hold w b (d == 1) with
    | none => exact h.bad
    | some n =>
      dsimp only
      have hrg := hold_rg hn hh
      have hok := hold_ok hh
      by_cases h2 : d > 8 ∨ (n.leaf = true ∧ n.keys = [])
      · rw [if_pos h2]; exact h.bad
      rw [if_neg h2]
      split
      · refine h.add (fun hb => h1 (.inl hb)) (by omega) ?_ _ _
        have := hok.2.1
        rw [List.length_zip]; omega
      · refine kidsB_inv (fun c lo hi t ht => below_inv hn f c (d + 1) lo hi t ht) ?_
        have := h.add (fun hb => h1 (.inl hb)) (b := b) (by omega) (P := []) (by simp) t.he (offK n lo hi)
        simpa using this
def psD (l : List Pr) : List Mir.D := l.map fun p => .rcd [.str p.1, .str p.2]
theorem psD_len (l : List Pr) : (psD l).length = l.length := by simp [psD]
theorem psD_at {l : List Pr} {i : Nat} (h : i < l.length) : (psD l)[i]? = some (.rcd [.str l[i].1, .str l[i].2]) := by simp [psD, h]
theorem psD_snoc (l : List Pr) (k v : ByteArray) : psD l ++ [.rcd [.str k, .str v]] = psD (l ++ [(k, v)]) := by simp [psD]
def hT (t : TS) (va vb : Nat) : Heap := [hB 1700101 [.row 1790001 va, .row 1790002 vb, .n (.int .i64 t.he), .n (.bool t.bad)], hR 1790001 va 51 2 (psD t.ps), hR 1790002 vb 3 1 (il t.bs)]
theorem fromAt_lt {ks : List ByteArray} {i : Nat} (h : i < ks.length) : ks.drop i = ks[i] :: ks.drop (i + 1) := List.drop_eq_getElem_cons h
def fromAt (lo : ByteArray) (ks : List ByteArray) (i : Nat) : ByteArray := if i = 0 then lo else (ks[i - 1]?).getD empS
theorem kidsB_in {f : Int → ByteArray → ByteArray → TS → TS} {lo hi : ByteArray} {ks : List ByteArray} {cs : List Int} {t : TS} {i : Nat} (h1 : i < ks.length) (h2 : i < cs.length) :
    kidsB f (fromAt lo ks i) hi (ks.drop i) (cs.drop i) t = kidsB f (fromAt lo ks (i + 1)) hi (ks.drop (i + 1)) (cs.drop (i + 1)) (if t.bad then t else f cs[i] (fromAt lo ks i) ks[i] t) := by
  rw [List.drop_eq_getElem_cons h1, List.drop_eq_getElem_cons h2, kidsB]
  have e : fromAt lo ks (i + 1) = ks[i] := by
    rw [fromAt, if_neg (by omega), Nat.add_sub_cancel, List.getElem?_eq_getElem h1]; rfl
  rw [e]
theorem kidsB_end {f : Int → ByteArray → ByteArray → TS → TS} {lo hi : ByteArray} {ks : List ByteArray} {cs : List Int} {t : TS} {i : Nat} (h1 : i = ks.length) (h2 : i + 1 = cs.length) :
    kidsB f (fromAt lo ks i) hi (ks.drop i) (cs.drop i) t = (if t.bad then t else f (cs[i]'(by omega)) (fromAt lo ks i) hi t) := by
  rw [List.drop_of_length_le (by omega), List.drop_eq_getElem_cons (by omega : i < cs.length), List.drop_of_length_le (by omega : cs.length ≤ i + 1), kidsB, kidsB]
theorem kidsB_nil {f : Int → ByteArray → ByteArray → TS → TS} (lo hi : ByteArray) (ks : List ByteArray) (t : TS) : kidsB f lo hi ks [] t = t := by cases ks <;> rfl
theorem fromAt_pos {lo : ByteArray} {ks : List ByteArray} {i : Nat} (h : 0 < i) (h2 : i - 1 < ks.length) : fromAt lo ks i = ks[i - 1] := by
  rw [fromAt, if_neg (by omega), List.getElem?_eq_getElem h2]; rfl
set_option maxRecDepth 10000 in
set_option maxHeartbeats 4300000 in
theorem p27 (w : Wd) (hf : WFits w) (hn : w.now.length ≤ 2048) : ∀ (f : Nat) (b d : Int) (lo hi : ByteArray) (t : TS) (va vb : Nat), d + f = 10 → 1 ≤ d → 1 ≤ f → TInv t →
    ∃ va' vb', Runs Fs2 27 [.ptr 1700101 0, wdV w, .n (.int .i64 b), .n (.int .i64 d), .n (.str lo), .n (.str hi)] (hT t va vb) (.tup []) (hT (below (Hold w) f b d lo hi t) va' vb')
  | 0, b, d, lo, hi, t, va, vb, _, _, hf1, _ => by omega
  | f + 1, b, d, lo, hi, t, va, vb, hdf, hd, _, hi' => by
    have g43 := p36 w hf b (d == 1)
    have key : ∃ r H', Runs Fs2 27 [.ptr 1700101 0, wdV w, .n (.int .i64 b), .n (.int .i64 d), .n (.str lo), .n (.str hi)] (hT t va vb) r H' ∧ r = .tup [] ∧ ∃ va' vb', H' = hT (below (Hold w) (f + 1) b d lo hi t) va' vb' := by
      refine vc_objs (R := fun r H' => r = .tup [] ∧ ∃ va' vb', H' = hT (below (Hold w) (f + 1) b d lo hi t) va' vb') fs27 rfl (by kernel_rfl) ?_
      rw [hT, wdV]
      show Vc Fs2 c27.body (argsQ c27 [.ptr 1700101 0, (.agg [.o (.sl 1 (blD w.base)), .o (.sl 1 (blD w.now)), .o (.sl 1 (sl_ w.pages)), .n (.int .i64 w.root), .n (.int .i64 w.gen)]), .n (.int .i64 b), .n (.int .i64 d), .n (.str lo), .n (.str hi)]) [(1700101, .box [.row 1790001 va, .row 1790002 vb, .n (.int .i64 t.he), .n (.bool t.bad)]), (1790001, .row false false va 51 2 (psD t.ps)), (1790002, .row false false vb 3 1 (il t.bs))] (endQH c27 [(1700101, .box [.row 1790001 va, .row 1790002 vb, .n (.int .i64 t.he), .n (.bool t.bad)]), (1790001, .row false false va 51 2 (psD t.ps)), (1790002, .row false false vb 3 1 (il t.bs))] _)
      rw [vc27h, V27h, il_len]
      have hlen := hi'.len
      have hps := hi'.ps
      refine ⟨rfl, fun i S => 0 ≤ i ∧ i ≤ t.bs.length ∧ S = (va, vb, t.he, (t.bad || (t.bs.take i.toNat).contains b), ()), fun i _ => (t.bs.length - i).toNat, ⟨rfl, by omega, by omega, by simp⟩, ?_⟩
      rintro i S ⟨h0, h1, rfl⟩ _
      dsimp only
      refine sel_dec (fun hlt => ?_) (fun hge => ?_)
      · have hi : i.toNat < t.bs.length := by omega
        have e1 : (i + 1).toNat = i.toNat + 1 := by omega
        refine ⟨⟨rfl, rfl⟩, h0, hlt, ⟨rfl, rfl⟩, _, il_at hi, _, rfl, sel_intro (fun hx => ?_) (fun hx => ?_)⟩
        all_goals
          repeat (refine And.intro rfl ?_)
          rw [i64_in _ (by omega)]
          refine ⟨⟨by omega, by omega, ?_⟩, by first | omega | (dsimp only; omega)⟩
          rw [e1, take_snoc hi]
          congr 4
        · have hx : t.bs[i.toNat] = b := by simpa using hx
          simp [hx]
        · have hx : t.bs[i.toNat] ≠ b := by simpa using hx
          have : ¬ b = t.bs[i.toNat] := fun e => hx e.symm
          simp only [List.contains_eq_mem, List.mem_append, List.mem_singleton, this, or_false]
      · rw [List.take_of_length_le (by omega)]
        have bad : below (Hold w) (f + 1) b d lo hi t = { t with bad := true } → ∃ va' vb', ([hB 1700101 [.row 1790001 va, .row 1790002 vb, .n (.int .i64 t.he), .n (.bool true)], hR 1790001 va 51 2 (psD t.ps), hR 1790002 vb 3 1 (il t.bs)] : Heap) = hT (below (Hold w) (f + 1) b d lo hi t) va' vb' := fun e => ⟨va, vb, by rw [e]; rfl⟩
        by_cases hb1 : b ∈ t.bs ∨ t.bad = true
        · have e : (t.bad || t.bs.contains b) = true := by
            rcases hb1 with h | h
            · simp [h]
            · simp [h]
          rw [e]
          have gb := bad (by rw [below, if_pos hb1])
          cases hh : Hold w b (d == 1) with
          | none =>
            rw [hh] at g43
            exact ⟨_, _, _, _, _, g43, sel_intro (fun _ => ⟨rfl, gb⟩) (fun h => by cases h)⟩
          | some n =>
            rw [hh] at g43
            exact ⟨_, _, _, _, _, g43, sel_intro (fun _ => ⟨rfl, gb⟩) (fun h => by cases h)⟩
        have hbn : b ∉ t.bs := fun h => hb1 (.inl h)
        have htb : t.bad = false := by cases h : t.bad with | false => rfl | true => exact absurd (.inr h) hb1
        have e : (t.bad || t.bs.contains b) = false := by simp [hbn, htb]
        rw [e]
        cases hh : Hold w b (d == 1) with
        | none =>
          rw [hh] at g43
          have gb := bad (by rw [below, if_neg hb1, hh])
          exact ⟨_, _, _, _, _, g43, sel_intro (fun h => by cases h) (fun _ => sel_intro (fun _ => ⟨rfl, gb⟩) (fun h => by cases h))⟩
        | some n =>
          rw [hh] at g43
          have hrg := hold_rg hn hh
          have hok := hold_ok hh
          have hk8 := hok.2.1
          have eq : below (Hold w) (f + 1) b d lo hi t = if d > 8 ∨ (n.leaf = true ∧ n.keys = []) then { t with bad := true } else
              if n.leaf then ⟨t.ps ++ n.keys.zip n.vals, t.bs ++ [b], d, offK n lo hi || (t.he != 0 && t.he != d)⟩
              else kidsB (fun c lo hi t => below (Hold w) f c (d + 1) lo hi t) lo hi n.keys n.kids ⟨t.ps, t.bs ++ [b], t.he, offK n lo hi⟩ := by
            rw [below, if_neg hb1, hh]
          refine ⟨_, _, _, _, _, g43, sel_intro (fun h => by cases h) (fun _ => sel_intro (fun h => by cases h) (fun _ => sel_dec (fun h => ⟨rfl, bad (by rw [eq, if_pos (.inl h)])⟩) (fun h8 => ?_)))⟩
          have hsnoc : il t.bs ++ [D.int .i64 b] = il (t.bs ++ [b]) := by simp [il]
          rw [sl_len, il_len, hsnoc]
          have keyrun := fun (k : ByteArray) => p37 k lo hi
          cases hl : n.leaf with
          | true =>
            have hvl : n.vals.length = n.keys.length := by
              rcases hok.1.2.2 with ⟨_, _, h, _⟩ | ⟨h, _⟩
              · exact h
              · rw [hl] at h; cases h
            refine sel_intro (fun _ => sel_intro (fun h => ⟨rfl, bad (by rw [eq, if_pos (.inr ⟨hl, nil_of h⟩)])⟩) (fun hk0 => ?_)) (fun h => by cases h)
            have hk0 : n.keys ≠ [] := fun e => by rw [e] at hk0; simp at hk0
            rw [if_neg (by
              rintro (h | h)
              · exact h8 h
              · exact hk0 h.2), hl, if_pos rfl] at eq
            have hsm : ((t.bs.length + 1) * 8 : Nat) ≤ 140737488355328 := by omega
            refine ⟨rfl, .inl rfl, ⟨⟨rfl, rfl⟩, rfl⟩, by simpa [il_len] using hsm, fun i S Q => 0 ≤ i ∧ i ≤ n.keys.length ∧ ∃ va', S = (va', vb + 1, t.he, (n.keys.take i.toNat).any (fun k => !(within k lo hi)), ()) ∧ Q = (va', psD (t.ps ++ (n.keys.zip n.vals).take i.toNat)), fun i _ _ => (n.keys.length - i).toNat, ⟨rfl, by omega, by omega, va, by simp, by simp⟩, ?_⟩
            rintro i S Q ⟨h0, h1, va', rfl, rfl⟩ _
            dsimp only
            refine sel_dec (fun hlt => ?_) (fun hge => ?_)
            · have hi : i.toNat < n.keys.length := by omega
              have hv : i.toNat < n.vals.length := by omega
              have hz : i.toNat < (n.keys.zip n.vals).length := by rw [List.length_zip]; omega
              have e1 : (i + 1).toNat = i.toNat + 1 := by omega
              have hq : psD (t.ps ++ (n.keys.zip n.vals).take i.toNat) ++ [D.rcd [.str n.keys[i.toNat], .str n.vals[i.toNat]]] = psD (t.ps ++ (n.keys.zip n.vals).take (i.toNat + 1)) := by
                rw [psD_snoc, take_snoc hz, List.getElem_zip, List.append_assoc]
              have hb : (psD (t.ps ++ (n.keys.zip n.vals).take i.toNat)).length + 1 ≤ 4398046511104 := by
                rw [psD_len, List.length_append, List.length_take, List.length_zip]; omega
              refine ⟨rfl, h0, _, sl_at hi, _, rfl, _, keyrun _, sel_intro (fun hx => ?_) (fun hx => ?_)⟩
              all_goals
                refine sel_intro (fun _ => ⟨rfl, h0, _, sl_at hv, _, rfl, rfl, .inl rfl, ⟨⟨rfl, rfl⟩, rfl⟩, by simp only [List.length_singleton]; omega, ?_⟩) (fun h => by cases h)
                repeat (refine And.intro rfl ?_)
                rw [i64_in _ (by omega), hq]
                refine ⟨⟨by omega, by omega, va' + 1, ?_, by rw [e1]⟩, by first | omega | (dsimp only; omega)⟩
                rw [e1, take_snoc hi, List.any_append]
              · simp only [hx, List.any_cons, List.any_nil, Bool.or_true, Bool.or_false]
              · simp only [hx, List.any_cons, List.any_nil, Bool.or_false]
            · have hge2 : n.keys.length ≤ i.toNat := by omega
              have hge3 : (n.keys.zip n.vals).length ≤ i.toNat := by rw [List.length_zip]; omega
              rw [List.take_of_length_le hge2, List.take_of_length_le hge3]
              refine sel_intro (fun _ => ?_) (fun h => by cases h)
              have ea : n.keys.any (fun k => !(within k lo hi)) = offK n lo hi := rfl
              rw [ea]
              refine sel_intro (fun h1 => sel_intro (fun h2 => ⟨rfl, va', vb + 1, ?_⟩) (fun h2 => ⟨rfl, va', vb + 1, ?_⟩)) (fun h1 => ⟨rfl, va', vb + 1, ?_⟩)
              · rw [eq, h1, h2]; simp [hT]
              · rw [eq, h1, h2]; simp [hT]
              · rw [eq, h1]; simp [hT]
          | false =>
            refine sel_intro (fun h => by cases h) (fun _ => ?_)
            rw [if_neg (by
              rintro (h | h)
              · exact h8 h
              · rw [hl] at h; cases h.1), hl, if_neg (by simp)] at eq
            have hkl : n.kids.length = n.keys.length + 1 := by
              rcases hok.1.2.2 with ⟨h, _⟩ | ⟨_, _, _, h, _⟩
              · rw [hl] at h; cases h
              · exact h
            have hsm : ((t.bs.length + 1) * 8 : Nat) ≤ 140737488355328 := by omega
            refine ⟨rfl, .inl rfl, ⟨⟨rfl, rfl⟩, rfl⟩, by simpa [il_len] using hsm, fun i S Q => 0 ≤ i ∧ i ≤ n.keys.length ∧ S = (va, vb + 1, t.he, (n.keys.take i.toNat).any (fun k => !(within k lo hi)), ()) ∧ Q = (va, psD t.ps), fun i _ _ => (n.keys.length - i).toNat, ⟨rfl, by omega, by omega, by simp, rfl⟩, ?_⟩
            rintro i S Q ⟨h0, h1, rfl, rfl⟩ _
            dsimp only
            refine sel_dec (fun hlt => ?_) (fun hge => ?_)
            · have hi : i.toNat < n.keys.length := by omega
              have e1 : (i + 1).toNat = i.toNat + 1 := by omega
              refine ⟨rfl, h0, _, sl_at hi, _, rfl, _, keyrun _, sel_intro (fun hx => ?_) (fun hx => ?_)⟩
              all_goals
                refine sel_intro (fun h => by cases h) (fun _ => ?_)
                repeat (refine And.intro rfl ?_)
                rw [i64_in _ (by omega)]
                refine ⟨⟨by omega, by omega, ?_, rfl⟩, by first | omega | (dsimp only; omega)⟩
                rw [e1, take_snoc hi, List.any_append]
              · simp only [hx, List.any_cons, List.any_nil, Bool.or_true, Bool.or_false]
              · simp only [hx, List.any_cons, List.any_nil, Bool.or_false]
            · rw [List.take_of_length_le (by omega)]
              refine sel_intro (fun h => by cases h) (fun _ => ?_)
              have hst : TInv ⟨t.ps, t.bs ++ [b], t.he, offK n lo hi⟩ := by
                have := hi'.add hbn (b := b) (by omega) (P := []) (by simp) t.he (offK n lo hi)
                simpa using this
              refine ⟨fun i S Q Bq => 0 ≤ i ∧ i ≤ n.kids.length ∧ ∃ (t' : TS) (va' vb' : Nat), TInv t' ∧ S = (va', vb', t'.he, t'.bad, ()) ∧ Q = (va', psD t'.ps) ∧ Bq = (vb', il t'.bs) ∧ below (Hold w) (f + 1) b d lo hi t = kidsB (fun c lo hi t => below (Hold w) f c (d + 1) lo hi t) (fromAt lo n.keys i.toNat) hi (n.keys.drop i.toNat) (n.kids.drop i.toNat) t', fun i _ _ _ => (n.kids.length - i).toNat,
                ⟨rfl, by omega, by omega, ⟨t.ps, t.bs ++ [b], t.he, offK n lo hi⟩, va, vb + 1, hst, rfl, rfl, rfl, eq⟩, ?_⟩
              rintro i S Q Bq ⟨h0, h1, t', va', vb', ht', rfl, rfl, rfl, hinv⟩ _
              dsimp only
              rw [i64_in (d + 1) (by omega), i64_in (i - 1) (by omega), i64_in (i + 1) (by omega)]
              have e1 : (i + 1).toNat = i.toNat + 1 := by omega
              have e2 : (i - 1).toNat = i.toNat - 1 := by omega
              refine sel_dec (fun hlt => ?_) (fun hge => ?_)
              · have hik : i.toNat < n.kids.length := by omega
                have tail : ∀ (fr tl : ByteArray), kidsB (fun c lo hi t => below (Hold w) f c (d + 1) lo hi t) (fromAt lo n.keys i.toNat) hi (n.keys.drop i.toNat) (n.kids.drop i.toNat) t' = kidsB (fun c lo hi t => below (Hold w) f c (d + 1) lo hi t) (fromAt lo n.keys (i.toNat + 1)) hi (n.keys.drop (i.toNat + 1)) (n.kids.drop (i.toNat + 1)) (if t'.bad then t' else below (Hold w) f n.kids[i.toNat] (d + 1) fr tl t') →
                    t'.bad = false → ∃ va'' vb'', Runs Fs2 27 [.ptr 1700101 0, wdV w, .n (.int .i64 n.kids[i.toNat]), .n (.int .i64 (d + 1)), .n (.str fr), .n (.str tl)] (hT t' va' vb') (.tup []) (hT (below (Hold w) f n.kids[i.toNat] (d + 1) fr tl t') va'' vb'') ∧
                      ∃ (t'' : TS) (a c : Nat), TInv t'' ∧ (va'', vb'', (below (Hold w) f n.kids[i.toNat] (d + 1) fr tl t').he, (below (Hold w) f n.kids[i.toNat] (d + 1) fr tl t').bad, ()) = (a, c, t''.he, t''.bad, ()) ∧ (va'', psD (below (Hold w) f n.kids[i.toNat] (d + 1) fr tl t').ps) = (a, psD t''.ps) ∧ (vb'', il (below (Hold w) f n.kids[i.toNat] (d + 1) fr tl t').bs) = (c, il t''.bs) ∧ below (Hold w) (f + 1) b d lo hi t = kidsB (fun c lo hi t => below (Hold w) f c (d + 1) lo hi t) (fromAt lo n.keys (i + 1).toNat) hi (n.keys.drop (i + 1).toNat) (n.kids.drop (i + 1).toNat) t'' := fun fr tl hs hb => by
                  obtain ⟨va'', vb'', g⟩ := p27 w hf hn f n.kids[i.toNat] (d + 1) fr tl t' va' vb' (by omega) (by omega) (by omega) ht'
                  refine ⟨va'', vb'', g, _, va'', vb'', below_inv hn f _ (d + 1) fr tl t' ht', rfl, rfl, rfl, ?_⟩
                  rw [hinv, hs, hb, e1]; rfl
                have skip : ∀ (fr tl : ByteArray), kidsB (fun c lo hi t => below (Hold w) f c (d + 1) lo hi t) (fromAt lo n.keys i.toNat) hi (n.keys.drop i.toNat) (n.kids.drop i.toNat) t' = kidsB (fun c lo hi t => below (Hold w) f c (d + 1) lo hi t) (fromAt lo n.keys (i.toNat + 1)) hi (n.keys.drop (i.toNat + 1)) (n.kids.drop (i.toNat + 1)) (if t'.bad then t' else below (Hold w) f n.kids[i.toNat] (d + 1) fr tl t') →
                    t'.bad = true → ∃ (t'' : TS) (a c : Nat), TInv t'' ∧ (va', vb', t'.he, t'.bad, ()) = (a, c, t''.he, t''.bad, ()) ∧ (va', psD t'.ps) = (a, psD t''.ps) ∧ (vb', il t'.bs) = (c, il t''.bs) ∧ below (Hold w) (f + 1) b d lo hi t = kidsB (fun c lo hi t => below (Hold w) f c (d + 1) lo hi t) (fromAt lo n.keys (i + 1).toNat) hi (n.keys.drop (i + 1).toNat) (n.kids.drop (i + 1).toNat) t'' := fun fr tl hs hb => by
                  refine ⟨t', va', vb', ht', rfl, rfl, rfl, ?_⟩
                  rw [hinv, hs, hb, e1]; rfl
                refine ⟨rfl, h0, _, il_at hik, _, rfl, sel_dec (fun hp => ?_) (fun hp => ?_)⟩
                · have hi1 : (i - 1).toNat < n.keys.length := by omega
                  have ef : fromAt lo n.keys i.toNat = n.keys[(i - 1).toNat] := by
                    rw [fromAt_pos (by omega) (by omega)]
                    congr 1; omega
                  refine ⟨rfl, by omega, _, sl_at hi1, _, rfl, sel_dec (fun hq => ?_) (fun hq => ?_)⟩
                  · have hi2 : i.toNat < n.keys.length := by omega
                    have hs := kidsB_in (f := fun c lo hi t => below (Hold w) f c (d + 1) lo hi t) (lo := lo) (hi := hi) (t := t') hi2 hik
                    have hs' := hs
                    rw [show below (Hold w) f n.kids[i.toNat] (d + 1) (fromAt lo n.keys i.toNat) n.keys[i.toNat] t' = below (Hold w) f n.kids[i.toNat] (d + 1) n.keys[(i - 1).toNat] n.keys[i.toNat] t' by rw [ef]] at hs
                    refine ⟨rfl, h0, _, sl_at hi2, _, rfl, sel_intro (fun hb => ?_) (fun hb => ?_)⟩
                    · obtain ⟨va'', vb'', g, hx⟩ := tail _ _ hs (by simpa using hb)
                      exact ⟨_, _, _, _, _, _, _, _, g, rfl, rfl, rfl, rfl, rfl, rfl, rfl, rfl, rfl, ⟨by omega, by omega, hx⟩, by first | omega | (dsimp only; omega)⟩
                    · have hx := skip _ _ hs (by simpa using hb)
                      exact ⟨rfl, rfl, rfl, rfl, rfl, rfl, rfl, rfl, rfl, ⟨by omega, by omega, hx⟩, by first | omega | (dsimp only; omega)⟩
                  · have hs := kidsB_end (f := fun c lo hi t => below (Hold w) f c (d + 1) lo hi t) (lo := lo) (hi := hi) (ks := n.keys) (cs := n.kids) (t := t') (i := i.toNat) (by omega) (by omega)
                    have hd2 : n.kids.drop (i.toNat + 1) = [] := List.drop_of_length_le (by omega)
                    rw [show below (Hold w) f n.kids[i.toNat] (d + 1) (fromAt lo n.keys i.toNat) hi t' = below (Hold w) f n.kids[i.toNat] (d + 1) n.keys[(i - 1).toNat] hi t' by rw [ef]] at hs
                    have hs : _ = kidsB (fun c lo hi t => below (Hold w) f c (d + 1) lo hi t) (fromAt lo n.keys (i.toNat + 1)) hi (n.keys.drop (i.toNat + 1)) (n.kids.drop (i.toNat + 1)) _ := hs.trans (by rw [hd2, kidsB_nil])
                    refine sel_intro (fun hb => ?_) (fun hb => ?_)
                    · obtain ⟨va'', vb'', g, hx⟩ := tail _ _ hs (by simpa using hb)
                      exact ⟨_, _, _, _, _, _, _, _, g, rfl, rfl, rfl, rfl, rfl, rfl, rfl, rfl, rfl, ⟨by omega, by omega, hx⟩, by first | omega | (dsimp only; omega)⟩
                    · have hx := skip _ _ hs (by simpa using hb)
                      exact ⟨rfl, rfl, rfl, rfl, rfl, rfl, rfl, rfl, rfl, ⟨by omega, by omega, hx⟩, by first | omega | (dsimp only; omega)⟩
                · have hi2 : i.toNat < n.keys.length := by
                    rcases hok.1.2.2 with ⟨h, _⟩ | ⟨_, _, h, _⟩
                    · rw [hl] at h; cases h
                    · omega
                  have ef : fromAt lo n.keys i.toNat = lo := by rw [fromAt, if_pos (by omega)]
                  have hs := kidsB_in (f := fun c lo hi t => below (Hold w) f c (d + 1) lo hi t) (lo := lo) (hi := hi) (t := t') hi2 hik
                  rw [show below (Hold w) f n.kids[i.toNat] (d + 1) (fromAt lo n.keys i.toNat) n.keys[i.toNat] t' = below (Hold w) f n.kids[i.toNat] (d + 1) lo n.keys[i.toNat] t' by rw [ef]] at hs
                  refine sel_dec (fun hq => ?_) (fun hq => by omega)
                  refine ⟨rfl, h0, _, sl_at hi2, _, rfl, sel_intro (fun hb => ?_) (fun hb => ?_)⟩
                  · obtain ⟨va'', vb'', g, hx⟩ := tail _ _ hs (by simpa using hb)
                    exact ⟨_, _, _, _, _, _, _, _, g, rfl, rfl, rfl, rfl, rfl, rfl, rfl, rfl, rfl, ⟨by omega, by omega, hx⟩, by first | omega | (dsimp only; omega)⟩
                  · have hx := skip _ _ hs (by simpa using hb)
                    exact ⟨rfl, rfl, rfl, rfl, rfl, rfl, rfl, rfl, rfl, ⟨by omega, by omega, hx⟩, by first | omega | (dsimp only; omega)⟩
              · have hd2 : n.kids.drop i.toNat = [] := List.drop_of_length_le (by omega)
                rw [hd2, kidsB_nil] at hinv
                refine ⟨rfl, va', vb', ?_⟩
                rw [hinv]; rfl
    obtain ⟨r, H', hr, rfl, va', vb', rfl⟩ := key
    exact ⟨va', vb', hr⟩
end Go.Proofs.YtmmnobdpccdeoaaGreatDoor.M
