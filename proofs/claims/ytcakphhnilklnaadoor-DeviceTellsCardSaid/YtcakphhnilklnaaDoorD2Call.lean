import Derived.Test.YtcakphhnilklnaaDoorD2FunY
namespace Go.Proofs.YtcakphhnilklnaaDoor.M
set_option linter.unusedVariables false
set_option linter.unusedSimpArgs false
open Go Go.Mir
set_option linter.unusedVariables false

theorem tellS_snoc (b : List ByteArray) (p : List Wr) (w : Wr) (i : Int) : TellS b (p ++ [w]) i = if w.1 = i then w.2.1 else TellS b p i := by
  unfold TellS
  rw [List.reverse_append, List.reverse_singleton, List.singleton_append, List.find?_cons]
  by_cases h : w.1 = i
  · rw [decide_eq_true h, if_pos h]
  · rw [decide_eq_false h, if_neg h]
theorem tellS_nil (b : List ByteArray) (i : Int) : TellS b [] i = (b[i.toNat]?).getD noS := rfl
theorem take_succ_eq {α : Type} {l : List α} {k : Nat} (h : k < l.length) : l.take (k + 1) = l.take k ++ [l[k]] := by
  rw [List.take_add_one, List.getElem?_eq_getElem h]; rfl
theorem p27 (b : List ByteArray) (p : List Wr) (i : Int) (h0 : 0 ≤ i) (h1 : i < b.length) (hp : p.length ≤ 2048) : Runs Fs 27 [Dev b p, .n (.int .i64 i)] [] (.n (.str (TellS b p i))) [] := by
  refine vc_eq fs27 rfl ?_
  rw [Dev, vc27, V27, pk_len]
  have hi : i.toNat < b.length := by omega
  refine ⟨rfl, h0, _, bk_at hi, _, rfl, fun s k => 0 ≤ k ∧ k ≤ p.length ∧ s = TellS b (p.take k.toNat) i, fun s k => (p.length - k).toNat, ⟨rfl, by omega, by omega, ?_⟩, ?_⟩
  · show b[i.toNat] = TellS b (p.take 0) i
    rw [List.take_zero, tellS_nil, List.getElem?_eq_getElem hi]; rfl
  rintro s k ⟨hk0, hk1, rfl⟩ _
  refine sel_dec (fun h => ?_) (fun h => ?_)
  · have hk : k.toNat < p.length := by omega
    have hs := tellS_snoc b (p.take k.toNat) p[k.toNat] i
    rw [← take_succ_eq hk] at hs
    refine ⟨rfl, hk0, _, pk_at hk, _, _, rfl, Nat.le_refl _, sel_intro (fun he => ?_) (fun he => ?_)⟩
    · repeat (refine And.intro rfl ?_)
      rw [i64_in _ (by omega)]
      refine ⟨⟨by omega, by omega, ?_⟩, by first | omega | (dsimp only; omega)⟩
      rw [show (k + 1).toNat = k.toNat + 1 by omega, hs, if_pos (by simpa using he)]
    · repeat (refine And.intro rfl ?_)
      rw [i64_in _ (by omega)]
      refine ⟨⟨by omega, by omega, ?_⟩, by first | omega | (dsimp only; omega)⟩
      rw [show (k + 1).toNat = k.toNat + 1 by omega, hs, if_neg (fun e => by rw [e] at he; simp at he)]
  · rw [List.take_of_length_le (by omega)]
def nwW (i : Int) (s : ByteArray) : Wr := (i, TrimS s, ())
theorem pk_snoc (p : List Wr) (w : Wr) : pk p ++ [.rcd [.int .i64 w.1, .str w.2.1]] = pk (p ++ [w]) := by simp [pk]
set_option maxRecDepth 4000 in
theorem p28 (b : List ByteArray) (p : List Wr) (i : Int) (s : ByteArray) (hp : p.length ≤ 2048) (hs : (s.size : Int) ≤ 9223372036854775807) : Runs Fs 28 [Dev b p, .n (.int .i64 i), .n (.str s)] [] (Dev b (p ++ [nwW i s])) [] := by
  refine vc_eq fs28 rfl ?_
  rw [Dev, vc28, V28, pk_len]
  refine ⟨fun k x r => 0 ≤ k ∧ k ≤ p.length ∧ x.1 = bk b ∧ r.1 = x.2.1 ∧ r.2 = pk (p.take k.toNat), fun k x r => (p.length - k).toNat, ⟨rfl, by omega, by omega, rfl, rfl, rfl⟩, ?_⟩
  rintro k ⟨xb, xv, u⟩ ⟨rv, rl⟩ ⟨hk0, hk1, hx, hv, hr⟩ _
  dsimp only at hx hv hr ⊢
  subst hx hv hr
  refine sel_dec (fun h => ?_) (fun h => ?_)
  · have hk : k.toNat < p.length := by omega
    refine ⟨rfl, hk0, _, pk_at hk, _, _, rfl, Nat.le_refl _, rfl, .inl rfl, ⟨⟨rfl, rfl⟩, rfl⟩, ?_, ?_⟩
    · rw [pk_len, List.length_take]; simp only [List.length_singleton]; omega
    repeat (refine And.intro rfl ?_)
    rw [i64_in _ (by omega), pk_snoc, ← take_succ_eq hk]
    exact ⟨⟨by omega, by omega, rfl, rfl, by rw [show (k + 1).toNat = k.toNat + 1 by omega]⟩, by first | omega | (dsimp only; omega)⟩
  · rw [List.take_of_length_le (by omega)]
    refine ⟨_, p41 s hs, rfl, .inl rfl, ⟨⟨rfl, rfl⟩, rfl⟩, ?_, rfl, ?_⟩
    · rw [pk_len]; simp only [List.length_singleton]; omega
    · have := pk_snoc p (nwW i s)
      rw [nwW] at this
      dsimp only at this
      rw [this]; rfl
theorem clone47 (p : List Wr) (h : p.length ≤ 2048) : Runs Fs 47 [.o (.sl 2 (pk p))] [] (.row 4700001 0) [(4700001, .row false false 0 43 2 (pk p))] :=
  clone_runs fs47 _ (by rw [pk_len]; omega)
def WriteR (b : List ByteArray) (p : List Wr) (i : Int) (s : ByteArray) : AV :=
  if CheckE b p i ≠ 0 then .tup [Dev [] [], .n (.int .i64 (CheckE b p i))] else if 4096 < s.size ∨ 2048 ≤ p.length then .tup [Dev [] [], .n (.int .i64 2)] else .tup [Dev b (p ++ [nwW i s]), .n (.int .i64 0)]
theorem p25 (b : List ByteArray) (p : List Wr) (i : Int) (s : ByteArray) (hf : Fits b p) (hs : (s.size : Int) ≤ 9223372036854775807) : Runs Fs 25 [Dev b p, .n (.int .i64 i), .n (.str s)] [] (WriteR b p i s) [] := by
  refine vc_eq fs25 rfl ?_
  rw [Dev, vc25, V25, pk_len]
  have h45 := p45 b p i hf
  refine ⟨_, h45, sel_intro (fun h => by rw [WriteR, if_pos (by simpa using h)]; rfl) (fun h => ?_)⟩
  have h : ¬ CheckE b p i ≠ 0 := by simpa using h
  refine sel_dec (fun h1 => by rw [WriteR, if_neg h, if_pos (by omega)]; rfl) (fun h1 => ?_)
  refine sel_dec (fun h2 => by rw [WriteR, if_neg h, if_pos (by omega)]; rfl) (fun h2 => ?_)
  refine ⟨_, _, clone47 p (by omega), _, p39 s hs, rfl, .inl rfl, ⟨⟨rfl, rfl⟩, rfl⟩, ?_, rfl, ?_⟩
  · rw [pk_len]; simp only [List.length_singleton]; omega
  · rw [WriteR, if_neg h, if_neg (by omega)]
    have := pk_snoc p (nwW i s)
    rw [nwW] at this
    dsimp only at this
    rw [this]; rfl
def FlushR (b : List ByteArray) (p : List Wr) : AV := if Rt b p then .tup [Dev (CrL (fun _ => 255) b p p.length) [], .n (.int .i64 0)] else .tup [Dev [] [], .n (.int .i64 1)]
theorem p26 (b : List ByteArray) (p : List Wr) (hf : Fits b p) : Runs Fs 26 [Dev b p] [] (FlushR b p) [] := by
  refine vc_eq fs26 rfl ?_
  rw [Dev, vc26]
  refine ⟨_, p16 b p hf, sel_intro (fun h => ?_) (fun h => ?_)⟩
  · rw [FlushR, if_neg (by simpa using h)]; rfl
  · have h : Rt b p = true := by simpa using h
    refine ⟨_, _, p43f b p (ok_of hf h), ?_⟩
    rw [FlushR, if_pos h]; rfl
theorem mk_all : mk true [] = fun _ => 255 := funext fun k => if_pos rfl
theorem noS_eq : ((noS.toList == (ByteArray.mk (List.toArray [])).toList)) = true := by rw [beq_dec]; rfl
theorem readR_bad {b : List ByteArray} {p : List Wr} {i c : Int} (h : CheckE b p i = c) (hc : c ≠ 0) : ReadR b p i = .tup [.n (.str noS), .n (.int .i64 c)] := by
  rw [ReadR, h, if_neg hc]
theorem readR_ok {b : List ByteArray} {p : List Wr} {i : Int} (h : CheckE b p i = 0) : ReadR b p i = .tup [.n (.str (TellS b p i)), .n (.int .i64 0)] := by
  rw [ReadR, h, if_pos rfl]
theorem p24 (b : List ByteArray) (p : List Wr) (i : Int) (h : Fits b p) : Runs Fs2 24 [Dev b p, .n (.int .i64 i)] [] (ReadR b p i) [] := read_runs fs24 b p i h
theorem fits_push {b : List ByteArray} {p : List Wr} {i : Int} {s : ByteArray} (hf : Fits b p) (hp : p.length < 2048) (hs : s.size ≤ 4096) : Fits b (p ++ [nwW i s]) := by
  refine ⟨hf.bl, by simp; omega, hf.bs, fun x hx => ?_⟩
  rcases List.mem_append.1 hx with hx | hx
  · exact hf.ps x hx
  · obtain rfl := List.mem_singleton.1 hx
    have := trimS_size s
    show (TrimS s).size ≤ _
    omega
set_option maxRecDepth 4000 in
theorem p8 (b0 : List ByteArray) (p0 : List Wr) (i : Int) (s : ByteArray) (hf0 : Fits b0 p0) (hs : (s.size : Int) ≤ 9223372036854775807) : Runs Fs2 8 [Dev b0 p0, .n (.int .i64 i), .n (.str s)] [] (.n (.bool true)) [] := by
  refine vc_eq fs8 rfl ?_
  have hf := fits_few hf0
  have h12 := (p12 b0 p0).up up2
  rw [Dev, vc8, V8]
  generalize fewB b0 = b at *
  generalize fewP p0 = p at *
  have h24 := p24 b p i hf
  have h25 := (p25 b p i s hf hs).up up2
  have h26 := (p26 b p hf).up up2
  have h17 := (p17 b p hf).up up2
  have h15 := p15.up up2
  by_cases hr : Rt b p = true
  · have hok := ok_of hf hr
    rw [FlushR, if_pos hr] at h26
    rw [hr] at h17
    have h23 := (p23 b p true [] hok).up up2
    rw [mk_all] at h23
    have h14 := (p14 _ _ _ _ (fits_cr hok (fun _ => 255) p.length) (fits_cr hok (fun _ => 255) p.length)).up up2
    rw [lk_self] at h14
    by_cases hi : i < 0 ∨ (b.length : Int) ≤ i
    · have hc : CheckE b p i = 30 := by rw [CheckE, if_neg (by rw [hr]; simp), if_pos hi]
      rw [readR_bad hc (by decide)] at h24
      rw [WriteR, hc, if_pos (by decide)] at h25
      refine ⟨_, _, h12, _, _, h24, _, _, _, h25, _, _, _, h26, _, h17, _, _, h23, _, h14, ?_⟩
      rw [bk_len b]
      have fin : sel true (sel ((30 : Int) == 30) (sel ((30 : Int) == 30) (sel (noS.toList == (ByteArray.mk (List.toArray [])).toList) (AV.n (D.bool (((([] : List Mir.D).length : Nat) : Int) == 0)) = AV.n (D.bool true)) (AV.n (D.bool false) = AV.n (D.bool true))) (AV.n (D.bool false) = AV.n (D.bool true))) (AV.n (D.bool false) = AV.n (D.bool true))) (AV.n (D.bool false) = AV.n (D.bool true)) :=
        sel_intro (fun _ => sel_beq (sel_beq (by rw [noS_eq]; rfl))) (fun h => by cases h)
      exact sel_dec (fun h => ⟨_, h15, fin⟩) (fun h => sel_dec (fun h2 => ⟨_, h15, fin⟩) (fun h2 => by omega))
    · have hc : CheckE b p i = 0 := by rw [CheckE, if_neg (by rw [hr]; simp), if_neg hi]
      rw [readR_ok hc] at h24
      have h27 := (p27 b p i (by omega) (by omega) hok.pl).up up2
      by_cases hl : 4096 < s.size ∨ 2048 ≤ p.length
      · rw [WriteR, hc, if_neg (by simp), if_pos hl] at h25
        refine ⟨_, _, h12, _, _, h24, _, _, _, h25, _, _, _, h26, _, h17, _, _, h23, _, h14, ?_⟩
        rw [bk_len b, pk_len p]
        refine sel_dec (fun h => by omega) (fun h => sel_dec (fun h2 => by omega) (fun h2 => ⟨_, h27, ?_⟩))
        refine sel_nb (fun h => absurd rfl h) (fun _ => sel_dec (fun h3 => ⟨_, h15, rfl⟩) (fun h3 => sel_dec (fun h4 => ⟨_, h15, rfl⟩) (fun h4 => by omega)))
      · rw [WriteR, hc, if_neg (by simp), if_neg hl] at h25
        have h28 := (p28 b p i s hok.pl hs).up up2
        have hfp := fits_push (i := i) (s := s) hf (by omega) (by omega)
        have h14b := (p14 _ _ _ _ hfp hfp).up up2
        rw [lk_self] at h14b
        refine ⟨_, _, h12, _, _, h24, _, _, _, h25, _, _, _, h26, _, h17, _, _, h23, _, h14, ?_⟩
        rw [bk_len b, pk_len p]
        refine sel_dec (fun h => by omega) (fun h => sel_dec (fun h2 => by omega) (fun h2 => ⟨_, h27, ?_⟩))
        refine sel_nb (fun h => absurd rfl h) (fun _ => sel_dec (fun h3 => by omega) (fun h3 => sel_dec (fun h4 => by omega) (fun h4 => ⟨_, h15, _, _, h28, _, h14b, rfl⟩)))
  · have hr' : Rt b p = false := by simpa using hr
    have hc : CheckE b p i = 1 := by rw [CheckE, if_pos hr']
    rw [readR_bad hc (by decide)] at h24
    rw [WriteR, hc, if_pos (by decide)] at h25
    rw [FlushR, if_neg hr] at h26
    rw [hr'] at h17
    refine ⟨_, _, h12, _, _, h24, _, _, _, h25, _, _, _, h26, _, h17, _, h15, sel_intro (fun _ => sel_beq (sel_beq (sel_beq ?_))) (fun h => by cases h)⟩
    rw [noS_eq]; rfl
theorem crL_congr {f g : Nat → Int} (b : List ByteArray) (p : List Wr) : ∀ n, (∀ k, k < n → f k = g k) → CrL f b p n = CrL g b p n
  | 0, _ => rfl
  | n + 1, h => by
    rw [CrL, CrL, crL_congr b p n (fun k hk => h k (by omega)), h n (by omega)]
theorem mix_255 (a s : ByteArray) (h : s.size ≤ 4096) : MixS a s 255 = TrimS s := by
  refine tm_ext (mix_trim a s 255) (by rw [trimS_trimmed]; exact trimmed_self) fun k => ?_
  rw [mix_at, trimS_trimmed, trimmed_at]
  by_cases hk : k < 4096
  · rw [if_pos hk, bt_all _ (by omega), if_pos rfl]; rfl
  · rw [if_neg hk]
    exact (at_none (s := s) (by omega)).symm
theorem tm_T {s : ByteArray} (h : Tm s = true) : TrimS s = s ∧ s.size ≤ 4096 := by
  rw [Tm, Bool.and_eq_true, decide_eq_true_iff, decide_eq_true_iff] at h
  exact ⟨h.2, by omega⟩
/-- Behind a flush each block holds what it told. -/
theorem crL_tells {b : List ByteArray} {p : List Wr} (h : Rt b p = true) : ∀ n, n ≤ p.length → ∀ i : Nat, i < b.length → (CrL (fun _ => 255) b p n)[i]? = some (TellS b (p.take n) i)
  | 0, _, i, hi => by
    rw [List.take_zero, tellS_nil]
    show b[i]? = some (b[(i : Int).toNat]?.getD noS)
    rw [show (i : Int).toNat = i by omega, List.getElem?_eq_getElem hi]; rfl
  | n + 1, hn, i, hi => by
    obtain ⟨h1, h2, h3⟩ := rt_tms h
    have hW := h3 _ (List.getElem_mem (by omega : n < p.length))
    rw [Wm, Bool.and_eq_true, Bool.and_eq_true, decide_eq_true_iff, decide_eq_true_iff] at hW
    have ih := crL_tells h n (by omega) i hi
    rw [crL_succ _ _ _ _ (by omega) (by omega), take_succ_eq (by omega : n < p.length), tellS_snoc]
    obtain ⟨t1, t2⟩ := tm_T hW.2.2
    rw [mix_255 _ _ t2, t1]
    by_cases he : p[n].1 = (i : Int)
    · rw [if_pos he, show p[n].1.toNat = i by omega, List.getElem?_set_self (by rw [crL_len]; exact hi)]
    · rw [if_neg he, List.getElem?_set_ne (by omega)]
      exact ih
theorem crL_tells' {b : List ByteArray} {p : List Wr} (h : Rt b p = true) (i : Int) (h0 : 0 ≤ i) (hi : i < b.length) : (CrL (fun _ => 255) b p p.length)[i.toNat]? = some (TellS b p i) := by
  have := crL_tells h p.length (Nat.le_refl _) i.toNat (by omega)
  rw [List.take_of_length_le (Nat.le_refl _)] at this
  rw [this, show ((i.toNat : Nat) : Int) = i by omega]
theorem ml_rep (n : Nat) (x : Int) : List.replicate n (Mir.D.int .i64 x) = ml (List.replicate n x) := by simp [ml]
theorem ml_set (l : List Int) (i : Nat) (x : Int) : (ml l).set i (.int .i64 x) = ml (l.set i x) := by simp [ml, List.map_set]
theorem set_rep (n i : Nat) (h : i < n) : (List.replicate i (255 : Int) ++ List.replicate (n - i) 0).set i 255 = List.replicate (i + 1) 255 ++ List.replicate (n - (i + 1)) 0 := by
  refine List.ext_getElem? fun k => ?_
  by_cases hk : k = i
  · subst hk
    rw [List.getElem?_set_self (by simp; omega), List.getElem?_append_left (by simp)]
    simp
  · rw [List.getElem?_set_ne (fun e => hk e.symm)]
    by_cases h1 : k < i
    · rw [List.getElem?_append_left (by simp; omega), List.getElem?_append_left (by simp; omega)]
      simp [List.getElem?_replicate, h1, Nat.lt_succ_of_lt h1]
    · rw [List.getElem?_append_right (by simp; omega), List.getElem?_append_right (by simp; omega)]
      simp only [List.length_replicate, List.getElem?_replicate]
      by_cases h2 : k < n
      · rw [if_pos (by omega), if_pos (by omega)]
      · rw [if_neg (by omega), if_neg (by omega)]
set_option maxRecDepth 10000 in
set_option maxHeartbeats 1000000 in
theorem p9 (b0 : List ByteArray) (p0 : List Wr) (hf0 : Fits b0 p0) : Runs Fs2 9 [Dev b0 p0] [] (.n (.bool true)) [] := by
  refine vc_eq fs9 rfl ?_
  have hf := fits_few hf0
  have h12 := (p12 b0 p0).up up2
  rw [Dev, vc9, V9]
  generalize fewB b0 = b at *
  generalize fewP p0 = p at *
  have h26 := (p26 b p hf).up up2
  have h15 := p15.up up2
  have h16 := (p16 b p hf).up up2
  by_cases hr : Rt b p = true
  · have hok := ok_of hf hr
    rw [FlushR, if_pos hr] at h26
    have hpl := hok.pl
    have hbl := hok.bl
    refine ⟨_, _, h12, _, _, _, h26, sel_intro (fun h => by cases h) (fun _ => ?_)⟩
    rw [pk_len, bk_len, show ((p.length : Nat) : Int).toNat = p.length by omega, List.length_replicate]
    refine ⟨by omega, by omega, rfl, fun i r => 0 ≤ i ∧ i ≤ p.length ∧ r.1 = 0 ∧ r.2 = ml (List.replicate i.toNat 255 ++ List.replicate (p.length - i.toNat) 0), fun i r => (p.length - i).toNat, ⟨rfl, by omega, by omega, rfl, by simp [ml]⟩, ?_⟩
    rintro i ⟨rv, rl⟩ ⟨h0, h1, hv, hl⟩ _
    dsimp only at hv hl ⊢
    subst hv hl
    refine sel_dec (fun hlt => ?_) (fun hge => ?_)
    · have hlen : (ml (List.replicate i.toNat 255 ++ List.replicate (p.length - i.toNat) 0)).length = p.length := by rw [ml_len]; simp; omega
      refine ⟨⟨rfl, rfl⟩, h0, by rw [hlen]; exact hlt, ⟨⟨⟨rfl, rfl⟩, rfl⟩, rfl⟩, by rw [hlen]; omega, ?_⟩
      repeat (refine And.intro rfl ?_)
      rw [i64_in _ (by omega), ml_set, set_rep _ _ (by omega)]
      exact ⟨⟨by omega, by omega, rfl, by rw [show (i + 1).toNat = i.toNat + 1 by omega]⟩, by first | omega | (dsimp only; omega)⟩
    rw [show i.toNat = p.length by omega, Nat.sub_self, List.replicate_zero, List.append_nil]
    have h22 := (p22 b p (List.replicate p.length 255) hf).up up2
    rw [CrashR, if_pos hr, crL_congr (g := fun _ => 255) b p p.length (fun k hk => by
      rw [mk, if_neg (by simp), List.getElem?_replicate, if_pos hk]; rfl)] at h22
    have hrc := rt_cr hr (fun _ => 255) p.length
    have hfc := fits_cr hok (fun _ => 255) p.length
    have hcl := crL_len (fun _ => 255) b p p.length
    have hct := fun i h0 h1 => crL_tells' hr i h0 h1
    have h26b := (p26 _ _ hfc).up up2
    rw [FlushR, if_pos hrc] at h26b
    have h14 := (p14 _ _ _ _ hfc hfc).up up2
    rw [lk_self] at h14
    have h16c := (p16 _ _ hfc).up up2
    rw [hrc] at h16c
    generalize CrL (fun _ => 255) b p p.length = c at *
    refine ⟨rfl, _, _, _, h22, _, _, _, h26b, sel_intro (fun h => by cases h) (fun _ => sel_intro (fun h => by cases h) (fun _ => ⟨_, h14, sel_intro (fun h => by cases h) (fun _ => ⟨_, h14, sel_intro (fun h => by cases h) (fun _ => sel_intro (fun h => by cases h) (fun _ => ⟨_, h16c, sel_intro (fun h => by cases h) (fun _ => ?_)⟩))⟩)⟩))⟩
    rw [bk_len, hcl]
    refine sel_intro (fun h => by simp at h) (fun _ => ?_)
    refine ⟨fun i => 0 ≤ i ∧ i ≤ b.length, fun i => (b.length - i).toNat, ⟨rfl, by omega, by omega⟩, ?_⟩
    rintro i ⟨h0, h1⟩ _
    refine sel_dec (fun hlt => ?_) (fun hge => ⟨_, h15, rfl⟩)
    have h24 := p24 b p i hf
    rw [readR_ok (by rw [CheckE, if_neg (by rw [hr]; simp), if_neg (by omega)])] at h24
    have hic : i.toNat < c.length := by omega
    have := hct i h0 hlt
    rw [List.getElem?_eq_getElem hic, Option.some.injEq] at this
    refine ⟨_, _, h24, sel_intro (fun h => by cases h) (fun _ => ⟨rfl, h0, _, bk_at hic, _, rfl, sel_nb (fun h => absurd this.symm h) (fun _ => ?_)⟩)⟩
    repeat (refine And.intro rfl ?_)
    rw [i64_in _ (by omega)]
    exact ⟨⟨by omega, by omega⟩, by first | omega | (dsimp only; omega)⟩
  · rw [FlushR, if_neg hr] at h26
    rw [show Rt b p = false by simpa using hr] at h16
    exact ⟨_, _, h12, _, _, _, h26, _, h15, _, h16, rfl⟩
set_option maxRecDepth 10000 in
set_option maxHeartbeats 1000000 in
theorem p10 (b0 : List ByteArray) (p0 : List Wr) (i j : Int) (s : ByteArray) (ms : List Int) (hf0 : Fits b0 p0) (hs : (s.size : Int) ≤ 9223372036854775807) : Runs Fs2 10 [Dev b0 p0, .n (.int .i64 i), .n (.int .i64 j), .n (.str s), .o (.sl 1 (ml ms))] [] (.n (.bool true)) [] := by
  refine vc_eq fs10 rfl ?_
  have hf := fits_few hf0
  have h12 := (p12 b0 p0).up up2
  rw [Dev, vc10, V10]
  generalize fewB b0 = b at *
  generalize fewP p0 = p at *
  have h24 := p24 b p j hf
  have h25 := (p25 b p i s hf hs).up up2
  have h15 := p15.up up2
  by_cases hj : CheckE b p j = 0
  · rw [readR_ok hj] at h24
    by_cases hw : CheckE b p i = 0 ∧ s.size ≤ 4096 ∧ p.length < 2048
    · obtain ⟨hi, hsz, hpl⟩ := hw
      obtain ⟨hr, hi0, hi1⟩ := checkE_zero hi
      obtain ⟨_, hj0, hj1⟩ := checkE_zero hj
      rw [WriteR, if_neg (by rw [hi]; simp), if_neg (by omega)] at h25
      have hfp := fits_push (i := i) (s := s) hf hpl hsz
      have hrp : Rt b (p ++ [nwW i s]) = true := by
        obtain ⟨h1, h2, h3⟩ := rt_tms hr
        refine rt_mk ⟨h2.1, h2.2.1, by simp; omega⟩ h1 fun w hw => ?_
        rcases List.mem_append.1 hw with hw | hw
        · exact h3 w hw
        · obtain rfl := List.mem_singleton.1 hw
          have := trimS_size s
          have tt : Tm (TrimS s) = true := tm_of (by rw [trimS_trimmed]; exact trimmed_self) (by omega)
          rw [Wm, show (nwW i s).1 = i from rfl, show (nwW i s).2.1 = TrimS s from rfl, decide_eq_true hi0, decide_eq_true hi1, tt]; rfl
      have hti : TellS b (p ++ [nwW i s]) i = TrimS s := (tellS_snoc b p (nwW i s) i).trans (if_pos rfl)
      have htj : i ≠ j → TellS b (p ++ [nwW i s]) j = TellS b p j := fun h => (tellS_snoc b p (nwW i s) j).trans (if_neg h)
      have hcp : ∀ k : Int, 0 ≤ k → k < b.length → CheckE b (p ++ [nwW i s]) k = 0 := fun k h0 h1 => by rw [CheckE, if_neg (by rw [hrp]; simp), if_neg (by omega)]
      have g1 := p24 b (p ++ [nwW i s]) i hfp
      rw [readR_ok (hcp i hi0 hi1)] at g1
      have g2 := p24 b (p ++ [nwW i s]) j hfp
      rw [readR_ok (hcp j hj0 hj1)] at g2
      have g3 := (p26 b (p ++ [nwW i s]) hfp).up up2
      rw [FlushR, if_pos hrp] at g3
      have hok := ok_of hfp hrp
      have hrc := rt_cr hrp (fun _ => 255) (p ++ [nwW i s]).length
      have hfc := fits_cr hok (fun _ => 255) (p ++ [nwW i s]).length
      have hcl := crL_len (fun _ => 255) b (p ++ [nwW i s]) (p ++ [nwW i s]).length
      have hct := fun k h0 h1 => crL_tells' hrp k h0 h1
      have g6 := (p16 _ _ hfp).up up2
      rw [hrp] at g6
      have hmix := mix_255 (ByteArray.mk (List.toArray [])) s hsz
      have g7 := (p18 (ByteArray.mk (List.toArray [])) s 255 (by decide) hs).up up2
      rw [hmix] at g7
      generalize CrL (fun _ => 255) b (p ++ [nwW i s]) (p ++ [nwW i s]).length = c at *
      generalize p ++ [nwW i s] = p' at *
      have g4 := (p22 c [] ms hfc).up up2
      rw [CrashR, if_pos hrc, show CrL (mk false ms) c [] ([] : List Wr).length = c from rfl] at g4
      have hcc : ∀ k : Int, 0 ≤ k → k < b.length → CheckE c [] k = 0 ∧ TellS c [] k = TellS b p' k := fun k h0 h1 => by
        refine ⟨by rw [CheckE, if_neg (by rw [hrc]; simp), if_neg (by omega)], ?_⟩
        rw [tellS_nil, hct k h0 h1]; rfl
      have g8 := p24 c [] i hfc
      rw [readR_ok (hcc i hi0 hi1).1, (hcc i hi0 hi1).2] at g8
      have g9 := p24 c [] j hfc
      rw [readR_ok (hcc j hj0 hj1).1, (hcc j hj0 hj1).2] at g9
      have g10 := (p14 _ _ _ _ hfc hfc).up up2
      rw [lk_self] at g10
      have g11 := (p16 _ _ hfc).up up2
      rw [hrc] at g11
      rw [hti] at g1 g8
      refine ⟨_, _, h12, _, _, h24, _, _, _, h25, sel_intro (fun h => by cases h) (fun _ => sel_intro (fun h => by cases h) (fun _ => ?_))⟩
      refine ⟨_, _, g1, _, _, g2, _, _, _, g3, _, _, _, g4, _, _, g8, _, _, g9, sel_beq (sel_beq (sel_beq (sel_beq (sel_beq ⟨_, h15, sel_intro (fun _ => sel_beq ⟨_, g7, sel_beq (sel_intro (fun hij => ?_) (fun hij => ?_))⟩) (fun h => by cases h)⟩))))⟩
      · exact sel_beq (sel_beq ⟨_, g10, _, g6, _, g11, rfl⟩)
      · have hne : i ≠ j := fun e => by rw [e] at hij; simp at hij
        rw [htj hne]
        exact sel_beq (sel_beq (sel_beq ⟨_, g10, _, g6, _, g11, rfl⟩))
    · have hwb : ∃ e, e ≠ 0 ∧ WriteR b p i s = .tup [Dev [] [], .n (.int .i64 e)] := by
        by_cases hc : CheckE b p i = 0
        · exact ⟨2, by decide, by rw [WriteR, if_neg (by rw [hc]; simp), if_pos (by omega)]⟩
        · exact ⟨_, hc, by rw [WriteR, if_pos hc]⟩
      obtain ⟨e, he, h⟩ := hwb
      rw [h] at h25
      exact ⟨_, _, h12, _, _, h24, _, _, _, h25, sel_intro (fun h => by cases h) (fun _ => sel_intro (fun _ => ⟨_, h15, rfl⟩) (fun h => absurd (by simpa using h) he))⟩
  · rw [readR_bad rfl hj] at h24
    have hwb : ∃ x y e, WriteR b p i s = .tup [Dev x y, .n (.int .i64 e)] := by
      unfold WriteR; split
      · exact ⟨_, _, _, rfl⟩
      · split <;> exact ⟨_, _, _, rfl⟩
    obtain ⟨x, y, e, h⟩ := hwb
    rw [h] at h25
    refine ⟨_, _, h12, _, _, h24, _, _, _, h25, sel_intro (fun _ => ⟨_, h15, ?_⟩) (fun h => absurd (by simpa using h) hj)⟩
    refine sel_intro (fun _ => sel_intro (fun h => absurd (by simpa using h) hj) (fun _ => ?_)) (fun h => by cases h)
    rw [noS_eq]
end Go.Proofs.YtcakphhnilklnaaDoor.M
