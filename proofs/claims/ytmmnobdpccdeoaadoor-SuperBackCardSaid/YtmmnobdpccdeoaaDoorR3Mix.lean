import Derived.Test.YtmmnobdpccdeoaaDoorR3Dev
namespace Go.Proofs.YtmmnobdpccdeoaaDoor.M
set_option linter.unusedVariables false
set_option linter.unusedSimpArgs false
open Go Go.Mir
set_option linter.unusedVariables false

def atL (l : List UInt8) (k : Nat) : UInt8 := (l[k]?).getD 0
def row (n : Nat) (f : Nat → UInt8) : List UInt8 := (List.range n).map f
theorem row_len (n : Nat) (f : Nat → UInt8) : (row n f).length = n := by simp [row]
theorem row_succ (n : Nat) (f : Nat → UInt8) : row (n + 1) f = row n f ++ [f n] := by simp [row, List.range_succ]
theorem row_at (n : Nat) (f : Nat → UInt8) (k : Nat) : atL (row n f) k = if k < n then f k else 0 := by
  unfold atL row
  rw [List.getElem?_map]
  by_cases h : k < n
  · rw [List.getElem?_range h, if_pos h]; rfl
  · rw [List.getElem?_eq_none (by simpa using h), if_neg h]; rfl
theorem row_congr {n : Nat} {f g : Nat → UInt8} (h : ∀ k, k < n → f k = g k) : row n f = row n g := by
  unfold row; exact List.map_congr_left fun k hk => h k (List.mem_range.1 hk)
theorem at_app (l m : List UInt8) (k : Nat) : atL (l ++ m) k = if k < l.length then atL l k else atL m (k - l.length) := by
  unfold atL; rw [List.getElem?_append]; split <;> rfl
theorem at_zeros (l : List UInt8) (n k : Nat) : atL (l ++ List.replicate n 0) k = atL l k := by
  rw [at_app]
  split
  · rfl
  · rename_i h
    have : atL l k = 0 := by unfold atL; rw [List.getElem?_eq_none (by omega)]; rfl
    rw [this]; unfold atL
    rw [List.getElem?_replicate]; split <;> rfl
theorem list_row (l : List UInt8) (n : Nat) (h : l.length ≤ n) : l ++ List.replicate (n - l.length) 0 = row n (atL l) := by
  refine List.ext_getElem? fun k => ?_
  unfold row
  rw [List.getElem?_append, List.getElem?_map, List.getElem?_replicate]
  by_cases hk : k < l.length
  · rw [if_pos hk, List.getElem?_range (by omega)]
    simp [atL, hk]
  · rw [if_neg hk]
    by_cases hn : k < n
    · rw [if_pos (by omega), List.getElem?_range hn]
      simp [atL, hk]
    · rw [if_neg (by omega), List.getElem?_eq_none (by simpa using hn)]; rfl
theorem tz_row (l : List UInt8) (n : Nat) (h : l.length ≤ n) : tz (row n (atL l)) = tz l := by rw [← list_row l n h, tz_zeros]
theorem tz_at (l : List UInt8) (k : Nat) : atL (tz l) k = atL l k := by
  obtain ⟨n, hn, _⟩ := tz_split l.length l rfl
  conv => rhs; rw [hn]
  rw [at_zeros]
theorem tz_ext {l m : List UInt8} (h : ∀ k, atL l k = atL m k) : tz l = tz m := by
  rw [← tz_row l (l.length + m.length) (by omega), ← tz_row m (l.length + m.length) (by omega)]
  rw [row_congr fun k _ => h k]
def At (s : ByteArray) (k : Nat) : UInt8 := atL s.data.toList k
/-- Bytes without the zeros at their end, told by their places. -/
def trimmed (l : List UInt8) : ByteArray := ⟨(tz l).toArray⟩
theorem trimmed_data (l : List UInt8) : (trimmed l).data.toList = tz l := by simp [trimmed]
theorem trimmed_at (l : List UInt8) (k : Nat) : At (trimmed l) k = atL l k := by rw [At, trimmed_data, tz_at]
theorem trimmed_ext {l m : List UInt8} (h : ∀ k, atL l k = atL m k) : trimmed l = trimmed m := by rw [trimmed, trimmed, tz_ext h]
theorem trimmed_size (l : List UInt8) : (trimmed l).size ≤ l.length := by
  have := tz_len l
  rw [← trimmed_data, size_list] at this; exact this
theorem trimS_trimmed (s : ByteArray) : TrimS s = trimmed s.data.toList := bytes_ext (by rw [trimS_data, trimmed_data])
theorem trimS_of (l : List UInt8) (s : ByteArray) (h : s.data.toList = l) : TrimS s = trimmed l := by rw [trimS_trimmed, h]
theorem trimmed_self {l : List UInt8} : TrimS (trimmed l) = trimmed l := by
  rw [trimS_trimmed, trimmed_data]; exact trimmed_ext fun k => tz_at l k
/-- What has no zero at its end is told by its places. -/
theorem tm_ext {s t : ByteArray} (hs : TrimS s = s) (ht : TrimS t = t) (h : ∀ k, At s k = At t k) : s = t := by
  rw [← hs, ← ht, trimS_trimmed, trimS_trimmed]; exact trimmed_ext h

/-- Bytes as elements. -/
def bd (l : List UInt8) : List Mir.D := l.map fun b => .int .u8 (b.toNat : Int)
theorem bd_len (l : List UInt8) : (bd l).length = l.length := by simp [bd]
theorem bd_all (l : List UInt8) : List.all (bd l) Mir.D.isU8 = true := by simp [bd, Mir.D.isU8]
theorem bd_of (l : List UInt8) : List.map Mir.byteOf (bd l) = l := by
  unfold bd
  rw [List.map_map]
  conv => rhs; rw [← List.map_id l]
  refine List.map_congr_left fun b _ => ?_
  simp only [Function.comp, Mir.byteOf, id]
  exact UInt8.ofNat_toNat
theorem bd_app (l m : List UInt8) : bd l ++ bd m = bd (l ++ m) := by simp [bd]
theorem bd_one (b : UInt8) : [Mir.D.int .u8 (b.toNat : Int)] = bd [b] := rfl
theorem bytesD_bd (s : ByteArray) : bytesD s = bd s.data.toList := rfl
theorem of_bd (l : List UInt8) : ByteArray.mk (List.toArray (List.map Mir.byteOf (bd l))) = ⟨l.toArray⟩ := by rw [bd_of]

/-- A sector. -/
def secL (s : ByteArray) (i : Nat) : List UInt8 := row 512 fun k => At s (512 * i + k)
def SecS (s : ByteArray) (i : Int) : ByteArray := if 0 ≤ i ∧ i ≤ 7 then trimmed (secL s i.toNat) else noS
/-- What there is of a sector. -/
def partL (s : ByteArray) (i : Nat) : List UInt8 := (s.data.toList.take (512 * (i + 1))).drop (512 * i)
theorem part_sec (s : ByteArray) (i : Nat) : (partL s i).length ≤ 512 ∧ ∀ k, atL (partL s i) k = atL (secL s i) k := by
  refine ⟨by simp [partL]; omega, fun k => ?_⟩
  rw [secL, row_at]
  unfold partL At atL
  rw [List.getElem?_drop, List.getElem?_take]
  by_cases h : k < 512
  · rw [if_pos h, if_pos (by omega)]
  · rw [if_neg h, if_neg (by omega)]; rfl
theorem mmF (a b : Int) : mmI false a b = min a b := by
  unfold mmI
  simp only [Bool.false_eq_true, if_false]
  split <;> omega
theorem p142 (s : ByteArray) (i : Int) (h0 : 0 ≤ i) (h1 : i ≤ 7) : Runs Fs 142 [.o (.sl 1 (bytesD s)), .n (.int .i64 i)] [] (.n (.str ⟨(partL s i.toNat).toArray⟩)) [] := by
  refine vc_eq fs142 rfl ?_
  rw [vc142, V142]
  rw [i64_in (i + 1) (by omega), i64_in ((i + 1) * 512) (by omega), i64_in (i * 512) (by omega)]
  simp only [mmF]
  have hl : (bytesD s).length = s.data.toList.length := bd_len _
  have e1 : List.drop (min (i * 512) ((bytesD s).length : Int)).toNat (List.take (min ((i + 1) * 512) ((bytesD s).length : Int)).toNat (bytesD s)) = bd (partL s i.toNat) := by
    rw [hl, bytesD_bd, bd, bd, partL, List.map_drop, List.map_take]
    generalize hL : List.map (fun b : UInt8 => Mir.D.int .u8 (b.toNat : Int)) s.data.toList = L
    have hLl : s.data.toList.length = L.length := by rw [← hL]; simp
    rw [hLl]
    refine List.ext_getElem? fun k => ?_
    rw [List.getElem?_drop, List.getElem?_drop, List.getElem?_take, List.getElem?_take]
    by_cases hk : 512 * i.toNat + k < 512 * (i.toNat + 1) ∧ 512 * i.toNat + k < L.length
    · rw [if_pos (by omega), if_pos (by omega), show (min (i * 512) (L.length : Int)).toNat = 512 * i.toNat by omega]
    · have : ∀ (a b : Nat) (c : Nat), ¬ (b < a ∧ b < L.length) → (if b < a then L[b]? else none) = none := fun a b c h => by
        split
        · exact List.getElem?_eq_none (by omega)
        · rfl
      rw [this _ _ 0 (by omega), this _ _ 0 (by omega)]
  rw [e1]
  refine ⟨trivial, by omega, by omega, by omega, by omega, by omega, by omega, .inl trivial, bd_all _, ?_⟩
  rw [of_bd]
theorem p119 (s : ByteArray) (i : Int) (hs : (s.size : Int) ≤ 9223372036854775807) : Runs Fs 119 [.n (.str s), .n (.int .i64 i)] [] (.n (.str (SecS s i))) [] := by
  refine vc_eq fs119 rfl ?_
  rw [vc119]
  refine sel_dec (fun h => by rw [SecS, if_neg (by omega)]; rfl) (fun h => ?_)
  refine sel_dec (fun h2 => by rw [SecS, if_neg (by omega)]; rfl) (fun h2 => ?_)
  obtain ⟨hl, hat⟩ := part_sec s i.toNat
  refine ⟨_, p142 s i (by omega) (by omega), _, p88 _ ?_, ?_⟩
  · have e : (ByteArray.mk (partL s i.toNat).toArray).size = (partL s i.toNat).length := by rw [← size_list]
    rw [e]; omega
  · rw [SecS, if_pos (by omega)]
    exact congrArg (fun z => AV.n (Mir.D.str z)) ((trimS_of (partL s i.toNat) _ (by simp)).trans (trimmed_ext hat))
theorem secS_len (s : ByteArray) (i : Int) : (SecS s i).size ≤ 512 := by
  unfold SecS; split
  · have := trimmed_size (secL s i.toNat); rw [secL, row_len] at this; exact this
  · decide
theorem secS_pad (s : ByteArray) (i : Int) (h : 0 ≤ i ∧ i ≤ 7) : padB (SecS s i) (512 - (SecS s i).size : Int).toNat = ⟨(secL s i.toNat).toArray⟩ := by
  refine bytes_ext ?_
  have hl := secS_len s i
  rw [padB_data, show (512 - ((SecS s i).size : Int)).toNat = 512 - (SecS s i).data.toList.length by rw [size_list]; omega, list_row _ _ (by rw [size_list]; exact hl)]
  simp only [List.toList_toArray]
  unfold secL
  refine row_congr fun k hk => ?_
  have := trimmed_at (secL s i.toNat) k
  rw [SecS, if_pos h]
  rw [At] at this
  rw [this, secL, row_at, if_pos hk]

/-- Which one's sector it is. -/
def bt (mask : Int) (i : Nat) : Bool := decide ((mask.fdiv (2 ^ i)) % 2 = 1)
def mixL (old now : ByteArray) (mask : Int) (n : Nat) : List UInt8 := row n fun k => At (if bt mask (k / 512) then now else old) k
def MixS (old now : ByteArray) (mask : Int) : ByteArray := trimmed (mixL old now mask 4096)
theorem and_bit (x : Int) : ((IntKind.i64.wrap (((BitVec.ofInt 64 x) &&& (BitVec.ofInt 64 1)).toNat : Int)) == 1) = decide (x % 2 = 1) := by
  have h : ((BitVec.ofInt 64 x) &&& (BitVec.ofInt 64 1)).toNat = (x % 2).toNat := by
    rw [BitVec.toNat_and, show (BitVec.ofInt 64 1).toNat = 1 from rfl, Nat.and_one_is_mod, BitVec.toNat_ofInt]
    have : ((2 ^ 64 : Nat) : Int) = 18446744073709551616 := by decide
    rw [this]
    omega
  rw [h]
  have h2 : x % 2 = 0 ∨ x % 2 = 1 := by omega
  rcases h2 with h2 | h2 <;> rw [h2] <;> rfl
theorem mix_sec (old now : ByteArray) (mask : Int) (i : Nat) : mixL old now mask (512 * i) ++ secL (if bt mask i then now else old) i = mixL old now mask (512 * (i + 1)) := by
  refine List.ext_getElem? fun k => ?_
  have g : ∀ (n : Nat) (f : Nat → UInt8) (k : Nat), (row n f)[k]? = if k < n then some (f k) else none := fun n f k => by
    unfold row; rw [List.getElem?_map]
    by_cases h : k < n
    · rw [List.getElem?_range h, if_pos h]; rfl
    · rw [List.getElem?_eq_none (by simpa using h), if_neg h]; rfl
  unfold mixL secL
  rw [List.getElem?_append, row_len, g, g, g]
  by_cases h1 : k < 512 * i
  · rw [if_pos h1, if_pos h1, if_pos (by omega : k < 512 * (i + 1))]
  · rw [if_neg h1]
    by_cases h2 : k < 512 * (i + 1)
    · rw [if_pos (by omega), if_pos h2, show k / 512 = i by omega, show 512 * i + (k - 512 * i) = k by omega]
    · rw [if_neg (by omega), if_neg h2]
theorem pad_sec (s : ByteArray) (i : Int) (h : 0 ≤ i ∧ i ≤ 7) : Runs Fs 109 [.n (.str (SecS s i)), .n (.int .i64 512)] [] (.tup [.n (.str ⟨(secL s i.toNat).toArray⟩), .n (.int .i64 0)]) [] := by
  have hl := secS_len s i
  have := p109 (SecS s i) 512 (by omega)
  rwa [padR_good (by omega) (by omega), secS_pad s i h] at this
theorem secL_bytes (s : ByteArray) (i : Nat) : bytesD ⟨(secL s i).toArray⟩ = bd (secL s i) := by rw [bytesD_bd]
theorem sec_size (s : ByteArray) (i : Nat) : (ByteArray.mk (secL s i).toArray).size = 512 := by rw [← size_list]; simp [secL, row_len]
theorem mixL_len (old now : ByteArray) (mask : Int) (n : Nat) : (mixL old now mask n).length = n := row_len _ _
theorem p95 (old now : ByteArray) (mask : Int) (ho : (old.size : Int) ≤ 9223372036854775807) (hn : (now.size : Int) ≤ 9223372036854775807) :
    Runs Fs 95 [.n (.str old), .n (.str now), .n (.int .i64 mask)] [] (.n (.str (MixS old now mask))) [] := by
  refine vc_eq fs95 rfl ?_
  rw [vc95]
  refine ⟨fun v i r => v = r.1 ∧ 0 ≤ i ∧ i ≤ 8 ∧ r.2 = bd (mixL old now mask (512 * i.toNat)), fun v i r => (8 - i).toNat, ⟨rfl, rfl, by omega, by omega, rfl⟩, ?_⟩
  rintro v i ⟨ver, els⟩ ⟨rfl, h0, h1, hels⟩ _
  dsimp only at hels
  subst hels
  refine sel_dec (fun h3 => ?_) (fun h3 => ?_)
  · refine ⟨_, p119 old i ho, h0, ?_⟩
    have hmin : Min.min (Int.toNat i) (IntKind.bits .i64) = i.toNat := by
      show Min.min (Int.toNat i) 64 = i.toNat
      omega
    rw [hmin, show IntKind.bits .i64 = 64 from rfl, and_bit, show decide (Int.fdiv mask (2 ^ i.toNat) % 2 = 1) = bt mask i.toNat from rfl]
    have hm := mix_sec old now mask i.toNat
    have tail : ∀ (t : ByteArray), (if bt mask i.toNat then now else old) = t → (512 * i.toNat + 512 ≤ 140737488355328) ∧ bd (mixL old now mask (512 * i.toNat)) ++ bytesD ⟨(secL t i.toNat).toArray⟩ = bd (mixL old now mask (512 * (i + 1).toNat)) := fun t ht => by
      refine ⟨by omega, ?_⟩
      rw [secL_bytes, bd_app, ← ht, hm, show (i + 1).toNat = i.toNat + 1 by omega]
    refine sel_intro (fun hb => ?_) (fun hb => ?_)
    · obtain ⟨t1, t2⟩ := tail now (by rw [hb]; rfl)
      refine ⟨_, p119 now i hn, _, _, pad_sec now i ⟨by omega, by omega⟩, ⟨⟨rfl, rfl⟩, rfl⟩, ?_, rfl, rfl, rfl, rfl, ?_, ?_⟩
      · rw [bd_len, mixL_len, sec_size]; exact t1
      · rw [i64_in (i + 1) (by omega)]
        exact ⟨rfl, by omega, by omega, t2⟩
      · rw [i64_in (i + 1) (by omega)]; dsimp only; omega
    · obtain ⟨t1, t2⟩ := tail old (by rw [hb]; rfl)
      refine ⟨_, _, pad_sec old i ⟨by omega, by omega⟩, ⟨⟨rfl, rfl⟩, rfl⟩, ?_, rfl, rfl, rfl, rfl, ?_, ?_⟩
      · rw [bd_len, mixL_len, sec_size]; exact t1
      · rw [i64_in (i + 1) (by omega)]
        exact ⟨rfl, by omega, by omega, t2⟩
      · rw [i64_in (i + 1) (by omega)]; dsimp only; omega
  · have e8 : 512 * i.toNat = 4096 := by omega
    have em : MixS old now mask = trimmed (mixL old now mask (512 * i.toNat)) := by rw [e8, MixS]
    refine ⟨rfl, .inl rfl, bd_all _, _, p88 _ ?_, ?_⟩
    · have e : (ByteArray.mk (mixL old now mask (512 * i.toNat)).toArray).size = (mixL old now mask (512 * i.toNat)).length := by rw [← size_list]
      rw [of_bd, e, mixL_len]; omega
    · rw [of_bd, em]
      exact congrArg (fun z => AV.n (Mir.D.str z)) (trimS_of (mixL old now mask (512 * i.toNat)) _ (by simp))
theorem tmod_bit (x : Int) : ((x.tmod 2) != 0) = decide (x % 2 = 1) := by
  have : x.tmod 2 = 0 ↔ x % 2 = 0 := by
    rw [← Int.dvd_iff_tmod_eq_zero, ← Int.dvd_iff_emod_eq_zero]
  have h2 : x % 2 = 0 ∨ x % 2 = 1 := by omega
  rcases h2 with h2 | h2
  · rw [this.2 h2, h2]; rfl
  · rw [h2, show (x.tmod 2 != 0) = true from bne_iff_ne.2 fun e => by have := this.1 e; omega]; rfl
theorem u64_in (n : Int) (h : 0 ≤ n ∧ n ≤ 18446744073709551615) : IntKind.u64.wrap n = n := by
  show n % 18446744073709551616 = n
  omega
theorem mix_at (old now : ByteArray) (mask : Int) (k : Nat) : At (MixS old now mask) k = if k < 4096 then At (if bt mask (k / 512) then now else old) k else 0 := by
  rw [MixS, trimmed_at, mixL, row_at]
theorem mix_size (old now : ByteArray) (mask : Int) : (MixS old now mask).size ≤ 4096 := by
  have := trimmed_size (mixL old now mask 4096)
  rw [mixL_len] at this; exact this
theorem mix_trim (old now : ByteArray) (mask : Int) : TrimS (MixS old now mask) = MixS old now mask := trimmed_self
theorem mix_ext {a b c d : ByteArray} {m n : Int} (h : ∀ k, k < 4096 → At (if bt m (k / 512) then b else a) k = At (if bt n (k / 512) then d else c) k) : MixS a b m = MixS c d n := by
  unfold MixS mixL
  rw [row_congr fun k hk => h k hk]
theorem sec_ext {a b : ByteArray} {i : Int} (h : 0 ≤ i ∧ i ≤ 7) (hk : ∀ k, k < 512 → At a (512 * i.toNat + k) = At b (512 * i.toNat + k)) : SecS a i = SecS b i := by
  unfold SecS
  rw [if_pos h, if_pos h]
  unfold secL
  rw [row_congr fun k hk' => hk k hk']
theorem bt_not (mask : Int) (i : Nat) (hi : i ≤ 7) : bt (IntKind.i64.wrap (((BitVec.ofInt 64 (-1)) ^^^ (BitVec.ofInt 64 mask)).toNat : Int)) i = !(bt mask i) := by
  have h : ((BitVec.ofInt 64 (-1)) ^^^ (BitVec.ofInt 64 mask)).toNat = 18446744073709551615 - (mask % 18446744073709551616).toNat := by
    rw [show BitVec.ofInt 64 (-1) = BitVec.allOnes 64 from rfl, BitVec.allOnes_xor, BitVec.toNat_not, BitVec.toNat_ofInt]
    have : ((2 ^ 64 : Nat) : Int) = 18446744073709551616 := by decide
    rw [this]
  have h2 : ∃ q : Int, IntKind.i64.wrap (((BitVec.ofInt 64 (-1)) ^^^ (BitVec.ofInt 64 mask)).toNat : Int) = -1 - mask + 18446744073709551616 * q := by
    rw [h]
    have : ∀ z : Int, ∃ q : Int, IntKind.i64.wrap z = z + 18446744073709551616 * q := fun z => by
      rw [IntKind.wrap_i64]
      exact ⟨-((z + 9223372036854775808) / 18446744073709551616), by omega⟩
    obtain ⟨q, hq⟩ := this ((18446744073709551615 - (mask % 18446744073709551616).toNat : Nat) : Int)
    rw [hq]
    exact ⟨q + mask / 18446744073709551616 + 1, by omega⟩
  obtain ⟨q, hq⟩ := h2
  rw [hq]
  unfold bt
  have fin : ∀ (p : Int), 0 < p → ((-1 - mask + 18446744073709551616 * q) / p % 2 = 1 ↔ ¬ mask / p % 2 = 1) → decide ((-1 - mask + 18446744073709551616 * q).fdiv p % 2 = 1) = !(decide (mask.fdiv p % 2 = 1)) := fun p hp h => by
    rw [Int.fdiv_eq_ediv_of_nonneg _ (by omega), Int.fdiv_eq_ediv_of_nonneg _ (by omega), ← decide_not]
    exact decide_eq_decide.2 h
  have hi' : i = 0 ∨ i = 1 ∨ i = 2 ∨ i = 3 ∨ i = 4 ∨ i = 5 ∨ i = 6 ∨ i = 7 := by omega
  rcases hi' with rfl | rfl | rfl | rfl | rfl | rfl | rfl | rfl
  · exact fin 1 (by omega) (by omega)
  · exact fin 2 (by omega) (by omega)
  · exact fin 4 (by omega) (by omega)
  · exact fin 8 (by omega) (by omega)
  · exact fin 16 (by omega) (by omega)
  · exact fin 32 (by omega) (by omega)
  · exact fin 64 (by omega) (by omega)
  · exact fin 128 (by omega) (by omega)
theorem bt_zero (i : Nat) : bt 0 i = false := by
  unfold bt; rw [Int.zero_fdiv]; rfl
theorem bt_all (i : Nat) (hi : i ≤ 7) : bt 255 i = true := by
  have hi' : i = 0 ∨ i = 1 ∨ i = 2 ∨ i = 3 ∨ i = 4 ∨ i = 5 ∨ i = 6 ∨ i = 7 := by omega
  rcases hi' with rfl | rfl | rfl | rfl | rfl | rfl | rfl | rfl <;> rfl
end Go.Proofs.YtmmnobdpccdeoaaDoor.M
