import Derived.Test.YtcakphhnilklnaaR2FunV
import Derived.Test.YtcakphhnilklnaaMirP
namespace Go.Proofs.Ytcakphhnilklnaa.M
set_option linter.unusedVariables false
set_option linter.unusedSimpArgs false
open Go Go.Mir
set_option linter.unusedVariables false

theorem i64_in (n : Int) (h : -9223372036854775808 ≤ n ∧ n ≤ 9223372036854775807) : IntKind.i64.wrap n = n := by
  rw [IntKind.wrap_i64]; omega
theorem u8_wrap (n : Int) : IntKind.u8.wrap n = n % 256 := by rw [IntKind.wrap_u8]
theorem pow_le {i : Nat} (h : i ≤ 6) : (256 : Int) ^ i ≤ 281474976710656 ∧ (0:Int) < 256 ^ i := by
  have : i = 0 ∨ i = 1 ∨ i = 2 ∨ i = 3 ∨ i = 4 ∨ i = 5 ∨ i = 6 := by omega
  rcases this with rfl | rfl | rfl | rfl | rfl | rfl | rfl <;> decide

/-- The bytes of a number, the highest first. -/
def be (n : Int) (s : Nat) : List Mir.D := (List.range s).map fun j => .int .u8 (n / 256 ^ (s - 1 - j) % 256)
/-- .. of which the lowest so many are laid. -/
def beLow (n : Int) (s i : Nat) : List Mir.D := (List.range s).map fun j => .int .u8 (if s - 1 - j < i then n / 256 ^ (s - 1 - j) % 256 else 0)
def strOf (l : List Mir.D) : ByteArray := ByteArray.mk (List.toArray (List.map Mir.byteOf l))
def Bad : AV := .tup [.n (.str (ByteArray.mk (List.toArray []))), .n (.int .i64 1)]
def Good (n : Int) (s : Nat) : AV := .tup [.n (.str (strOf (be n s))), .n (.int .i64 0)]

theorem fdiv_pow (n : Int) (i : Int) (h0 : 0 ≤ i) (h6 : i ≤ 6) : Int.fdiv n (2 ^ (Min.min (Int.toNat (IntKind.i64.wrap (8 * i))) (IntKind.bits .i64))) = n / 256 ^ i.toNat := by
  have : i = 0 ∨ i = 1 ∨ i = 2 ∨ i = 3 ∨ i = 4 ∨ i = 5 ∨ i = 6 := by omega
  rcases this with rfl | rfl | rfl | rfl | rfl | rfl | rfl <;> rw [Int.fdiv_eq_ediv_of_nonneg _ (by decide)] <;> rfl

theorem all_be (f : Nat → Int) (s : Nat) : List.all ((List.range s).map fun j => Mir.D.int .u8 (f j)) Mir.D.isU8 = true := by
  simp [Mir.D.isU8]

theorem p14_bad (n s : Int) (h : s < 1 ∨ 6 < s ∨ n < 0 ∨ (1 ≤ s ∧ s ≤ 6 ∧ 256 ^ s.toNat ≤ n)) : Runs Fs 14 [.n (.int .i64 n), .n (.int .i64 s)] [] Bad [] := by
  refine vc_eq fs14 rfl ?_
  rw [vc14]
  refine sel_dec (fun h1 => rfl) (fun h1 => sel_dec (fun h2 => rfl) (fun h2 => sel_dec (fun h3 => rfl) (fun h3 => ?_)))
  have hs : 256 ^ s.toNat ≤ n := by omega
  refine ⟨by rw [i64_in _ (by omega)]; omega, ?_⟩
  rw [fdiv_pow n s (by omega) (by omega)]
  refine sel_intro (fun h4 => rfl) (fun h4 => ?_)
  exfalso
  have hp := pow_le (i := s.toNat) (by omega)
  have : 1 ≤ n / 256 ^ s.toNat := (Int.le_ediv_iff_mul_le hp.2).2 (by omega)
  simp only [bne_eq_false_iff_eq] at h4
  omega

theorem p14_good (n s : Int) (h1 : 1 ≤ s) (h6 : s ≤ 6) (hn : 0 ≤ n) (hlt : n < 256 ^ s.toNat) : Runs Fs 14 [.n (.int .i64 n), .n (.int .i64 s)] [] (Good n s.toNat) [] := by
  refine vc_eq fs14 rfl ?_
  rw [vc14]
  refine sel_dec (fun h1 => by omega) (fun _ => sel_dec (fun h2 => by omega) (fun _ => sel_dec (fun h3 => by omega) (fun _ => ?_)))
  refine ⟨by rw [i64_in _ (by omega)]; omega, ?_⟩
  rw [fdiv_pow n s (by omega) (by omega)]
  have hz : n / 256 ^ s.toNat = 0 := Int.ediv_eq_zero_of_lt hn hlt
  rw [hz]
  refine ⟨by omega, by omega, rfl, ?_⟩
  refine ⟨fun a b v len i row => a = n ∧ b = s ∧ v = row.1 ∧ len = s ∧ 0 ≤ i ∧ i ≤ s ∧ row.2 = beLow n s.toNat i.toNat, fun a b v len i row => (s - i).toNat, ⟨rfl, rfl, rfl, rfl, ?_, by omega, by omega, ?_⟩, ?_⟩
  · simp; omega
  · refine List.ext_getElem (by simp [beLow]) fun i h1 h2 => ?_
    simp [beLow]
  rintro a b v len i ⟨rv, re⟩ ⟨rfl, rfl, rfl, rfl, hi0, hi1, hre⟩ j
  simp only at hre
  subst hre
  refine sel_dec (fun h => ?_) (fun h => ?_)
  · have e1 : IntKind.i64.wrap (IntKind.i64.wrap (len - 1) - i) = len - 1 - i := by rw [i64_in (len - 1) (by omega), i64_in _ (by omega)]
    rw [fdiv_pow _ i hi0 (by omega), e1, i64_in (i + 1) (by omega), i64_in (8 * i) (by omega), u8_wrap]
    have hlen : (beLow a len.toNat i.toNat).length = len.toNat := by simp [beLow]
    refine ⟨by omega, ⟨rfl, rfl⟩, by omega, by rw [hlen]; omega, ⟨⟨⟨rfl, rfl⟩, rfl⟩, rfl⟩, by rw [hlen]; omega, rfl, ⟨rfl, rfl, rfl, rfl, by omega, by omega, ?_⟩, by dsimp only; omega⟩
    dsimp only
    refine List.ext_getElem (by simp [beLow]) fun k h1 h2 => ?_
    have hk : k < len.toNat := by simpa [beLow] using h2
    rw [List.getElem_set]
    simp only [beLow, List.getElem_map, List.getElem_range]
    by_cases hk2 : (len - 1 - i).toNat = k
    · rw [if_pos hk2, if_pos (by omega), show len.toNat - 1 - k = i.toNat by omega]
    · rw [if_neg hk2]
      by_cases hk3 : len.toNat - 1 - k < i.toNat
      · rw [if_pos hk3, if_pos (by omega)]
      · rw [if_neg hk3, if_neg (by omega)]
  · have : i = len := by omega
    subst this
    refine ⟨rfl, .inl rfl, all_be _ _, ?_⟩
    have : beLow a i.toNat i.toNat = be a i.toNat := by
      refine List.ext_getElem (by simp [beLow, be]) fun k h1 h2 => ?_
      have hk : k < i.toNat := by simpa [be] using h2
      simp only [beLow, be, List.getElem_map, List.getElem_range]
      rw [if_pos (by omega)]
    dsimp only
    rw [this]
    rfl
def beTop (n : Int) (s k : Nat) : List Mir.D := (List.range k).map fun j => .int .u8 (n / 256 ^ (s - 1 - j) % 256)

/-- The number that bytes spell, the highest first. -/
def num (l : List UInt8) : Int := l.foldl (fun n b => n * 256 + (b.toNat : Int)) 0
theorem num_snoc (l : List UInt8) (b : UInt8) : num (l ++ [b]) = num l * 256 + (b.toNat : Int) := by simp [num]
theorem num_from : ∀ (l : List UInt8) (a : Int), 0 ≤ a → a * 256 ^ l.length ≤ l.foldl (fun n b => n * 256 + (b.toNat : Int)) a ∧ l.foldl (fun n b => n * 256 + (b.toNat : Int)) a < (a + 1) * 256 ^ l.length
  | [], a, h => by simp; omega
  | b :: r, a, h => by
    have hb := b.toNat_lt
    obtain ⟨h1, h2⟩ := num_from r (a * 256 + (b.toNat : Int)) (by omega)
    have hP : (0 : Int) < 256 ^ r.length := Int.pow_pos (by omega)
    simp only [List.foldl_cons, List.length_cons, Int.pow_succ]
    generalize (256 : Int) ^ r.length = P at *
    have e1 : a * (P * 256) ≤ (a * 256 + (b.toNat : Int)) * P := by
      rw [Int.mul_comm P 256, ← Int.mul_assoc]
      exact Int.mul_le_mul_of_nonneg_right (by omega) (by omega)
    have e2 : (a * 256 + (b.toNat : Int) + 1) * P ≤ (a + 1) * (P * 256) := by
      rw [Int.mul_comm P 256, ← Int.mul_assoc]
      exact Int.mul_le_mul_of_nonneg_right (by omega) (by omega)
    omega
theorem num_bound (l : List UInt8) : 0 ≤ num l ∧ num l < 256 ^ l.length := by
  have := num_from l 0 (by omega)
  unfold num
  omega
theorem num_le {l : List UInt8} (h : l.length ≤ 6) : 0 ≤ num l ∧ num l < 281474976710656 := by
  have := num_bound l
  have := pow_le h
  omega
def piece (s : ByteArray) (at_ k : Int) : List UInt8 := (s.data.toList.drop at_.toNat).take k.toNat
def GetR (s : ByteArray) (at_ k : Int) : AV :=
  if k < 1 ∨ 6 < k ∨ at_ < 0 ∨ (s.size : Int) < at_ then .tup [.n (.int .i64 0), .n (.int .i64 0), .n (.int .i64 1)]
  else if (s.size : Int) - at_ < k then .tup [.n (.int .i64 0), .n (.int .i64 0), .n (.int .i64 3)]
  else .tup [.n (.int .i64 (num (piece s at_ k))), .n (.int .i64 (at_ + k)), .n (.int .i64 0)]
theorem getR_bad {s : ByteArray} {at_ k : Int} (h : k < 1 ∨ 6 < k ∨ at_ < 0 ∨ (s.size : Int) < at_) : GetR s at_ k = .tup [.n (.int .i64 0), .n (.int .i64 0), .n (.int .i64 1)] := if_pos h
theorem getR_short {s : ByteArray} {at_ k : Int} (h : ¬ (k < 1 ∨ 6 < k ∨ at_ < 0 ∨ (s.size : Int) < at_)) (h2 : (s.size : Int) - at_ < k) : GetR s at_ k = .tup [.n (.int .i64 0), .n (.int .i64 0), .n (.int .i64 3)] := by
  unfold GetR; rw [if_neg h, if_pos h2]
theorem getR_good {s : ByteArray} {at_ k : Int} (h : ¬ (k < 1 ∨ 6 < k ∨ at_ < 0 ∨ (s.size : Int) < at_)) (h2 : ¬ (s.size : Int) - at_ < k) : GetR s at_ k = .tup [.n (.int .i64 (num (piece s at_ k))), .n (.int .i64 (at_ + k)), .n (.int .i64 0)] := by
  unfold GetR; rw [if_neg h, if_neg h2]
theorem size_list (s : ByteArray) : s.data.toList.length = s.size := rfl
theorem piece_succ (s : ByteArray) (at_ i : Int) (h0 : 0 ≤ at_) (hi : 0 ≤ i) (h : at_ + i < s.size) : ∃ b, s.data.toList[(at_ + i).toNat]? = some b ∧ piece s at_ (i + 1) = piece s at_ i ++ [b] := by
  have hl := size_list s
  have hlt : (at_ + i).toNat < s.data.toList.length := by omega
  refine ⟨s.data.toList[(at_ + i).toNat], List.getElem?_eq_getElem hlt, ?_⟩
  unfold piece
  rw [show (i + 1).toNat = i.toNat + 1 by omega, List.take_add_one]
  congr 1
  rw [List.getElem?_drop, show at_.toNat + i.toNat = (at_ + i).toNat by omega, List.getElem?_eq_getElem hlt]
  rfl
theorem piece_len (s : ByteArray) (at_ k : Int) : (piece s at_ k).length ≤ k.toNat := by
  unfold piece; rw [List.length_take]; omega

theorem p24 (s : ByteArray) (hs : (s.size : Int) ≤ 9223372036854775807) (at_ k : Int) : Runs Fs 24 [.n (.str s), .n (.int .i64 at_), .n (.int .i64 k)] [] (GetR s at_ k) [] := by
  refine vc_eq fs24 rfl ?_
  rw [vc24]
  have b1 : ∀ {p : Prop}, p → (p → k < 1 ∨ 6 < k ∨ at_ < 0 ∨ (s.size : Int) < at_) → Mir.AV.tup [.n (.int .i64 0), .n (.int .i64 0), .n (.int .i64 1)] = GetR s at_ k := fun h g => (getR_bad (g h)).symm
  refine sel_dec (fun h => b1 h (by omega)) (fun h1 => sel_dec (fun h => b1 h (by omega)) (fun h2 => sel_dec (fun h => b1 h (by omega)) (fun h3 => sel_dec (fun h => b1 h (by omega)) (fun h4 => ?_))))
  rw [i64_in _ (by omega)]
  refine sel_dec (fun h => (getR_short (by omega) h).symm) (fun h5 => ?_)
  rw [getR_good (by omega) h5]
  refine ⟨fun t a n v i => t = s ∧ a = at_ ∧ n = k ∧ v = num (piece s at_ i) ∧ 0 ≤ i ∧ i ≤ k, fun t a n v i => (k - i).toNat, ⟨rfl, rfl, rfl, rfl, by simp [piece, num], by omega, by omega⟩, ?_⟩
  rintro t a n v i ⟨rfl, rfl, rfl, rfl, hi0, hi1⟩ j
  refine sel_dec (fun h => ?_) (fun h => ?_)
  · obtain ⟨b, hb, hp⟩ := piece_succ t a i (by omega) hi0 (by omega)
    have hn := num_le (l := piece t a i) (by have := piece_len t a i; omega)
    have hb2 := b.toNat_lt
    rw [i64_in (a + i) (by omega), i64_in (i + 1) (by omega)]
    refine ⟨by omega, b, hb, rfl, ⟨rfl, rfl, rfl, ?_, by omega, by omega⟩, by dsimp only; omega⟩
    rw [hp, num_snoc, i64_in (_ * 256) (by omega), i64_in ((b.toNat : Int)) (by omega), i64_in _ (by omega)]
  · rw [i64_in (a + n) (by omega), show i = n by omega]

theorem or_low (a c : Int) (ha : 0 ≤ a) (ha2 : a < 281474976710656) (hc : 0 ≤ c) (hc2 : c < 256) :
    IntKind.i64.wrap ((BitVec.toNat (HOr.hOr (BitVec.ofInt (IntKind.bits .i64) (IntKind.i64.wrap (a * (2 ^ (Min.min (Int.toNat 8) (IntKind.bits .i64)))))) (BitVec.ofInt (IntKind.bits .i64) (IntKind.i64.wrap c))) : Nat) : Int) = a * 256 + c := by
  have e : (2 : Int) ^ (Min.min (Int.toNat 8) (IntKind.bits .i64)) = 256 := rfl
  rw [e, i64_in (a * 256) (by omega), i64_in c (by omega)]
  have hb : IntKind.bits .i64 = 64 := rfl
  rw [hb]
  obtain ⟨a, rfl⟩ := Int.eq_ofNat_of_zero_le ha
  obtain ⟨c, rfl⟩ := Int.eq_ofNat_of_zero_le hc
  have h1 : (BitVec.ofInt 64 ((a : Int) * 256)) = BitVec.ofNat 64 (2 ^ 8 * a) := by
    rw [show ((a : Int) * 256) = ((2 ^ 8 * a : Nat) : Int) by omega, BitVec.ofInt_natCast]
  have h2 : (BitVec.ofInt 64 (c : Int)) = BitVec.ofNat 64 c := BitVec.ofInt_natCast _ _
  rw [h1, h2, BitVec.toNat_or, BitVec.toNat_ofNat, BitVec.toNat_ofNat, Nat.mod_eq_of_lt (by omega), Nat.mod_eq_of_lt (by omega), ← Nat.two_pow_add_eq_or_of_lt (by omega)]
  rw [i64_in _ (by omega)]
  omega

theorem extract_piece (s : ByteArray) (at_ k : Int) (h0 : 0 ≤ at_) (hk : 0 ≤ k) (h : at_ + k ≤ s.size) : bytesD (s.extract at_.toNat (at_ + k).toNat) = (piece s at_ k).map fun b => Mir.D.int .u8 (b.toNat : Int) := by
  unfold bytesD piece
  congr 1
  simp [ByteArray.data_extract, Array.toList_extract, List.extract]
  rw [show (at_ + k).toNat - at_.toNat = k.toNat by omega]

theorem p20 (s : ByteArray) (hs : (s.size : Int) ≤ 9223372036854775807) (at_ k : Int) : Runs Fs 20 [.n (.str s), .n (.int .i64 at_), .n (.int .i64 k)] [] (GetR s at_ k) [] := by
  refine vc_eq fs20 rfl ?_
  rw [vc20]
  have b1 : ∀ {p : Prop}, p → (p → k < 1 ∨ 6 < k ∨ at_ < 0 ∨ (s.size : Int) < at_) → Mir.AV.tup [.n (.int .i64 0), .n (.int .i64 0), .n (.int .i64 1)] = GetR s at_ k := fun h g => (getR_bad (g h)).symm
  refine sel_dec (fun h => b1 h (by omega)) (fun h1 => sel_dec (fun h => b1 h (by omega)) (fun h2 => sel_dec (fun h => b1 h (by omega)) (fun h3 => sel_dec (fun h => b1 h (by omega)) (fun h4 => ?_))))
  rw [i64_in _ (by omega)]
  refine sel_dec (fun h => (getR_short (by omega) h).symm) (fun h5 => ?_)
  rw [getR_good (by omega) h5, i64_in (at_ + k) (by omega), extract_piece s at_ k (by omega) (by omega) (by omega)]
  have hlen : (piece s at_ k).length = k.toNat := by
    unfold piece; rw [List.length_take, List.length_drop, size_list]; omega
  refine ⟨by omega, by omega, by omega, by omega, ?_⟩
  refine ⟨fun a n v els len i => a = at_ ∧ n = k ∧ v = num (piece s at_ i) ∧ els = ((piece s at_ k).map fun b => Mir.D.int .u8 (b.toNat : Int)) ∧ len = k ∧ 0 ≤ i ∧ i ≤ k, fun a n v els len i => (k - i).toNat, ⟨rfl, rfl, rfl, by simp [piece, num], rfl, by rw [List.length_map, hlen]; omega, by omega, by omega⟩, ?_⟩
  rintro a n v els len i ⟨rfl, rfl, rfl, rfl, rfl, hi0, hi1⟩ j
  refine sel_dec (fun h => ?_) (fun h => ?_)
  · obtain ⟨b, hb, hp⟩ := piece_succ s a i (by omega) hi0 (by omega)
    have hn := num_le (l := piece s a i) (by have := piece_len s a i; omega)
    have hb2 := b.toNat_lt
    have he : ((piece s a len).map fun b => Mir.D.int .u8 (b.toNat : Int))[i.toNat]? = some (.int .u8 (b.toNat : Int)) := by
      rw [List.getElem?_map]
      unfold piece
      rw [List.getElem?_take_of_lt (by omega), List.getElem?_drop, show a.toNat + i.toNat = (a + i).toNat by omega, hb]
      rfl
    rw [i64_in (i + 1) (by omega)]
    refine ⟨rfl, hi0, _, he, (b.toNat : Int), rfl, by decide, rfl, ⟨rfl, rfl, ?_, rfl, rfl, by omega, by omega⟩, by dsimp only; omega⟩
    rw [or_low _ _ hn.1 hn.2 (by omega) (by omega), hp, num_snoc]
  · rw [show i = len by omega, i64_in (a + len) (by omega)]
theorem getR_three (s : ByteArray) (at_ k : Int) : ∃ a b c, GetR s at_ k = .tup [.n (.int .i64 a), .n (.int .i64 b), .n (.int .i64 c)] := by
  unfold GetR
  split
  · exact ⟨_, _, _, rfl⟩
  · split <;> exact ⟨_, _, _, rfl⟩

def CutR (s : ByteArray) (at_ : Int) : AV :=
  if at_ < 0 ∨ (s.size : Int) < at_ then .tup [.n (.str (ByteArray.mk (List.toArray []))), .n (.int .i64 0), .n (.int .i64 1)]
  else if (s.size : Int) - at_ < 2 then .tup [.n (.str (ByteArray.mk (List.toArray []))), .n (.int .i64 0), .n (.int .i64 3)]
  else if (s.size : Int) - (at_ + 2) < num (piece s at_ 2) then .tup [.n (.str (ByteArray.mk (List.toArray []))), .n (.int .i64 0), .n (.int .i64 3)]
  else .tup [.n (.str (s.extract (at_ + 2).toNat (at_ + 2 + num (piece s at_ 2)).toNat)), .n (.int .i64 (at_ + 2 + num (piece s at_ 2))), .n (.int .i64 0)]
theorem cutR_three (s : ByteArray) (at_ : Int) : ∃ a b c, CutR s at_ = .tup [.n (.str a), .n (.int .i64 b), .n (.int .i64 c)] := by
  unfold CutR
  split
  · exact ⟨_, _, _, rfl⟩
  · split
    · exact ⟨_, _, _, rfl⟩
    · split <;> exact ⟨_, _, _, rfl⟩

/-- What both Cuts do behind Get. -/
theorem cut_law (s : ByteArray) (hs : (s.size : Int) ≤ 9223372036854775807) (at_ : Int) (G : Int → Int → Int → Prop) (hG : ∀ a b c, GetR s at_ 2 = .tup [.n (.int .i64 a), .n (.int .i64 b), .n (.int .i64 c)] → G a b c) :
    ∃ x0 x1 x2 : Int, G x0 x1 x2 ∧
     (sel (x2 != 0)
      (Mir.AV.tup [(Mir.AV.n (Mir.D.str (ByteArray.mk (List.toArray [])))), (Mir.AV.n (Mir.D.int .i64 0)), (Mir.AV.n (Mir.D.int .i64 x2))] = CutR s at_)
      (sel (decide ((Go.IntKind.wrap .i64 ((((ByteArray.size s) : Nat) : Int) - x1)) < x0))
       (Mir.AV.tup [(Mir.AV.n (Mir.D.str (ByteArray.mk (List.toArray [])))), (Mir.AV.n (Mir.D.int .i64 0)), (Mir.AV.n (Mir.D.int .i64 3))] = CutR s at_)
       (((0 : Int) ≤ (Go.IntKind.wrap .i64 (x1 + x0))) ∧
        ((((Go.IntKind.wrap .i64 (x1 + x0)) : Int) ≤ (((ByteArray.size s) : Nat) : Int)) ∧
         (((0 : Int) ≤ x1) ∧
          (((x1 : Int) ≤ (((Int.toNat (Go.IntKind.wrap .i64 (x1 + x0))) : Nat) : Int)) ∧
           (Mir.AV.tup [(Mir.AV.n (Mir.D.str (ByteArray.extract s (Int.toNat x1) (Int.toNat (Go.IntKind.wrap .i64 (x1 + x0)))))), (Mir.AV.n (Mir.D.int .i64 (Go.IntKind.wrap .i64 (x1 + x0)))), (Mir.AV.n (Mir.D.int .i64 0))] = CutR s at_))))))) := by
  by_cases h : at_ < 0 ∨ (s.size : Int) < at_
  · refine ⟨_, _, _, hG _ _ _ (getR_bad (by omega)), sel_intro (fun _ => ?_) (fun h => by cases h)⟩
    unfold CutR; rw [if_pos h]
  · by_cases h2 : (s.size : Int) - at_ < 2
    · refine ⟨_, _, _, hG _ _ _ (getR_short (by omega) h2), sel_intro (fun _ => ?_) (fun h => by cases h)⟩
      unfold CutR; rw [if_neg h, if_pos h2]
    · have hn := num_le (l := piece s at_ 2) (by have := piece_len s at_ 2; omega)
      refine ⟨_, _, _, hG _ _ _ (getR_good (by omega) h2), sel_intro (fun h => by cases h) (fun _ => ?_)⟩
      rw [i64_in _ (by omega)]
      refine sel_dec (fun h3 => ?_) (fun h3 => ?_)
      · unfold CutR; rw [if_neg h, if_neg h2, if_pos h3]
      · rw [i64_in _ (by omega)]
        refine ⟨by omega, by omega, by omega, by omega, ?_⟩
        unfold CutR; rw [if_neg h, if_neg h2, if_neg h3]

theorem p22 (s : ByteArray) (hs : (s.size : Int) ≤ 9223372036854775807) (at_ : Int) : Runs Fs 22 [.n (.str s), .n (.int .i64 at_)] [] (CutR s at_) [] := by
  refine vc_eq fs22 rfl ?_
  rw [vc22]
  exact cut_law s hs at_ _ fun a b c h => h ▸ (p20 s hs at_ 2)
theorem p25 (s : ByteArray) (hs : (s.size : Int) ≤ 9223372036854775807) (at_ : Int) : Runs Fs 25 [.n (.str s), .n (.int .i64 at_)] [] (CutR s at_) [] := by
  refine vc_eq fs25 rfl ?_
  rw [vc25]
  exact cut_law s hs at_ _ fun a b c h => h ▸ (p24 s hs at_ 2)

theorem sel_beq {α : Type} [BEq α] [ReflBEq α] {x : α} {A B : Prop} (h : A) : sel (x == x) A B := by rw [beq_self_eq_true]; exact h

/-- The bytes as bytes. -/
def beB (n : Int) : Nat → List UInt8
  | 0 => []
  | s + 1 => UInt8.ofNat (n / 256 ^ s % 256).toNat :: beB n s
theorem be_succ (n : Int) (s : Nat) : be n (s + 1) = .int .u8 (n / 256 ^ s % 256) :: be n s := by
  unfold be
  rw [List.range_succ_eq_map, List.map_cons, List.map_map]
  refine congr (congrArg _ ?_) ?_
  · simp
  · refine List.map_congr_left fun j hj => ?_
    simp only [List.mem_range] at hj
    simp only [Function.comp]
    rw [show s + 1 - 1 - (j + 1) = s - 1 - j by omega]
theorem be_bytes (n : Int) : ∀ s, List.map Mir.byteOf (be n s) = beB n s
  | 0 => rfl
  | s + 1 => by rw [be_succ, List.map_cons, be_bytes n s]; rfl
theorem mod_pow (n P : Int) (hP : 0 < P) : n % (P * 256) = n / P % 256 * P + n % P := by
  have h1 := Int.mul_ediv_add_emod n P
  have h2 := Int.mul_ediv_add_emod (n / P) 256
  have h3 := Int.emod_nonneg n (b := P) (by omega)
  have h4 := Int.emod_lt_of_pos n hP
  have h5 := Int.emod_nonneg (n / P) (b := 256) (by omega)
  have h6 := Int.emod_lt_of_pos (n / P) (b := 256) (by omega)
  have e : n = (n / P % 256 * P + n % P) + (P * 256) * (n / P / 256) := by
    have : P * (n / P) = P * (256 * (n / P / 256) + n / P % 256) := by rw [h2]
    rw [Int.mul_add, ← Int.mul_assoc] at this
    have c : n / P % 256 * P = P * (n / P % 256) := Int.mul_comm _ _
    omega
  have lo : 0 ≤ n / P % 256 * P := Int.mul_nonneg h5 (by omega)
  have hi : n / P % 256 * P ≤ 255 * P := Int.mul_le_mul_of_nonneg_right (by omega) (by omega)
  rw [show n % (P * 256) = ((n / P % 256 * P + n % P) + (P * 256) * (n / P / 256)) % (P * 256) by rw [← e], Int.add_mul_emod_self_left]
  exact Int.emod_eq_of_lt (by omega) (by omega)
theorem beB_less (m n : Int) : ∀ s, Op.bytesLess (beB m s) (beB n s) = decide (m % 256 ^ s < n % 256 ^ s) := by
  intro s
  induction s with
  | zero => simp [beB, Op.bytesLess, Int.emod_one]
  | succ s ih =>
    have hP : (0 : Int) < 256 ^ s := Int.pow_pos (by omega)
    rw [Int.pow_succ, mod_pow m _ hP, mod_pow n _ hP]
    simp only [beB, Op.bytesLess, ih]
    generalize (256 : Int) ^ s = P at hP ⊢
    have h5 := Int.emod_nonneg (m / P) (b := 256) (by omega)
    have h6 := Int.emod_lt_of_pos (m / P) (b := 256) (by omega)
    have k5 := Int.emod_nonneg (n / P) (b := 256) (by omega)
    have k6 := Int.emod_lt_of_pos (n / P) (b := 256) (by omega)
    have h3 := Int.emod_nonneg m (b := P) (by omega)
    have h4 := Int.emod_lt_of_pos m hP
    have k3 := Int.emod_nonneg n (b := P) (by omega)
    have k4 := Int.emod_lt_of_pos n hP
    generalize m / P % 256 = a at *
    generalize n / P % 256 = b at *
    generalize m % P = c at *
    generalize n % P = d at *
    have u1 : (UInt8.ofNat a.toNat < UInt8.ofNat b.toNat) = (a < b) := by
      rw [UInt8.lt_iff_toNat_lt]
      simp only [UInt8.toNat_ofNat']
      rw [Nat.mod_eq_of_lt (by omega), Nat.mod_eq_of_lt (by omega)]
      exact propext ⟨fun h => by omega, fun h => by omega⟩
    have u2 : (UInt8.ofNat a.toNat == UInt8.ofNat b.toNat) = decide (a = b) := by
      have : (UInt8.ofNat a.toNat = UInt8.ofNat b.toNat) ↔ a = b := by
        rw [← UInt8.toNat_inj]
        simp only [UInt8.toNat_ofNat']
        rw [Nat.mod_eq_of_lt (by omega), Nat.mod_eq_of_lt (by omega)]
        omega
      rw [Bool.eq_iff_iff]
      simp [this]
    rw [u2]
    simp only [u1]
    rw [Bool.eq_iff_iff]
    simp only [Bool.or_eq_true, Bool.and_eq_true, decide_eq_true_eq]
    rcases Int.lt_trichotomy a b with h | rfl | h
    · have : (a + 1) * P ≤ b * P := Int.mul_le_mul_of_nonneg_right (by omega) (by omega)
      rw [Int.add_mul] at this
      exact ⟨fun _ => by omega, fun _ => .inl h⟩
    · exact ⟨fun h => by rcases h with h | h <;> omega, fun h => .inr ⟨rfl, by omega⟩⟩
    · have : (b + 1) * P ≤ a * P := Int.mul_le_mul_of_nonneg_right (by omega) (by omega)
      rw [Int.add_mul] at this
      exact ⟨fun h => by rcases h with h | h <;> omega, fun h => by omega⟩
theorem p16 (xs : List ByteArray) (h1 : xs.length ≤ 140737488355328) (h2 : sizes xs ≤ 140737488355328) : Runs Fs 16 [.o (.sl 1 (xs.map Mir.D.str))] [] (.n (.str (cat xs))) [] := by
  refine vc_eq fs16 rfl ?_
  rw [vc16]
  exact ⟨_, join_runs fs27 xs h1 h2, rfl⟩

theorem strOf_size (l : List Mir.D) : (strOf l).size = l.length := by
  simp [strOf, ByteArray.size]
theorem be_length (n : Int) (s : Nat) : (be n s).length = s := by simp [be]
/-- A text with its length ahead of it. -/
def TextOf (s : ByteArray) : ByteArray := cat [strOf (be s.size 2), s]
def TextR (s : ByteArray) : AV := if (s.size : Int) > 65535 then .tup [.n (.str (ByteArray.mk (List.toArray []))), .n (.int .i64 2)] else .tup [.n (.str (TextOf s)), .n (.int .i64 0)]
theorem textOf_size (s : ByteArray) : (TextOf s).size = 2 + s.size := by
  simp only [TextOf, cat_size, sizes, strOf_size, be_length]; omega
theorem p15 (s : ByteArray) : Runs Fs 15 [.n (.str s)] [] (TextR s) [] := by
  refine vc_eq fs15 rfl ?_
  rw [vc15]
  refine sel_dec (fun h => ?_) (fun h => ?_)
  · unfold TextR; rw [if_pos h]
  · refine ⟨_, _, p14_good s.size 2 (by omega) (by omega) (by omega) (by simp; omega), rfl, _, p16 [strOf (be s.size 2), s] (by simp) (by simp only [sizes, strOf_size, be_length]; omega), ?_⟩
    unfold TextR; rw [if_neg h]; rfl

theorem cat_data (xs : List ByteArray) : (cat xs).data.toList = (xs.map (·.data.toList)).flatten := by simp [cat]
theorem num_foldl : ∀ (l : List UInt8) (a : Int), l.foldl (fun n b => n * 256 + (b.toNat : Int)) a = a * 256 ^ l.length + num l
  | [], a => by simp [num]
  | b :: r, a => by
    have h1 := num_foldl r (a * 256 + (b.toNat : Int))
    have h2 := num_foldl r (0 * 256 + (b.toNat : Int))
    simp only [List.foldl_cons, List.length_cons, num, Int.pow_succ] at h1 h2 ⊢
    rw [h1, h2, Int.add_mul, Int.mul_assoc, Int.mul_comm 256 (256 ^ r.length)]
    simp only [Int.zero_mul, Int.zero_add, Int.add_assoc]
theorem num_cons (b : UInt8) (l : List UInt8) : num (b :: l) = (b.toNat : Int) * 256 ^ l.length + num l := by
  have := num_foldl l (0 * 256 + (b.toNat : Int))
  simp only [num, List.foldl_cons] at this ⊢
  rw [this]; simp
theorem beB_length (n : Int) : ∀ s, (beB n s).length = s
  | 0 => rfl
  | s + 1 => by simp [beB, beB_length n s]
theorem num_beB (n : Int) : ∀ s, num (beB n s) = n % 256 ^ s
  | 0 => by simp [beB, num]
  | s + 1 => by
    have hp : (0 : Int) < 256 ^ s := Int.pow_pos (by decide)
    have h0 : 0 ≤ n / 256 ^ s % 256 := Int.emod_nonneg _ (by decide)
    have h1 : n / 256 ^ s % 256 < 256 := Int.emod_lt_of_pos _ (by decide)
    rw [beB, num_cons, num_beB n s, beB_length, Int.pow_succ, mod_pow n _ hp]
    congr 2
    simp only [UInt8.toNat_ofNat']
    omega
theorem strOf_data (l : List Mir.D) : (strOf l).data.toList = l.map Mir.byteOf := by simp [strOf]
theorem ext_data (s : ByteArray) (a b : Nat) : (s.extract a b).data.toList = (s.data.toList.take b).drop a := by
  simp [ByteArray.data_extract, List.drop_take]
theorem textOf_data (s : ByteArray) : (TextOf s).data.toList = beB s.size 2 ++ s.data.toList := by
  simp only [TextOf, cat_data, List.map_cons, List.map_nil, List.flatten_cons, List.flatten_nil, List.append_nil, strOf_data, be_bytes]

theorem torn (s : ByteArray) (h : (s.size : Int) ≤ 65535) (k : Int) (h0 : 0 ≤ k) (hk : k < 2 + s.size) : CutR ((TextOf s).extract 0 k.toNat) 0 = .tup [.n (.str (ByteArray.mk (List.toArray []))), .n (.int .i64 0), .n (.int .i64 3)] := by
  have hz : ((TextOf s).extract 0 k.toNat).size = k.toNat := by
    rw [ByteArray.size_extract, textOf_size]; omega
  unfold CutR
  rw [if_neg (by omega)]
  by_cases h2 : (((TextOf s).extract 0 k.toNat).size : Int) - 0 < 2
  · rw [if_pos h2]
  · rw [if_neg h2]
    have : num (piece ((TextOf s).extract 0 k.toNat) 0 2) = s.size := by
      unfold piece
      rw [ext_data, textOf_data]
      have e : List.take (Int.toNat 2) (List.drop (Int.toNat 0) (List.drop 0 (List.take k.toNat (beB s.size 2 ++ s.data.toList)))) = beB s.size 2 := by
        have hl := beB_length s.size 2
        simp only [List.drop_zero, show Int.toNat 0 = 0 from rfl, show Int.toNat 2 = 2 from rfl, List.take_take]
        rw [show min 2 k.toNat = 2 by omega, List.take_append_of_le_length (by omega), List.take_of_length_le (by omega)]
      rw [e, num_beB]
      omega
    rw [this, if_pos (by omega)]

theorem cat3 (a b c : ByteArray) : (cat [a, b, c]).data.toList = a.data.toList ++ (b.data.toList ++ c.data.toList) := by
  rw [cat_data]; simp
theorem piece_cat (a b c : ByteArray) (k : Int) (hk : k.toNat ≤ b.size) : piece (cat [a, b, c]) a.size k = b.data.toList.take k.toNat := by
  unfold piece
  rw [cat3]
  have e : (a.size : Int).toNat = a.data.toList.length := by simp [size_list]
  rw [e, List.drop_left, List.take_append_of_le_length (by rw [size_list]; exact hk)]
theorem cat3_size (a b c : ByteArray) : (cat [a, b, c]).size = a.size + b.size + c.size := by
  simp only [cat_size, sizes]; omega
theorem get_back (n k : Int) (a c : ByteArray) (h1 : 1 ≤ k) (h6 : k ≤ 6) (hn : 0 ≤ n) (hlt : n < 256 ^ k.toNat) : GetR (cat [a, strOf (be n k.toNat), c]) a.size k = .tup [.n (.int .i64 n), .n (.int .i64 (a.size + k)), .n (.int .i64 0)] := by
  have hz : ((cat [a, strOf (be n k.toNat), c]).size : Int) = a.size + k + c.size := by rw [cat3_size, strOf_size, be_length]; omega
  rw [getR_good (by omega) (by omega), piece_cat _ _ _ _ (by rw [strOf_size, be_length]; omega), strOf_data, be_bytes, List.take_of_length_le (by rw [beB_length]; omega), num_beB, Int.emod_eq_of_lt hn hlt]
theorem bytes_ext {a b : ByteArray} (h : a.data.toList = b.data.toList) : a = b := by
  cases a; cases b
  simp only [ByteArray.mk.injEq]
  exact Array.toList_inj.1 h
theorem cut_back (s a c : ByteArray) (hs : (s.size : Int) ≤ 65535) : CutR (cat [a, TextOf s, c]) a.size = .tup [.n (.str s), .n (.int .i64 (a.size + 2 + s.size)), .n (.int .i64 0)] := by
  have hz : ((cat [a, TextOf s, c]).size : Int) = a.size + 2 + s.size + c.size := by rw [cat3_size, textOf_size]; omega
  have hnum : num (piece (cat [a, TextOf s, c]) a.size 2) = s.size := by
    rw [piece_cat _ _ _ _ (by rw [textOf_size]; omega), textOf_data, List.take_append_of_le_length (by rw [beB_length]; decide), List.take_of_length_le (by rw [beB_length]; decide), num_beB]
    omega
  unfold CutR
  rw [if_neg (by omega), if_neg (by omega), hnum, if_neg (by omega)]
  congr 3
  congr 2
  refine bytes_ext ?_
  rw [ext_data, cat3, textOf_data]
  have e1 : ((a.size : Int) + 2 + s.size).toNat = a.data.toList.length + (2 + s.data.toList.length) := by simp only [size_list]; omega
  have e2 : ((a.size : Int) + 2).toNat = a.data.toList.length + 2 := by simp only [size_list]; omega
  have hb := beB_length s.size 2
  rw [e1, e2, ← List.drop_drop, List.take_length_add_append, List.drop_left, List.take_append_of_le_length (by simp [hb]), List.take_of_length_le (by simp [hb])]
  generalize beB s.size 2 = l at hb
  rw [← hb, List.drop_left]

end Go.Proofs.Ytcakphhnilklnaa.M
