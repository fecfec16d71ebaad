import Derived.Test.YtjmfgemjabaohaaDoorDTrim
import Derived.Test.YtjmfgemjabaohaaDoorDFunW
namespace Go.Proofs.YtjmfgemjabaohaaDoor.M
set_option linter.unusedVariables false
set_option linter.unusedSimpArgs false
open Go Go.Mir
set_option linter.unusedVariables false

def poly : BitVec 32 := 2197175160#32
def cstep (c : BitVec 32) : BitVec 32 := (c >>> 1) ^^^ (if c.getLsbD 0 then poly else 0#32)
def it : Nat → BitVec 32 → BitVec 32
  | 0, c => c
  | k + 1, c => cstep (it k c)
def bvb (b : UInt8) : BitVec 32 := BitVec.ofNat 32 b.toNat
def crcByte (c : BitVec 32) (b : UInt8) : BitVec 32 := it 8 (c ^^^ bvb b)
def crcOn (c : BitVec 32) (l : List UInt8) : BitVec 32 := l.foldl crcByte c
def tv (c : BitVec 32) : Int := (c.toNat : Int)
theorem u32_in (n : Int) (h : 0 ≤ n ∧ n < 4294967296) : IntKind.u32.wrap n = n := by
  rw [IntKind.wrap_u32]; omega
theorem tv_bound (c : BitVec 32) : 0 ≤ tv c ∧ tv c < 4294967296 := by
  have := c.isLt
  unfold tv; omega
theorem wrap_tv (c : BitVec 32) : IntKind.u32.wrap (((c.toNat : Nat)) : Int) = tv c := u32_in _ (tv_bound c)
theorem of_tv (c : BitVec 32) : BitVec.ofInt (IntKind.bits .u32) (tv c) = c := by
  show BitVec.ofInt 32 ((c.toNat : Nat) : Int) = c
  rw [BitVec.ofInt_natCast, BitVec.ofNat_toNat, BitVec.setWidth_eq]
theorem lsb_mod (c : BitVec 32) : c.getLsbD 0 = decide (c.toNat % 2 = 1) := by
  rw [BitVec.getLsbD, Nat.testBit_eq_decide_div_mod_eq]; simp
theorem and_one (c : BitVec 32) : c &&& 1#32 = if c.getLsbD 0 then 1#32 else 0#32 := by
  apply BitVec.eq_of_toNat_eq
  rw [BitVec.toNat_and, lsb_mod]
  show c.toNat &&& 1 = _
  rw [Nat.and_one_is_mod]
  by_cases h : c.toNat % 2 = 1
  · simp [h]
  · have : c.toNat % 2 = 0 := by omega
    simp [this]
theorem shr_one (c : BitVec 32) : Int.fdiv (tv c) 2 = tv (c >>> 1) := by
  unfold tv
  rw [Int.fdiv_eq_ediv_of_nonneg _ (by decide), BitVec.toNat_ushiftRight, Nat.shiftRight_eq_div_pow]
  omega
theorem neg_one (c : BitVec 32) : IntKind.u32.wrap (0 - tv c) = tv (-c) := by
  unfold tv
  rw [IntKind.wrap_u32, BitVec.toNat_neg]
  have := c.isLt
  by_cases h : c.toNat = 0
  · rw [h]; decide
  · omega
theorem poly_and (c : BitVec 32) : poly &&& -(c &&& 1#32) = if c.getLsbD 0 then poly else 0#32 := by
  rw [and_one]
  cases c.getLsbD 0
  · decide
  · decide
theorem code_step (c : BitVec 32) :
    IntKind.u32.wrap (((BitVec.toNat (HXor.hXor (BitVec.ofInt (IntKind.bits .u32) (Int.fdiv (tv c) (2 ^ (Min.min (Int.toNat 1) (IntKind.bits .u32))))) (BitVec.ofInt (IntKind.bits .u32) (IntKind.u32.wrap (((BitVec.toNat (HAnd.hAnd (BitVec.ofInt (IntKind.bits .u32) 2197175160) (BitVec.ofInt (IntKind.bits .u32) (IntKind.u32.wrap (0 - (IntKind.u32.wrap (((BitVec.toNat (HAnd.hAnd (BitVec.ofInt (IntKind.bits .u32) (tv c)) (BitVec.ofInt (IntKind.bits .u32) 1))) : Nat) : Int))))))) : Nat) : Int))))) : Nat) : Int) = tv (cstep c) := by
  have e2 : (2 : Int) ^ (Min.min (Int.toNat 1) (IntKind.bits .u32)) = 2 := rfl
  have e1 : BitVec.ofInt (IntKind.bits .u32) 1 = 1#32 := rfl
  have ep : BitVec.ofInt (IntKind.bits .u32) 2197175160 = poly := rfl
  rw [e2, e1, ep, shr_one, of_tv, of_tv]
  have h1 : IntKind.u32.wrap (((BitVec.toNat (c &&& 1#32)) : Nat) : Int) = tv (c &&& 1#32) := wrap_tv _
  have h2 : (HAnd.hAnd c 1#32 : BitVec 32) = c &&& 1#32 := rfl
  erw [h1, neg_one, of_tv]
  have h3 : IntKind.u32.wrap (((BitVec.toNat (poly &&& -(c &&& 1#32))) : Nat) : Int) = tv (poly &&& -(c &&& 1#32)) := wrap_tv _
  erw [h3, of_tv, poly_and]
  exact wrap_tv _
theorem code_xor (c d : BitVec 32) (y : Int) (hy : y = tv d) : IntKind.u32.wrap (((BitVec.toNat (HXor.hXor (BitVec.ofInt (IntKind.bits .u32) (tv c)) (BitVec.ofInt (IntKind.bits .u32) y))) : Nat) : Int) = tv (c ^^^ d) := by
  subst hy
  rw [of_tv, of_tv]
  exact wrap_tv _
theorem not_xor (c : BitVec 32) : IntKind.u32.wrap (((BitVec.toNat (HXor.hXor (BitVec.ofInt (IntKind.bits .u32) (IntKind.max .u32)) (BitVec.ofInt (IntKind.bits .u32) (tv c)))) : Nat) : Int) = tv (~~~ c) := by
  rw [of_tv]
  have e : BitVec.ofInt (IntKind.bits .u32) (IntKind.max .u32) = BitVec.allOnes 32 := rfl
  rw [e]
  have : (HXor.hXor (BitVec.allOnes 32) c : BitVec 32) = ~~~ c := by rw [BitVec.allOnes_xor]
  erw [this]
  exact wrap_tv _
theorem not_sub (c : BitVec 32) : IntKind.u32.wrap (4294967295 - tv c) = tv (~~~ c) := by
  unfold tv
  have := c.isLt
  rw [BitVec.toNat_not, IntKind.wrap_u32]
  omega
theorem u8_tv (b : UInt8) : IntKind.u32.wrap ((b.toNat : Nat) : Int) = tv (bvb b) := by
  have := b.toNat_lt
  unfold tv bvb
  rw [u32_in _ (by omega), BitVec.toNat_ofNat, Nat.mod_eq_of_lt (by omega)]
theorem crcOn_snoc (c : BitVec 32) (l : List UInt8) (b : UInt8) : crcOn c (l ++ [b]) = crcByte (crcOn c l) b := by simp [crcOn]

theorem p50 (c : BitVec 32) (s : ByteArray) (hs : (s.size : Int) ≤ 9223372036854775807) : Runs Fs 50 [.n (.int .u32 (tv c)), .n (.str s)] [] (.n (.int .u32 (tv (~~~ (crcOn (~~~ c) s.data.toList))))) [] := by
  refine vc_eq fs50 rfl ?_
  rw [vc50]
  have hl : (bytesD s).length = s.size := by simp [bytesD, size_list]
  refine ⟨fun x l n i => x = tv (crcOn (~~~ c) (s.data.toList.take i.toNat)) ∧ l = bytesD s ∧ n = s.size ∧ 0 ≤ i ∧ i ≤ s.size, fun x l n i => (n - i).toNat, ⟨rfl, by rw [not_xor]; rfl, rfl, by rw [hl], by omega, by omega⟩, ?_⟩
  rintro x l n i ⟨rfl, rfl, rfl, h0, h1⟩ j
  refine sel_dec (fun h => ?_) (fun h => ?_)
  · have hlt : i.toNat < s.data.toList.length := by rw [size_list]; omega
    have hg : (bytesD s)[i.toNat]? = some (.int .u8 ((s.data.toList[i.toNat]).toNat : Int)) := by
      unfold bytesD; rw [List.getElem?_map, List.getElem?_eq_getElem hlt]; rfl
    refine ⟨rfl, h0, _, hg, _, rfl, ?_⟩
    rw [code_xor _ (bvb s.data.toList[i.toNat]) _ (u8_tv _)]
    refine ⟨fun y l' n' i' k => y = tv (it k.toNat (crcOn (~~~ c) (s.data.toList.take i.toNat) ^^^ bvb s.data.toList[i.toNat])) ∧ l' = bytesD s ∧ n' = s.size ∧ i' = i ∧ 0 ≤ k ∧ k ≤ 8, fun y l' n' i' k => (8 - k).toNat, ⟨rfl, rfl, rfl, rfl, rfl, by omega, by omega⟩, ?_⟩
    rintro y l' n' i' k ⟨rfl, rfl, rfl, rfl, k0, k1⟩ j'
    refine sel_dec (fun hk => ?_) (fun hk => ?_)
    · rw [code_step, i64_in (k + 1) (by omega)]
      exact ⟨by omega, rfl, ⟨by rw [show (k + 1).toNat = k.toNat + 1 by omega]; rfl, rfl, rfl, rfl, by omega, by omega⟩, by dsimp only; omega⟩
    · rw [i64_in (i' + 1) (by omega), show k.toNat = 8 by omega]
      refine ⟨rfl, ⟨?_, rfl, rfl, by omega, by omega⟩, by dsimp only; omega⟩
      rw [show (i' + 1).toNat = i'.toNat + 1 by omega, List.take_add_one, List.getElem?_eq_getElem hlt]
      show _ = tv (crcOn (~~~ c) (s.data.toList.take i'.toNat ++ [s.data.toList[i'.toNat]]))
      rw [crcOn_snoc]; rfl
  · rw [not_xor, show i.toNat = s.data.toList.length by rw [size_list]; omega, List.take_length]

theorem ref_low (c : BitVec 32) : Int.tmod (tv c) 2 = if c.getLsbD 0 then 1 else 0 := by
  have := tv_bound c
  rw [Int.tmod_eq_emod_of_nonneg this.1, lsb_mod]
  unfold tv
  by_cases h : c.toNat % 2 = 1
  · simp [h]; omega
  · simp [h]; omega
theorem ref_bit (b : UInt8) (k : Int) (h0 : 0 ≤ k) (h8 : k < 8) : Int.tmod (Int.fdiv (IntKind.u32.wrap (((UInt8.toNat b) : Nat) : Int)) (2 ^ (Min.min (Int.toNat (IntKind.u64.wrap k)) (IntKind.bits .u32)))) 2 = if (bvb b).getLsbD k.toNat then 1 else 0 := by
  have hb := b.toNat_lt
  have e : IntKind.u64.wrap k = k := by rw [IntKind.wrap_u64]; omega
  have e2 : Min.min (Int.toNat k) (IntKind.bits .u32) = k.toNat := by show min k.toNat 32 = k.toNat; omega
  rw [e, e2, u32_in _ (by omega), Int.fdiv_eq_ediv_of_nonneg _ (by exact Int.le_of_lt (Int.pow_pos (by decide)))]
  rw [Int.tmod_eq_emod_of_nonneg (Int.ediv_nonneg (by omega) (Int.le_of_lt (Int.pow_pos (by decide))))]
  have h3 : (bvb b).getLsbD k.toNat = decide (b.toNat / 2 ^ k.toNat % 2 = 1) := by
    unfold bvb
    rw [BitVec.getLsbD_ofNat, Nat.testBit_eq_decide_div_mod_eq]
    simp; omega
  rw [h3]
  have h4 : ((b.toNat : Int) / 2 ^ k.toNat % 2) = ((b.toNat / 2 ^ k.toNat % 2 : Nat) : Int) := by push_cast; rfl
  rw [h4]
  by_cases h : b.toNat / 2 ^ k.toNat % 2 = 1
  · simp [h]
  · have : b.toNat / 2 ^ k.toNat % 2 = 0 := by omega
    simp [this]
theorem tdiv_tv (c : BitVec 32) : IntKind.u32.wrap (Int.tdiv (tv c) 2) = tv (c >>> 1) := by
  have := tv_bound c
  rw [Int.tdiv_eq_ediv_of_nonneg this.1, u32_in _ (by omega), ← shr_one, Int.fdiv_eq_ediv_of_nonneg _ (by decide)]
theorem ref_round (r B : BitVec 32) (k : Nat) (c : BitVec 32) (h : r ^^^ (B >>> k) = it k c) :
    ((r >>> 1) ^^^ (if r.getLsbD 0 ≠ B.getLsbD k then poly else 0#32)) ^^^ (B >>> (k + 1)) = it (k + 1) c := by
  show _ = cstep (it k c)
  rw [← h]
  unfold cstep
  have e1 : (r ^^^ (B >>> k)) >>> 1 = (r >>> 1) ^^^ (B >>> (k + 1)) := by
    rw [BitVec.ushiftRight_xor_distrib, BitVec.shiftRight_add]
  have e2 : (r ^^^ (B >>> k)).getLsbD 0 = (r.getLsbD 0 != B.getLsbD k) := by
    rw [BitVec.getLsbD_xor, BitVec.getLsbD_ushiftRight]; simp
  rw [e1, e2]
  have e3 : (if r.getLsbD 0 ≠ B.getLsbD k then poly else 0#32) = (if (r.getLsbD 0 != B.getLsbD k) = true then poly else 0#32) := by
    cases r.getLsbD 0 <;> cases B.getLsbD k <;> rfl
  rw [e3, BitVec.xor_assoc, BitVec.xor_assoc]
  congr 1
  exact BitVec.xor_comm _ _
theorem bvb_gone (b : UInt8) : bvb b >>> 8 = 0#32 := by
  apply BitVec.eq_of_toNat_eq
  have := b.toNat_lt
  rw [BitVec.toNat_ushiftRight, Nat.shiftRight_eq_div_pow]
  unfold bvb
  rw [BitVec.toNat_ofNat, Nat.mod_eq_of_lt (by omega)]
  show b.toNat / 256 = 0
  omega

theorem p51 (c : BitVec 32) (s : ByteArray) (hs : (s.size : Int) ≤ 9223372036854775807) : Runs Fs 51 [.n (.int .u32 (tv c)), .n (.str s)] [] (.n (.int .u32 (tv (~~~ (crcOn (~~~ c) s.data.toList))))) [] := by
  refine vc_eq fs51 rfl ?_
  rw [vc51]
  refine ⟨fun t x i => t = s ∧ x = tv (crcOn (~~~ c) (s.data.toList.take i.toNat)) ∧ 0 ≤ i ∧ i ≤ s.size, fun t x i => (s.size - i).toNat, ⟨rfl, rfl, by rw [not_sub]; rfl, by omega, by omega⟩, ?_⟩
  rintro t x i ⟨rfl, rfl, h0, h1⟩ j
  refine sel_dec (fun h => ?_) (fun h => ?_)
  · have hlt : i.toNat < t.data.toList.length := by rw [size_list]; omega
    refine ⟨fun t' y i' k => t' = t ∧ i' = i ∧ 0 ≤ k ∧ k ≤ 8 ∧ ∃ r : BitVec 32, y = tv r ∧ r ^^^ (bvb t.data.toList[i.toNat] >>> k.toNat) = it k.toNat (crcOn (~~~ c) (t.data.toList.take i.toNat) ^^^ bvb t.data.toList[i.toNat]), fun t' y i' k => (8 - k).toNat, ⟨rfl, rfl, rfl, by omega, by omega, _, rfl, rfl⟩, ?_⟩
    rintro t' y i' k ⟨rfl, rfl, k0, k1, r, rfl, hr⟩ j'
    refine sel_dec (fun hk => ?_) (fun hk => ?_)
    · have hnext := ref_round r _ k.toNat _ hr
      rw [ref_low, tdiv_tv, code_xor (r >>> 1) poly 2197175160 rfl, i64_in (k + 1) (by omega)]
      have e8 : (k + 1).toNat = k.toNat + 1 := by omega
      refine ⟨h0, _, List.getElem?_eq_getElem hlt, by rw [IntKind.wrap_u64]; omega, by decide, by decide, by decide, ?_⟩
      rw [ref_bit _ k k0 hk]
      refine sel_intro (fun hd => ?_) (fun hd => ?_)
      · refine ⟨rfl, ⟨rfl, rfl, by omega, by omega, _, rfl, ?_⟩, by dsimp only; omega⟩
        rw [e8, ← hnext, if_pos]
        intro he
        rw [he] at hd
        simp at hd
      · refine ⟨rfl, ⟨rfl, rfl, by omega, by omega, _, rfl, ?_⟩, by dsimp only; omega⟩
        rw [e8, ← hnext, if_neg, BitVec.xor_zero]
        intro he
        apply he
        revert hd
        cases r.getLsbD 0 <;> cases (bvb t'.data.toList[i'.toNat]).getLsbD k.toNat <;> simp
    · rw [i64_in (i' + 1) (by omega)]
      rw [show k.toNat = 8 by omega, bvb_gone, BitVec.xor_zero] at hr
      refine ⟨rfl, ⟨rfl, ?_, by omega, by omega⟩, by dsimp only; omega⟩
      rw [show (i' + 1).toNat = i'.toNat + 1 by omega, List.take_add_one, List.getElem?_eq_getElem hlt]
      show _ = tv (crcOn (~~~ c) (t'.data.toList.take i'.toNat ++ [t'.data.toList[i'.toNat]]))
      rw [crcOn_snoc, hr]; rfl
  · rw [not_sub, show i.toNat = t.data.toList.length by rw [size_list]; omega, List.take_length]

/-- A text's sum. -/
def crc (s : ByteArray) : BitVec 32 := ~~~ (crcOn (~~~ 0#32) s.data.toList)
theorem p38 (s : ByteArray) (hs : (s.size : Int) ≤ 9223372036854775807) : Runs Fs 38 [.n (.str s)] [] (.n (.int .u32 (tv (crc s)))) [] := by
  refine vc_eq fs38 rfl ?_
  rw [vc38]
  exact ⟨_, p51 0#32 s hs, rfl⟩
theorem p35_one (s : ByteArray) (hs : (s.size : Int) ≤ 9223372036854775807) : Runs Fs 35 [.o (.sl 1 [.str s])] [] (.n (.int .u32 (tv (crc s)))) [] := by
  refine vc_eq fs35 rfl ?_
  rw [vc35]
  refine ⟨fun x l n i => (i = 0 ∧ x = tv 0#32 ∨ i = 1 ∧ x = tv (crc s)) ∧ l = [.str s] ∧ n = 1, fun x l n i => (n - i).toNat, ⟨rfl, .inl ⟨rfl, rfl⟩, rfl, rfl⟩, ?_⟩
  rintro x l n i ⟨⟨rfl, rfl⟩ | ⟨rfl, rfl⟩, rfl, rfl⟩ j
  · exact sel_dec (fun h => ⟨rfl, by decide, _, rfl, s, rfl, _, p50 0#32 s hs, rfl, ⟨.inr ⟨rfl, rfl⟩, rfl, rfl⟩, by show ((1:Int) - IntKind.i64.wrap (0+1)).toNat < ((1:Int) - 0).toNat; decide⟩) (fun h => absurd (by decide) h)
  · exact sel_dec (fun h => absurd h (by decide)) (fun h => rfl)

def le4 (n : Int) : List Mir.D := [.int .u8 (n % 256), .int .u8 (n / 256 % 256), .int .u8 (n / 65536 % 256), .int .u8 (n / 16777216 % 256)]
/-- A text and its sum behind it. -/
def SealS (s : ByteArray) : ByteArray := cat [s, strOf (le4 (tv (crc s)))]
theorem sealS_size (s : ByteArray) : (SealS s).size = s.size + 4 := by
  simp only [SealS, cat_size, sizes, strOf_size, le4]; simp
theorem p25 (s : ByteArray) (hs : s.size ≤ 140737488300000) : Runs Fs 25 [.n (.str s)] [] (.n (.str (SealS s))) [] := by
  refine vc_eq fs25 rfl ?_
  rw [vc25]
  have hb := tv_bound (crc s)
  have e : [Mir.D.int .u8 (IntKind.u8.wrap (tv (crc s))), Mir.D.int .u8 (IntKind.u8.wrap (Int.fdiv (tv (crc s)) (2 ^ (Min.min (Int.toNat 8) (IntKind.bits .u32))))), Mir.D.int .u8 (IntKind.u8.wrap (Int.fdiv (tv (crc s)) (2 ^ (Min.min (Int.toNat 16) (IntKind.bits .u32))))), Mir.D.int .u8 (IntKind.u8.wrap (Int.fdiv (tv (crc s)) (2 ^ (Min.min (Int.toNat 24) (IntKind.bits .u32)))))] = le4 (tv (crc s)) := by
    rw [show (2 : Int) ^ (Min.min (Int.toNat 8) (IntKind.bits .u32)) = 256 from rfl, show (2 : Int) ^ (Min.min (Int.toNat 16) (IntKind.bits .u32)) = 65536 from rfl, show (2 : Int) ^ (Min.min (Int.toNat 24) (IntKind.bits .u32)) = 16777216 from rfl]
    simp only [u8_wrap, Int.fdiv_eq_ediv_of_nonneg _ (show (0:Int) ≤ 256 by decide), Int.fdiv_eq_ediv_of_nonneg _ (show (0:Int) ≤ 65536 by decide), Int.fdiv_eq_ediv_of_nonneg _ (show (0:Int) ≤ 16777216 by decide)]
    rfl
  refine ⟨rfl, tv (crc s), p35_one s (by omega), by decide, by decide, by decide, rfl, .inl rfl, ?_, rfl, SealS s, ?_, rfl⟩
  · rw [e]; rfl
  · rw [e]
    exact p26 [s, strOf (le4 (tv (crc s)))] (by simp) (by simp only [sizes, strOf_size, le4]; simp; omega)
theorem p28 (s : ByteArray) (hs : s.size ≤ 140737488300000) : Runs Fs 28 [.n (.str s)] [] (.n (.str (SealS s))) [] := by
  refine vc_eq fs28 rfl ?_
  rw [vc28]
  have hb := tv_bound (crc s)
  have e : [Mir.D.int .u8 (IntKind.u8.wrap (Int.tmod (tv (crc s)) 256)), Mir.D.int .u8 (IntKind.u8.wrap (Int.tmod (IntKind.u32.wrap (Int.tdiv (tv (crc s)) 256)) 256)), Mir.D.int .u8 (IntKind.u8.wrap (Int.tmod (IntKind.u32.wrap (Int.tdiv (tv (crc s)) 65536)) 256)), Mir.D.int .u8 (IntKind.u8.wrap (IntKind.u32.wrap (Int.tdiv (tv (crc s)) 16777216)))] = le4 (tv (crc s)) := by
    have g : ∀ m : Int, 0 < m → IntKind.u32.wrap (Int.tdiv (tv (crc s)) m) = tv (crc s) / m := fun m hm => by
      rw [Int.tdiv_eq_ediv_of_nonneg hb.1, u32_in]
      exact ⟨Int.ediv_nonneg hb.1 (by omega), Int.lt_of_le_of_lt (Int.ediv_le_self _ hb.1) hb.2⟩
    have g0 : ∀ m : Int, 0 < m → 0 ≤ tv (crc s) / m := fun m hm => Int.ediv_nonneg hb.1 (by omega)
    rw [g 256 (by decide), g 65536 (by decide), g 16777216 (by decide), Int.tmod_eq_emod_of_nonneg hb.1, Int.tmod_eq_emod_of_nonneg (g0 256 (by decide)), Int.tmod_eq_emod_of_nonneg (g0 65536 (by decide))]
    simp only [u8_wrap, le4, Int.emod_emod]
  refine ⟨_, p38 s (by omega), by decide, by decide, by decide, by decide, by decide, by decide, rfl, .inl rfl, by rw [e]; rfl, ?_, ?_⟩ <;> rw [e]
  · show ((s.size + (strOf (le4 (tv (crc s)))).size : Nat) : Int) ≤ _
    rw [strOf_size]; simp only [le4, List.length_cons, List.length_nil]; omega
  · congr 2
end Go.Proofs.YtjmfgemjabaohaaDoor.M
