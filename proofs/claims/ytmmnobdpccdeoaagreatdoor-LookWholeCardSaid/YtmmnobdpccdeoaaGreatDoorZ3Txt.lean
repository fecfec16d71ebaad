import Derived.Test.YtmmnobdpccdeoaaGreatDoorZ3Last
namespace Go.Proofs.YtmmnobdpccdeoaaGreatDoor.M
set_option linter.unusedVariables false
set_option linter.unusedSimpArgs false
open Go Go.Mir
set_option linter.unusedVariables false

/-! Texts, numbers and texts read, as functions. -/
def empS : ByteArray := ByteArray.mk (List.toArray [])
def sErr (e : Int) : AV := .tup [.n (.str empS), .n (.int .i64 e)]
def g3 : AV → Int × Int × Int
  | .tup [.n (.int _ a), .n (.int _ b), .n (.int _ c)] => (a, b, c)
  | _ => (0, 0, 0)
def c3T : AV → ByteArray × Int × Int
  | .tup [.n (.str a), .n (.int _ b), .n (.int _ c)] => (a, b, c)
  | _ => (empS, 0, 0)
def gT (s : ByteArray) (a k : Int) : Int × Int × Int := g3 (GetR s a k)
def cT (s : ByteArray) (a : Int) : ByteArray × Int × Int := c3T (CutR s a)
theorem gT_eq (s : ByteArray) (a k : Int) : GetR s a k = .tup [.n (.int .i64 (gT s a k).1), .n (.int .i64 (gT s a k).2.1), .n (.int .i64 (gT s a k).2.2)] := by
  obtain ⟨x, y, z, h⟩ := getR_three s a k
  rw [gT, h]; rfl
theorem cT_eq (s : ByteArray) (a : Int) : CutR s a = .tup [.n (.str (cT s a).1), .n (.int .i64 (cT s a).2.1), .n (.int .i64 (cT s a).2.2)] := by
  obtain ⟨x, y, z, h⟩ := cutR_three s a
  rw [cT, h]; rfl
theorem gT_bad {s : ByteArray} {a k : Int} (h : (gT s a k).2.2 ≠ 0) : (gT s a k).1 = 0 := by
  by_cases h1 : k < 1 ∨ 6 < k ∨ a < 0 ∨ (s.size : Int) < a
  · rw [gT, getR_bad h1]; rfl
  · by_cases h2 : (s.size : Int) - a < k
    · rw [gT, getR_short h1 h2]; rfl
    · rw [gT, getR_good h1 h2] at h; exact absurd rfl h
theorem gT_byte (s : ByteArray) (a : Int) : 0 ≤ (gT s a 1).1 ∧ (gT s a 1).1 ≤ 255 := by
  by_cases h1 : (1 : Int) < 1 ∨ (6 : Int) < 1 ∨ a < 0 ∨ (s.size : Int) < a
  · rw [gT, getR_bad h1]; exact ⟨by decide, by decide⟩
  · by_cases h2 : (s.size : Int) - a < 1
    · rw [gT, getR_short h1 h2]; exact ⟨by decide, by decide⟩
    · rw [gT, getR_good h1 h2]
      have h3 := num_bound (piece s a 1)
      have h4 := piece_len s a 1
      have h5 : (256 : Int) ^ (piece s a 1).length ≤ 256 := by
        have : (piece s a 1).length = 0 ∨ (piece s a 1).length = 1 := by have : (1 : Int).toNat = 1 := rfl; omega
        rcases this with h | h <;> rw [h] <;> decide
      exact ⟨h3.1, by show num (piece s a 1) ≤ 255; omega⟩
def nx (s : ByteArray) (n e : Int) : Int × Int × Int := if e ≠ 0 then (0, n, e) else gT s n 1
def tx (s : ByteArray) (n e : Int) : ByteArray × Int × Int := if e ≠ 0 then (empS, n, e) else cT s n
theorem bne_dec (a b : Int) : (a != b) = decide (a ≠ b) := by
  by_cases h : a = b
  · subst h; simp
  · simp [h]
def sl_ (l : List ByteArray) : List D := l.map D.str
theorem sl_len (l : List ByteArray) : (sl_ l).length = l.length := by simp [sl_]
theorem sl_at {l : List ByteArray} {i : Nat} (h : i < l.length) : (sl_ l)[i]? = some (D.str l[i]) := by simp [sl_, h]
def Fits' (l : List ByteArray) : Prop := (l.length : Int) ≤ 9223372036854775807 ∧ ∀ s ∈ l, (s.size : Int) ≤ 9223372036854775807
theorem sl_take (l : List ByteArray) (n : Nat) : List.drop 0 (List.take n (sl_ l)) = sl_ (l.take n) := by simp [sl_, List.map_take]
theorem fits_take {l : List ByteArray} (h : Fits' l) (n : Nat) : Fits' (l.take n) := ⟨by have := h.1; rw [List.length_take]; omega, fun s hs => h.2 s (List.mem_of_mem_take hs)⟩
theorem take_snoc {α : Type} {l : List α} {i : Nat} (h : i < l.length) : l.take (i + 1) = l.take i ++ [l[i]] := by
  rw [List.take_add_one, List.getElem?_eq_getElem h]; rfl
theorem sl_snoc (l : List ByteArray) (x : ByteArray) : sl_ l ++ [D.str x] = sl_ (l ++ [x]) := by simp [sl_]
theorem u64_in (n : Int) (h : 0 ≤ n ∧ n ≤ 18446744073709551615) : IntKind.u64.wrap n = n := by
  show n % 18446744073709551616 = n
  omega
end Go.Proofs.YtmmnobdpccdeoaaGreatDoor.M
