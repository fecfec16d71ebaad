import Derived.Test.YtmmnobdpccdeoaaGreatDoorZ3Look
namespace Go.Proofs.YtmmnobdpccdeoaaGreatDoor.M
set_option linter.unusedVariables false
set_option linter.unusedSimpArgs false
open Go Go.Mir
set_option linter.unusedVariables false

/-! A wood as an argument. -/
abbrev wdT : Mir.Ty := .st [.st [.sl .bool, .sl .bool], .sl .str, .int .i64, .int .i64]
def toWd (x : wdT.T) : Wd := match x with
  | ((a, b, _), p, r, g, _) => ⟨a, b, p, r, g⟩
theorem wd_av (x : wdT.T) : wdT.av x = wdV (toWd x) := by
  obtain ⟨⟨a, b, _⟩, p, r, g, _⟩ := x; rfl
theorem wd_fit (x : wdT.T) (h : wdT.fit x) : WFits (toWd x) := by
  obtain ⟨⟨a, b, _⟩, p, r, g, _⟩ := x
  obtain ⟨⟨⟨h1, _⟩, ⟨h2, _⟩, _⟩, ⟨h3, h4⟩, _⟩ := h
  have e : maxLen ≤ 9223372036854775807 := by decide
  exact ⟨by show ((List.length a : Nat) : Int) ≤ _; have : List.length a ≤ maxLen := h1; omega, by show ((List.length b : Nat) : Int) ≤ _; have : List.length b ≤ maxLen := h2; omega, by show ((List.length p : Nat) : Int) ≤ _; have : List.length p ≤ maxLen := h3; omega, fun s hs => by
    have : ByteArray.size s ≤ maxLen := h4 s hs
    show ((ByteArray.size s : Nat) : Int) ≤ _; omega⟩
end Go.Proofs.YtmmnobdpccdeoaaGreatDoor.M
