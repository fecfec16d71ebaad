/-
  No cell of these rows narrows 'for every input' (looked for: loops, veiled, ifaces, maps, wideKeys, modest, calm, conditions, laid).
  DERIVED. THE GIVEN ROWS OF THIS SEAT. 6 by the template 'for every input the law returns true; each argument reads behind the call as it read before'; 0 by the template 'total and deterministic' (their statements: YtjmfgemjabaohaaTotals.lean).
  GIVEN WITH THE SEED: the statements are not yours to turn. If you find one false, say at which input.
  Laid BY PROGRAM, IN A SANDBOX (cutbox-rows.mjs): the forced cells as the released guide's own fill.sh prints them over the translation 8194b5fcea6f3449… (all of the seat's roots in one cut). By AI agents, Wed Nov 11 2026. No macro, syntax, notation, axiom, sorry.
-/
import Derived.Test.YtjmfgemjabaohaaChecked
import GoSem.Claim
import GoSem.ClaimJoined
import GoSem.ClaimMapViews
import Derived.JoinedTies
import Derived.KernelRfl
namespace Go.Proofs.Ytjmfgemjabaohaa
/- THE CELL 'sum', in the pinned program and in every row, IS THE sha256 OF THE DUMP (.gsa) THAT YtjmfgemjabaohaaProg.lean LOADS. Nothing in Lean hashes anything: it is a label: what it is worth is what the hold of that sum in a sandbox is worth. -/
noncomputable def Try.pinned : Pinned := { name := "ytjmfgemjabaohaa", sum := "8194b5fcea6f344932e604f71bf1014527366fe447b0bc270609808e247b2c4b", checked := Try.checked }
namespace Rows
def none {H : Type} : Left H := { results := [], args := [] }

/-- 'penelopelaw01.CodePuts': WHATEVER THE INPUT: true; the input reads as it did. -/
def codePutsSpec : ChangeSpec := { name := "codePuts", fn := fun _ => fun
  | [d1, d2] => { results := [.lit (.bool true)], args := [d1, d2] }
  | _ => none }
def codePutsRow : OpenClaim := { program := "ytjmfgemjabaohaa", sum := "8194b5fcea6f344932e604f71bf1014527366fe447b0bc270609808e247b2c4b", func := "penelope/penelopelaw01.CodePuts", spec := "codePuts", apart := false }
def CodePutsSaid : Prop := codePutsRow.holds Try.pinned (OpenSpec.ofChange codePutsSpec)

/-- ITS FALSE NEIGHBOUR: 'it returns false'. Refute it at one input. -/
def codePutsWrong : ChangeSpec := { name := "codePuts", fn := fun _ => fun
  | [d1, d2] => { results := [.lit (.bool false)], args := [d1, d2] }
  | _ => none }
def CodePutsWrongFalsely : Prop := codePutsRow.holds Try.pinned (OpenSpec.ofChange codePutsWrong)

/-- 'penelopelaw01.CodeOrder': WHATEVER THE INPUT: true; the input reads as it did. -/
def codeOrderSpec : ChangeSpec := { name := "codeOrder", fn := fun _ => fun
  | [d1, d2, d3] => { results := [.lit (.bool true)], args := [d1, d2, d3] }
  | _ => none }
def codeOrderRow : OpenClaim := { program := "ytjmfgemjabaohaa", sum := "8194b5fcea6f344932e604f71bf1014527366fe447b0bc270609808e247b2c4b", func := "penelope/penelopelaw01.CodeOrder", spec := "codeOrder", apart := false }
def CodeOrderSaid : Prop := codeOrderRow.holds Try.pinned (OpenSpec.ofChange codeOrderSpec)

/-- ITS FALSE NEIGHBOUR: 'it returns false'. Refute it at one input. -/
def codeOrderWrong : ChangeSpec := { name := "codeOrder", fn := fun _ => fun
  | [d1, d2, d3] => { results := [.lit (.bool false)], args := [d1, d2, d3] }
  | _ => none }
def CodeOrderWrongFalsely : Prop := codeOrderRow.holds Try.pinned (OpenSpec.ofChange codeOrderWrong)

/-- 'penelopelaw01.CodeGets': WHATEVER THE INPUT: true; the input reads as it did. -/
def codeGetsSpec : ChangeSpec := { name := "codeGets", fn := fun _ => fun
  | [d1, d2, d3] => { results := [.lit (.bool true)], args := [d1, d2, d3] }
  | _ => none }
def codeGetsRow : OpenClaim := { program := "ytjmfgemjabaohaa", sum := "8194b5fcea6f344932e604f71bf1014527366fe447b0bc270609808e247b2c4b", func := "penelope/penelopelaw01.CodeGets", spec := "codeGets", apart := false }
def CodeGetsSaid : Prop := codeGetsRow.holds Try.pinned (OpenSpec.ofChange codeGetsSpec)

/-- ITS FALSE NEIGHBOUR: 'it returns false'. Refute it at one input. -/
def codeGetsWrong : ChangeSpec := { name := "codeGets", fn := fun _ => fun
  | [d1, d2, d3] => { results := [.lit (.bool false)], args := [d1, d2, d3] }
  | _ => none }
def CodeGetsWrongFalsely : Prop := codeGetsRow.holds Try.pinned (OpenSpec.ofChange codeGetsWrong)

/-- 'penelopelaw01.CodeJoins': WHATEVER THE INPUT: true; the input reads as it did. -/
def codeJoinsSpec : ChangeSpec := { name := "codeJoins", fn := fun _ => fun
  | [d1, d2] => { results := [.lit (.bool true)], args := [d1, d2] }
  | _ => none }
def codeJoinsRow : OpenClaim := { program := "ytjmfgemjabaohaa", sum := "8194b5fcea6f344932e604f71bf1014527366fe447b0bc270609808e247b2c4b", func := "penelope/penelopelaw01.CodeJoins", spec := "codeJoins", inPlace := ["internal/abi.NoEscape", "internal/bytealg.MakeNoZero"], apart := false }
def CodeJoinsSaid : Prop := codeJoinsRow.holds Try.pinned (OpenSpec.ofChange codeJoinsSpec)

/-- ITS FALSE NEIGHBOUR: 'it returns false'. Refute it at one input. -/
def codeJoinsWrong : ChangeSpec := { name := "codeJoins", fn := fun _ => fun
  | [d1, d2] => { results := [.lit (.bool false)], args := [d1, d2] }
  | _ => none }
def CodeJoinsWrongFalsely : Prop := codeJoinsRow.holds Try.pinned (OpenSpec.ofChange codeJoinsWrong)

/-- 'penelopelaw01.CodeBack': WHATEVER THE INPUT: true; the input reads as it did. -/
def codeBackSpec : ChangeSpec := { name := "codeBack", fn := fun _ => fun
  | [d1, d2, d3, d4, d5] => { results := [.lit (.bool true)], args := [d1, d2, d3, d4, d5] }
  | _ => none }
def codeBackRow : OpenClaim := { program := "ytjmfgemjabaohaa", sum := "8194b5fcea6f344932e604f71bf1014527366fe447b0bc270609808e247b2c4b", func := "penelope/penelopelaw01.CodeBack", spec := "codeBack", inPlace := ["internal/abi.NoEscape", "internal/bytealg.MakeNoZero"], apart := false }
def CodeBackSaid : Prop := codeBackRow.holds Try.pinned (OpenSpec.ofChange codeBackSpec)

/-- ITS FALSE NEIGHBOUR: 'it returns false'. Refute it at one input. -/
def codeBackWrong : ChangeSpec := { name := "codeBack", fn := fun _ => fun
  | [d1, d2, d3, d4, d5] => { results := [.lit (.bool false)], args := [d1, d2, d3, d4, d5] }
  | _ => none }
def CodeBackWrongFalsely : Prop := codeBackRow.holds Try.pinned (OpenSpec.ofChange codeBackWrong)

/-- 'penelopelaw01.CodeTorn': WHATEVER THE INPUT: true; the input reads as it did. -/
def codeTornSpec : ChangeSpec := { name := "codeTorn", fn := fun _ => fun
  | [d1, d2] => { results := [.lit (.bool true)], args := [d1, d2] }
  | _ => none }
def codeTornRow : OpenClaim := { program := "ytjmfgemjabaohaa", sum := "8194b5fcea6f344932e604f71bf1014527366fe447b0bc270609808e247b2c4b", func := "penelope/penelopelaw01.CodeTorn", spec := "codeTorn", inPlace := ["internal/abi.NoEscape", "internal/bytealg.MakeNoZero"], apart := false }
def CodeTornSaid : Prop := codeTornRow.holds Try.pinned (OpenSpec.ofChange codeTornSpec)

/-- ITS FALSE NEIGHBOUR: 'it returns false'. Refute it at one input. -/
def codeTornWrong : ChangeSpec := { name := "codeTorn", fn := fun _ => fun
  | [d1, d2] => { results := [.lit (.bool false)], args := [d1, d2] }
  | _ => none }
def CodeTornWrongFalsely : Prop := codeTornRow.holds Try.pinned (OpenSpec.ofChange codeTornWrong)

/- THE SECOND FORM. 'bulk': how many values and letters a reading holds, each counted each time it is reached (what is shared counts as often as it is met; a slice's spare places count too). A statement '..UptoSaid' is the law's where the arguments, and the package variables that the reading takes, are together of bulk at most 1048576: NARROWER than '..Said'. Prove '..Said' where nothing that the law and all that it calls make is longer than what came in: it says more and counts as full. Else prove '..UptoSaid'. A law counts once. -/
mutual
def uptoBulk {H : Type} : DataW H → Nat
  | .lit (.string bytes) => bytes.length + 1
  | .lit _ => 1
  | .nil => 1
  | .ptr d => uptoBulk d + 1
  | .slice elems spare => uptoBulkAll elems + uptoBulkAll spare + 1
  | .agg parts => uptoBulkAll parts + 1
  | .iface _ d => uptoBulk d + 1
  | .map entries => uptoBulkEntries entries + 1
  | .held _ => 1
def uptoBulkAll {H : Type} : List (DataW H) → Nat
  | [] => 0
  | d :: r => uptoBulk d + uptoBulkAll r
def uptoBulkEntries {H : Type} : List (Lit × DataW H) → Nat
  | [] => 0
  | x :: r => uptoBulkEntry x + uptoBulkEntries r
def uptoBulkEntry {H : Type} : Lit × DataW H → Nat
  | (.string bytes, d) => bytes.length + uptoBulk d + 1
  | (_, d) => uptoBulk d + 1
 end
def uptoSmall : (H : Type) → List (DataW H) → Bool := fun _ ds => decide (uptoBulkAll ds ≤ 1048576)
def OpenSpec.upto (s : _root_.Go.ChangeSpec) : _root_.Go.OpenSpec := { _root_.Go.OpenSpec.ofChange s with cond := some uptoSmall }

/-- 'penelopelaw01.CodePuts', WHERE WHAT IT READS IS OF BULK AT MOST 1048576: true; the input reads as it did. -/
def codePutsUptoRow : OpenClaim := { program := "ytjmfgemjabaohaa", sum := "8194b5fcea6f344932e604f71bf1014527366fe447b0bc270609808e247b2c4b", func := "penelope/penelopelaw01.CodePuts", spec := "codePuts", apart := false, narrowed := true }
def CodePutsUptoSaid : Prop := codePutsUptoRow.holds Try.pinned (OpenSpec.upto codePutsSpec)

/-- 'penelopelaw01.CodeOrder', WHERE WHAT IT READS IS OF BULK AT MOST 1048576: true; the input reads as it did. -/
def codeOrderUptoRow : OpenClaim := { program := "ytjmfgemjabaohaa", sum := "8194b5fcea6f344932e604f71bf1014527366fe447b0bc270609808e247b2c4b", func := "penelope/penelopelaw01.CodeOrder", spec := "codeOrder", apart := false, narrowed := true }
def CodeOrderUptoSaid : Prop := codeOrderUptoRow.holds Try.pinned (OpenSpec.upto codeOrderSpec)

/-- 'penelopelaw01.CodeGets', WHERE WHAT IT READS IS OF BULK AT MOST 1048576: true; the input reads as it did. -/
def codeGetsUptoRow : OpenClaim := { program := "ytjmfgemjabaohaa", sum := "8194b5fcea6f344932e604f71bf1014527366fe447b0bc270609808e247b2c4b", func := "penelope/penelopelaw01.CodeGets", spec := "codeGets", apart := false, narrowed := true }
def CodeGetsUptoSaid : Prop := codeGetsUptoRow.holds Try.pinned (OpenSpec.upto codeGetsSpec)

/-- 'penelopelaw01.CodeJoins', WHERE WHAT IT READS IS OF BULK AT MOST 1048576: true; the input reads as it did. -/
def codeJoinsUptoRow : OpenClaim := { program := "ytjmfgemjabaohaa", sum := "8194b5fcea6f344932e604f71bf1014527366fe447b0bc270609808e247b2c4b", func := "penelope/penelopelaw01.CodeJoins", spec := "codeJoins", inPlace := ["internal/abi.NoEscape", "internal/bytealg.MakeNoZero"], apart := false, narrowed := true }
def CodeJoinsUptoSaid : Prop := codeJoinsUptoRow.holds Try.pinned (OpenSpec.upto codeJoinsSpec)

/-- 'penelopelaw01.CodeBack', WHERE WHAT IT READS IS OF BULK AT MOST 1048576: true; the input reads as it did. -/
def codeBackUptoRow : OpenClaim := { program := "ytjmfgemjabaohaa", sum := "8194b5fcea6f344932e604f71bf1014527366fe447b0bc270609808e247b2c4b", func := "penelope/penelopelaw01.CodeBack", spec := "codeBack", inPlace := ["internal/abi.NoEscape", "internal/bytealg.MakeNoZero"], apart := false, narrowed := true }
def CodeBackUptoSaid : Prop := codeBackUptoRow.holds Try.pinned (OpenSpec.upto codeBackSpec)

/-- 'penelopelaw01.CodeTorn', WHERE WHAT IT READS IS OF BULK AT MOST 1048576: true; the input reads as it did. -/
def codeTornUptoRow : OpenClaim := { program := "ytjmfgemjabaohaa", sum := "8194b5fcea6f344932e604f71bf1014527366fe447b0bc270609808e247b2c4b", func := "penelope/penelopelaw01.CodeTorn", spec := "codeTorn", inPlace := ["internal/abi.NoEscape", "internal/bytealg.MakeNoZero"], apart := false, narrowed := true }
def CodeTornUptoSaid : Prop := codeTornUptoRow.holds Try.pinned (OpenSpec.upto codeTornSpec)

end Rows
end Go.Proofs.Ytjmfgemjabaohaa
