/- The mirror machine: what is said of runs. No program in sight. -/
import Derived.Test.YtmmnobdpccdeoaaGreatDoorMirQ
namespace Go.Mir
set_option linter.unusedVariables false
set_option linter.unusedSimpArgs false

/-- From some number of rounds on. -/
def Runs (Fs : Nat → Option Fun) (f : Nat) (as : List AV) (H : Heap) (r : AV) (H' : Heap) : Prop := ∃ k0, ∀ k, k0 ≤ k → run Fs k f as H = some (r, H')

def noCall : CallFn := fun _ _ _ => none

def is1 (K : AV → Heap → Prop) : Option (AV × Heap) → Prop
  | some (v, H) => K v H
  | none => False

def putD (σ : Slots) : Option Nat → AV → Slots
  | some d, v => σ.put d v
  | none, _ => σ

abbrev Post := Ex → Slots → Heap → Prop
def thenQ (W : Slots → Heap → Prop) (Q : Post) : Post
  | .norm, σ, H => W σ H
  | e, σ, H => Q e σ H
def blockQ (id : Nat) (Q : Post) : Post
  | .exit i, σ, H => if i = id then Q .norm σ H else Q (.exit i) σ H
  | e, σ, H => Q e σ H
def isS (W : Slots → Heap → Prop) : Option (Slots × Heap) → Prop
  | some (σ, H) => W σ H
  | none => False
end Go.Mir
