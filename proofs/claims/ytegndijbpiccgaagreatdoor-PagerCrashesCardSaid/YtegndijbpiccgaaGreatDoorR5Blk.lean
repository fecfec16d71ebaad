import Derived.Test.YtegndijbpiccgaaGreatDoorR5EdB
namespace Go.Proofs.YtegndijbpiccgaaGreatDoor.M
set_option linter.unusedVariables false
set_option linter.unusedSimpArgs false
open Go Go.Mir
def h10 (v:Nat)(l:List Int):Heap:=[(1000600,.row false true v 3 1 (il l))]
end Go.Proofs.YtegndijbpiccgaaGreatDoor.M
