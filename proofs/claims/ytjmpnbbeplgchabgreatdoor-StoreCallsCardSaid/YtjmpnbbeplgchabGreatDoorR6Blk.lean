import Derived.Test.YtjmpnbbeplgchabGreatDoorR6EdI
namespace Go.Proofs.YtjmpnbbeplgchabGreatDoor.M
set_option linter.unusedVariables false
set_option linter.unusedSimpArgs false
open Go Go.Mir
def h10 (v:Nat)(l:List Int):Heap:=[(1000600,.row false true v 3 1 (il l))]
end Go.Proofs.YtjmpnbbeplgchabGreatDoor.M
