import Derived.Test.YtclgengkohbjjaaGreatDoorR4Kb
import Derived.Test.YtclgengkohbjjaaGreatDoorR4K
namespace Go.Proofs.YtclgengkohbjjaaGreatDoor.M
set_option linter.unusedVariables false
set_option linter.unusedSimpArgs false
open Go Go.Mir
set_option linter.unusedVariables false
abbrev prT:Mir.Ty := .sl (.st [.str,.str])
def toPrs (x:prT.T):List Pr:=(show List (ByteArray×ByteArray×Unit) from x).map fun p=>(p.1,p.2.1)
theorem prs_av (x:prT.T):prT.av x = .o (.sl 2 (psD (toPrs x))):=by
 unfold toPrs psD
 rw[List.map_map];rfl
end Go.Proofs.YtclgengkohbjjaaGreatDoor.M
