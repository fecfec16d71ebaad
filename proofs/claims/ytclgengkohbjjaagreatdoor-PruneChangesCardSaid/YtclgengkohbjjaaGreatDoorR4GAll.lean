import Derived.Test.YtclgengkohbjjaaGreatDoorR4Kp
namespace Go.Proofs.YtclgengkohbjjaaGreatDoor.M
set_option linter.unusedVariables false
set_option linter.unusedSimpArgs false
open Go Go.Mir
set_option linter.unusedVariables false
theorem mm_min (n:Nat) (k:Nat):mmI false (n:Int) (k:Int)=((min n k:Nat):Int):=by
 unfold mmI
 simp only[Bool.false_eq_true,if_false]
 split <;> omega
end Go.Proofs.YtclgengkohbjjaaGreatDoor.M
