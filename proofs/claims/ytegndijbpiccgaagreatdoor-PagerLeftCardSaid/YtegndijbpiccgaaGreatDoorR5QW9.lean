import Derived.Test.YtegndijbpiccgaaGreatDoorR5QW7
namespace Go.Proofs.YtegndijbpiccgaaGreatDoor.M
set_option linter.unusedVariables false
set_option linter.unusedSimpArgs false
open Go Go.Mir
set_option maxRecDepth 8000 in
def V9 (b5:Int)(b4 a5:LD)(a1:Int)(R:AV->Prop):Prop:=
 ∃(l f:LD)(x2 x3 x4 x5 x6:Int)(x7 x8 x9:LD)(c0 a4:Int)(a0:LD)(j e g p h:Int)(k b m:LD)(d c:Int)(i:LD)(x:Bool),QY b5 b4 a5 l f x2 x3 x4 x5 x6 x7 x8 x9 c0 a4 a0 j e g p h k b m d c i x/\Ae (Bool.not x) (R (.n (.bool false))) (∃G:Bool,PF G/\Ae (Bool.not G) (R (.n (.bool false))) (∃(T V:LD)(a Q B U A Y:Int)(E Z N:LD)(X M:Int)(H:LD)(q:Int),Runs EM 24 [.agg [aL l,.o (D.sl 2 f),aI 1048576],.agg (Bv j e g p h k b m d c i)] [] (.tup [C3 T V a,.agg (Bv Q B U A Y E Z N X M H),aI q]) []/\Ae (q != 0) (R (.n (.bool (q==60)))) (∃(P v:LD)(t J S O I W:Int)(F y K:LD)(L s:Int)(u:LD)(C:Int),Runs EM 24 [.agg [aL l,.o (D.sl 2 f),aI (w6 (1048576-a))],.agg (Bv j e g p h k b m d c i)] [] (.tup [C3 P v t,.agg (Bv J S O I W F y K L s u),aI C]) []/\Ae (decide (w6 (1048576-a)<4)) (R (.n (.bool false))) (Ae (C != 0) (R (.n (.bool false))) (Ae (t != 0) (R (.n (.bool false))) (∃w:Bool,Runs EM 13 [Es P v,Es T V] [] (aB w) []/\Ae (Bool.not w) (R (.n (.bool false))) (∃r:Bool,Runs EM 18 [.agg (Bv Q B U A Y E Z N X M H),.agg (Bv J S O I W F y K L s u)] [] (aB r) []/\Ae (Bool.not r) (R (.n (.bool false))) (((w6 (1048576-a)):Int)≠0/\((w6 (1048576-a)):Int)≠0/\∃(a7 b0:LD)(a3 b6 b3 b1 a6 a9:Int)(b9 b8 a8:LD)(b2 b7:Int)(a2:LD)(z:Int),Runs EM 24 [.agg [aL l,.o (D.sl 2 f),aI (w6 (w6 (1048576-a)-(w6 (Int.tmod (w6 (Int.tmod a1 (w6 (1048576-a))+w6 (1048576-a))) (w6 (1048576-a))+1))))],.agg (Bv j e g p h k b m d c i)] [] (.tup [C3 a7 b0 a3,.agg (Bv b6 b3 b1 a6 a9 b9 b8 a8 b2 b7 a2),aI z]) []/\R (.n (.bool (z==140)))))))))))
set_option maxRecDepth 8000 in
def V9e:=λa b c d e=>PLift.up (by delta V9 Es Bv C3 PF QY Gx;exact rfl:V9 a b c d e=_)
set_option maxRecDepth 8000 in
theorem vc9 b d c a R:Vc EM c9.body (Af c9 [(.agg [aI b,aL d,(.o (.sl 3 c))]),aI a]) [] (Av c9 R)=V9 b d c a R:=by kernel_rfl
end Go.Proofs.YtegndijbpiccgaaGreatDoor.M
