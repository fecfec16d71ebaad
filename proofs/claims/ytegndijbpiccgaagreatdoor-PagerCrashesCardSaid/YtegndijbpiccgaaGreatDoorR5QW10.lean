import Derived.Test.YtegndijbpiccgaaGreatDoorR5QW7
namespace Go.Proofs.YtegndijbpiccgaaGreatDoor.M
set_option linter.unusedVariables false
set_option linter.unusedSimpArgs false
open Go Go.Mir
set_option maxRecDepth 8000 in
def V10 (c8:Int)(c6 a8:LD)(a1:Int)(a2:LD)(R:AV->Prop):Prop:=
 ∃(V E:LD)(c m K w x6:Int)(l H B:LD)(Z x:Int)(a3:LD)(P D F Y J:Int)(i d j:LD)(g f:Int)(L:LD)(t:Bool),QY c8 c6 a8 V E c m K w x6 l H B Z x a3 P D F Y J i d j g f L t/\Ae (Bool.not t) (R (.n (.bool false))) (∃A:Bool,PF A/\Ae (Bool.not A) (R (.n (.bool false))) (∃(T U:LD)(c5 c3 a7 c7 a6 d3:Int)(a9 d4 b9:LD)(d2 b6:Int)(b1:LD)(a:Int),Runs EM 24 [C3 V E a1,.agg (Bv P D F Y J i d j g f L)] [] (.tup [C3 T U c5,.agg (Bv c3 a7 c7 a6 d3 a9 d4 b9 d2 b6 b1),aI a]) []/\Ae (a==60) (R (.n (.bool (a==60)))) (Ae (a==1) (R (.n (.bool (a==60)))) (∃(N s:LD)(q:Int),Runs EM 32 [Es T U,aL a2] [] (.tup [Es N s,aI q]) []/\∃(b Q M C d1:Int)(z v G:LD)(I p:Int)(r:LD)(y:Int),Runs EM 16 [Es N s] [] (.tup [.agg (Bv b Q M C d1 z v G I p r),aI y]) []/\Ae (q != 0) (R (.n (.bool false))) (Ae (y != 0) (R (.n (.bool false))) (∃(d5:Unit)(o b2:Nat)(c0:Int)(a4:Bool)(W:Nat)(S:LD)(c1:Nat)(b0:LD),Mn l H B Z x o b2 c0 a4 W S c1 b0/\∃(d6:Unit)(a0 d0:Nat)(b4:Int)(c2:Bool)(X:Nat)(u:LD)(a5:Nat)(c4:LD),Mn i d j g f a0 d0 b4 c2 X u a5 c4/\∃(d7:Unit)(k b3:Nat)(c9:Int)(b8:Bool)(h:Nat)(e:LD)(b5:Nat)(b7:LD),Mn z v G I p k b3 c9 b8 h e b5 b7/\Ae (b==c) (Ae (a==140) (Ae (b==c&&(Q==m&&(M==K&&(C==w&&true)))) (h=k/\W=o/\UT e S R) (R (.n (.bool false)))) (R (.n (.bool false)))) (Ae (b==w6 (c+1)) (h=k/\X=a0/\∃O:Bool,UG e u O/\Ae O (R (.n (.bool ((r.length:Int)==0)))) (R (.n (.bool false)))) (R (.n (.bool false))))))))))
set_option maxRecDepth 8000 in
def AEl:=λa b c d e f=>PLift.up (by delta V10 Es UG Bv C3 PF Mn Gx AU UT QY M5;exact rfl:V10 a b c d e f=_)
set_option maxRecDepth 8000 in
theorem AC9 c b e a d R:Vc EM c10.body (Af c10 [(.agg [aI c,aL b,(.o (.sl 3 e))]),aI a,aL d]) [] (Av c10 R)=V10 c b e a d R:=by kernel_rfl
end Go.Proofs.YtegndijbpiccgaaGreatDoor.M
