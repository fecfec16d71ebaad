import Derived.Test.YtclgengkohbjjaaGreatDoorR4K
import Derived.Test.YtclgengkohbjjaaGreatDoorR4FunB
import Derived.Test.YtclgengkohbjjaaGreatDoorR4K6
import Derived.Test.YtclgengkohbjjaaGreatDoorR4LV
import Derived.Test.YtclgengkohbjjaaGreatDoorR4LW
namespace Go.Proofs.YtclgengkohbjjaaGreatDoor.M
set_option linter.unusedVariables false
set_option linter.unusedSimpArgs false
open Go Go.Mir
set_option linter.unusedVariables false
abbrev qcR_ (p0:Mir.AV→Prop):=
 (∃x1:Bool,((qcK_ x1)∧(p0 (.n (.bool x1)))))
abbrev qcS_ (p0 p1 p2:LD) (p3 p4:Int) (p5:Bool):=
 (Runs Fs4 18 [(qC_ p0 p1 p2 p3 p4)] [] (aB p5) [])
abbrev qcT_ (p0 p1 p2:LD) (p3 p4:Int) (p5 p6:Nat) (p7:Int) (p8:Bool) (p9:Nat) (p10:LD) (p11:Nat) (p12:LD):=
 (Runs Fs4 21 [(qC_ p0 p1 p2 p3 p4)] [] (.ptr 2100101 0) [(qbG_ p5 p6 p7 p8),(hR 2190001 p9 48 2 p10),(hR 2190002 p11 3 1 p12)])
def V10 (a0_0:LD) (a0_1:LD) (a0_2:LD) (a0_3:Int) (a0_4:Int) (a1:ByteArray) (a2:ByteArray) (a3:ByteArray) (R:Mir.AV→Prop):Prop:=
 (∃x0:Bool,((Runs Fs4 28 [(qC_ a0_0 a0_1 a0_2 a0_3 a0_4)] [] (aB x0) [])∧(sel (Bool.not x0) (qcR_ R) (∃x2:Bool,((qcS_ a0_0 a0_1 a0_2 a0_3 a0_4 x2)∧(sel (Bool.not x2) (qcR_ R) (∃x4:Unit,(∃x5:Nat,(∃x6:Nat,(∃x7:Int,(∃x8:Bool,(∃x9:Nat,(∃x10:LD,(∃x11:Nat,(∃x12:LD,((qcT_ a0_0 a0_1 a0_2 a0_3 a0_4 x5 x6 x7 x8 x9 x10 x11 x12)∧(sel x8 (qcR_ R) (∃x14:LD,(∃x15:LD,(∃x16:LD,(∃x17:Int,(∃x18:Int,(∃x19:Int,((Runs Fs4 30 [(qC_ a0_0 a0_1 a0_2 a0_3 a0_4),(aS a1),(aS a2)] [] (.tup [(qC_ x14 x15 x16 x17 x18),(aI x19)]) [])∧(sel (x19 != 0) (∃x20:Bool,((qcK_ x20)∧(sel x20 (sel (x19==60) (R (.n (.bool true))) (∃x21:Bool,((qcH_ a1 a2 x21)∧(R (.n (.bool (Bool.not x21))))))) (R (.n (.bool false)))))) (∃x22:ByteArray,(∃x23:Int,((Runs Fs4 38 [(qC_ x14 x15 x16 x17 x18),(aS a1)] [] (.tup [(aS x22),(aI x23)]) [])∧(∃x24:ByteArray,(∃x25:Int,((Runs Fs4 38 [(qC_ a0_0 a0_1 a0_2 a0_3 a0_4),(aS a3)] [] (.tup [(aS x24),(aI x25)]) [])∧(∃x26:ByteArray,(∃x27:Int,((Runs Fs4 38 [(qC_ x14 x15 x16 x17 x18),(aS a3)] [] (.tup [(aS x26),(aI x27)]) [])∧(∃x28:Bool,((qcK_ x28)∧(sel x28 (sel (x23==0) (sel (qu_ x22 a2) (sel (qu_ a3 a1) (R (.n (.bool true))) (sel (qu_ x24 x26) (R (.n (.bool (x25==x27)))) (R (.n (.bool false))))) (R (.n (.bool false)))) (R (.n (.bool false)))) (R (.n (.bool false))))))))))))))))))))))))))))))))))))))))
def V10e (a0_0:LD) (a0_1:LD) (a0_2:LD) (a0_3:Int) (a0_4:Int) (a1:ByteArray) (a2:ByteArray) (a3:ByteArray) (R:Mir.AV→Prop):=PLift.up (by delta V10 qbG_ qu_ qcR_ qcH_ qcT_ qG_ qcK_ qcS_ qC_;exact rfl:V10 a0_0 a0_1 a0_2 a0_3 a0_4 a1 a2 a3 R=_)
theorem vc10 (a0_0:LD) (a0_1:LD) (a0_2:LD) (a0_3:Int) (a0_4:Int) (a1:ByteArray) (a2:ByteArray) (a3:ByteArray) (R:Mir.AV→Prop):Vc Fs4 c10.body (argsQ c10 [(.agg [(.o (.sl 1 a0_0)),(.o (.sl 1 a0_1)),(.o (.sl 1 a0_2)),(.n (.int .i64 a0_3)),(.n (.int .i64 a0_4))]),(.n (.str a1)),(.n (.str a2)),(.n (.str a3))]) [] (endQ c10 R)=V10 a0_0 a0_1 a0_2 a0_3 a0_4 a1 a2 a3 R:=by kernel_rfl
end Go.Proofs.YtclgengkohbjjaaGreatDoor.M
