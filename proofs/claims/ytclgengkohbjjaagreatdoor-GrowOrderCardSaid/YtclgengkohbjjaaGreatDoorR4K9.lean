import Derived.Test.YtclgengkohbjjaaGreatDoorR4K
import Derived.Test.YtclgengkohbjjaaGreatDoorR4FunB
import Derived.Test.YtclgengkohbjjaaGreatDoorR4K10
import Derived.Test.YtclgengkohbjjaaGreatDoorR4K6
import Derived.Test.YtclgengkohbjjaaGreatDoorR4LV
import Derived.Test.YtclgengkohbjjaaGreatDoorR4LW
namespace Go.Proofs.YtclgengkohbjjaaGreatDoor.M
set_option linter.unusedVariables false
set_option linter.unusedSimpArgs false
open Go Go.Mir
set_option linter.unusedVariables false
abbrev qcX_ (p0:Int) (p1 p2 p3 p4:ByteArray) (p5:Bool):=
 (Runs Fs4 37 [(aI p0),(.ptr 900001 0),(.ptr 900002 0)] [(hB 900001 [(aS p1),(aS p2)]),(hB 900002 [(aS p3),(aS p4)])] (aB p5) [(hB 900001 [(aS p1),(aS p2)]),(hB 900002 [(aS p3),(aS p4)])])
abbrev qcW_ (p0:Int) (p1 p2 p3 p4:ByteArray) (p5:Int) (p6:Mir.AV→Prop):=
 (∃x26:Bool,((qcK_ x26)∧(sel x26 (∃x27:Bool,((qcX_ p0 p1 p2 p3 p4 x27)∧(sel x27 (∃x28:Bool,((qcX_ p5 p1 p2 p3 p4 x28)∧(p6 (.n (.bool x28))))) (p6 (.n (.bool false)))))) (p6 (.n (.bool false))))))
def V9 (a0_0:LD) (a0_1:LD) (a0_2:LD) (a0_3:Int) (a0_4:Int) (a1_0:ByteArray) (a1_1:ByteArray) (a2_0:ByteArray) (a2_1:ByteArray) (R:Mir.AV→Prop):Prop:=
 (∃x0:Bool,((Runs Fs4 28 [(qC_ a0_0 a0_1 a0_2 a0_3 a0_4)] [] (aB x0) [])∧(sel (Bool.not x0) (qcR_ R) (∃x2:Bool,((qcS_ a0_0 a0_1 a0_2 a0_3 a0_4 x2)∧(sel (Bool.not x2) (qcR_ R) (∃x4:Unit,(∃x5:Nat,(∃x6:Nat,(∃x7:Int,(∃x8:Bool,(∃x9:Nat,(∃x10:LD,(∃x11:Nat,(∃x12:LD,((qcT_ a0_0 a0_1 a0_2 a0_3 a0_4 x5 x6 x7 x8 x9 x10 x11 x12)∧(sel x8 (qcR_ R) ((0=0)∧(∃x14:LD,(∃x15:LD,(∃x16:LD,(∃x17:Int,(∃x18:Int,(∃x19:Int,((Runs Fs4 35 [(qC_ a0_0 a0_1 a0_2 a0_3 a0_4),(.o (Mir.D.sl 2 [(qbV_ a1_0 a1_1),(qbV_ a2_0 a2_1)]))] [] (.tup [(qC_ x14 x15 x16 x17 x18),(aI x19)]) [])∧(0=0)∧(∃x20:LD,(∃x21:LD,(∃x22:LD,(∃x23:Int,(∃x24:Int,(∃x25:Int,((Runs Fs4 35 [(qC_ a0_0 a0_1 a0_2 a0_3 a0_4),(.o (Mir.D.sl 2 [(qbV_ a2_0 a2_1),(qbV_ a1_0 a1_1)]))] [] (.tup [(qC_ x20 x21 x22 x23 x24),(aI x25)]) [])∧(sel (x19 != 0) (qcW_ x19 a1_0 a1_1 a2_0 a2_1 x25 R) (sel (x25 != 0) (qcW_ x19 a1_0 a1_1 a2_0 a2_1 x25 R) (∃x32:Unit,(∃x33:Nat,(∃x34:Nat,(∃x35:Int,(∃x36:Bool,(∃x37:Nat,(∃x38:LD,(∃x39:Nat,(∃x40:LD,((qcT_ x14 x15 x16 x17 x18 x33 x34 x35 x36 x37 x38 x39 x40)∧(∃x41:Unit,(∃x42:Nat,(∃x43:Nat,(∃x44:Int,(∃x45:Bool,(∃x46:Nat,(∃x47:LD,(∃x48:Nat,(∃x49:LD,((qcT_ x20 x21 x22 x23 x24 x42 x43 x44 x45 x46 x47 x48 x49)∧(sel x36 (R (.n (.bool false))) (sel x45 (R (.n (.bool false))) (∃x50:Bool,((qcK_ x50)∧(sel (Bool.not x50) (R (.n (.bool false))) (sel (qu_ a1_0 a2_0) (∃x51:Unit,(∃x52:Nat,(∃x53:Nat,(∃x54:Int,(∃x55:Bool,(∃x56:Nat,(∃x57:LD,(∃x58:Nat,(∃x59:LD,((qcT_ a0_0 a0_1 a0_2 a0_3 a0_4 x52 x53 x54 x55 x56 x57 x58 x59)∧(x56=x52)∧(∃x60:LD,((qcI_ x57 a2_0 a2_1 x60)∧(x37=x33)∧(∃x61:Bool,((qcL_ x38 x60 x61)∧(sel x61 (∃x62:Unit,(∃x63:Nat,(∃x64:Nat,(∃x65:Int,(∃x66:Bool,(∃x67:Nat,(∃x68:LD,(∃x69:Nat,(∃x70:LD,((qcT_ a0_0 a0_1 a0_2 a0_3 a0_4 x63 x64 x65 x66 x67 x68 x69 x70)∧(x67=x63)∧(∃x71:LD,((qcI_ x68 a1_0 a1_1 x71)∧(x46=x42)∧(∃x72:Bool,((qcL_ x47 x71 x72)∧(R (.n (.bool x72))))))))))))))))) (R (.n (.bool false)))))))))))))))))) ((x37=x33)∧(x46=x42)∧(∃x73:Bool,((qcL_ x38 x47 x73)∧(R (.n (.bool x73))))))))))))))))))))))))))))))))))))))))))))))))))))))))))))))))))
def V9e (a0_0:LD) (a0_1:LD) (a0_2:LD) (a0_3:Int) (a0_4:Int) (a1_0:ByteArray) (a1_1:ByteArray) (a2_0:ByteArray) (a2_1:ByteArray) (R:Mir.AV→Prop):=PLift.up (by delta V9 qcW_ qcI_ qbG_ qu_ qbV_ qcX_ qcL_ qcR_ qcT_ qG_ qcK_ qcS_ qC_;exact rfl:V9 a0_0 a0_1 a0_2 a0_3 a0_4 a1_0 a1_1 a2_0 a2_1 R=_)
theorem vc9 (a0_0:LD) (a0_1:LD) (a0_2:LD) (a0_3:Int) (a0_4:Int) (a1_0:ByteArray) (a1_1:ByteArray) (a2_0:ByteArray) (a2_1:ByteArray) (R:Mir.AV→Prop):Vc Fs4 c9.body (argsQ c9 [(.agg [(.o (.sl 1 a0_0)),(.o (.sl 1 a0_1)),(.o (.sl 1 a0_2)),(.n (.int .i64 a0_3)),(.n (.int .i64 a0_4))]),(.agg [(.n (.str a1_0)),(.n (.str a1_1))]),(.agg [(.n (.str a2_0)),(.n (.str a2_1))])]) [] (endQ c9 R)=V9 a0_0 a0_1 a0_2 a0_3 a0_4 a1_0 a1_1 a2_0 a2_1 R:=by kernel_rfl
end Go.Proofs.YtclgengkohbjjaaGreatDoor.M
