import Derived.Test.YtclgengkohbjjaaGreatDoorR4K
import Derived.Test.YtclgengkohbjjaaGreatDoorR4K10
import Derived.Test.YtclgengkohbjjaaGreatDoorR4K6
import Derived.Test.YtclgengkohbjjaaGreatDoorR4LV
import Derived.Test.YtclgengkohbjjaaGreatDoorR4LW
namespace Go.Proofs.YtclgengkohbjjaaGreatDoor.M
set_option linter.unusedVariables false
set_option linter.unusedSimpArgs false
open Go Go.Mir
set_option linter.unusedVariables false
abbrev qcU_ (p0:Int) (p1 p2 p3:LD) (p4 p5:Int) (p6:Mir.AV→Prop):=
 (∃x9:Bool,((qcK_ x9)∧(sel x9 (sel (p0==1) (∃x10:Bool,((Runs Fs4 32 [(qC_ p1 p2 p3 p4 p5)] [] (aB x10) [])∧(p6 (.n (.bool x10))))) (p6 (.n (.bool false)))) (p6 (.n (.bool false))))))
abbrev qcV_ (p0:Int) (p1:Bool) (p2:Mir.AV→Prop) (p3 p4:Int):=
 (sel (p0==60) (sel p1 (p2 (.n (.bool true))) (p2 (.n (.bool (decide (p3<(IntKind.wrap .i64 ((IntKind.wrap .i64 (2*p4))+1)))))))) (p2 (.n (.bool false))))
def V5 (a0_0:LD) (a0_1:LD) (a0_2:LD) (a0_3:Int) (a0_4:Int) (a1:ByteArray) (a2:ByteArray) (R:Mir.AV→Prop):Prop:=
 (∃x0:Bool,((Runs Fs4 28 [(qC_ a0_0 a0_1 a0_2 a0_3 a0_4)] [] (aB x0) [])∧(sel (Bool.not x0) (qcR_ R) (∃x2:LD,(∃x3:LD,(∃x4:LD,(∃x5:Int,(∃x6:Int,(∃x7:Int,((Runs Fs4 30 [(qC_ a0_0 a0_1 a0_2 a0_3 a0_4),(aS a1),(aS a2)] [] (.tup [(qC_ x2 x3 x4 x5 x6),(aI x7)]) [])∧(∃x8:Bool,((qcS_ a0_0 a0_1 a0_2 a0_3 a0_4 x8)∧(sel (Bool.not x8) (qcU_ x7 x2 x3 x4 x5 x6 R) (∃x11:Bool,((qcH_ a1 a2 x11)∧(sel (Bool.not x11) (qcU_ x7 x2 x3 x4 x5 x6 R) (∃x14:Unit,(∃x15:Nat,(∃x16:Nat,(∃x17:Int,(∃x18:Bool,(∃x19:Nat,(∃x20:LD,(∃x21:Nat,(∃x22:LD,((qcT_ a0_0 a0_1 a0_2 a0_3 a0_4 x15 x16 x17 x18 x19 x20 x21 x22)∧(sel (x7 != 0) (∃x23:Int,((Runs Fs4 23 (qK_ a0_0 a0_1) [] (aI x23) [])∧(∃x24:Bool,((qcK_ x24)∧(sel x24 (∃x25:Bool,((Runs Fs4 32 [(qC_ x2 x3 x4 x5 x6)] [] (aB x25) [])∧(sel x25 (sel (x7==81) (sel x18 (R (.n (.bool true))) (qcV_ x7 x18 R x23 x17)) (qcV_ x7 x18 R x23 x17)) (R (.n (.bool false)))))) (R (.n (.bool false)))))))) (∃x26:Bool,((qcS_ x2 x3 x4 x5 x6 x26)∧(sel (Bool.not x26) (R (.n (.bool false))) (∃x27:Bool,((Runs Fs4 24 [(.agg [(aL a0_0),(aL x3),(aL a0_2),(aI 0),(aI a0_4)]),(qC_ x2 x3 x4 x5 x6),(aL []),(aL [])] [] (aB x27) [])∧(sel (Bool.not x27) (R (.n (.bool false))) (sel x18 (qcR_ R) (∃x29:Unit,(∃x30:Nat,(∃x31:Nat,(∃x32:Int,(∃x33:Bool,(∃x34:Nat,(∃x35:LD,(∃x36:Nat,(∃x37:LD,((qcT_ x2 x3 x4 x5 x6 x30 x31 x32 x33 x34 x35 x36 x37)∧(∃x38:Bool,((qcK_ x38)∧(sel x38 (sel (Bool.not x33) ((x19=x15)∧(∃x39:LD,((qcI_ x20 a1 a2 x39)∧(x34=x30)∧(∃x40:Bool,((qcL_ x35 x39 x40)∧(sel x40 ((x21=x16)∧(x36=x31)∧(∃x41:Bool,((Runs Fs4 24 [(qC_ a0_0 a0_1 a0_2 a0_3 a0_4),(qC_ x2 x3 x4 x5 x6),(aL x22),(aL x37)] [] (aB x41) [])∧(R (.n (.bool x41)))))) (R (.n (.bool false))))))))) (R (.n (.bool false)))) (R (.n (.bool false))))))))))))))))))))))))))))))))))))))))))))))))))
def V5e (a0_0:LD) (a0_1:LD) (a0_2:LD) (a0_3:Int) (a0_4:Int) (a1:ByteArray) (a2:ByteArray) (R:Mir.AV→Prop):=PLift.up (by delta V5 qcI_ qbG_ qcV_ qcL_ qcU_ qcR_ qcH_ qcT_ qG_ qK_ qcK_ qcS_ qC_;exact rfl:V5 a0_0 a0_1 a0_2 a0_3 a0_4 a1 a2 R=_)
theorem vc5 (a0_0:LD) (a0_1:LD) (a0_2:LD) (a0_3:Int) (a0_4:Int) (a1:ByteArray) (a2:ByteArray) (R:Mir.AV→Prop):Vc Fs4 c5.body (argsQ c5 [(.agg [(.o (.sl 1 a0_0)),(.o (.sl 1 a0_1)),(.o (.sl 1 a0_2)),(.n (.int .i64 a0_3)),(.n (.int .i64 a0_4))]),(.n (.str a1)),(.n (.str a2))]) [] (endQ c5 R)=V5 a0_0 a0_1 a0_2 a0_3 a0_4 a1 a2 R:=by kernel_rfl
end Go.Proofs.YtclgengkohbjjaaGreatDoor.M
