import Derived.Test.YtclgengkohbjjaaGreatDoorR4Kp
import Derived.Test.YtclgengkohbjjaaGreatDoorR4EV
import Derived.Test.YtclgengkohbjjaaGreatDoorR4K4
import Derived.Test.YtclgengkohbjjaaGreatDoorR4Ord
import Derived.Test.YtclgengkohbjjaaGreatDoorR4LW
namespace Go.Proofs.YtclgengkohbjjaaGreatDoor.M
set_option linter.unusedVariables false
set_option linter.unusedSimpArgs false
open Go Go.Mir
set_option linter.unusedVariables false
abbrev qdc_ (p0:LD):=
 (mmI false (p0.length:Int) 30)
abbrev qdd_ (p0 p1 p2:LD) (p3 p4:Int) (p5 p6:Nat) (p7:Int) (p8:Bool) (p9 p10:Nat) (p11:Int) (p12:Bool) (p13:Nat) (p14:LD) (p15:Nat) (p16:LD) (p17:Nat) (p18:LD) (p19:Nat) (p20:LD):=
 (rh [(hB 1100000 (qD_ p0 p1 p2 p3 p4)),(hB 1150110 [(.row 1160110 p5),(.row 1170110 p6),(aI p7),(aB p8)]),(hB 1150401 [(.row 1160401 p9),(.row 1170401 p10),(aI p11),(aB p12)]),(hR 1160110 p13 48 2 p14),(1160401,(.row true false p15 48 2 p16)),(hR 1170110 p17 3 1 p18),(hR 1170401 p19 3 1 p20)])
abbrev qde_ (p0:LD):=
 (List.drop 0 (List.take (Int.toNat (qdc_ p0)) p0))
abbrev qdf_ (p0:LD):=
 (rq (.o (Mir.D.sl 3 (qde_ p0))))
abbrev qdg_ (p0 p1:LD) (p2:Mir.AV→Prop):=
 (∃x54:Bool,((Runs Fs4 25 [(.o (Mir.D.sl 2 p0)),(.o (Mir.D.sl 2 p1))] [] (aB x54) [])∧(p2 (.n (.bool x54)))))
def V11 (a0_0:LD) (a0_1:LD) (a0_2:LD) (a0_3:Int) (a0_4:Int) (a1:LD) (R:Mir.AV→Prop):Prop:=
 (∃x0:Bool,((Runs Fs4 15 [(qG_ a0_0 a0_1 a0_2 a0_3 a0_4)] [] (aB x0) [])∧(sel (Bool.not x0) (qcZ_ R) (∃x2:Bool,((Runs Fs4 18 [(qG_ a0_0 a0_1 a0_2 a0_3 a0_4)] [] (aB x2) [])∧(sel (Bool.not x2) (qcZ_ R) (∃x4:Unit,(∃x5:Nat,(∃x6:Nat,(∃x7:Int,(∃x8:Bool,(∃x9:Nat,(∃x10:LD,(∃x11:Nat,(∃x12:LD,((qc0_ a0_0 a0_1 a0_2 a0_3 a0_4 x5 x6 x7 x8 x9 x10 x11 x12)∧(sel x8 (qcZ_ R) ((rn 3)∧((0:Int)≤(qdc_ a1))∧(((qdc_ a1):Int)≤(a1.length:Int))∧(∃x14:Unit,(∃x15:Nat,(∃x16:Nat,(∃x17:Int,(∃x18:Bool,(∃x19:Nat,(∃x20:LD,(∃x21:Nat,(∃x22:LD,((qc0_ a0_0 a0_1 a0_2 a0_3 a0_4 x15 x16 x17 x18 x19 x20 x21 x22)∧(x19=x15)∧(∃x23:(LD→(Bool→(Int→Prop))),(∃x24:(LD→(Bool→(Int→Nat))),(((qdd_ a0_0 a0_1 a0_2 a0_3 a0_4 x5 x6 x7 x8 x15 x16 x17 x18 x9 x10 x19 x20 x11 x12 x21 x22)∧(x23 x20 true 0))∧(∀x25:LD,(∀x26:Bool,(∀x27:Int,((x23 x25 x26 x27)→(∀x28:(Nat→Mir.AV),(sel (decide (x27<((qde_ a1).length:Int))) ((rn 3)∧((0:Int)≤x27)∧(∃x29:Mir.D,(((qde_ a1)[Int.toNat x27]?=some x29)∧(∃x30:ByteArray,(∃x31:ByteArray,(∃x32:Bool,((qcB_ x29 x30 x31 x32)∧(qcC_ x29)∧(sel x26 (∃x33:Bool,((Runs Fs4 39 [(.agg [(aS x30),(aS x31),(aB x32)])] [] (aB x33) [])∧(∃x34:LD,((Runs Fs4 40 [(.o (Mir.D.sl 2 x25)),(.agg [(aS x30),(aS x31),(aB x32)])] [] (.o (Mir.D.sl 2 x34)) [])∧(qdf_ a1)∧(rq (.ptr 1100000 0))∧(qdf_ a1)∧(rq (aI ((qde_ a1).length:Int)))∧(qdd_ a0_0 a0_1 a0_2 a0_3 a0_4 x5 x6 x7 x8 x15 x16 x17 x18 x9 x10 x19 x20 x11 x12 x21 x22)∧(x23 x34 x33 (IntKind.wrap .i64 (x27+1)))∧(((x24 x34 x33 (IntKind.wrap .i64 (x27+1))):Nat)<(x24 x25 x26 x27)))))) (∃x35:LD,((Runs Fs4 40 [(.o (Mir.D.sl 2 x25)),(.agg [(aS x30),(aS x31),(aB x32)])] [] (.o (Mir.D.sl 2 x35)) [])∧(qdf_ a1)∧(rq (.ptr 1100000 0))∧(qdf_ a1)∧(rq (aI ((qde_ a1).length:Int)))∧(qdd_ a0_0 a0_1 a0_2 a0_3 a0_4 x5 x6 x7 x8 x15 x16 x17 x18 x9 x10 x19 x20 x11 x12 x21 x22)∧(x23 x35 false (IntKind.wrap .i64 (x27+1)))∧(((x24 x35 false (IntKind.wrap .i64 (x27+1))):Nat)<(x24 x25 x26 x27)))))))))))) (∃x36:LD,(∃x37:LD,(∃x38:LD,(∃x39:Int,(∃x40:Int,(∃x41:Int,((Runs Fs4 41 [(qG_ a0_0 a0_1 a0_2 a0_3 a0_4),(.o (Mir.D.sl 3 (qde_ a1)))] [] (qco_ x36 x37 x38 x39 x40 x41) [])∧(sel (x41 != 0) (∃x42:Bool,((qdb_ x42)∧(sel x42 (∃x43:Bool,((Runs Fs4 20 [(qG_ x36 x37 x38 x39 x40)] [] (aB x43) [])∧(sel x43 (sel (x41==60) (R (.n (.bool true))) (sel (x41==1) (R (.n (.bool (Bool.not x26)))) (R (.n (.bool false))))) (R (.n (.bool false)))))) (R (.n (.bool false)))))) (∃x44:Unit,(∃x45:Nat,(∃x46:Nat,(∃x47:Int,(∃x48:Bool,(∃x49:Nat,(∃x50:LD,(∃x51:Nat,(∃x52:LD,((qc0_ x36 x37 x38 x39 x40 x45 x46 x47 x48 x49 x50 x51 x52)∧(∃x53:Bool,((qdb_ x53)∧(sel x53 (sel x26 (sel (Bool.not x48) ((x49=x45)∧(qdg_ x50 x25 R)) (R (.n (.bool false)))) (R (.n (.bool false)))) (R (.n (.bool false)))))))))))))))))))))))))))))))))))))))))))))))))))))))))))))
def V11e (a0_0:LD) (a0_1:LD) (a0_2:LD) (a0_3:Int) (a0_4:Int) (a1:LD) (R:Mir.AV→Prop):=PLift.up (by delta V11 qdf_ qc0_ qde_ qdb_ qdd_ qG_ qdg_ qco_ qdc_ qcB_ qcZ_ qcC_ qD_ qbB_;exact rfl:V11 a0_0 a0_1 a0_2 a0_3 a0_4 a1 R=_)
theorem vc11 (a0_0:LD) (a0_1:LD) (a0_2:LD) (a0_3:Int) (a0_4:Int) (a1:LD) (R:Mir.AV→Prop):Vc Fs4 c11.body (argsQ c11 [(.agg [(.o (.sl 1 a0_0)),(.o (.sl 1 a0_1)),(.o (.sl 1 a0_2)),(.n (.int .i64 a0_3)),(.n (.int .i64 a0_4))]),(.o (.sl 3 a1))]) [] (endQ c11 R)=V11 a0_0 a0_1 a0_2 a0_3 a0_4 a1 R:=by kernel_rfl
end Go.Proofs.YtclgengkohbjjaaGreatDoor.M
