import Derived.Test.YtclgengkohbjjaaGreatDoorR4K
import Derived.Test.YtclgengkohbjjaaGreatDoorR4EdW
import Derived.Test.YtclgengkohbjjaaGreatDoorR4FunB
import Derived.Test.YtclgengkohbjjaaGreatDoorR4LV
import Derived.Test.YtclgengkohbjjaaGreatDoorR4LW
namespace Go.Proofs.YtclgengkohbjjaaGreatDoor.M
set_option linter.unusedVariables false
set_option linter.unusedSimpArgs false
open Go Go.Mir
set_option linter.unusedVariables false
abbrev qcE_:=
 (Int→(qcl_→Prop))
abbrev qcF_:=
 (Int→(qcl_→Nat))
abbrev qcK_ (p0:Bool):=
 (Runs Fs4 29 [] [] (aB p0) [])
abbrev qcL_ (p0 p1:LD) (p2:Bool):=
 (Runs Fs4 25 [(.o (Mir.D.sl 2 p0)),(.o (Mir.D.sl 2 p1))] [] (aB p2) [])
abbrev qcG_ (p0:qcl_) (p1:LD) (p2:Mir.AV→Prop):=
 (∃x14:Unit,(∃x15:Nat,(∃x16:Nat,(∃x17:Int,(∃x18:Bool,(∃x19:Nat,(∃x20:LD,(∃x21:Nat,(∃x22:LD,((Runs Fs4 21 [(.agg (qcn_ p0))] [] (.ptr 2100101 0) [(qbG_ x15 x16 x17 x18),(hR 2190001 x19 48 2 x20),(hR 2190002 x21 3 1 x22)])∧(∃x23:Bool,((qcK_ x23)∧(sel x23 (sel (Bool.not x18) ((x19=x15)∧(∃x24:Bool,((qcL_ x20 p1 x24)∧(sel x24 (∃x25:Int,((Runs Fs4 23 [(.agg [(aL p0.1),(aL p0.2.1)])] [] (aI x25) [])∧((x21:Nat)=x16)∧(p2 (.n (.bool (x25==(IntKind.wrap .i64 ((IntKind.wrap .i64 (((Prod.snd (1,p0.2.1)).length:Int) - 10)) - (x22.length:Int))))))))) (p2 (.n (.bool false))))))) (p2 (.n (.bool false)))) (p2 (.n (.bool false))))))))))))))))
abbrev qcH_ (p0 p1:ByteArray) (p2:Bool):=
 (Runs Fs4 31 [(aS p0),(aS p1)] [] (aB p2) [])
abbrev qcI_ (p0:LD) (p1 p2:ByteArray) (p3:LD):=
 (Runs Fs4 33 [(.o (Mir.D.sl 2 p0)),(aS p1),(aS p2)] [] (.o (Mir.D.sl 2 p3)) [])
abbrev qcM_ (p0:LD) (p1:qcl_) (p2:(LD→qcE_)) (p3:LD) (p4:Int) (p5:(LD→qcF_)):=
 ((rq (.ptr 600102 0))∧(rq (.o (Mir.D.sl 2 p0)))∧(rq (aI (p0.length:Int)))∧(rh [(hB 600102 (qcn_ p1)),(600200,(.row true true 0 48 2 []))])∧(p2 p3 (IntKind.wrap .i64 (p4+1)) (p1.1,(p1.2.1,(p1.2.2.1,(p1.2.2.2.1,(p1.2.2.2.2.1,()))))))∧(((p5 p3 (IntKind.wrap .i64 (p4+1)) (p1.1,(p1.2.1,(p1.2.2.1,(p1.2.2.2.1,(p1.2.2.2.2.1,())))))):Nat)<(p5 p3 p4 p1)))
abbrev qcJ_ (p0:Int) (p1 p2:ByteArray) (p3:qcl_) (p4:LD) (p5:(LD→qcE_)) (p6:LD) (p7:Int) (p8:(LD→qcF_)) (p9:Mir.AV→Prop):=
 (sel (p0==60) (∃x34:Bool,((qcH_ p1 p2 x34)∧(sel x34 (∃x35:Int,((Runs Fs4 23 [(.agg [(aL p3.1),(aL p3.2.1)])] [] (aI x35) [])∧(sel (decide (x35<9)) (qcM_ p4 p3 p5 p6 p7 p8) (sel (p0==1) (∃x36:Bool,((qcH_ p1 p2 x36)∧(sel (Bool.not x36) (qcM_ p4 p3 p5 p6 p7 p8) (p9 (.n (.bool false)))))) (p9 (.n (.bool false))))))) (sel (p0==1) (∃x37:Bool,((qcH_ p1 p2 x37)∧(sel (Bool.not x37) (qcM_ p4 p3 p5 p6 p7 p8) (p9 (.n (.bool false)))))) (p9 (.n (.bool false))))))) (sel (p0==1) (∃x38:Bool,((qcH_ p1 p2 x38)∧(sel (Bool.not x38) (qcM_ p4 p3 p5 p6 p7 p8) (p9 (.n (.bool false)))))) (p9 (.n (.bool false)))))
def V6 (a0:Int) (a1:LD) (R:Mir.AV→Prop):Prop:=
 (∃x0:LD,(∃x1:LD,(∃x2:LD,(∃x3:Int,(∃x4:Int,((Runs Fs4 34 [(aI a0)] [] (qC_ x0 x1 x2 x3 x4) [])∧(0=0)∧(∃x5:(LD→qcE_),(∃x6:(LD→qcF_),(((rh [(hB 600102 (qG_ x0 x1 x2 x3 x4)),(600200,(.row true true 0 48 2 []))])∧(x5 [] 0 (x0,(x1,(x2,(x3,(x4,())))))))∧(∀x7:LD,(∀x8:Int,(∀x9:qcl_,((x5 x7 x8 x9)→(∀x10:(Nat→Mir.AV),(sel (qM_ x8 a1) ((rn 2)∧((0:Int)≤x8)∧(∃x11:Mir.D,((qp_ a1 x8 x11)∧(∃x12:ByteArray,(∃x13:ByteArray,((qbX_ x11 x12 x13)∧(qbY_ x11)∧(sel (decide (x8≥120)) (qcG_ x9 x7 R) (∃x26:LD,(∃x27:LD,(∃x28:LD,(∃x29:Int,(∃x30:Int,(∃x31:Int,((Runs Fs4 30 [(.agg (qcn_ x9)),(aS x12),(aS x13)] [] (.tup [(qC_ x26 x27 x28 x29 x30),(aI x31)]) [])∧(sel (x31==0) (∃x32:Bool,((qcH_ x12 x13 x32)∧(sel x32 (∃x33:LD,((qcI_ x7 x12 x13 x33)∧(rq (.ptr 600102 0))∧(rq (.o (Mir.D.sl 2 a1)))∧(rq (aI (a1.length:Int)))∧(rh [(hB 600102 (qG_ x26 x27 x28 x29 x30)),(600200,(.row true true 0 48 2 []))])∧(x5 x33 (IntKind.wrap .i64 (x8+1)) (x26,(x27,(x28,(x29,(x30,()))))))∧(((x6 x33 (IntKind.wrap .i64 (x8+1)) (x26,(x27,(x28,(x29,(x30,())))))):Nat)<(x6 x7 x8 x9)))) (qcJ_ x31 x12 x13 x9 a1 x5 x7 x8 x6 R)))) (qcJ_ x31 x12 x13 x9 a1 x5 x7 x8 x6 R)))))))))))))))) (qcG_ x9 x7 R))))))))))))))))
def V6e (a0:Int) (a1:LD) (R:Mir.AV→Prop):=PLift.up (by delta V6 qp_ qcn_ qcI_ qcF_ qcl_ qbY_ qbG_ qcE_ qbX_ qcL_ qM_ qcM_ qcH_ qG_ qcG_ qcK_ qcJ_ qC_;exact rfl:V6 a0 a1 R=_)
theorem vc6 (a0:Int) (a1:LD) (R:Mir.AV→Prop):Vc Fs4 c6.body (argsQ c6 [(.n (.int .i64 a0)),(.o (.sl 2 a1))]) [] (endQ c6 R)=V6 a0 a1 R:=by kernel_rfl
end Go.Proofs.YtclgengkohbjjaaGreatDoor.M
