import Derived.Test.YtclgengkohbjjaaGreatDoorR4K
import Derived.Test.YtclgengkohbjjaaGreatDoorR4EdW
import Derived.Test.YtclgengkohbjjaaGreatDoorR4FunB
import Derived.Test.YtclgengkohbjjaaGreatDoorR4LV
import Derived.Test.YtclgengkohbjjaaGreatDoorR4LW
namespace Go.Proofs.YtclgengkohbjjaaGreatDoor.M
set_option linter.unusedVariables false
set_option linter.unusedSimpArgs false
open Go Go.Mir
set_option linter.unusedVariables false
abbrev qcy_ (p0 p1:LD):=
 (rh [(hB 2300000 [(aL p0),(aL p1)])])
def V23 (a0_0:LD) (a0_1:LD) (R:Mir.AV→Prop):Prop:=
 (∃x0:Bool,((Runs Fs4 54 (qK_ a0_0 a0_1) [] (aB x0) [])∧(sel (Bool.not x0) (R (.n (.int .i64 0))) (∃x1:(Int→(Int→Prop)),(∃x2:(Int→(Int→Nat)),(((qcy_ a0_0 a0_1)∧(x1 0 0))∧(∀x3:Int,(∀x4:Int,((x1 x3 x4)→(∀x5:(Nat→Mir.AV),(sel (qM_ x4 a0_1) (∃x6:Bool,((Runs Fs4 56 [(.agg [(aL a0_0),(aL a0_1)]),(aI x4)] [] (aB x6) [])∧(sel x6 ((rq (.ptr 2300000 0))∧(qN_ a0_1)∧(qcy_ a0_0 a0_1)∧(x1 (IntKind.wrap .i64 (x3+1)) (IntKind.wrap .i64 (x4+1)))∧(((x2 (IntKind.wrap .i64 (x3+1)) (IntKind.wrap .i64 (x4+1))):Nat)<(x2 x3 x4))) ((rq (.ptr 2300000 0))∧(qN_ a0_1)∧(qcy_ a0_0 a0_1)∧(x1 x3 (IntKind.wrap .i64 (x4+1)))∧(((x2 x3 (IntKind.wrap .i64 (x4+1))):Nat)<(x2 x3 x4)))))) (R (.n (.int .i64 x3))))))))))))))
def V23e (a0_0:LD) (a0_1:LD) (R:Mir.AV→Prop):=PLift.up (by delta V23 qN_ qcy_ qK_ qM_;exact rfl:V23 a0_0 a0_1 R=_)
theorem vc23 (a0_0:LD) (a0_1:LD) (R:Mir.AV→Prop):Vc Fs4 c23.body (argsQ c23 [(.agg [(.o (.sl 1 a0_0)),(.o (.sl 1 a0_1))])]) [] (endQ c23 R)=V23 a0_0 a0_1 R:=by kernel_rfl
abbrev qcB_ (p0 p1 p2 p3 p4:LD) (p5 p6:Int) (p7 p8 p9:LD) (p10 p11:Int) (p12:(Int→Prop)) (p13:Int) (p14:(Int→Nat)):=
 ((rq (aL p0))∧(rq (aL p1))∧(rq (.ptr 2400000 0))∧(rq (.ptr 2400001 0))∧(qN_ p2)∧(rh [(hB 2400000 (qG_ p3 p2 p4 p5 p6)),(hB 2400001 (qG_ p7 p8 p9 p10 p11))])∧(p12 (IntKind.wrap .i64 (p13+1)))∧(((p14 (IntKind.wrap .i64 (p13+1))):Nat)<(p14 p13)))
abbrev qcz_ (p0:Int) (p1 p2 p3:LD) (p4:Mir.AV→Prop) (p5 p6 p7:LD) (p8 p9:Int) (p10 p11:LD) (p12 p13:Int) (p14:(Int→Prop)) (p15:(Int→Nat)):=
 ((rn 1)∧((0:Int)≤p0)∧(∃x14:Mir.D,((qp_ p1 p0 x14)∧(∃x15:Bool,((qT_ x14 x15)∧(rn 1)∧((0:Int)≤p0)∧(∃x16:Mir.D,((qp_ p2 p0 x16)∧(∃x17:Bool,((qT_ x16 x17)∧(sel x17 (∃x18:Bool,((Runs Fs4 27 [(aL p3),(aI p0)] [] (aB x18) [])∧(sel (Bool.not x18) (sel (Bool.not (x15==true)) (p4 (.n (.bool false))) (qcB_ p3 p5 p2 p6 p7 p8 p9 p10 p1 p11 p12 p13 p14 p0 p15)) (∃x19:Bool,((Runs Fs4 27 [(aL p5),(aI p0)] [] (aB x19) [])∧(sel (Bool.not (x15==x19)) (p4 (.n (.bool false))) (qcB_ p3 p5 p2 p6 p7 p8 p9 p10 p1 p11 p12 p13 p14 p0 p15))))))) (∃x20:Bool,((Runs Fs4 27 [(aL p5),(aI p0)] [] (aB x20) [])∧(sel (Bool.not (x15==x20)) (p4 (.n (.bool false))) (qcB_ p3 p5 p2 p6 p7 p8 p9 p10 p1 p11 p12 p13 p14 p0 p15))))))))))))))
abbrev qcA_ (p0 p1 p2 p3 p4:LD) (p5 p6:Int) (p7 p8 p9:LD) (p10 p11:Int) (p12:(Int→Prop)) (p13:Int) (p14:(Int→Nat)):=
 ((rq (aL p0))∧(rq (.ptr 2400000 0))∧(rq (.ptr 2400001 0))∧(rq (aL p1))∧(rq (aI (p1.length:Int)))∧(rh [(hB 2400000 (qG_ p2 p3 p4 p5 p6)),(hB 2400001 (qG_ p7 p8 p9 p10 p11))])∧(p12 (IntKind.wrap .i64 (p13+1)))∧(((p14 (IntKind.wrap .i64 (p13+1))):Nat)<(p14 p13)))
def V24 (a0_0:LD) (a0_1:LD) (a0_2:LD) (a0_3:Int) (a0_4:Int) (a1_0:LD) (a1_1:LD) (a1_2:LD) (a1_3:Int) (a1_4:Int) (a2:LD) (a3:LD) (R:Mir.AV→Prop):Prop:=
 (sel (a1_4 != a0_4) (R (.n (.bool false))) (sel (qL_ a1_2 a0_2) (R (.n (.bool false))) (sel (qL_ a1_1 a0_1) (R (.n (.bool false))) (sel (qL_ a1_0 a0_0) (R (.n (.bool false))) (∃x0:(Int→Prop),(∃x1:(Int→Nat),(((rh [(hB 2400000 (qG_ a0_0 a0_1 a0_2 a0_3 a0_4)),(hB 2400001 (qG_ a1_0 a1_1 a1_2 a1_3 a1_4))])∧(x0 0))∧(∀x2:Int,((x0 x2)→(∀x3:(Nat→Mir.AV),(sel (qM_ x2 a0_1) ((rn 1)∧((0:Int)≤x2)∧(∃x4:Mir.D,((qp_ a1_0 x2 x4)∧(∃x5:Bool,((qT_ x4 x5)∧(rn 1)∧((0:Int)≤x2)∧(∃x6:Mir.D,((qp_ a0_0 x2 x6)∧(∃x7:Bool,((qT_ x6 x7)∧(sel (Bool.not (x5==x7)) (R (.n (.bool false))) ((rn 1)∧((0:Int)≤x2)∧(∃x8:Mir.D,((qp_ a0_0 x2 x8)∧(∃x9:Bool,((qT_ x8 x9)∧(sel x9 ((rn 1)∧((0:Int)≤x2)∧(∃x10:Mir.D,((qp_ a1_2 x2 x10)∧(∃x11:ByteArray,((qr_ x10 x11)∧(rn 1)∧((0:Int)≤x2)∧(∃x12:Mir.D,((qp_ a0_2 x2 x12)∧(∃x13:ByteArray,((qr_ x12 x13)∧(sel (Bool.not (qu_ x11 x13)) (R (.n (.bool false))) (qcz_ x2 a1_1 a0_1 a2 R a3 a0_0 a0_2 a0_3 a0_4 a1_0 a1_2 a1_3 a1_4 x0 x1))))))))))) (qcz_ x2 a1_1 a0_1 a2 R a3 a0_0 a0_2 a0_3 a0_4 a1_0 a1_2 a1_3 a1_4 x0 x1))))))))))))))))) (∃x28:(Int→Prop),(∃x29:(Int→Nat),(((rh [(hB 2400000 (qG_ a0_0 a0_1 a0_2 a0_3 a0_4)),(hB 2400001 (qG_ a1_0 a1_1 a1_2 a1_3 a1_4))])∧(x28 0))∧(∀x30:Int,((x28 x30)→(∀x31:(Nat→Mir.AV),(sel (qM_ x30 a3) ((rn 1)∧((0:Int)≤x30)∧(∃x32:Mir.D,((qp_ a3 x30 x32)∧(∃x33:Int,(((D.cells x32)[0]?=some (Mir.D.int .i64 x33))∧(rn 1)∧((0:Int)≤x33)∧(∃x34:Mir.D,((qp_ a1_2 x33 x34)∧(∃x35:ByteArray,((qr_ x34 x35)∧(∃x36:Int,(∃x37:Int,(∃x38:ByteArray,(∃x39:Int,((Runs Fs4 57 [(aS x35)] [] (.tup [(.agg [(aI x36),(aI x37),(aS x38)]),(aI x39)]) [])∧(∃x40:Bool,((Runs Fs4 27 [(aL a2),(aI x33)] [] (aB x40) [])∧(sel x40 ((rn 1)∧((0:Int)≤x33)∧(∃x41:Mir.D,((qp_ a1_2 x33 x41)∧(∃x42:ByteArray,((qr_ x41 x42)∧(rn 1)∧((0:Int)≤x33)∧(∃x43:Mir.D,((qp_ a0_2 x33 x43)∧(∃x44:ByteArray,((qr_ x43 x44)∧(sel (Bool.not (qu_ x42 x44)) (sel (x39 != 0) (R (.n (.bool false))) (sel (x37 != a0_4) (R (.n (.bool false))) (qcA_ a2 a3 a0_0 a0_1 a0_2 a0_3 a0_4 a1_0 a1_1 a1_2 a1_3 a1_4 x28 x30 x29))) (qcA_ a2 a3 a0_0 a0_1 a0_2 a0_3 a0_4 a1_0 a1_1 a1_2 a1_3 a1_4 x28 x30 x29))))))))))) (sel (x39 != 0) (R (.n (.bool false))) (sel (x37 != a0_4) (R (.n (.bool false))) (qcA_ a2 a3 a0_0 a0_1 a0_2 a0_3 a0_4 a1_0 a1_1 a1_2 a1_3 a1_4 x28 x30 x29)))))))))))))))))))) (R (.n (.bool true)))))))))))))))))))))
def V24e (a0_0:LD) (a0_1:LD) (a0_2:LD) (a0_3:Int) (a0_4:Int) (a1_0:LD) (a1_1:LD) (a1_2:LD) (a1_3:Int) (a1_4:Int) (a2:LD) (a3:LD) (R:Mir.AV→Prop):=PLift.up (by delta V24 qr_ qu_ qN_ qcA_ qcB_ qM_ qL_ qG_ qT_ qcz_ qp_;exact rfl:V24 a0_0 a0_1 a0_2 a0_3 a0_4 a1_0 a1_1 a1_2 a1_3 a1_4 a2 a3 R=_)
theorem vc24 (a0_0:LD) (a0_1:LD) (a0_2:LD) (a0_3:Int) (a0_4:Int) (a1_0:LD) (a1_1:LD) (a1_2:LD) (a1_3:Int) (a1_4:Int) (a2:LD) (a3:LD) (R:Mir.AV→Prop):Vc Fs4 c24.body (argsQ c24 [(.agg [(.o (.sl 1 a0_0)),(.o (.sl 1 a0_1)),(.o (.sl 1 a0_2)),(.n (.int .i64 a0_3)),(.n (.int .i64 a0_4))]),(.agg [(.o (.sl 1 a1_0)),(.o (.sl 1 a1_1)),(.o (.sl 1 a1_2)),(.n (.int .i64 a1_3)),(.n (.int .i64 a1_4))]),(.o (.sl 1 a2)),(.o (.sl 1 a3))]) [] (endQ c24 R)=V24 a0_0 a0_1 a0_2 a0_3 a0_4 a1_0 a1_1 a1_2 a1_3 a1_4 a2 a3 R:=by kernel_rfl
def V28 (a0_0:LD) (a0_1:LD) (a0_2:LD) (a0_3:Int) (a0_4:Int) (R:Mir.AV→Prop):Prop:=
 (sel (decide ((a0_1.length:Int)≤300)) (R (.n (.bool (decide ((a0_2.length:Int)≤300))))) (R (.n (.bool false))))
theorem vc28 (a0_0:LD) (a0_1:LD) (a0_2:LD) (a0_3:Int) (a0_4:Int) (R:Mir.AV→Prop):Vc Fs4 c28.body (argsQ c28 [(.agg [(.o (.sl 1 a0_0)),(.o (.sl 1 a0_1)),(.o (.sl 1 a0_2)),(.n (.int .i64 a0_3)),(.n (.int .i64 a0_4))])]) [] (endQ c28 R)=V28 a0_0 a0_1 a0_2 a0_3 a0_4 R:=by kernel_rfl
def V29  (R:Mir.AV→Prop):Prop:=
 (∃x0:LD,(∃x1:LD,(∃x2:LD,(∃x3:Int,(∃x4:Int,((Runs Fs4 34 [(aI 24)] [] (qC_ x0 x1 x2 x3 x4) [])∧(∃x5:LD,(∃x6:LD,(∃x7:LD,(∃x8:Int,(∃x9:Int,(∃x10:Int,((Runs Fs4 30 [(qC_ x0 x1 x2 x3 x4),(aS (ByteArray.mk (List.toArray [97]))),(aS (ByteArray.mk (List.toArray [49])))] [] (.tup [(qC_ x5 x6 x7 x8 x9),(aI x10)]) [])∧(sel (x10==0) (sel (x8==10) (R (.n (.bool ((x7.length:Int)==24)))) (R (.n (.bool false)))) (R (.n (.bool false)))))))))))))))))
def V29e  (R:Mir.AV→Prop):=PLift.up (by delta V29 qG_ qC_;exact rfl:V29 R=_)
theorem vc29  (R:Mir.AV→Prop):Vc Fs4 c29.body (argsQ c29 []) [] (endQ c29 R)=V29  R:=by kernel_rfl
def V31 (a0:ByteArray) (a1:ByteArray) (R:Mir.AV→Prop):Prop:=
 (qcf_ a0 R a1)
def V31e (a0:ByteArray) (a1:ByteArray) (R:Mir.AV→Prop):=PLift.up (by delta V31 qcf_;exact rfl:V31 a0 a1 R=_)
theorem vc31 (a0:ByteArray) (a1:ByteArray) (R:Mir.AV→Prop):Vc Fs4 c31.body (argsQ c31 [(.n (.str a0)),(.n (.str a1))]) [] (endQ c31 R)=V31 a0 a1 R:=by kernel_rfl
def V32 (a0_0:LD) (a0_1:LD) (a0_2:LD) (a0_3:Int) (a0_4:Int) (R:Mir.AV→Prop):Prop:=
 (∃x0:Bool,((Runs Fs4 36 [(qC_ a0_0 a0_1 a0_2 a0_3 a0_4),(.agg [(aL []),(aL []),(aL []),(aI 0),(aI 0)])] [] (aB x0) [])∧(R (.n (.bool x0)))))
def V32e (a0_0:LD) (a0_1:LD) (a0_2:LD) (a0_3:Int) (a0_4:Int) (R:Mir.AV→Prop):=PLift.up (by delta V32 qG_ qC_;exact rfl:V32 a0_0 a0_1 a0_2 a0_3 a0_4 R=_)
theorem vc32 (a0_0:LD) (a0_1:LD) (a0_2:LD) (a0_3:Int) (a0_4:Int) (R:Mir.AV→Prop):Vc Fs4 c32.body (argsQ c32 [(.agg [(.o (.sl 1 a0_0)),(.o (.sl 1 a0_1)),(.o (.sl 1 a0_2)),(.n (.int .i64 a0_3)),(.n (.int .i64 a0_4))])]) [] (endQ c32 R)=V32 a0_0 a0_1 a0_2 a0_3 a0_4 R:=by kernel_rfl
abbrev qcC_ (p0 p1 p2:ByteArray) (p3:(Nat×LD)) (p4:Nat) (p5:ByteArray) (p6:LD) (p7:(Nat→(Bool→(Int→((Nat×LD)→Prop))))) (p8:Bool) (p9:Int) (p10:(Nat→(Bool→(Int→((Nat×LD)→Nat))))):=
 (sel (Bool.not (qu_ p0 p1)) ((rn 0)∧(qbN_ p0 p2)∧(((qc_ p3 p4)∧(rn 48))∧(rn 2))∧(qbO_ p3 p0 p2)∧(rq (aS p1))∧(rq (aS p5))∧(rq (.o (Mir.D.sl 2 p6)))∧(rq (aI (p6.length:Int)))∧(rh [(3300100,(.row false true (p4+1) 48 2 (qbP_ p3 p0 p2)))])∧(p7 (p4+1) p8 (IntKind.wrap .i64 (p9+1)) ((p4+1),(qbP_ p3 p0 p2)))∧(((p10 (p4+1) p8 (IntKind.wrap .i64 (p9+1)) ((p4+1),(qbP_ p3 p0 p2))):Nat)<(p10 p4 p8 p9 p3))) ((rq (aS p1))∧(rq (aS p5))∧(rq (.o (Mir.D.sl 2 p6)))∧(rq (aI (p6.length:Int)))∧(rh [(3300100,(.row false true (Prod.fst p3) 48 2 (Prod.snd p3)))])∧(p7 p4 p8 (IntKind.wrap .i64 (p9+1)) ((Prod.fst p3),(Prod.snd p3)))∧(((p10 p4 p8 (IntKind.wrap .i64 (p9+1)) ((Prod.fst p3),(Prod.snd p3))):Nat)<(p10 p4 p8 p9 p3))))
def V33 (a0:LD) (a1:ByteArray) (a2:ByteArray) (R:Mir.AV→Prop):Prop:=
 (∃x0:(Nat→(Bool→(Int→((Nat×LD)→Prop)))),(∃x1:(Nat→(Bool→(Int→((Nat×LD)→Nat)))),(((rh [(3300100,(.row false true 0 48 2 []))])∧(x0 0 false 0 (0,[])))∧(∀x2:Nat,(∀x3:Bool,(∀x4:Int,(∀x5:(Nat×LD),((x0 x2 x3 x4 x5)→(∀x6:(Nat→Mir.AV),(sel (qM_ x4 a0) ((rn 2)∧((0:Int)≤x4)∧(∃x7:Mir.D,((qp_ a0 x4 x7)∧(∃x8:ByteArray,(∃x9:ByteArray,((qbX_ x7 x8 x9)∧(qbY_ x7)∧(sel (Bool.not x3) (sel (Bool.not (qbt_ x8 a1)) ((rn 0)∧(qbN_ a1 a2)∧(((qc_ x5 x2)∧(rn 48))∧(rn 2))∧(qbO_ x5 a1 a2)∧(sel (Bool.not (qu_ x8 a1)) ((rn 0)∧(qbN_ x8 x9)∧(((rn (x2+1))∧(rn 48))∧(rn 2))∧(((((List.length (qbP_ x5 a1 a2))+(List.length [(qbV_ x8 x9)]))*32):Nat)≤140737488355328)∧(rq (aS a1))∧(rq (aS a2))∧(rq (.o (Mir.D.sl 2 a0)))∧(rq (aI (a0.length:Int)))∧(rh [(3300100,(.row false true ((x2+1)+1) 48 2 ((qbP_ x5 a1 a2)++[(qbV_ x8 x9)])))])∧(x0 ((x2+1)+1) true (IntKind.wrap .i64 (x4+1)) (((x2+1)+1),((qbP_ x5 a1 a2)++[(qbV_ x8 x9)])))∧(((x1 ((x2+1)+1) true (IntKind.wrap .i64 (x4+1)) (((x2+1)+1),((qbP_ x5 a1 a2)++[(qbV_ x8 x9)]))):Nat)<(x1 x2 x3 x4 x5))) ((rq (aS a1))∧(rq (aS a2))∧(rq (.o (Mir.D.sl 2 a0)))∧(rq (aI (a0.length:Int)))∧(rh [(3300100,(.row false true (x2+1) 48 2 (qbP_ x5 a1 a2)))])∧(x0 (x2+1) true (IntKind.wrap .i64 (x4+1)) ((x2+1),(qbP_ x5 a1 a2)))∧(((x1 (x2+1) true (IntKind.wrap .i64 (x4+1)) ((x2+1),(qbP_ x5 a1 a2))):Nat)<(x1 x2 x3 x4 x5))))) (qcC_ x8 a1 x9 x5 x2 a2 a0 x0 x3 x4 x1)) (qcC_ x8 a1 x9 x5 x2 a2 a0 x0 x3 x4 x1)))))))) (sel (Bool.not x3) ((rn 0)∧(qbN_ a1 a2)∧(((qc_ x5 x2)∧(rn 48))∧(rn 2))∧(qbO_ x5 a1 a2)∧((x2+1)=(x2+1))∧(R (.o (Mir.D.sl 2 (qbP_ x5 a1 a2))))) (((Prod.fst x5)=x2)∧(R (.o (Mir.D.sl 2 (Prod.snd x5))))))))))))))))
def V33e (a0:LD) (a1:ByteArray) (a2:ByteArray) (R:Mir.AV→Prop):=PLift.up (by delta V33 qp_ qbY_ qcC_ qbX_ qbO_ qbt_ qbV_ qc_ qbP_ qu_ qM_ qbN_ q9_;exact rfl:V33 a0 a1 a2 R=_)
theorem vc33 (a0:LD) (a1:ByteArray) (a2:ByteArray) (R:Mir.AV→Prop):Vc Fs4 c33.body (argsQ c33 [(.o (.sl 2 a0)),(.n (.str a1)),(.n (.str a2))]) [] (endQ c33 R)=V33 a0 a1 a2 R:=by kernel_rfl
abbrev qcD_ (p0:Int):=
 (mmI false (mmI true p0 24) 200)
def V34 (a0:Int) (R:Mir.AV→Prop):Prop:=
 (∃x0:LD,(∃x1:LD,((Runs Fs4 60 [(aI (qcD_ a0))] [] (.agg [(aL x0),(aL x1)]) [])∧((0:Int)≤(qcD_ a0))∧((((Int.toNat (qcD_ a0))*16):Nat)≤140737488355328)∧(0=0)∧(R (.agg [(.o (.sl 1 x0)),(.o (.sl 1 x1)),(.o (.sl 1 (List.replicate (Int.toNat (qcD_ a0)) (Mir.D.str qf_)))),(.n (.int .i64 0)),(.n (.int .i64 1))])))))
def V34e (a0:Int) (R:Mir.AV→Prop):=PLift.up (by delta V34 qcD_ qf_;exact rfl:V34 a0 R=_)
theorem vc34 (a0:Int) (R:Mir.AV→Prop):Vc Fs4 c34.body (argsQ c34 [(.n (.int .i64 a0))]) [] (endQ c34 R)=V34 a0 R:=by kernel_rfl
def V36 (a0_0:LD) (a0_1:LD) (a0_2:LD) (a0_3:Int) (a0_4:Int) (a1_0:LD) (a1_1:LD) (a1_2:LD) (a1_3:Int) (a1_4:Int) (R:Mir.AV→Prop):Prop:=
 (sel (a0_3 != a1_3) (R (.n (.bool false))) (sel (a0_4 != a1_4) (R (.n (.bool false))) (sel (qL_ a0_2 a1_2) (R (.n (.bool false))) (∃x0:Bool,((Runs Fs4 61 [(.agg [(aL a0_0),(aL a0_1)]),(.agg [(aL a1_0),(aL a1_1)])] [] (aB x0) [])∧(sel (Bool.not x0) (R (.n (.bool false))) (∃x1:(Int→Prop),(∃x2:(Int→Nat),(((rh [(hB 3600000 (qG_ a0_0 a0_1 a0_2 a0_3 a0_4)),(hB 3600001 (qG_ a1_0 a1_1 a1_2 a1_3 a1_4))])∧(x1 0))∧(∀x3:Int,((x1 x3)→(∀x4:(Nat→Mir.AV),(sel (qM_ x3 a0_2) ((rn 1)∧((0:Int)≤x3)∧(∃x5:Mir.D,((qp_ a0_2 x3 x5)∧(∃x6:ByteArray,((qr_ x5 x6)∧(rn 1)∧((0:Int)≤x3)∧(∃x7:Mir.D,((qp_ a1_2 x3 x7)∧(∃x8:ByteArray,((qr_ x7 x8)∧(sel (Bool.not (qu_ x6 x8)) (R (.n (.bool false))) ((rq (.ptr 3600000 0))∧(rq (.ptr 3600001 0))∧(qN_ a0_2)∧(rh [(hB 3600000 (qG_ a0_0 a0_1 a0_2 a0_3 a0_4)),(hB 3600001 (qG_ a1_0 a1_1 a1_2 a1_3 a1_4))])∧(x1 (IntKind.wrap .i64 (x3+1)))∧(((x2 (IntKind.wrap .i64 (x3+1))):Nat)<(x2 x3))))))))))))) (R (.n (.bool true))))))))))))))))
def V36e (a0_0:LD) (a0_1:LD) (a0_2:LD) (a0_3:Int) (a0_4:Int) (a1_0:LD) (a1_1:LD) (a1_2:LD) (a1_3:Int) (a1_4:Int) (R:Mir.AV→Prop):=PLift.up (by delta V36 qr_ qN_ qu_ qM_ qL_ qG_ qp_;exact rfl:V36 a0_0 a0_1 a0_2 a0_3 a0_4 a1_0 a1_1 a1_2 a1_3 a1_4 R=_)
theorem vc36 (a0_0:LD) (a0_1:LD) (a0_2:LD) (a0_3:Int) (a0_4:Int) (a1_0:LD) (a1_1:LD) (a1_2:LD) (a1_3:Int) (a1_4:Int) (R:Mir.AV→Prop):Vc Fs4 c36.body (argsQ c36 [(.agg [(.o (.sl 1 a0_0)),(.o (.sl 1 a0_1)),(.o (.sl 1 a0_2)),(.n (.int .i64 a0_3)),(.n (.int .i64 a0_4))]),(.agg [(.o (.sl 1 a1_0)),(.o (.sl 1 a1_1)),(.o (.sl 1 a1_2)),(.n (.int .i64 a1_3)),(.n (.int .i64 a1_4))])]) [] (endQ c36 R)=V36 a0_0 a0_1 a0_2 a0_3 a0_4 a1_0 a1_1 a1_2 a1_3 a1_4 R:=by kernel_rfl
def V56 (a0_0:LD) (a0_1:LD) (a1:Int) (R:Mir.AV→Prop):Prop:=
 (sel (decide (a1≥0)) (sel (qM_ a1 a0_1) ((rn 1)∧((0:Int)≤a1)∧(∃x0:Mir.D,((qp_ a0_1 a1 x0)∧(∃x1:Bool,((qT_ x0 x1)∧(sel (Bool.not x1) ((rn 1)∧((0:Int)≤a1)∧(∃x2:Mir.D,((qp_ a0_0 a1 x2)∧(∃x3:Bool,((qT_ x2 x3)∧(R (.n (.bool (Bool.not x3))))))))) (R (.n (.bool false))))))))) (R (.n (.bool false)))) (R (.n (.bool false))))
def V56e (a0_0:LD) (a0_1:LD) (a1:Int) (R:Mir.AV→Prop):=PLift.up (by delta V56 qT_ qp_ qM_;exact rfl:V56 a0_0 a0_1 a1 R=_)
theorem vc56 (a0_0:LD) (a0_1:LD) (a1:Int) (R:Mir.AV→Prop):Vc Fs4 c56.body (argsQ c56 [(.agg [(.o (.sl 1 a0_0)),(.o (.sl 1 a0_1))]),(.n (.int .i64 a1))]) [] (endQ c56 R)=V56 a0_0 a0_1 a1 R:=by kernel_rfl
def V61 (a0_0:LD) (a0_1:LD) (a1_0:LD) (a1_1:LD) (R:Mir.AV→Prop):Prop:=
 (∃x0:Bool,((Runs Fs4 89 [(aL a0_0),(aL a1_0)] [] (aB x0) [])∧(sel x0 (∃x1:Bool,((Runs Fs4 89 [(aL a0_1),(aL a1_1)] [] (aB x1) [])∧(R (.n (.bool x1))))) (R (.n (.bool false))))))
theorem vc61 (a0_0:LD) (a0_1:LD) (a1_0:LD) (a1_1:LD) (R:Mir.AV→Prop):Vc Fs4 c61.body (argsQ c61 [(.agg [(.o (.sl 1 a0_0)),(.o (.sl 1 a0_1))]),(.agg [(.o (.sl 1 a1_0)),(.o (.sl 1 a1_1))])]) [] (endQ c61 R)=V61 a0_0 a0_1 a1_0 a1_1 R:=by kernel_rfl
def V89 (a0:LD) (a1:LD) (R:Mir.AV→Prop):Prop:=
 (sel (qL_ a0 a1) (R (.n (.bool false))) (∃x0:(Int→Prop),(∃x1:(Int→Nat),(((rh [])∧(x0 0))∧(∀x2:Int,((x0 x2)→(∀x3:(Nat→Mir.AV),(sel (qM_ x2 a0) ((rn 1)∧((0:Int)≤x2)∧(∃x4:Mir.D,((qp_ a0 x2 x4)∧(∃x5:Bool,((qT_ x4 x5)∧(rn 1)∧((0:Int)≤x2)∧(∃x6:Mir.D,((qp_ a1 x2 x6)∧(∃x7:Bool,((qT_ x6 x7)∧(sel (Bool.not (x5==x7)) (R (.n (.bool false))) ((rq (aL a0))∧(rq (aL a1))∧(rq (aI (a0.length:Int)))∧(rh [])∧(x0 (IntKind.wrap .i64 (x2+1)))∧(((x1 (IntKind.wrap .i64 (x2+1))):Nat)<(x1 x2))))))))))))) (R (.n (.bool true)))))))))))
def V89e (a0:LD) (a1:LD) (R:Mir.AV→Prop):=PLift.up (by delta V89 qT_ qp_ qL_ qM_;exact rfl:V89 a0 a1 R=_)
theorem vc89 (a0:LD) (a1:LD) (R:Mir.AV→Prop):Vc Fs4 c89.body (argsQ c89 [(.o (.sl 1 a0)),(.o (.sl 1 a1))]) [] (endQ c89 R)=V89 a0 a1 R:=by kernel_rfl
noncomputable instance (a b:Wd):Decidable (a=b):=Classical.propDecidable _
def smallW (w:Wd):Prop:=w.now.length≤300∧w.pages.length≤300
instance (w:Wd):Decidable (smallW w):=by unfold smallW;infer_instance
theorem p28 (w:Wd):Runs Fs4 28 [wdV w] [] (.n (.bool (decide (smallW w)))) []:=by
 refine vc_eq fs28 rfl ?_
 rw[wdV,vc28,V28,blD_len,sl_len]
 refine sel_dec (fun h => ?_) (fun h=>by rw[decide_eq_false (by unfold smallW;omega)])
 congr 2
 rw[decide_eq_decide,smallW]
 omega
theorem p31 (key val:ByteArray):Runs Fs4 31 [.n (.str key),.n (.str val)] [] (.n (.bool (decide (isPair key val)))) []:=by
 refine vc_eq fs31 rfl ?_
 rw[vc31,(V31e _ _ _).down]
 refine sel_dec (fun h=>sel_dec (fun h2 => ?_) (fun h=>by rw[decide_eq_false (by unfold isPair;omega)])) (fun h=>by rw[decide_eq_false (by unfold isPair;omega)])
 congr 2
 rw[decide_eq_decide,isPair]
 omega
theorem p89 (a b:List Bool) (ha:Small a.length):Runs Fs4 89 [.o (.sl 1 (blD a)),.o (.sl 1 (blD b))] [] (.n (.bool (decide (a=b)))) []:=by
 refine vc_eq fs89 rfl ?_
 rw[vc89,(V89e _ _ _).down,blD_len,blD_len]
 refine sel_intro (fun h => ?_) (fun h => ?_)
 · rw[decide_eq_false]
   rintro rfl
   simp at h
 have hl:a.length=b.length:=by
   have:(a.length:Int)=b.length:=by simpa using h
   omega
 refine ⟨fun i=>0≤i∧i≤a.length∧∀j:Nat,(j:Int)<i→a[j]?=b[j]?,fun i=>(a.length - i).toNat,⟨rfl,by omega,by omega,fun j hj=>by omega⟩,?_⟩
 rintro i ⟨h0,h1,hok⟩ _
 refine sel_dec (fun hlt => ?_) (fun hge => ?_)
 · have hi:i.toNat<a.length:=by omega
   have hj:i.toNat<b.length:=by omega
   refine ⟨rfl,h0,_,blD_at hi,_,rfl,rfl,h0,_,blD_at hj,_,rfl,?_⟩
   refine sel_intro (fun hx => ?_) (fun hx => ?_)
   · rw[decide_eq_false]
     rintro rfl
     simp at hx
   · have hx:a[i.toNat]=b[i.toNat]:=by simpa using hx
     repeat (refine And.intro rfl ?_)
     rw[i64_in _ (by omega)]
     refine ⟨⟨by omega,by omega,fun j hji => ?_⟩,by first|omega|(dsimp only;omega)⟩
     by_cases e:(j:Int)<i
     · exact hok j e
     · obtain rfl:j=i.toNat:=by omega
       rw[List.getElem?_eq_getElem hi,List.getElem?_eq_getElem hj,hx]
 · rw[decide_eq_true]
   refine List.ext_getElem? fun j => ?_
   by_cases hj:j<a.length
   · exact hok j (by omega)
   · rw[List.getElem?_eq_none (by omega),List.getElem?_eq_none (by omega)]
theorem p61 (a b c d:List Bool) (ha:Small a.length) (hb:Small b.length):Runs Fs4 61 [alV a b,alV c d] [] (.n (.bool (decide (a=c∧b=d)))) []:=by
 have g1:=p89 a c ha
 have g2:=p89 b d hb
 refine vc_eq fs61 rfl ?_
 rw[alV,alV,vc61,V61]
 refine ⟨_,g1,sel_dec (fun h=>⟨_,g2,?_⟩) (fun h=>by rw[decide_eq_false (fun hh=>h hh.1)])⟩
 congr 2
 rw[decide_eq_decide]
 exact ⟨fun h2=>⟨h,h2⟩,fun h2=>h2.2⟩
theorem wd_ext {a b:Wd} (h1:a.base=b.base) (h2:a.now=b.now) (h3:a.pages=b.pages) (h4:a.root=b.root) (h5:a.gen=b.gen):a=b:=by
 cases a;cases b;simp_all
theorem p36 (a b:Wd) (hf:WFits a):Runs Fs4 36 [wdV a,wdV b] [] (.n (.bool (decide (a=b)))) []:=by
 have g1:=p61 a.base a.now b.base b.now hf.b hf.n
 have no:a≠b→AV.n (D.bool false) = .n (.bool (decide (a=b))):=fun h=>by rw[decide_eq_false h]
 refine vc_eq fs36 rfl ?_
 rw[wdV,wdV,vc36,(V36e _ _ _ _ _ _ _ _ _ _ _).down,sl_len,sl_len]
 refine sel_intro (fun h=>no (by rintro rfl;simp at h)) (fun h1=>sel_intro (fun h=>no (by rintro rfl;simp at h)) (fun h2=>sel_intro (fun h=>no (by rintro rfl;simp at h)) (fun h3=>⟨_,g1,?_⟩)))
 have h1:a.root=b.root:=by simpa using h1
 have h2:a.gen=b.gen:=by simpa using h2
 have hl:a.pages.length=b.pages.length:=by
   have:(a.pages.length:Int)=b.pages.length:=by simpa using h3
   omega
 by_cases hc:a.base=b.base∧a.now=b.now
 · rw[decide_eq_true hc]
   refine sel_intro (fun h=>by cases h) (fun _ => ?_)
   refine ⟨fun i=>0≤i∧i≤a.pages.length∧∀j:Nat,(j:Int)<i→a.pages[j]?=b.pages[j]?,fun i=>(a.pages.length - i).toNat,⟨rfl,by omega,by omega,fun j hj=>by omega⟩,?_⟩
   rintro i ⟨h0,h1',hok⟩ _
   have hs:=hf.p
   refine sel_dec (fun hlt => ?_) (fun hge => ?_)
   · have hi:i.toNat<a.pages.length:=by omega
     have hj:i.toNat<b.pages.length:=by omega
     refine ⟨rfl,h0,_,sl_at hi,_,rfl,rfl,h0,_,sl_at hj,_,rfl,sel_nb (fun hx => ?_) (fun hx => ?_)⟩
     · refine no fun e=>hx ?_
       subst e;rfl
     · repeat (refine And.intro rfl ?_)
       rw[i64_in _ (by omega)]
       refine ⟨⟨by omega,by omega,fun j hji => ?_⟩,by first|omega|(dsimp only;omega)⟩
       by_cases e:(j:Int)<i
       · exact hok j e
       · obtain rfl:j=i.toNat:=by omega
         rw[List.getElem?_eq_getElem hi,List.getElem?_eq_getElem hj,hx]
   · rw[decide_eq_true]
     refine wd_ext hc.1 hc.2 (List.ext_getElem? fun j => ?_) h1 h2
     by_cases hj:j<a.pages.length
     · exact hok j (by omega)
     · rw[List.getElem?_eq_none (by omega),List.getElem?_eq_none (by omega)]
 · rw[decide_eq_false hc]
   exact sel_intro (fun _=>no fun e=>hc ⟨by rw[e],by rw[e]⟩) (fun h=>by cases h)
theorem p32 (w:Wd) (hf:WFits w):Runs Fs4 32 [wdV w] [] (.n (.bool (decide (w=wd0)))) []:=by
 have g:=p36 w wd0 hf
 refine vc_eq fs32 rfl ?_
 rw[wdV,vc32,(V32e _ _ _ _ _ _).down]
 exact ⟨_,g,rfl⟩
theorem p56 (w:Wd) (hl:w.base.length=w.now.length) (i:Int) (h0:0≤i) (hi:i<w.now.length):Runs Fs4 56 [alV w.base w.now,.n (.int .i64 i)] [] (.n (.bool (freeAt w i.toNat))) []:=by
 refine vc_eq fs56 rfl ?_
 rw[alV,vc56,(V56e _ _ _ _).down,blD_len]
 have ib:i.toNat<w.base.length:=by omega
 have ia:i.toNat<w.now.length:=by omega
 refine sel_dec (fun _=>sel_dec (fun _=>⟨rfl,h0,_,blD_at ia,_,rfl,sel_intro (fun h=>⟨rfl,h0,_,blD_at ib,_,rfl,?_⟩) (fun h => ?_)⟩) (fun h=>absurd hi h)) (fun h=>absurd h0 h)
 · have h:w.now[i.toNat]=false:=by simpa using h
   rw[freeAt,tr_at ia,tr_at ib,h];simp
 · have h:w.now[i.toNat]=true:=by simpa using h
   rw[freeAt,tr_at ia,h];simp
theorem cntUp_le (w:Wd):∀n,cntUp w n≤n
 | 0=>Nat.le_refl 0
 | n+1=>by
   have:=cntUp_le w n
   unfold cntUp
   split <;> omega
theorem p23 (w:Wd) (hr:ARight w.base w.now):Runs Fs4 23 [alV w.base w.now] [] (.n (.int .i64 (cnt w))) []:=by
 obtain ⟨hl,h24,h2048,_⟩:=id hr
 have g:=((p54 w.base w.now (by omega) (by omega)).up up3).up up4
 refine vc_eq fs23 rfl ?_
 rw[alV,vc23,(V23e _ _ _).down,blD_len]
 rw[decide_eq_true hr]at g
 refine ⟨_,g,sel_intro (fun h=>by cases h) (fun _ => ?_)⟩
 refine ⟨fun n i=>0≤i∧i≤w.now.length∧n=cntUp w i.toNat,fun n i=>(w.now.length - i).toNat,⟨rfl,by omega,by omega,rfl⟩,?_⟩
 rintro n i ⟨h0,h1,rfl⟩ _
 have hle:=cntUp_le w i.toNat
 refine sel_dec (fun hlt=>⟨_,p56 w hl i h0 hlt,sel_intro (fun hf => ?_) (fun hf => ?_)⟩) (fun hge => ?_)
 · repeat (refine And.intro rfl ?_)
   rw[i64_in _ (by omega),i64_in _ (by omega)]
   refine ⟨⟨by omega,by omega,?_⟩,by first|omega|(dsimp only;omega)⟩
   rw[show (i+1).toNat=i.toNat+1 by omega,cntUp,if_pos hf];omega
 · repeat (refine And.intro rfl ?_)
   rw[i64_in (i+1) (by omega)]
   refine ⟨⟨by omega,by omega,?_⟩,by first|omega|(dsimp only;omega)⟩
   rw[show (i+1).toNat=i.toNat+1 by omega,cntUp,if_neg (by rw[hf];simp)];omega
 · rw[show i.toNat=w.now.length by omega];rfl
theorem p33 (P:List Pr) (hP:P.length≤1000000) (key val:ByteArray):Runs Fs4 33 [.o (.sl 2 (psD P)),.n (.str key),.n (.str val)] [] (.o (.sl 2 (psD (withR key val false P)))) []:=by
 refine vc_eq fs33 rfl ?_
 rw[vc33,(V33e _ _ _ _).down,psD_len]
 refine ⟨fun v put i r=>0≤i∧i≤P.length∧r.1=v∧∃A:List Pr,r.2=psD A∧A.length≤i.toNat+1∧A++withR key val put (P.drop i.toNat)=withR key val false P∧(put=false→A.length≤i.toNat),fun _ _ i _=>(P.length - i).toNat,⟨rfl,by omega,by omega,rfl,[],rfl,by simp,by simp,by simp⟩,?_⟩
 rintro v put i ⟨_,_⟩ ⟨h0,h1,rfl,A,rfl,hA,hq,hpt⟩ _
 have go:∀ {A':List Pr} {put':Bool},i.toNat<P.length→A'.length≤i.toNat+2→A'++withR key val put' (P.drop (i.toNat+1))=withR key val false P→(put'=false→A'.length≤i.toNat+1)→0≤i+1∧i+1≤(P.length:Int)∧∃B:List Pr,psD A'=psD B∧B.length≤(i+1).toNat+1∧B++withR key val put' (P.drop (i+1).toNat)=withR key val false P∧(put'=false→B.length≤(i+1).toNat):=fun {A' put'} hi g1 g2 g3=>by
   refine ⟨by omega,by omega,A',rfl,by omega,?_,fun h=>by have:=g3 h;omega⟩
   rw[show (i+1).toNat=i.toNat+1 by omega];exact g2
 refine sel_dec (fun hlt => ?_) (fun hge => ?_)
 · have hi:i.toNat<P.length:=by omega
   rw[drop_at' hi,withR]at hq
   refine ⟨rfl,h0,_,psD_at hi,_,_,rfl,Nat.le_refl 2,?_⟩
   have lb:∀(B:List Pr) (p:Pr),B.length≤i.toNat+1→(List.length (psD B)+List.length [D.rcd [.str p.1,.str p.2]])*32≤140737488355328:=fun B p h=>by
     rw[psD_len,List.length_singleton];omega
   have plain:∀ {put':Bool},(put'=put)→A++((if P[i.toNat].1=key then [] else [P[i.toNat]])++withR key val put (P.drop (i.toNat+1)))=withR key val false P→put'=put:=fun h _=>h
   by_cases hput:put=true
   · subst hput
     have e:A++((if P[i.toNat].1=key then [] else [P[i.toNat]])++withR key val true (P.drop (i.toNat+1)))=withR key val false P:=by
       rw[←hq];simp
     refine sel_intro (fun h=>by cases h) (fun _=>sel_nb (fun hx => ?_) (fun hx => ?_))
     · rw[if_neg hx]at e
       refine ⟨rfl,.inl rfl,⟨⟨rfl,rfl⟩,rfl⟩,lb A P[i.toNat] (by omega),?_⟩
       repeat (refine And.intro rfl ?_)
       rw[i64_in _ (by omega),psD_snoc]
       obtain ⟨q1,q2,B,q3,q4,q5,q6⟩:=go (A':=A++[P[i.toNat]]) (put':=true) hi (by simp only[List.length_append,List.length_singleton];omega) (by rw[List.append_assoc];exact e) (fun h=>by cases h)
       exact ⟨⟨q1,q2,rfl,B,q3,q4,q5,q6⟩,by first|omega|(dsimp only;omega)⟩
     · rw[if_pos hx]at e
       repeat (refine And.intro rfl ?_)
       rw[i64_in _ (by omega)]
       obtain ⟨q1,q2,B,q3,q4,q5,q6⟩:=go (A':=A) (put':=true) hi (by omega) e (fun h=>by cases h)
       exact ⟨⟨q1,q2,rfl,B,q3,q4,q5,q6⟩,by first|omega|(dsimp only;omega)⟩
   · obtain rfl:put=false:=by simpa using hput
     have hA':=hpt rfl
     refine sel_intro (fun _=>sel_intro (fun hl => ?_) (fun hl => ?_)) (fun h=>by cases h)
     · have hl:lt P[i.toNat].1 key=false:=by simpa[lt] using hl
       have e:A++([(key,val)]++((if P[i.toNat].1=key then [] else [P[i.toNat]])++withR key val true (P.drop (i.toNat+1))))=withR key val false P:=by
         rw[←hq,hl];simp
       refine ⟨rfl,.inl rfl,⟨⟨rfl,rfl⟩,rfl⟩,lb A (key,val) (by omega),?_⟩
       rw[psD_snoc]
       refine sel_nb (fun hx => ?_) (fun hx => ?_)
       · rw[if_neg hx]at e
         refine ⟨rfl,.inl rfl,⟨⟨rfl,rfl⟩,rfl⟩,lb (A++[(key,val)]) P[i.toNat] (by simp only[List.length_append,List.length_singleton];omega),?_⟩
         repeat (refine And.intro rfl ?_)
         rw[i64_in _ (by omega),psD_snoc]
         obtain ⟨q1,q2,B,q3,q4,q5,q6⟩:=go (A':=A++[(key,val)]++[P[i.toNat]]) (put':=true) hi (by simp only[List.length_append,List.length_singleton];omega) (by rw[List.append_assoc,List.append_assoc];exact e) (fun h=>by cases h)
         exact ⟨⟨q1,q2,rfl,B,q3,q4,q5,q6⟩,by first|omega|(dsimp only;omega)⟩
       · rw[if_pos hx]at e
         repeat (refine And.intro rfl ?_)
         rw[i64_in _ (by omega)]
         obtain ⟨q1,q2,B,q3,q4,q5,q6⟩:=go (A':=A++[(key,val)]) (put':=true) hi (by simp only[List.length_append,List.length_singleton];omega) (by rw[List.append_assoc];exact e) (fun h=>by cases h)
         exact ⟨⟨q1,q2,rfl,B,q3,q4,q5,q6⟩,by first|omega|(dsimp only;omega)⟩
     · have hl:lt P[i.toNat].1 key=true:=by simpa[lt] using hl
       have e:A++((if P[i.toNat].1=key then [] else [P[i.toNat]])++withR key val false (P.drop (i.toNat+1)))=withR key val false P:=by
         rw[←hq,hl];simp
       refine sel_nb (fun hx => ?_) (fun hx => ?_)
       · rw[if_neg hx]at e
         refine ⟨rfl,.inl rfl,⟨⟨rfl,rfl⟩,rfl⟩,lb A P[i.toNat] (by omega),?_⟩
         repeat (refine And.intro rfl ?_)
         rw[i64_in _ (by omega),psD_snoc]
         obtain ⟨q1,q2,B,q3,q4,q5,q6⟩:=go (A':=A++[P[i.toNat]]) (put':=false) hi (by simp only[List.length_append,List.length_singleton];omega) (by rw[List.append_assoc];exact e) (fun h=>by simp only[List.length_append,List.length_singleton];omega)
         exact ⟨⟨q1,q2,rfl,B,q3,q4,q5,q6⟩,by first|omega|(dsimp only;omega)⟩
       · rw[if_pos hx]at e
         repeat (refine And.intro rfl ?_)
         rw[i64_in _ (by omega)]
         obtain ⟨q1,q2,B,q3,q4,q5,q6⟩:=go (A':=A) (put':=false) hi (by omega) e (fun h=>by omega)
         exact ⟨⟨q1,q2,rfl,B,q3,q4,q5,q6⟩,by first|omega|(dsimp only;omega)⟩
 · rw[List.drop_eq_nil_of_le (by omega),withR]at hq
   cases put with
   | true=>
     refine sel_intro (fun h=>by cases h) (fun _=>⟨rfl,?_⟩)
     rw[if_pos rfl,List.append_nil]at hq
     rw[hq]
   | false=>
     refine sel_intro (fun _=>⟨rfl,.inl rfl,⟨⟨rfl,rfl⟩,rfl⟩,by simp only[psD_len,List.length_singleton];omega,rfl,?_⟩) (fun h=>by cases h)
     rw[psD_snoc]
     rw[if_neg (by simp)]at hq
     rw[hq]
def clampN (n:Int):Nat:=(mmI false (mmI true n 24) 200).toNat
theorem clampN_le (n:Int):24≤clampN n∧clampN n≤200:=by
 unfold clampN mmI
 simp only[if_true,Bool.false_eq_true,if_false]
 split <;> split <;> omega
theorem clampN_eq (n:Int):mmI false (mmI true n 24) 200=(clampN n:Int):=by
 unfold clampN mmI
 simp only[if_true,Bool.false_eq_true,if_false]
 split <;> split <;> omega
theorem p34 (n:Int):Runs Fs4 34 [.n (.int .i64 n)] [] (wdV (newW (clampN n))) []:=by
 have hc:=clampN_le n
 have g:=((p60 (clampN n) (by omega)).up up3).up up4
 refine vc_eq fs34 rfl ?_
 rw[vc34,(V34e _ _).down,clampN_eq]
 refine ⟨_,_,g,by omega,by omega,rfl,?_⟩
 rw[Int.toNat_natCast,sl_rep];rfl
theorem newW_fits (n:Nat) (h:n≤2048):WFits (newW n):=⟨by simp[newW,newRow];omega,by simp[newW,newRow];omega,by simp[newW];omega,fun s hs=>by
 rw[List.eq_of_mem_replicate hs];decide⟩
theorem p29:Runs Fs4 29 [] [] (.n (.bool true)) []:=by
 have hp:isPair (ByteArray.mk (List.toArray [97])) (ByteArray.mk (List.toArray [49])):=by decide
 have g:=(p30 (newW 24) (newW_fits 24 (by decide)) (ByteArray.mk (List.toArray [97])) (ByteArray.mk (List.toArray [49]))).up up4
 have ef:firstFree (newW 24)=some 10:=by decide
 have e:∃now pages:List _,pages.length=24∧putW (newW 24) (ByteArray.mk (List.toArray [97])) (ByteArray.mk (List.toArray [49]))=(⟨(newW 24).base,now,pages,10,1⟩,0):=by
  refine ⟨(newW 24).now.set 10 true,(newW 24).pages.set 10 (pageB 1 ⟨true,[ByteArray.mk (List.toArray [97])],[ByteArray.mk (List.toArray [49])],[]⟩),by simp[newW],?_⟩
  rw[putW,if_neg (fun h=>h ⟨newW_right (by decide) (by decide),hp⟩),putR,if_pos (show (newW 24).root=0 from rfl),storeE,if_neg (by decide),if_neg (fun h=>h (leaf_one hp)),ef]
  rfl
 obtain ⟨now,pages,hl,e⟩:=e
 rw[e]at g
 refine vc_eq fs29 rfl ?_
 rw[vc29,(V29e _).down]
 refine ⟨_,_,_,_,_,p34 24,_,_,_,_,_,_,g,sel_intro (fun _=>sel_intro (fun _ => ?_) (fun h=>by cases h)) (fun h=>by cases h)⟩
 rw[sl_len,hl];rfl
theorem getP_form (s:ByteArray):∃k g b e,GetPR s = .tup [.agg [.n (.int .i64 k),.n (.int .i64 g),.n (.str b)],.n (.int .i64 e)]:=by
 rcases getP_cases s with ⟨e,_,h⟩|⟨k,g,b,h,_⟩
 · exact ⟨_,_,_,_,h⟩
 · exact ⟨_,_,_,_,h⟩
theorem p27' (l:List Int) (hl:Small l.length) (b:Int):Runs Fs4 27 [.o (.sl 1 (il l)),.n (.int .i64 b)] [] (.n (.bool (decide (b∈l)))) []:=((p27 l hl b).up up3).up up4
theorem p24 (w x:Wd) (O N:List Int) (h:KeepsR w x O N) (hb:w.base.length=w.now.length) (hp:w.pages.length=w.now.length) (hn:w.now.length≤2048) (hs:∀s∈x.pages,Small s.size) (hO:Small O.length) (hN:Small N.length) (hr:∀b∈N,0≤b∧b<w.now.length):
   Runs Fs4 24 [wdV w,wdV x,.o (.sl 1 (il O)),.o (.sl 1 (il N))] [] (.n (.bool true)) []:=by
 have hxp:=h.plen
 have hxn:=h.nlen
 have hxb:x.base.length=w.base.length:=by rw[h.base]
 refine vc_eq fs24 rfl ?_
 rw[wdV,wdV,vc24,(V24e _ _ _ _ _ _ _ _ _ _ _ _ _).down,il_len,blD_len w.now,blD_len x.now,blD_len x.base,blD_len w.base,sl_len x.pages,sl_len w.pages]
 refine sel_intro (fun h' => ?_) (fun _=>sel_intro (fun h' => ?_) (fun _=>sel_intro (fun h' => ?_) (fun _=>sel_intro (fun h' => ?_) (fun _ => ?_))))
 · exact absurd h.gen (by simpa using h')
 · exact absurd (show (x.pages.length:Int)=w.pages.length by omega) (by simpa using h')
 · exact absurd (show (x.now.length:Int)=w.now.length by omega) (by simpa using h')
 · exact absurd (show (x.base.length:Int)=w.base.length by omega) (by simpa using h')
 refine ⟨fun i=>0≤i∧i≤w.now.length,fun i=>(w.now.length - i).toNat,⟨rfl,by omega,by omega⟩,?_⟩
 rintro i ⟨h0,h1⟩ _
 refine sel_dec (fun hlt => ?_) (fun hge => ?_)
 · have hi:i.toNat<w.now.length:=by omega
   have xb:i.toNat<x.base.length:=by omega
   have wb:i.toNat<w.base.length:=by omega
   have xn:i.toNat<x.now.length:=by omega
   have xp:i.toNat<x.pages.length:=by omega
   have wp:i.toNat<w.pages.length:=by omega
   have hnow:=h.now i.toNat hi
   rw[tr_at xn,tr_at hi,Int.toNat_of_nonneg h0]at hnow
   have g27:=p27' O hO i
   have h27:=p27' N hN i
   refine ⟨rfl,h0,_,blD_at xb,_,rfl,rfl,h0,_,blD_at wb,_,rfl,sel_intro (fun hx => ?_) (fun _=>⟨rfl,h0,_,blD_at wb,_,rfl,sel_intro (fun hbb=>⟨rfl,h0,_,sl_at xp,_,rfl,rfl,h0,_,sl_at wp,_,rfl,sel_nb (fun hne => ?_) (fun _ => ?_)⟩) (fun _ => ?_)⟩)⟩
   · have e:x.base[i.toNat]=w.base[i.toNat]:=by
       have:=h.base
       simp only[this]
     rw[e]at hx;simp at hx
   · exfalso
     apply hne
     have e:=h.page i.toNat hi (by rw[tr_at wb];exact hbb)
     unfold pgAt at e
     rw[Int.toNat_natCast,List.getElem?_eq_getElem xp,List.getElem?_eq_getElem wp]at e
     exact e
   all_goals
     refine ⟨rfl,h0,_,blD_at xn,_,rfl,rfl,h0,_,blD_at hi,_,rfl,sel_intro (fun ht=>⟨_,g27,sel_intro (fun hno=>sel_intro (fun hf => ?_) (fun _ => ?_)) (fun hin=>⟨_,h27,sel_intro (fun hf => ?_) (fun _ => ?_)⟩)⟩) (fun hf0=>⟨_,h27,sel_intro (fun hf => ?_) (fun _ => ?_)⟩)⟩
     · have hno:decide (i∈O)=false:=by simpa using hno
       rw[ht,hno]at hnow
       rw[hnow]at hf;simp at hf
     · repeat (refine And.intro rfl ?_)
       rw[i64_in _ (by omega)]
       exact ⟨⟨by omega,by omega⟩,by first|omega|(dsimp only;omega)⟩
     · have hin:decide (i∈O)=true:=by simpa using hin
       rw[hin,Bool.not_true,Bool.and_false,Bool.false_or]at hnow
       rw[hnow]at hf;simp at hf
     · repeat (refine And.intro rfl ?_)
       rw[i64_in _ (by omega)]
       exact ⟨⟨by omega,by omega⟩,by first|omega|(dsimp only;omega)⟩
     · rw[hf0,Bool.false_and,Bool.false_or]at hnow
       rw[hnow]at hf;simp at hf
     · repeat (refine And.intro rfl ?_)
       rw[i64_in _ (by omega)]
       exact ⟨⟨by omega,by omega⟩,by first|omega|(dsimp only;omega)⟩
 · refine ⟨fun i=>0≤i∧i≤N.length,fun i=>(N.length - i).toNat,⟨rfl,by omega,by omega⟩,?_⟩
   rintro i ⟨h0,h1⟩ _
   refine sel_dec (fun hlt => ?_) (fun hge=>rfl)
   have hi:i.toNat<N.length:=by omega
   have hbm:N[i.toNat]∈N:=List.getElem_mem hi
   obtain ⟨b0,b1⟩:=hr _ hbm
   have hnew:=h.new _ hbm
   have ati:=il_at hi
   generalize N[i.toNat]=b at b0 b1 hnew hbm ati
   have xp:b.toNat<x.pages.length:=by omega
   have wp:b.toNat<w.pages.length:=by omega
   have ex:pgAt x b=x.pages[b.toNat]:=by unfold pgAt;rw[List.getElem?_eq_getElem xp];rfl
   have ew:pgAt w b=w.pages[b.toNat]:=by unfold pgAt;rw[List.getElem?_eq_getElem wp];rfl
   rw[ex,ew]at hnew
   have g57:=(((p57 x.pages[b.toNat] (hs _ (List.getElem_mem xp))).up up2).up up3).up up4
   obtain ⟨k,g,bd,e,hG⟩:=getP_form x.pages[b.toNat]
   rw[hG]at g57
   have g27:=p27' O hO b
   have hok:∀k',(∃s,GetPR x.pages[b.toNat] = .tup [pg k' w.gen s,.n (.int .i64 0)])→e=0∧g=w.gen:=by
     rintro k' ⟨s,h2⟩
     rw[hG]at h2
     unfold pg at h2
     simp only[AV.tup.injEq,List.cons.injEq,AV.agg.injEq,AV.n.injEq,D.int.injEq,true_and,and_true]at h2
     exact ⟨h2.2,h2.1.2.1⟩
   refine ⟨rfl,h0,_,ati,_,rfl,rfl,b0,_,sl_at xp,_,rfl,_,_,_,_,g57,_,g27,?_⟩
   have fin:e=0∧g=w.gen→∀ {A:Prop},A→sel (e != 0) (AV.n (D.bool false) = .n (.bool true)) (sel (g != w.gen) (AV.n (D.bool false) = .n (.bool true)) A):=by
     rintro ⟨rfl,rfl⟩ A a
     exact sel_intro (fun h=>by simp at h) (fun _=>sel_intro (fun h=>by simp at h) (fun _=>a))
   have cont:(0≤i+1∧i+1≤(N.length:Int))∧((N.length:Int) - (i+1)).toNat<((N.length:Int) - i).toNat:=⟨⟨by omega,by omega⟩,by omega⟩
   have ei:IntKind.wrap .i64 (i+1)=i+1:=i64_in _ (by have:Small N.length:=hN;omega)
   refine sel_intro (fun hin=>⟨rfl,b0,_,sl_at xp,_,rfl,rfl,b0,_,sl_at wp,_,rfl,sel_nb (fun hne => ?_) (fun _ => ?_)⟩) (fun hout => ?_)
   · have h2:e=0∧g=w.gen:=by
       rcases hnew with ⟨_,h3⟩|⟨k',h3⟩
       · exact absurd h3 hne
       · exact hok k' h3
     refine fin h2 ?_
     repeat (refine And.intro rfl ?_)
     rw[ei];exact cont
   · repeat (refine And.intro rfl ?_)
     rw[ei];exact cont
   · have h2:e=0∧g=w.gen:=by
       rcases hnew with ⟨h3,_⟩|⟨k',h3⟩
       · exact absurd h3 (by simpa using hout)
       · exact hok k' h3
     refine fin h2 ?_
     repeat (refine And.intro rfl ?_)
     rw[ei];exact cont
theorem t21 (w:Wd) (hf:WFits w) (hn:w.now.length≤2048):∃va vb,Runs Fs4 21 [wdV w] [] (.ptr 2100101 0) (hT (treeW w) va vb):=by
 obtain ⟨va,vb,g⟩:=p21 w hf hn
 exact ⟨va,vb,(g.up up3).up up4⟩
theorem wd0_fits:WFits wd0:=⟨by decide,by decide,by decide,fun s hs=>by cases hs⟩
theorem p32t:Runs Fs4 32 [wdV wd0] [] (.n (.bool true)) []:=by
 have g:=p32 wd0 wd0_fits
 rw[decide_eq_true rfl]at g
 exact g
theorem p18' (w:Wd) (hf:WFits w):Runs Fs4 18 [wdV w] [] (.n (.bool (decide (WRight w)))) []:=((p18 w hf).up up3).up up4
theorem p25t (a b:List Pr) (e:a=b) (ha:Small a.length):Runs Fs4 25 [.o (.sl 2 (psD a)),.o (.sl 2 (psD b))] [] (.n (.bool true)) []:=by
 subst e
 have g:=((p25 a a ha ha).up up3).up up4
 rw[decide_eq_true rfl]at g
 exact g
theorem selT {A B:Prop} (h:A):sel true A B:=h
theorem selF {A B:Prop} (h:B):sel false A B:=h
theorem treeP_small {w:Wd} {h:Nat} {P:List Pr} {B:List Int} (hr:WRight w) (ht:IsTree w h P B):P.length≤100000∧B.length≤2048:=by
 have i:=treeW_inv (wr_now hr)
 rw[tree_full ht]at i
 have h1:=i.ps
 have h2:=i.len
 dsimp only at h1 h2
 exact ⟨by omega,by omega⟩
theorem treeB_rg {w:Wd} {h:Nat} {P:List Pr} {B:List Int} (hr:WRight w) (ht:IsTree w h P B):∀b∈B,10≤b∧b<w.now.length:=(isTree_nodup hr ht).2
end Go.Proofs.YtclgengkohbjjaaGreatDoor.M
