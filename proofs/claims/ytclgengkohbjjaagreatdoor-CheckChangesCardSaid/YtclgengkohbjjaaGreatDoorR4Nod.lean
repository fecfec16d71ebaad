import Derived.Test.YtclgengkohbjjaaGreatDoorR4L
import Derived.Test.YtclgengkohbjjaaGreatDoorR4FunB
import Derived.Test.YtclgengkohbjjaaGreatDoorR4Txt
namespace Go.Proofs.YtclgengkohbjjaaGreatDoor.M
set_option linter.unusedVariables false
set_option linter.unusedSimpArgs false
open Go Go.Mir
set_option linter.unusedVariables false
abbrev qt_ (p0 p1 p2:LD) (p3 p4:Int):List Mir.AV:=
 [(aL p0),(aL p1),(aL p2),(aI p3),(aI p4)]
abbrev qu_:Mir.AV:=
 (.agg [(.n (.bool false)),(.n (Mir.D.sl 1 [])),(.n (Mir.D.sl 1 [])),(.n (Mir.D.sl 1 []))])
abbrev qv_ (p0:Bool) (p1 p2 p3:LD):List Mir.AV:=
 [(aB p0),(.n (Mir.D.sl 1 p1)),(.n (Mir.D.sl 1 p2)),(.n (Mir.D.sl 1 p3))]
abbrev qw_ (p0:Bool) (p1 p2 p3:LD):Mir.AV:=
 (.agg [(.n (.bool p0)),(.n (Mir.D.sl 1 p1)),(.n (Mir.D.sl 1 p2)),(.n (Mir.D.sl 1 p3))])
def V99 (a0_0:LD) (a0_1:LD) (a0_2:LD) (a0_3:Int) (a0_4:Int) (a1:Int) (a2:Bool) (R:Mir.AV→Prop):Prop:=
 (∃x0:Bool,((Runs Fs2 48 [(.agg (qt_ a0_0 a0_1 a0_2 a0_3 a0_4))] [] (aB x0) [])∧(sel (Bool.not x0) (R (.tup [qu_,(.n (.int .i64 1))])) (∃x1:Bool,(∃x2:LD,(∃x3:LD,(∃x4:LD,(∃x5:Bool,(∃x6:LD,(∃x7:LD,(∃x8:LD,(∃x9:Int,(∃x10:Int,(∃x11:ByteArray,(∃x12:Int,(∃x13:Int,(∃x14:ByteArray,(∃x15:Bool,(∃x16:Bool,((Runs Fs2 62 [(.ptr 9900302 0),(aI a1),(aB a2)] [(hB 9900302 [(aL a0_0),(aL a0_1),(aL a0_2),(aI a0_3),(aI a0_4),(aS qf_),(aI 0),(aI 0),(.n Mir.D.nil),(aS qf_),(aB false),(aB false)])] (.tup [(.agg (qv_ x1 x2 x3 x4)),(aB x5)]) [(hB 9900302 [(aL x6),(aL x7),(aL x8),(aI x9),(aI x10),(aS x11),(aI x12),(aI x13),(.n Mir.D.nil),(aS x14),(aB x15),(aB x16)])])∧(sel (Bool.not x5) (R (.tup [qu_,(.n (.int .i64 81))])) (R (.tup [(qw_ x1 x2 x3 x4),(.n (.int .i64 0))])))))))))))))))))))))))
def V99e (a0_0:LD) (a0_1:LD) (a0_2:LD) (a0_3:Int) (a0_4:Int) (a1:Int) (a2:Bool) (R:Mir.AV→Prop):=PLift.up (by delta V99 qf_ qt_ qv_ qw_ qu_;exact rfl:V99 a0_0 a0_1 a0_2 a0_3 a0_4 a1 a2 R=_)
theorem vc99 (a0_0:LD) (a0_1:LD) (a0_2:LD) (a0_3:Int) (a0_4:Int) (a1:Int) (a2:Bool) (R:Mir.AV→Prop):Vc Fs2 c99.body (argsQ c99 [(.agg [(.o (.sl 1 a0_0)),(.o (.sl 1 a0_1)),(.o (.sl 1 a0_2)),(.n (.int .i64 a0_3)),(.n (.int .i64 a0_4))]),(.n (.int .i64 a1)),(.n (.bool a2))]) [] (endQ c99 R)=V99 a0_0 a0_1 a0_2 a0_3 a0_4 a1 a2 R:=by kernel_rfl
abbrev qx_ (p0:Int) (p1:LD):=
 (decide (p0≥(p1.length:Int)))
abbrev qy_ (p0:LD) (p1:Mir.AV→Prop):=
 (∃x1:Bool,((Runs Fs2 68 [(aL p0),(.fn 69 [])] [] (aB x1) [])∧(p1 (.n (.bool (Bool.not x1))))))
def V48 (a0_0:LD) (a0_1:LD) (a0_2:LD) (a0_3:Int) (a0_4:Int) (R:Mir.AV→Prop):Prop:=
 (∃x0:Bool,((Runs Fs2 67 [(.agg [(aL a0_0),(aL a0_1)])] [] (aB x0) [])∧(sel (Bool.not x0) (R (.n (.bool false))) (sel ((a0_2.length:Int) != (a0_1.length:Int)) (R (.n (.bool false))) (sel (decide (a0_4<1)) (R (.n (.bool false))) (sel (decide (a0_4 > 1099511627776)) (R (.n (.bool false))) (sel (a0_3 != 0) (sel (decide (a0_3<10)) (R (.n (.bool false))) (sel (qx_ a0_3 a0_1) (R (.n (.bool false))) (qy_ a0_2 R))) (qy_ a0_2 R))))))))
def V48e (a0_0:LD) (a0_1:LD) (a0_2:LD) (a0_3:Int) (a0_4:Int) (R:Mir.AV→Prop):=PLift.up (by delta V48 qx_ qy_;exact rfl:V48 a0_0 a0_1 a0_2 a0_3 a0_4 R=_)
theorem vc48 (a0_0:LD) (a0_1:LD) (a0_2:LD) (a0_3:Int) (a0_4:Int) (R:Mir.AV→Prop):Vc Fs2 c48.body (argsQ c48 [(.agg [(.o (.sl 1 a0_0)),(.o (.sl 1 a0_1)),(.o (.sl 1 a0_2)),(.n (.int .i64 a0_3)),(.n (.int .i64 a0_4))])]) [] (endQ c48 R)=V48 a0_0 a0_1 a0_2 a0_3 a0_4 R:=by kernel_rfl
abbrev qz_:=
 (hB 6000000 [(.n Mir.D.nil),(.n Mir.D.nil)])
abbrev qA_ (p0:Int):=
 ((rn 1)∨(@Eq LD [(Mir.D.bool (decide (p0<10)))] []))
abbrev qB_ (p0:(Nat×LD)) (p1:Int):=
 (((((List.length (Prod.snd p0))+(List.length [(Mir.D.bool (decide (p1<10)))]))*1):Nat)≤140737488355328)
abbrev qC_ (p0:(Nat×LD)) (p1:Int):=
 ((Prod.snd p0)++[(Mir.D.bool (decide (p1<10)))])
def V60 (a0:Int) (R:Mir.AV→Prop):Prop:=
 (∃x0:(Int→((Nat×(Nat×(Unit)))→((Nat×LD)→((Nat×LD)→Prop)))),(∃x1:(Int→((Nat×(Nat×(Unit)))→((Nat×LD)→((Nat×LD)→Nat)))),(((rh [qz_,(hB 6000101 [(.row 6000505 0),(.row 6000605 0)]),(6000505,(.row false true 0 4 1 [])),(6000605,(.row false true 0 4 1 []))])∧(x0 0 (0,(0,())) (0,[]) (0,[])))∧(∀x2:Int,(∀x3:(Nat×(Nat×(Unit))),(∀x4:(Nat×LD),(∀x5:(Nat×LD),((x0 x2 x3 x4 x5)→(∀x6:(Nat→Mir.AV),(sel (decide (x2<a0)) ((rn 0)∧(qA_ x2)∧(((((Prod.fst x4):Nat)=x3.1)∧(rn 4))∧(rn 1))∧(qB_ x4 x2)∧(rn 0)∧(qA_ x2)∧(((((Prod.fst x5):Nat)=x3.2.1)∧(rn 4))∧(rn 1))∧(qB_ x5 x2)∧(rq (aI a0))∧(rq (.ptr 6000000 0))∧(rq (.ptr 6000101 0))∧(rh [qz_,(hB 6000101 [(.row 6000505 (x3.1+1)),(.row 6000605 (x3.2.1+1))]),(6000505,(.row false true (x3.1+1) 4 1 (qC_ x4 x2))),(6000605,(.row false true (x3.2.1+1) 4 1 (qC_ x5 x2)))])∧(x0 (IntKind.wrap .i64 (x2+1)) ((x3.1+1),((x3.2.1+1),())) ((x3.1+1),(qC_ x4 x2)) ((x3.2.1+1),(qC_ x5 x2)))∧(((x1 (IntKind.wrap .i64 (x2+1)) ((x3.1+1),((x3.2.1+1),())) ((x3.1+1),(qC_ x4 x2)) ((x3.2.1+1),(qC_ x5 x2))):Nat)<(x1 x2 x3 x4 x5))) (((Prod.fst x4)=x3.1)∧((Prod.fst x5)=x3.2.1)∧(R (.agg [(.o (.sl 1 (Prod.snd x4))),(.o (.sl 1 (Prod.snd x5)))])))))))))))))
def V60e (a0:Int) (R:Mir.AV→Prop):=PLift.up (by delta V60 qC_ qB_ qz_ qA_;exact rfl:V60 a0 R=_)
theorem vc60 (a0:Int) (R:Mir.AV→Prop):Vc Fs2 c60.body (argsQ c60 [(.n (.int .i64 a0))]) [] (endQ c60 R)=V60 a0 R:=by kernel_rfl
abbrev qD_ (p0:Bool) (p1 p2 p3:LD):Mir.AV:=
 (.agg [(aB p0),(aL p1),(aL p2),(aL p3)])
abbrev qE_ (p0:Int):Mir.AV:=
 (.n (.int .i64 (IntKind.wrap .i64 (p0+1))))
def V63 (a0_0:Bool) (a0_1:LD) (a0_2:LD) (a0_3:LD) (a1:ByteArray) (R:Mir.AV→Prop):Prop:=
 (sel a0_0 (R (.n (.int .i64 0))) (∃x0:Int,(∃x1:Bool,((Runs Fs2 64 [(qD_ a0_0 a0_1 a0_2 a0_3),(aS a1)] [] (.tup [(aI x0),(aB x1)]) [])∧(sel x1 (R (qE_ x0)) (R (.n (.int .i64 x0))))))))
def V63e (a0_0:Bool) (a0_1:LD) (a0_2:LD) (a0_3:LD) (a1:ByteArray) (R:Mir.AV→Prop):=PLift.up (by delta V63 qE_ qD_;exact rfl:V63 a0_0 a0_1 a0_2 a0_3 a1 R=_)
theorem vc63 (a0_0:Bool) (a0_1:LD) (a0_2:LD) (a0_3:LD) (a1:ByteArray) (R:Mir.AV→Prop):Vc Fs2 c63.body (argsQ c63 [(.agg [(.n (.bool a0_0)),(.o (.sl 1 a0_1)),(.o (.sl 1 a0_2)),(.o (.sl 1 a0_3))]),(.n (.str a1))]) [] (endQ c63 R)=V63 a0_0 a0_1 a0_2 a0_3 a1 R:=by kernel_rfl
abbrev qF_ (p0:Int) (p1:LD):=
 (decide (p0<(p1.length:Int)))
def V64 (a0_0:Bool) (a0_1:LD) (a0_2:LD) (a0_3:LD) (a1:ByteArray) (R:Mir.AV→Prop):Prop:=
 (∃x0:Bool,((Runs Fs2 93 [(qD_ a0_0 a0_1 a0_2 a0_3)] [] (aB x0) [])∧(sel (Bool.not x0) (R (.tup [(.n (.int .i64 0)),(.n (.bool false))])) (∃x1:Int,((Runs Fs2 94 [(aL a0_1),(aS a1)] [] (aI x1) [])∧(sel (qF_ x1 a0_1) ((rn 1)∧((0:Int)≤x1)∧(∃x2:Mir.D,((qk_ a0_1 x1 x2)∧(∃x3:ByteArray,((ql_ x2 x3)∧(R (.tup [(.n (.int .i64 x1)),(.n (.bool (qn_ x3 a1)))]))))))) (R (.tup [(.n (.int .i64 x1)),(.n (.bool false))]))))))))
def V64e (a0_0:Bool) (a0_1:LD) (a0_2:LD) (a0_3:LD) (a1:ByteArray) (R:Mir.AV→Prop):=PLift.up (by delta V64 qk_ qn_ ql_ qF_ qD_;exact rfl:V64 a0_0 a0_1 a0_2 a0_3 a1 R=_)
theorem vc64 (a0_0:Bool) (a0_1:LD) (a0_2:LD) (a0_3:LD) (a1:ByteArray) (R:Mir.AV→Prop):Vc Fs2 c64.body (argsQ c64 [(.agg [(.n (.bool a0_0)),(.o (.sl 1 a0_1)),(.o (.sl 1 a0_2)),(.o (.sl 1 a0_3))]),(.n (.str a1))]) [] (endQ c64 R)=V64 a0_0 a0_1 a0_2 a0_3 a1 R:=by kernel_rfl
abbrev qG_ (p0:LD):=
 (Mir.D.sl 1 (List.drop 0 (List.take (Int.toNat 10) p0)))
def V67 (a0_0:LD) (a0_1:LD) (R:Mir.AV→Prop):Prop:=
 (sel ((a0_0.length:Int) != (a0_1.length:Int)) (R (.n (.bool false))) (sel (decide ((a0_1.length:Int)<24)) (R (.n (.bool false))) (sel (decide ((a0_1.length:Int) > 2048)) (R (.n (.bool false))) ((rn 1)∧((0:Int)≤10)∧((10:Int)≤(a0_0.length:Int))∧(rn 1)∧((0:Int)≤10)∧((10:Int)≤(a0_1.length:Int))∧(0=0)∧(∃x0:Int,((Runs Fs2 97 [(aL [(qG_ a0_0),(qG_ a0_1)])] [] (aI x0) [])∧(R (.n (.bool (x0==10))))))))))
def V67e (a0_0:LD) (a0_1:LD) (R:Mir.AV→Prop):=PLift.up (by delta V67 qG_;exact rfl:V67 a0_0 a0_1 R=_)
theorem vc67 (a0_0:LD) (a0_1:LD) (R:Mir.AV→Prop):Vc Fs2 c67.body (argsQ c67 [(.agg [(.o (.sl 1 a0_0)),(.o (.sl 1 a0_1))])]) [] (endQ c67 R)=V67 a0_0 a0_1 R:=by kernel_rfl
abbrev qI_ (p0:ByteArray) (p1 p2:Int):=
 (hB 9100302 [(aS p0),(aI p1),(aI p2)])
abbrev qJ_:=
 (ByteArray×(Int×(Int×(Unit))))
abbrev qK_:=
 (Bool×(Nat×(Nat×(Nat×(Unit)))))
abbrev qL_:=
 (hB 9100000 [(aB false),(.n Mir.D.nil),(.n Mir.D.nil),(.n Mir.D.nil)])
abbrev qM_ (p0:ByteArray):=
 ((rn 1)∨(@Eq LD [(Mir.D.str p0)] []))
abbrev qN_ (p0:(Nat×LD)) (p1:ByteArray):=
 (((((List.length (Prod.snd p0))+(List.length [(Mir.D.str p1)]))*16):Nat)≤140737488355328)
abbrev qO_ (p0:(Nat×LD)) (p1:ByteArray):=
 ((Prod.snd p0)++[(Mir.D.str p1)])
abbrev qP_ (p0:(Nat×LD)):=
 (List.length (Prod.snd p0))
abbrev qR_ (p0:Mir.AV→Prop):=
 (p0 (.tup [qu_,(.n (.int .i64 4))]))
abbrev qS_ (p0:(Nat×LD)):Mir.AV:=
 (.n (Mir.D.sl 1 (Prod.snd p0)))
abbrev qQ_ (p0:qK_) (p1:qJ_) (p2:(Nat×LD)) (p3:Mir.AV→Prop) (p4:ByteArray) (p5 p6:(Nat×LD)):=
 (sel (Bool.not p0.1) (∃x29:Int,(∃x30:ByteArray,(∃x31:Int,(∃x32:Int,((Runs Fs2 125 [(.ptr 9100302 0),(aI 2)] [(hB 9100302 [(aS p1.1),(aI p1.2.1),(aI p1.2.2.1)])] (aI x29) [(qI_ x30 x31 x32)])∧(rn 0)∧((rn 1)∨(@Eq LD [(Mir.D.int .i64 x29)] []))∧(((((Prod.fst p2):Nat)=p0.2.2.2.1)∧(rn 3))∧(rn 1))∧(((((qP_ p2)+(List.length [(Mir.D.int .i64 x29)]))*8):Nat)≤140737488355328)∧(sel (x32 != 0) (p3 (.tup [qu_,(.n (.int .i64 x32))])) (sel (x31 != (((ByteArray.size p4):Nat):Int)) (qR_ p3) (((Prod.fst p5)=p0.2.1)∧((Prod.fst p6)=p0.2.2.1)∧((p0.2.2.2.1+1)=(p0.2.2.2.1+1))∧(∃x33:Bool,((Runs Fs2 92 [(.agg [(aB p0.1),(aL (Prod.snd p5)),(aL (Prod.snd p6)),(aL ((Prod.snd p2)++[(Mir.D.int .i64 x29)]))]),(aB true)] [] (aB x33) [])∧(sel (Bool.not x33) (qR_ p3) (((Prod.fst p5)=p0.2.1)∧((Prod.fst p6)=p0.2.2.1)∧((p0.2.2.2.1+1)=(p0.2.2.2.1+1))∧(p3 (.tup [(.agg [(.n (.bool p0.1)),(qS_ p5),(qS_ p6),(.n (Mir.D.sl 1 ((Prod.snd p2)++[(Mir.D.int .i64 x29)])))]),(.n (.int .i64 0))])))))))))))))) (sel (p1.2.2.1 != 0) (p3 (.tup [qu_,(.n (.int .i64 p1.2.2.1))])) (sel (p1.2.1 != (((ByteArray.size p4):Nat):Int)) (qR_ p3) (((Prod.fst p5)=p0.2.1)∧((Prod.fst p6)=p0.2.2.1)∧((Prod.fst p2)=p0.2.2.2.1)∧(∃x34:Bool,((Runs Fs2 92 [(.agg [(aB p0.1),(aL (Prod.snd p5)),(aL (Prod.snd p6)),(aL (Prod.snd p2))]),(aB true)] [] (aB x34) [])∧(sel (Bool.not x34) (qR_ p3) (((Prod.fst p5)=p0.2.1)∧((Prod.fst p6)=p0.2.2.1)∧((Prod.fst p2)=p0.2.2.2.1)∧(p3 (.tup [(.agg [(.n (.bool p0.1)),(qS_ p5),(qS_ p6),(qS_ p2)]),(.n (.int .i64 0))]))))))))))
abbrev qH_ (p0:ByteArray) (p1:Int) (p2:Mir.AV→Prop):=
 (∃x0:Int,(∃x1:ByteArray,(∃x2:Int,(∃x3:Int,((Runs Fs2 125 [(.ptr 9100302 0),(aI 1)] [(hB 9100302 [(aS p0),(aI 0),(aI 0)])] (aI x0) [(qI_ x1 x2 x3)])∧(∃x4:(Int→(qJ_→(qK_→((Nat×LD)→((Nat×LD)→((Nat×LD)→Prop)))))),(∃x5:(Int→(qJ_→(qK_→((Nat×LD)→((Nat×LD)→((Nat×LD)→Nat)))))),(((rh [qL_,(qI_ x1 x2 x3),(hB 9100403 [(aB (p1==1)),(.row 9190001 0),(.row 9190002 0),(.row 9190003 0)]),(9190001,(.row false true 0 9 1 [])),(9190002,(.row false true 0 9 1 [])),(9190003,(.row false true 0 3 1 []))])∧(x4 0 (x1,(x2,(x3,()))) ((p1==1),(0,(0,(0,())))) (0,[]) (0,[]) (0,[])))∧(∀x6:Int,(∀x7:qJ_,(∀x8:qK_,(∀x9:(Nat×LD),(∀x10:(Nat×LD),(∀x11:(Nat×LD),((x4 x6 x7 x8 x9 x10 x11)→(∀x12:(Nat→Mir.AV),(sel (decide (x6<x0)) (sel (x7.2.2.1==0) (sel x8.1 (∃x13:ByteArray,(∃x14:ByteArray,(∃x15:Int,(∃x16:Int,((Runs Fs2 126 [(.ptr 9100302 0)] [(hB 9100302 [(aS x7.1),(aI x7.2.1),(aI x7.2.2.1)])] (aS x13) [(qI_ x14 x15 x16)])∧(rn 0)∧(qM_ x13)∧(((((Prod.fst x9):Nat)=x8.2.1)∧(rn 9))∧(rn 1))∧(qN_ x9 x13)∧(∃x17:ByteArray,(∃x18:ByteArray,(∃x19:Int,(∃x20:Int,((Runs Fs2 126 [(.ptr 9100302 0)] [(qI_ x14 x15 x16)] (aS x17) [(qI_ x18 x19 x20)])∧(rn 0)∧(qM_ x17)∧(((((Prod.fst x10):Nat)=x8.2.2.1)∧(rn 9))∧(rn 1))∧(qN_ x10 x17)∧(rq (aS p0))∧(rq (.ptr 9100000 0))∧(rq (.ptr 9100302 0))∧(rq (.ptr 9100403 0))∧(rq (aI x0))∧(rh [qL_,(qI_ x18 x19 x20),(hB 9100403 [(aB x8.1),(.row 9190001 (x8.2.1+1)),(.row 9190002 (x8.2.2.1+1)),(.row 9190003 x8.2.2.2.1)]),(9190001,(.row false true (x8.2.1+1) 9 1 (qO_ x9 x13))),(9190002,(.row false true (x8.2.2.1+1) 9 1 (qO_ x10 x17))),(9190003,(.row false true (Prod.fst x11) 3 1 (Prod.snd x11)))])∧(x4 (IntKind.wrap .i64 (x6+1)) (x18,(x19,(x20,()))) (x8.1,((x8.2.1+1),((x8.2.2.1+1),(x8.2.2.2.1,())))) ((x8.2.1+1),(qO_ x9 x13)) ((x8.2.2.1+1),(qO_ x10 x17)) ((Prod.fst x11),(Prod.snd x11)))∧(((x5 (IntKind.wrap .i64 (x6+1)) (x18,(x19,(x20,()))) (x8.1,((x8.2.1+1),((x8.2.2.1+1),(x8.2.2.2.1,())))) ((x8.2.1+1),(qO_ x9 x13)) ((x8.2.2.1+1),(qO_ x10 x17)) ((Prod.fst x11),(Prod.snd x11))):Nat)<(x5 x6 x7 x8 x9 x10 x11)))))))))))) (∃x21:Int,(∃x22:ByteArray,(∃x23:Int,(∃x24:Int,((Runs Fs2 125 [(.ptr 9100302 0),(aI 2)] [(hB 9100302 [(aS x7.1),(aI x7.2.1),(aI x7.2.2.1)])] (aI x21) [(qI_ x22 x23 x24)])∧(rn 0)∧((rn 1)∨(@Eq LD [(Mir.D.int .i64 x21)] []))∧(((((Prod.fst x11):Nat)=x8.2.2.2.1)∧(rn 3))∧(rn 1))∧(((((qP_ x11)+(List.length [(Mir.D.int .i64 x21)]))*8):Nat)≤140737488355328)∧(∃x25:ByteArray,(∃x26:ByteArray,(∃x27:Int,(∃x28:Int,((Runs Fs2 126 [(.ptr 9100302 0)] [(qI_ x22 x23 x24)] (aS x25) [(qI_ x26 x27 x28)])∧(rn 0)∧(qM_ x25)∧(((((Prod.fst x9):Nat)=x8.2.1)∧(rn 9))∧(rn 1))∧(qN_ x9 x25)∧(rq (aS p0))∧(rq (.ptr 9100000 0))∧(rq (.ptr 9100302 0))∧(rq (.ptr 9100403 0))∧(rq (aI x0))∧(rh [qL_,(qI_ x26 x27 x28),(hB 9100403 [(aB x8.1),(.row 9190001 (x8.2.1+1)),(.row 9190002 x8.2.2.1),(.row 9190003 (x8.2.2.2.1+1))]),(9190001,(.row false true (x8.2.1+1) 9 1 (qO_ x9 x25))),(9190002,(.row false true (Prod.fst x10) 9 1 (Prod.snd x10))),(9190003,(.row false true (x8.2.2.2.1+1) 3 1 ((Prod.snd x11)++[(Mir.D.int .i64 x21)])))])∧(x4 (IntKind.wrap .i64 (x6+1)) (x26,(x27,(x28,()))) (x8.1,((x8.2.1+1),(x8.2.2.1,((x8.2.2.2.1+1),())))) ((x8.2.1+1),(qO_ x9 x25)) ((Prod.fst x10),(Prod.snd x10)) ((x8.2.2.2.1+1),((Prod.snd x11)++[(Mir.D.int .i64 x21)])))∧(((x5 (IntKind.wrap .i64 (x6+1)) (x26,(x27,(x28,()))) (x8.1,((x8.2.1+1),(x8.2.2.1,((x8.2.2.2.1+1),())))) ((x8.2.1+1),(qO_ x9 x25)) ((Prod.fst x10),(Prod.snd x10)) ((x8.2.2.2.1+1),((Prod.snd x11)++[(Mir.D.int .i64 x21)]))):Nat)<(x5 x6 x7 x8 x9 x10 x11))))))))))))) (qQ_ x8 x7 x11 p2 p0 x9 x10)) (qQ_ x8 x7 x11 p2 p0 x9 x10))))))))))))))))))
def V91 (a0:Int) (a1:ByteArray) (R:Mir.AV→Prop):Prop:=
 (sel (a0 != 1) (sel (a0 != 2) (R (.tup [qu_,(.n (.int .i64 81))])) (qH_ a1 a0 R)) (qH_ a1 a0 R))
def V91e (a0:Int) (a1:ByteArray) (R:Mir.AV→Prop):=PLift.up (by delta V91 qQ_ qu_ qR_ qH_ qK_ qS_ qL_ qO_ qM_ qP_ qJ_ qN_ qI_;exact rfl:V91 a0 a1 R=_)
theorem vc91 (a0:Int) (a1:ByteArray) (R:Mir.AV→Prop):Vc Fs2 c91.body (argsQ c91 [(.n (.int .i64 a0)),(.n (.str a1))]) [] (endQ c91 R)=V91 a0 a1 R:=by kernel_rfl
abbrev qT_ (p0:LD):=
 (decide ((p0.length:Int)≤8))
def V92 (a0_0:Bool) (a0_1:LD) (a0_2:LD) (a0_3:LD) (a1:Bool) (R:Mir.AV→Prop):Prop:=
 (∃x0:Bool,((Runs Fs2 93 [(qD_ a0_0 a0_1 a0_2 a0_3)] [] (aB x0) [])∧(sel x0 (sel (qT_ a0_1) (sel a1 (R (.n (.bool true))) (R (.n (.bool (decide ((a0_1.length:Int)≥4)))))) (R (.n (.bool false)))) (R (.n (.bool false))))))
def V92e (a0_0:Bool) (a0_1:LD) (a0_2:LD) (a0_3:LD) (a1:Bool) (R:Mir.AV→Prop):=PLift.up (by delta V92 qD_ qT_;exact rfl:V92 a0_0 a0_1 a0_2 a0_3 a1 R=_)
theorem vc92 (a0_0:Bool) (a0_1:LD) (a0_2:LD) (a0_3:LD) (a1:Bool) (R:Mir.AV→Prop):Vc Fs2 c92.body (argsQ c92 [(.agg [(.n (.bool a0_0)),(.o (.sl 1 a0_1)),(.o (.sl 1 a0_2)),(.o (.sl 1 a0_3))]),(.n (.bool a1))]) [] (endQ c92 R)=V92 a0_0 a0_1 a0_2 a0_3 a1 R:=by kernel_rfl
abbrev qU_ (p0 p1:ByteArray):=
 (Op.bytesLess (ByteArray.toList p0) (ByteArray.toList p1))
abbrev qW_ (p0:LD):=
 (rq (aI (p0.length:Int)))
abbrev qV_ (p0:LD) (p1:Bool) (p2 p3:LD) (p4:(Int→Prop)) (p5:Int) (p6:(Int→Nat)):=
 ((rq (.ptr 9300000 0))∧(qW_ p0)∧(rq (aL p0))∧(qW_ p0)∧(rh [(hB 9300000 [(aB p1),(aL p0),(aL p2),(aL p3)])])∧(p4 (IntKind.wrap .i64 (p5+1)))∧(((p6 (IntKind.wrap .i64 (p5+1))):Nat)<(p6 p5)))
def V93 (a0_0:Bool) (a0_1:LD) (a0_2:LD) (a0_3:LD) (R:Mir.AV→Prop):Prop:=
 (sel (decide ((a0_1.length:Int) > 9)) (R (.n (.bool false))) (∃x0:(Int→Prop),(∃x1:(Int→Nat),(((rh [(hB 9300000 [(aB a0_0),(aL a0_1),(aL a0_2),(aL a0_3)])])∧(x0 0))∧(∀x2:Int,((x0 x2)→(∀x3:(Nat→Mir.AV),(sel (qF_ x2 a0_1) ((rn 1)∧((0:Int)≤x2)∧(∃x4:Mir.D,((qk_ a0_1 x2 x4)∧(∃x5:ByteArray,((ql_ x4 x5)∧(sel (decide ((((ByteArray.size x5):Nat):Int)<1)) (R (.n (.bool false))) (sel (decide ((((ByteArray.size x5):Nat):Int) > 32)) (R (.n (.bool false))) (sel (decide (x2 > 0)) ((rn 1)∧((0:Int)≤(IntKind.wrap .i64 (x2 - 1)))∧(∃x6:Mir.D,((a0_1[Int.toNat (IntKind.wrap .i64 (x2 - 1))]?=some x6)∧(∃x7:ByteArray,((ql_ x6 x7)∧(sel ((qU_ x5 x7)||(qn_ x5 x7)) (R (.n (.bool false))) (qV_ a0_1 a0_0 a0_2 a0_3 x0 x2 x1))))))) (qV_ a0_1 a0_0 a0_2 a0_3 x0 x2 x1))))))))) (sel a0_0 (sel ((a0_3.length:Int)==0) (sel ((a0_2.length:Int)==(a0_1.length:Int)) (∃x8:Bool,((Runs Fs2 68 [(aL a0_2),(.fn 127 [])] [] (aB x8) [])∧(R (.n (.bool (Bool.not x8)))))) (R (.n (.bool false)))) (R (.n (.bool false)))) (sel ((a0_2.length:Int)==0) (sel (decide ((a0_1.length:Int)≥1)) (sel ((a0_3.length:Int)==(IntKind.wrap .i64 ((a0_1.length:Int)+1))) (∃x9:Bool,((Runs Fs2 128 [(aL a0_3),(.fn 129 [])] [] (aB x9) [])∧(R (.n (.bool (Bool.not x9)))))) (R (.n (.bool false)))) (R (.n (.bool false)))) (R (.n (.bool false)))))))))))))
def V93e (a0_0:Bool) (a0_1:LD) (a0_2:LD) (a0_3:LD) (R:Mir.AV→Prop):=PLift.up (by delta V93 qk_ qn_ ql_ qW_ qF_ qU_ qV_;exact rfl:V93 a0_0 a0_1 a0_2 a0_3 R=_)
theorem vc93 (a0_0:Bool) (a0_1:LD) (a0_2:LD) (a0_3:LD) (R:Mir.AV→Prop):Vc Fs2 c93.body (argsQ c93 [(.agg [(.n (.bool a0_0)),(.o (.sl 1 a0_1)),(.o (.sl 1 a0_2)),(.o (.sl 1 a0_3))])]) [] (endQ c93 R)=V93 a0_0 a0_1 a0_2 a0_3 R:=by kernel_rfl
def V97 (a0:LD) (R:Mir.AV→Prop):Prop:=
 (∃x0:Int,((Runs Fs2 133 [(aL a0)] [] (aI x0) [])∧(∃x1:(Int→(Int→Prop)),(∃x2:(Int→(Int→Nat)),(((rh [])∧(x1 0 0))∧(∀x3:Int,(∀x4:Int,((x1 x3 x4)→(∀x5:(Nat→Mir.AV),(sel (decide (x4<x0)) (∃x6:Bool,((Runs Fs2 134 [(aL a0),(.fn 135 [(.ptr 9700401 0)])] [(hB 9700401 [(aI x4)])] (aB x6) [(hB 9700401 [(aI x4)])])∧(sel (Bool.not x6) ((rq (aL a0))∧(rq (aI x0))∧(rh [])∧(x1 (IntKind.wrap .i64 (x3+1)) (IntKind.wrap .i64 (x4+1)))∧(((x2 (IntKind.wrap .i64 (x3+1)) (IntKind.wrap .i64 (x4+1))):Nat)<(x2 x3 x4))) ((rq (aL a0))∧(rq (aI x0))∧(rh [])∧(x1 x3 (IntKind.wrap .i64 (x4+1)))∧(((x2 x3 (IntKind.wrap .i64 (x4+1))):Nat)<(x2 x3 x4)))))) (R (.n (.int .i64 x3)))))))))))))
theorem vc97 (a0:LD) (R:Mir.AV→Prop):Vc Fs2 c97.body (argsQ c97 [(.o (.sl 1 a0))]) [] (endQ c97 R)=V97 a0 R:=by kernel_rfl
def V69 (a0:ByteArray) (R:Mir.AV→Prop):Prop:=
 (R (.n (.bool (decide ((((ByteArray.size a0):Nat):Int) > 4096)))))
theorem vc69 (a0:ByteArray) (R:Mir.AV→Prop):Vc Fs2 c69.body (argsQ c69 [(.n (.str a0))]) [] (endQ c69 R)=V69 a0 R:=by kernel_rfl
def V127 (a0:ByteArray) (R:Mir.AV→Prop):Prop:=
 (R (.n (.bool (decide ((((ByteArray.size a0):Nat):Int) > 200)))))
theorem vc127 (a0:ByteArray) (R:Mir.AV→Prop):Vc Fs2 c127.body (argsQ c127 [(.n (.str a0))]) [] (endQ c127 R)=V127 a0 R:=by kernel_rfl
def V129 (a0:Int) (R:Mir.AV→Prop):Prop:=
 (sel (decide (a0<10)) (R (.n (.bool true))) (R (.n (.bool (decide (a0≥2048))))))
theorem vc129 (a0:Int) (R:Mir.AV→Prop):Vc Fs2 c129.body (argsQ c129 [(.n (.int .i64 a0))]) [] (endQ c129 R)=V129 a0 R:=by kernel_rfl
def V94 (a0:LD) (a1:ByteArray) (R:Mir.AV→Prop):Prop:=
 (∃x0:Int,((Runs Fs2 130 [(aI (a0.length:Int)),(.fn 131 [(.ptr 9400000 0),(.ptr 9400001 0)])] [(hB 9400000 [(aL a0)]),(hB 9400001 [(aS a1)])] (aI x0) [(hB 9400000 [(aL a0)]),(hB 9400001 [(aS a1)])])∧(R (.n (.int .i64 x0)))))
theorem vc94 (a0:LD) (a1:ByteArray) (R:Mir.AV→Prop):Vc Fs2 c94.body (argsQ c94 [(.o (.sl 1 a0)),(.n (.str a1))]) [] (endQ c94 R)=V94 a0 a1 R:=by kernel_rfl
abbrev qX_ (p0:Mir.D) (p1:LD):=
 ((D.cells p0)[0]?=some (Mir.D.sl 1 p1))
def V133 (a0:LD) (R:Mir.AV→Prop):Prop:=
 (∃x0:(Int→(Int→Prop)),(∃x1:(Int→(Int→Nat)),(((rh [])∧(x0 0 0))∧(∀x2:Int,(∀x3:Int,((x0 x2 x3)→(∀x4:(Nat→Mir.AV),(sel (qF_ x3 a0) ((rn 1)∧((0:Int)≤x3)∧(∃x5:Mir.D,((qk_ a0 x3 x5)∧(∃x6:LD,((qX_ x5 x6)∧(rq (aL a0))∧(rq (aI (a0.length:Int)))∧(rh [])∧(x0 (mmI true x2 (x6.length:Int)) (IntKind.wrap .i64 (x3+1)))∧(((x1 (mmI true x2 (x6.length:Int)) (IntKind.wrap .i64 (x3+1))):Nat)<(x1 x2 x3))))))) (R (.n (.int .i64 x2)))))))))))
def V133e (a0:LD) (R:Mir.AV→Prop):=PLift.up (by delta V133 qF_ qk_ qX_;exact rfl:V133 a0 R=_)
theorem vc133 (a0:LD) (R:Mir.AV→Prop):Vc Fs2 c133.body (argsQ c133 [(.o (.sl 1 a0))]) [] (endQ c133 R)=V133 a0 R:=by kernel_rfl
abbrev qY_ (p0:Mir.D) (p1:Bool):=
 ((D.cells p0)[0]?=some (Mir.D.bool p1))
def V136 (a0:LD) (a1:Int) (R:Mir.AV→Prop):Prop:=
 (sel (qF_ a1 a0) ((rn 1)∧((0:Int)≤a1)∧(∃x0:Mir.D,((qk_ a0 a1 x0)∧(∃x1:Bool,((qY_ x0 x1)∧(R (.n (.bool x1)))))))) (R (.n (.bool false))))
def V136e (a0:LD) (a1:Int) (R:Mir.AV→Prop):=PLift.up (by delta V136 qF_ qk_ qY_;exact rfl:V136 a0 a1 R=_)
theorem vc136 (a0:LD) (a1:Int) (R:Mir.AV→Prop):Vc Fs2 c136.body (argsQ c136 [(.o (.sl 1 a0)),(.n (.int .i64 a1))]) [] (endQ c136 R)=V136 a0 a1 R:=by kernel_rfl
abbrev qZ_ (p0:LD) (p1:ByteArray):=
 (rh [(hB 9400000 [(aL p0)]),(hB 9400001 [(aS p1)])])
abbrev q0_:=
 (rq (.fn 131 [(.ptr 9400000 0),(.ptr 9400001 0)]))
def V130h (n:Int) (a:LD) (x:ByteArray) (R:Mir.AV→Heap→Prop):Prop:=
 (∃x0:(Int→(Int→Prop)),(∃x1:(Int→(Int→Nat)),(((qZ_ a x)∧(x0 0 n))∧(∀x2:Int,(∀x3:Int,((x0 x2 x3)→(∀x4:(Nat→Mir.AV),(sel (decide (x2<x3)) (((0:Int)≤1)∧(∃x5:Bool,((Runs Fs2 131 [(aI (IntKind.wrap .i64 (Int.fdiv (IntKind.wrap .u64 (IntKind.wrap .i64 (x2+x3))) (2 ^ (Min.min (Int.toNat 1) (Go.IntKind.bits .u64)))))),(.ptr 9400000 0),(.ptr 9400001 0)] [(hB 9400000 [(aL a)]),(hB 9400001 [(aS x)])] (aB x5) [(hB 9400000 [(aL a)]),(hB 9400001 [(aS x)])])∧(sel (Bool.not x5) (q0_∧(qZ_ a x)∧(x0 (IntKind.wrap .i64 ((IntKind.wrap .i64 (Int.fdiv (IntKind.wrap .u64 (IntKind.wrap .i64 (x2+x3))) (2 ^ (Min.min (Int.toNat 1) (Go.IntKind.bits .u64)))))+1)) x3)∧(((x1 (IntKind.wrap .i64 ((IntKind.wrap .i64 (Int.fdiv (IntKind.wrap .u64 (IntKind.wrap .i64 (x2+x3))) (2 ^ (Min.min (Int.toNat 1) (Go.IntKind.bits .u64)))))+1)) x3):Nat)<(x1 x2 x3))) (q0_∧(qZ_ a x)∧(x0 x2 (IntKind.wrap .i64 (Int.fdiv (IntKind.wrap .u64 (IntKind.wrap .i64 (x2+x3))) (2 ^ (Min.min (Int.toNat 1) (Go.IntKind.bits .u64))))))∧(((x1 x2 (IntKind.wrap .i64 (Int.fdiv (IntKind.wrap .u64 (IntKind.wrap .i64 (x2+x3))) (2 ^ (Min.min (Int.toNat 1) (Go.IntKind.bits .u64)))))):Nat)<(x1 x2 x3))))))) (R (.n (.int .i64 x2)) [(hB 9400000 [(.o (.sl 1 a))]),(hB 9400001 [(.n (.str x))])])))))))))
def V130he (n:Int) (a:LD) (x:ByteArray) (R:Mir.AV→Heap→Prop):=PLift.up (by delta V130h q0_ qZ_;exact rfl:V130h n a x R=_)
theorem vc130h (n:Int) (a:LD) (x:ByteArray) (R:Mir.AV→Heap→Prop):Vc Fs2 c130.body (argsQ c130 [.n (.int .i64 n),.fn 131 [.ptr 9400000 0,.ptr 9400001 0]]) [(9400000,.box [.o (.sl 1 a)]),(9400001,.box [.n (.str x)])] (endQH c130 [(9400000,.box [.o (.sl 1 a)]),(9400001,.box [.n (.str x)])] R)=V130h n a x R:=by kernel_rfl
def V131h (i:Int) (a:LD) (x:ByteArray) (R:Mir.AV→Heap→Prop):Prop:=
 ((rn 1)∧((0:Int)≤i)∧(∃x0:Mir.D,((a[Int.toNat i]?=some x0)∧(∃x1:ByteArray,((ql_ x0 x1)∧(R (.n (.bool (Bool.not (qU_ x1 x)))) [(hB 9400000 [(.o (.sl 1 a))]),(hB 9400001 [(.n (.str x))])]))))))
def V131he (i:Int) (a:LD) (x:ByteArray) (R:Mir.AV→Heap→Prop):=PLift.up (by delta V131h ql_ qU_;exact rfl:V131h i a x R=_)
theorem vc131h (i:Int) (a:LD) (x:ByteArray) (R:Mir.AV→Heap→Prop):Vc Fs2 c131.body (argsQ c131 [.n (.int .i64 i),.ptr 9400000 0,.ptr 9400001 0]) [(9400000,.box [.o (.sl 1 a)]),(9400001,.box [.n (.str x)])] (endQH c131 [(9400000,.box [.o (.sl 1 a)]),(9400001,.box [.n (.str x)])] R)=V131h i a x R:=by kernel_rfl
abbrev q1_ (p0:Int):=
 (hB 9700401 [(.n (.int .i64 p0))])
def V135h (a:LD) (i:Int) (R:Mir.AV→Heap→Prop):Prop:=
 (∃x0:Bool,((Runs Fs2 136 [(aL a),(aI i)] [] (aB x0) [])∧(R (.n (.bool (Bool.not x0))) [(q1_ i)])))
def V135he (a:LD) (i:Int) (R:Mir.AV→Heap→Prop):=PLift.up (by delta V135h q1_;exact rfl:V135h a i R=_)
theorem vc135h (a:LD) (i:Int) (R:Mir.AV→Heap→Prop):Vc Fs2 c135.body (argsQ c135 [.o (.sl 1 a),.ptr 9700401 0]) [(9700401,.box [.n (.int .i64 i)])] (endQH c135 [(9700401,.box [.n (.int .i64 i)])] R)=V135h a i R:=by kernel_rfl
def V157h (l:LD) (i:Int) (R:Mir.AV→Heap→Prop):Prop:=
 (∃x0:(Int→Prop),(∃x1:(Int→Nat),(((rh [(hB 9700401 [(aI i)])])∧(x0 0))∧(∀x2:Int,((x0 x2)→(∀x3:(Nat→Mir.AV),(sel (qF_ x2 l) ((rn 1)∧((0:Int)≤x2)∧(∃x4:Mir.D,((qk_ l x2 x4)∧(∃x5:LD,((qX_ x4 x5)∧(∃x6:Bool,((Runs Fs2 135 [(aL x5),(.ptr 9700401 0)] [(hB 9700401 [(aI i)])] (aB x6) [(hB 9700401 [(aI i)])])∧(sel x6 (R (.n (.int .i64 x2)) [(q1_ i)]) ((rq (aL l))∧(rq (.fn 135 [(.ptr 9700401 0)]))∧(rq (aI (l.length:Int)))∧(rh [(hB 9700401 [(aI i)])])∧(x0 (IntKind.wrap .i64 (x2+1)))∧(((x1 (IntKind.wrap .i64 (x2+1))):Nat)<(x1 x2))))))))))) (R (.n (.int .i64 (-1))) [(q1_ i)]))))))))
def V157he (l:LD) (i:Int) (R:Mir.AV→Heap→Prop):=PLift.up (by delta V157h qF_ qk_ qX_ q1_;exact rfl:V157h l i R=_)
theorem vc157h (l:LD) (i:Int) (R:Mir.AV→Heap→Prop):Vc Fs2 c157.body (argsQ c157 [.o (.sl 1 l),.fn 135 [.ptr 9700401 0]]) [(9700401,.box [.n (.int .i64 i)])] (endQH c157 [(9700401,.box [.n (.int .i64 i)])] R)=V157h l i R:=by kernel_rfl
def V134h (l:LD) (i:Int) (R:Mir.AV→Heap→Prop):Prop:=
 (∃x0:Int,((Runs Fs2 157 [(aL l),(.fn 135 [(.ptr 9700401 0)])] [(hB 9700401 [(aI i)])] (aI x0) [(hB 9700401 [(aI i)])])∧(R (qs_ x0) [(q1_ i)])))
def V134he (l:LD) (i:Int) (R:Mir.AV→Heap→Prop):=PLift.up (by delta V134h q1_ qs_;exact rfl:V134h l i R=_)
theorem vc134h (l:LD) (i:Int) (R:Mir.AV→Heap→Prop):Vc Fs2 c134.body (argsQ c134 [.o (.sl 1 l),.fn 135 [.ptr 9700401 0]]) [(9700401,.box [.n (.int .i64 i)])] (endQH c134 [(9700401,.box [.n (.int .i64 i)])] R)=V134h l i R:=by kernel_rfl
def V68p (l:LD) (R:Mir.AV→Prop):Prop:=
 (∃x0:Int,((Runs Fs2 98 [(aL l),(.fn 69 [])] [] (aI x0) [])∧(R (qs_ x0))))
def V68pe (l:LD) (R:Mir.AV→Prop):=PLift.up (by delta V68p qs_;exact rfl:V68p l R=_)
theorem vc68p (l:LD) (R:Mir.AV→Prop):Vc Fs2 c68.body (argsQ c68 [.o (.sl 1 l),.fn 69 []]) [] (endQ c68 R)=V68p l R:=by kernel_rfl
def V98p (l:LD) (R:Mir.AV→Prop):Prop:=
 (∃x0:(Int→Prop),(∃x1:(Int→Nat),(((rh [])∧(x0 0))∧(∀x2:Int,((x0 x2)→(∀x3:(Nat→Mir.AV),(sel (qF_ x2 l) ((rn 1)∧((0:Int)≤x2)∧(∃x4:Mir.D,((qk_ l x2 x4)∧(∃x5:ByteArray,((ql_ x4 x5)∧(∃x6:Bool,((Runs Fs2 69 [(aS x5)] [] (aB x6) [])∧(sel x6 (R (.n (.int .i64 x2))) ((rq (aL l))∧(rq (.fn 69 []))∧(rq (aI (l.length:Int)))∧(rh [])∧(x0 (IntKind.wrap .i64 (x2+1)))∧(((x1 (IntKind.wrap .i64 (x2+1))):Nat)<(x1 x2))))))))))) (R (.n (.int .i64 (-1)))))))))))
def V98pe (l:LD) (R:Mir.AV→Prop):=PLift.up (by delta V98p qF_ ql_ qk_;exact rfl:V98p l R=_)
theorem vc98p (l:LD) (R:Mir.AV→Prop):Vc Fs2 c98.body (argsQ c98 [.o (.sl 1 l),.fn 69 []]) [] (endQ c98 R)=V98p l R:=by kernel_rfl
def V68q (l:LD) (R:Mir.AV→Prop):Prop:=
 (∃x0:Int,((Runs Fs2 98 [(aL l),(.fn 127 [])] [] (aI x0) [])∧(R (qs_ x0))))
def V68qe (l:LD) (R:Mir.AV→Prop):=PLift.up (by delta V68q qs_;exact rfl:V68q l R=_)
theorem vc68q (l:LD) (R:Mir.AV→Prop):Vc Fs2 c68.body (argsQ c68 [.o (.sl 1 l),.fn 127 []]) [] (endQ c68 R)=V68q l R:=by kernel_rfl
def V98q (l:LD) (R:Mir.AV→Prop):Prop:=
 (∃x0:(Int→Prop),(∃x1:(Int→Nat),(((rh [])∧(x0 0))∧(∀x2:Int,((x0 x2)→(∀x3:(Nat→Mir.AV),(sel (qF_ x2 l) ((rn 1)∧((0:Int)≤x2)∧(∃x4:Mir.D,((qk_ l x2 x4)∧(∃x5:ByteArray,((ql_ x4 x5)∧(∃x6:Bool,((Runs Fs2 127 [(aS x5)] [] (aB x6) [])∧(sel x6 (R (.n (.int .i64 x2))) ((rq (aL l))∧(rq (.fn 127 []))∧(rq (aI (l.length:Int)))∧(rh [])∧(x0 (IntKind.wrap .i64 (x2+1)))∧(((x1 (IntKind.wrap .i64 (x2+1))):Nat)<(x1 x2))))))))))) (R (.n (.int .i64 (-1)))))))))))
def V98qe (l:LD) (R:Mir.AV→Prop):=PLift.up (by delta V98q qF_ ql_ qk_;exact rfl:V98q l R=_)
theorem vc98q (l:LD) (R:Mir.AV→Prop):Vc Fs2 c98.body (argsQ c98 [.o (.sl 1 l),.fn 127 []]) [] (endQ c98 R)=V98q l R:=by kernel_rfl
def V128p (l:LD) (R:Mir.AV→Prop):Prop:=
 (∃x0:Int,((Runs Fs2 156 [(aL l),(.fn 129 [])] [] (aI x0) [])∧(R (qs_ x0))))
def V128pe (l:LD) (R:Mir.AV→Prop):=PLift.up (by delta V128p qs_;exact rfl:V128p l R=_)
theorem vc128p (l:LD) (R:Mir.AV→Prop):Vc Fs2 c128.body (argsQ c128 [.o (.sl 1 l),.fn 129 []]) [] (endQ c128 R)=V128p l R:=by kernel_rfl
def V156p (l:LD) (R:Mir.AV→Prop):Prop:=
 (∃x0:(Int→Prop),(∃x1:(Int→Nat),(((rh [])∧(x0 0))∧(∀x2:Int,((x0 x2)→(∀x3:(Nat→Mir.AV),(sel (qF_ x2 l) ((rn 1)∧((0:Int)≤x2)∧(∃x4:Mir.D,((qk_ l x2 x4)∧(∃x5:Int,(((D.cells x4)[0]?=some (Mir.D.int .i64 x5))∧(∃x6:Bool,((Runs Fs2 129 [(aI x5)] [] (aB x6) [])∧(sel x6 (R (.n (.int .i64 x2))) ((rq (aL l))∧(rq (.fn 129 []))∧(rq (aI (l.length:Int)))∧(rh [])∧(x0 (IntKind.wrap .i64 (x2+1)))∧(((x1 (IntKind.wrap .i64 (x2+1))):Nat)<(x1 x2))))))))))) (R (.n (.int .i64 (-1)))))))))))
def V156pe (l:LD) (R:Mir.AV→Prop):=PLift.up (by delta V156p qF_ qk_;exact rfl:V156p l R=_)
theorem vc156p (l:LD) (R:Mir.AV→Prop):Vc Fs2 c156.body (argsQ c156 [.o (.sl 1 l),.fn 129 []]) [] (endQ c156 R)=V156p l R:=by kernel_rfl
abbrev q2_ (p0:ByteArray):=
 (hB 9500000 [(.n (.str p0))])
abbrev q3_ (p0:ByteArray):=
 (hB 9500001 [(.n (.str p0))])
def V132h (k:ByteArray) (lo:ByteArray) (hi:ByteArray) (R:Mir.AV→Heap→Prop):Prop:=
 (sel (qU_ k lo) (R (.n (.bool true)) [(q2_ lo),(q3_ hi)]) (sel (qr_ hi) (R (.n (.bool (Bool.not (qU_ k hi)))) [(q2_ lo),(q3_ hi)]) (R (.n (.bool false)) [(q2_ lo),(q3_ hi)])))
def V132he (k:ByteArray) (lo:ByteArray) (hi:ByteArray) (R:Mir.AV→Heap→Prop):=PLift.up (by delta V132h qf_ q3_ qr_ qU_ q2_;exact rfl:V132h k lo hi R=_)
theorem vc132h (k:ByteArray) (lo:ByteArray) (hi:ByteArray) (R:Mir.AV→Heap→Prop):Vc Fs2 c132.body (argsQ c132 [.n (.str k),.ptr 9500000 0,.ptr 9500001 0]) [(9500000,.box [.n (.str lo)]),(9500001,.box [.n (.str hi)])] (endQH c132 [(9500000,.box [.n (.str lo)]),(9500001,.box [.n (.str hi)])] R)=V132h k lo hi R:=by kernel_rfl
abbrev q4_:List Mir.AV:=
 [(.ptr 9500000 0),(.ptr 9500001 0)]
def V68r (l:LD) (lo:ByteArray) (hi:ByteArray) (R:Mir.AV→Heap→Prop):Prop:=
 (∃x0:Int,((Runs Fs2 98 [(aL l),(.fn 132 q4_)] [(hB 9500000 [(aS lo)]),(hB 9500001 [(aS hi)])] (aI x0) [(hB 9500000 [(aS lo)]),(hB 9500001 [(aS hi)])])∧(R (qs_ x0) [(q2_ lo),(q3_ hi)])))
def V68re (l:LD) (lo:ByteArray) (hi:ByteArray) (R:Mir.AV→Heap→Prop):=PLift.up (by delta V68r q4_ q2_ qs_ q3_;exact rfl:V68r l lo hi R=_)
theorem vc68r (l:LD) (lo:ByteArray) (hi:ByteArray) (R:Mir.AV→Heap→Prop):Vc Fs2 c68.body (argsQ c68 [.o (.sl 1 l),.fn 132 [.ptr 9500000 0,.ptr 9500001 0]]) [(9500000,.box [.n (.str lo)]),(9500001,.box [.n (.str hi)])] (endQH c68 [(9500000,.box [.n (.str lo)]),(9500001,.box [.n (.str hi)])] R)=V68r l lo hi R:=by kernel_rfl
def V98r (l:LD) (lo:ByteArray) (hi:ByteArray) (R:Mir.AV→Heap→Prop):Prop:=
 (∃x0:(Int→Prop),(∃x1:(Int→Nat),(((rh [(hB 9500000 [(aS lo)]),(hB 9500001 [(aS hi)])])∧(x0 0))∧(∀x2:Int,((x0 x2)→(∀x3:(Nat→Mir.AV),(sel (qF_ x2 l) ((rn 1)∧((0:Int)≤x2)∧(∃x4:Mir.D,((qk_ l x2 x4)∧(∃x5:ByteArray,((ql_ x4 x5)∧(∃x6:Bool,((Runs Fs2 132 [(aS x5),(.ptr 9500000 0),(.ptr 9500001 0)] [(hB 9500000 [(aS lo)]),(hB 9500001 [(aS hi)])] (aB x6) [(hB 9500000 [(aS lo)]),(hB 9500001 [(aS hi)])])∧(sel x6 (R (.n (.int .i64 x2)) [(q2_ lo),(q3_ hi)]) ((rq (aL l))∧(rq (.fn 132 q4_))∧(rq (aI (l.length:Int)))∧(rh [(hB 9500000 [(aS lo)]),(hB 9500001 [(aS hi)])])∧(x0 (IntKind.wrap .i64 (x2+1)))∧(((x1 (IntKind.wrap .i64 (x2+1))):Nat)<(x1 x2))))))))))) (R (.n (.int .i64 (-1))) [(q2_ lo),(q3_ hi)]))))))))
def V98re (l:LD) (lo:ByteArray) (hi:ByteArray) (R:Mir.AV→Heap→Prop):=PLift.up (by delta V98r qk_ q3_ qF_ ql_ q4_ q2_;exact rfl:V98r l lo hi R=_)
theorem vc98r (l:LD) (lo:ByteArray) (hi:ByteArray) (R:Mir.AV→Heap→Prop):Vc Fs2 c98.body (argsQ c98 [.o (.sl 1 l),.fn 132 [.ptr 9500000 0,.ptr 9500001 0]]) [(9500000,.box [.n (.str lo)]),(9500001,.box [.n (.str hi)])] (endQH c98 [(9500000,.box [.n (.str lo)]),(9500001,.box [.n (.str hi)])] R)=V98r l lo hi R:=by kernel_rfl
abbrev q5_ (p0:ByteArray) (p1 p2:Int):=
 (hB 9100302 [(.n (.str p0)),(.n (.int .i64 p1)),(.n (.int .i64 p2))])
def V125h (s:ByteArray) (n:Int) (e:Int) (k:Int) (R:Mir.AV→Heap→Prop):Prop:=
 (sel (e != 0) (R (.n (.int .i64 0)) [(q5_ s n e)]) (∃x0:Int,(∃x1:Int,(∃x2:Int,((Runs Fs2 152 [(aS s),(aI n),(aI k)] [] (.tup [(aI x0),(aI x1),(aI x2)]) [])∧(R (.n (.int .i64 x0)) [(q5_ s x1 x2)]))))))
def V125he (s:ByteArray) (n:Int) (e:Int) (k:Int) (R:Mir.AV→Heap→Prop):=PLift.up (by delta V125h q5_;exact rfl:V125h s n e k R=_)
theorem vc125h (s:ByteArray) (n:Int) (e:Int) (k:Int) (R:Mir.AV→Heap→Prop):Vc Fs2 c125.body (argsQ c125 [.ptr 9100302 0,.n (.int .i64 k)]) [(9100302,.box [.n (.str s),.n (.int .i64 n),.n (.int .i64 e)])] (endQH c125 [(9100302,.box [.n (.str s),.n (.int .i64 n),.n (.int .i64 e)])] R)=V125h s n e k R:=by kernel_rfl
def V126h (s:ByteArray) (n:Int) (e:Int) (R:Mir.AV→Heap→Prop):Prop:=
 (sel (e != 0) (R qe_ [(q5_ s n e)]) (∃x0:ByteArray,(∃x1:Int,(∃x2:Int,((Runs Fs2 155 [(aS s),(aI n)] [] (.tup [(aS x0),(aI x1),(aI x2)]) [])∧(R (.n (.str x0)) [(q5_ s x1 x2)]))))))
def V126he (s:ByteArray) (n:Int) (e:Int) (R:Mir.AV→Heap→Prop):=PLift.up (by delta V126h qf_ q5_ qe_;exact rfl:V126h s n e R=_)
theorem vc126h (s:ByteArray) (n:Int) (e:Int) (R:Mir.AV→Heap→Prop):Vc Fs2 c126.body (argsQ c126 [.ptr 9100302 0]) [(9100302,.box [.n (.str s),.n (.int .i64 n),.n (.int .i64 e)])] (endQH c126 [(9100302,.box [.n (.str s),.n (.int .i64 n),.n (.int .i64 e)])] R)=V126h s n e R:=by kernel_rfl
abbrev q8_ (p0 p1 p2:LD) (p3 p4:Int):=
 (hB 9900302 [(.o (.sl 1 p0)),(.o (.sl 1 p1)),(.o (.sl 1 p2)),(.n (.int .i64 p3)),(.n (.int .i64 p4)),qe_,(.n (.int .i64 0)),(.n (.int .i64 0)),(.n Mir.D.nil),qe_,(.n (.bool false)),(.n (.bool false))])
abbrev q6_ (p0:Mir.AV→Heap→Prop) (p1 p2 p3:LD) (p4 p5:Int):=
 (p0 (.tup [qu_,(.n (.bool false))]) [(q8_ p1 p2 p3 p4 p5)])
abbrev q7_ (p0:ByteArray) (p1 p2:Int) (p3:ByteArray) (p4:Int):=
 (Runs Fs2 90 [(aS p0),(aL [(Mir.D.int .i64 1),(Mir.D.int .i64 2)])] [] (.tup [(.agg [(aI p1),(aI p2),(aS p3)]),(aI p4)]) [])
def V62b (ba:LD) (no:LD) (pa:LD) (ro:Int) (ge:Int) (block:Int) (root:Bool) (R:Mir.AV→Heap→Prop):Prop:=
 (sel (decide (block<10)) (q6_ R ba no pa ro ge) (sel (qx_ block no) (q6_ R ba no pa ro ge) ((rn 1)∧((0:Int)≤block)∧(∃x0:Mir.D,((qk_ no block x0)∧(∃x1:Bool,((qY_ x0 x1)∧(sel (Bool.not x1) (q6_ R ba no pa ro ge) ((rn 1)∧((0:Int)≤block)∧(∃x2:Mir.D,((qk_ pa block x2)∧(∃x3:ByteArray,((ql_ x2 x3)∧(0=0)∧(∃x4:Int,(∃x5:Int,(∃x6:ByteArray,(∃x7:Int,((q7_ x3 x4 x5 x6 x7)∧(sel (x7 != 0) (q6_ R ba no pa ro ge) (sel (decide (x5 > ge)) (q6_ R ba no pa ro ge) (∃x8:Bool,(∃x9:LD,(∃x10:LD,(∃x11:LD,(∃x12:Int,((Runs Fs2 91 [(aI x4),(aS x6)] [] (.tup [(.agg (qv_ x8 x9 x10 x11)),(aI x12)]) [])∧(sel (x12 != 0) (q6_ R ba no pa ro ge) (∃x13:Bool,((Runs Fs2 92 [(qD_ x8 x9 x10 x11),(aB root)] [] (aB x13) [])∧(sel (Bool.not x13) (q6_ R ba no pa ro ge) (R (.tup [(qw_ x8 x9 x10 x11),(.n (.bool true))]) [(q8_ ba no pa ro ge)])))))))))))))))))))))))))))))))
def V62be (ba:LD) (no:LD) (pa:LD) (ro:Int) (ge:Int) (block:Int) (root:Bool) (R:Mir.AV→Heap→Prop):=PLift.up (by delta V62b q7_ q8_ qf_ qk_ qe_ q6_ qY_ ql_ qD_ qv_ qx_ qw_ qu_;exact rfl:V62b ba no pa ro ge block root R=_)
theorem vc62b (ba:LD) (no:LD) (pa:LD) (ro:Int) (ge:Int) (block:Int) (root:Bool) (R:Mir.AV→Heap→Prop):Vc Fs2 c62.body (argsQ c62 [.ptr 9900302 0,.n (.int .i64 block),.n (.bool root)]) [(9900302,.box [.o (.sl 1 ba),.o (.sl 1 no),.o (.sl 1 pa),.n (.int .i64 ro),.n (.int .i64 ge),.n (.str (ByteArray.mk (List.toArray []))),.n (.int .i64 0),.n (.int .i64 0),.n .nil,.n (.str (ByteArray.mk (List.toArray []))),.n (.bool false),.n (.bool false)])] (endQH c62 [(9900302,.box [.o (.sl 1 ba),.o (.sl 1 no),.o (.sl 1 pa),.n (.int .i64 ro),.n (.int .i64 ge),.n (.str (ByteArray.mk (List.toArray []))),.n (.int .i64 0),.n (.int .i64 0),.n .nil,.n (.str (ByteArray.mk (List.toArray []))),.n (.bool false),.n (.bool false)])] R)=V62b ba no pa ro ge block root R:=by kernel_rfl
def bl:List UInt8→List UInt8→Bool:=Op.bytesLess
def lt (a b:ByteArray):Bool:=Op.bytesLess a.toList b.toList
theorem bl_irr:∀a,bl a a=false
 | []=>rfl
 | x :: r=>by
   show Op.bytesLess (x :: r) (x :: r)=false
   simp only[Op.bytesLess]
   simpa[bl] using bl_irr r
theorem bl_cons (x y:UInt8) (r s:List UInt8):bl (x :: r) (y :: s)=(decide (x.toNat<y.toNat)||(decide (x.toNat=y.toNat)&&bl r s)):=by
 show Op.bytesLess (x :: r) (y :: s)=_
 simp only[Op.bytesLess,bl]
 by_cases h1:x<y
 · have:=UInt8.lt_iff_toNat_lt.1 h1
   simp[h1,this]
 · have h1':¬x.toNat<y.toNat:=fun h=>h1 (UInt8.lt_iff_toNat_lt.2 h)
   by_cases h2:x=y
   · subst h2;simp
   · have h2':x.toNat≠y.toNat:=fun h=>h2 (UInt8.toNat_inj.1 h)
     by_cases h3:y<x
     · simp[h1,h1',h2',h3,h2]
     · simp[h1,h1',h2',h3,h2]
theorem bl_trans:∀ {a b c:List UInt8},bl a b=true→bl b c=true→bl a c=true
 | [],[],_,h,_=>by cases h
 | [],_ :: _,[],_,h=>by cases h
 | [],_ :: _,_ :: _,_,_=>rfl
 | _ :: _,[],_,h,_=>by cases h
 | _ :: _,_ :: _,[],_,h=>by cases h
 | x :: r,y :: s,z :: t,h1,h2=>by
   rw[bl_cons]at h1 h2 ⊢
   simp only[Bool.or_eq_true,Bool.and_eq_true,decide_eq_true_eq]at h1 h2 ⊢
   rcases h1 with h1|⟨h1,h1'⟩ <;> rcases h2 with h2|⟨h2,h2'⟩
   · exact .inl (by omega)
   · exact .inl (by omega)
   · exact .inl (by omega)
   · exact .inr ⟨by omega,bl_trans h1' h2'⟩
theorem bl_tri:∀(a b:List UInt8),bl a b=true∨a=b∨bl b a=true
 | [],[] => .inr (.inl rfl)
 | [],_ :: _ => .inl rfl
 | _ :: _,[] => .inr (.inr rfl)
 | x :: r,y :: s=>by
   rw[bl_cons,bl_cons]
   simp only[Bool.or_eq_true,Bool.and_eq_true,decide_eq_true_eq]
   rcases Nat.lt_trichotomy x.toNat y.toNat with h|h|h
   · exact .inl (.inl h)
   · rcases bl_tri r s with h2|h2|h2
     · exact .inl (.inr ⟨h,h2⟩)
     · subst h2
       rw[UInt8.toNat_inj.1 h]
       exact .inr (.inl rfl)
     · exact .inr (.inr (.inr ⟨h.symm,h2⟩))
   · exact .inr (.inr (.inl h))
theorem lt_irr (a:ByteArray):lt a a=false:=bl_irr _
theorem lt_trans {a b c:ByteArray} (h1:lt a b=true) (h2:lt b c=true):lt a c=true:=bl_trans h1 h2
theorem lt_tri (a b:ByteArray):lt a b=true∨a=b∨lt b a=true:=by
 rcases bl_tri a.toList b.toList with h|h|h
 · exact .inl h
 · refine .inr (.inl (bytes_ext ?_))
   rw[←toList_data,←toList_data,h]
 · exact .inr (.inr h)
theorem lt_asym {a b:ByteArray} (h:lt a b=true):lt b a=false:=by
 cases h2:lt b a with
 | false=>rfl
 | true=>have:=lt_trans h h2;rw[lt_irr]at this;cases this
theorem lt_ne {a b:ByteArray} (h:lt a b=true):a≠b:=fun e=>by subst e;rw[lt_irr]at h;cases h
theorem nlt_iff {a b:ByteArray}:lt a b=false ↔ a=b∨lt b a=true:=by
 refine ⟨fun h => ?_,?_⟩
 · rcases lt_tri a b with h2|h2|h2
   · rw[h]at h2;cases h2
   · exact .inl h2
   · exact .inr h2
 · rintro (rfl|h)
   · exact lt_irr _
   · exact lt_asym h
theorem lt_nlt {a b c:ByteArray} (h1:lt a b=true) (h2:lt c b=false):lt a c=true:=by
 rcases nlt_iff.1 h2 with rfl|h
 · exact h1
 · exact lt_trans h1 h
theorem nlt_lt {a b c:ByteArray} (h1:lt b a=false) (h2:lt b c=true):lt a c=true:=by
 rcases nlt_iff.1 h1 with rfl|h
 · exact h2
 · exact lt_trans h h2
theorem le_eq (a b:ByteArray):((Go.Op.bytesLess (ByteArray.toList a) (ByteArray.toList b))||((ByteArray.toList a)==(ByteArray.toList b))) = !(lt b a):=by
 show (lt a b||(a.toList==b.toList)) = !(lt b a)
 rw[beq_dec]
 rcases lt_tri a b with h|h|h
 · rw[h,lt_asym h];rfl
 · subst h;rw[lt_irr];simp
 · rw[h,lt_asym h,decide_eq_false (fun e=>lt_ne h e.symm)];rfl
structure Nd where
 leaf:Bool
 keys:List ByteArray
 vals:List ByteArray
 kids:List Int
def nd0:Nd:=⟨false,[],[],[]⟩
def il (l:List Int):List Mir.D:=l.map (.int .i64)
theorem il_len (l:List Int):(il l).length=l.length:=by simp[il]
theorem il_at {l:List Int} {i:Nat} (h:i<l.length):(il l)[i]?=some (.int .i64 l[i]):=by simp[il,h]
def ndV (n:Nd):AV := .agg [.n (.bool n.leaf),.o (.sl 1 (sl_ n.keys)),.o (.sl 1 (sl_ n.vals)),.o (.sl 1 (il n.kids))]
theorem nat_eq {a:Nat} {b:Int} (h:(((a:Nat):Int)==b)=true):(a:Int)=b:=by simpa using h
theorem nil_of {α:Type} {l:List α} (h:(((l.length:Nat):Int)==0)=true):l=[]:=List.length_eq_zero_iff.1 (by have:=nat_eq h;omega)
abbrev Small (n:Nat):Prop:=(n:Int)≤9223372036854775807
theorem p69 (s:ByteArray):Runs Fs2 69 [.n (.str s)] [] (.n (.bool (decide ((s.size:Int) > 4096)))) []:=by
 refine vc_eq fs69 rfl ?_
 rw[vc69];rfl
theorem p127 (s:ByteArray):Runs Fs2 127 [.n (.str s)] [] (.n (.bool (decide ((s.size:Int) > 200)))) []:=by
 refine vc_eq fs127 rfl ?_
 rw[vc127];rfl
theorem p129 (b:Int):Runs Fs2 129 [.n (.int .i64 b)] [] (.n (.bool (decide (b<10∨b≥2048)))) []:=by
 refine vc_eq fs129 rfl ?_
 rw[vc129,V129]
 refine sel_dec (fun h=>by rw[decide_eq_true (.inl h)]) (fun h => ?_)
 congr 2;simp only[decide_eq_decide];omega
theorem any_up {α:Type} {l:List α} {p:α→Bool} {i:Int} (h0:0≤i) (h:¬i<l.length) (hi:∀(j:Nat) (h:j<l.length),(j:Int)<i→p l[j]=false):l.any p=false:=by
 refine List.any_eq_false.2 fun x hx => ?_
 obtain ⟨j,hj,rfl⟩:=List.getElem_of_mem hx
 rw[hi j hj (by omega)];simp
theorem any_at {α:Type} {l:List α} {p:α→Bool} {i:Nat} (h:i<l.length) (hp:p l[i]=true):l.any p=true:=List.any_eq_true.2 ⟨_,List.getElem_mem h,hp⟩
theorem step_up {α:Type} {l:List α} {p:α→Bool} {i:Int} (h0:0≤i) (hlt:i.toNat<l.length) (hp:p l[i.toNat]=false) (hi:∀(j:Nat) (h:j<l.length),(j:Int)<i→p l[j]=false):∀(j:Nat) (h:j<l.length),(j:Int)<i+1→p l[j]=false:=fun j h hj=>by
 by_cases e:(j:Int)<i
 · exact hi j h e
 · obtain rfl:j=i.toNat:=by omega
   exact hp
theorem p98p (l:List ByteArray) (hl:Small l.length):∃r:Int,decide (r≥0)=l.any (fun s=>decide ((s.size:Int) > 4096))∧Runs Fs2 98 [.o (.sl 1 (sl_ l)),.fn 69 []] [] (.n (.int .i64 r)) []:=by
 have key:∃r,Runs Fs2 98 [.o (.sl 1 (sl_ l)),.fn 69 []] [] r []∧∃k:Int,r = .n (.int .i64 k)∧decide (k≥0)=l.any (fun s=>decide ((s.size:Int) > 4096)):=by
  refine vc_runs (R:=fun r=>∃k:Int,r = .n (.int .i64 k)∧decide (k≥0)=l.any (fun s=>decide ((s.size:Int) > 4096))) fs98 rfl ?_
  rw[vc98p,(V98pe _ _).down,sl_len]
  refine ⟨fun i=>0≤i∧i≤l.length∧∀(j:Nat) (h:j<l.length),(j:Int)<i→decide ((l[j].size:Int) > 4096)=false,fun i=>(l.length - i).toNat,⟨rfl,by omega,by omega,fun j _ hj=>by omega⟩,?_⟩
  rintro i ⟨h0,h1,hok⟩ _
  refine sel_dec (fun h => ?_) (fun h=>⟨-1,rfl,?_⟩)
  · have hi:i.toNat<l.length:=by omega
    refine ⟨rfl,h0,_,sl_at hi,_,rfl,_,p69 _,sel_intro (fun hb=>⟨i,rfl,?_⟩) (fun hb => ?_)⟩
    · rw[decide_eq_true h0];exact (any_at (p:=fun s:ByteArray=>decide ((s.size:Int) > 4096)) hi hb).symm
    · repeat (refine And.intro rfl ?_)
      rw[i64_in _ (by omega)]
      exact ⟨⟨by omega,by omega,step_up (p:=fun s:ByteArray=>decide ((s.size:Int) > 4096)) h0 hi hb hok⟩,by first|omega|(dsimp only;omega)⟩
  · exact (any_up (p:=fun s:ByteArray=>decide ((s.size:Int) > 4096)) h0 h hok).symm
 obtain ⟨r,hr,k,rfl,hk⟩:=key
 exact ⟨k,hk,hr⟩
theorem p68p (l:List ByteArray) (hl:Small l.length):Runs Fs2 68 [.o (.sl 1 (sl_ l)),.fn 69 []] [] (.n (.bool (l.any fun s=>decide ((s.size:Int) > 4096)))) []:=by
 refine vc_eq fs68 rfl ?_
 rewrite[vc68p,(V68pe _ _).down]
 obtain ⟨r,hr,h⟩:=p98p l hl
 exact ⟨r,h,by rw[hr]⟩
theorem p98q (l:List ByteArray) (hl:Small l.length):∃r:Int,decide (r≥0)=l.any (fun s=>decide ((s.size:Int) > 200))∧Runs Fs2 98 [.o (.sl 1 (sl_ l)),.fn 127 []] [] (.n (.int .i64 r)) []:=by
 have key:∃r,Runs Fs2 98 [.o (.sl 1 (sl_ l)),.fn 127 []] [] r []∧∃k:Int,r = .n (.int .i64 k)∧decide (k≥0)=l.any (fun s=>decide ((s.size:Int) > 200)):=by
  refine vc_runs (R:=fun r=>∃k:Int,r = .n (.int .i64 k)∧decide (k≥0)=l.any (fun s=>decide ((s.size:Int) > 200))) fs98 rfl ?_
  rw[vc98q,(V98qe _ _).down,sl_len]
  refine ⟨fun i=>0≤i∧i≤l.length∧∀(j:Nat) (h:j<l.length),(j:Int)<i→decide ((l[j].size:Int) > 200)=false,fun i=>(l.length - i).toNat,⟨rfl,by omega,by omega,fun j _ hj=>by omega⟩,?_⟩
  rintro i ⟨h0,h1,hok⟩ _
  refine sel_dec (fun h => ?_) (fun h=>⟨-1,rfl,?_⟩)
  · have hi:i.toNat<l.length:=by omega
    refine ⟨rfl,h0,_,sl_at hi,_,rfl,_,p127 _,sel_intro (fun hb=>⟨i,rfl,?_⟩) (fun hb => ?_)⟩
    · rw[decide_eq_true h0];exact (any_at (p:=fun s:ByteArray=>decide ((s.size:Int) > 200)) hi hb).symm
    · repeat (refine And.intro rfl ?_)
      rw[i64_in _ (by omega)]
      exact ⟨⟨by omega,by omega,step_up (p:=fun s:ByteArray=>decide ((s.size:Int) > 200)) h0 hi hb hok⟩,by first|omega|(dsimp only;omega)⟩
  · exact (any_up (p:=fun s:ByteArray=>decide ((s.size:Int) > 200)) h0 h hok).symm
 obtain ⟨r,hr,k,rfl,hk⟩:=key
 exact ⟨k,hk,hr⟩
theorem p68q (l:List ByteArray) (hl:Small l.length):Runs Fs2 68 [.o (.sl 1 (sl_ l)),.fn 127 []] [] (.n (.bool (l.any fun s=>decide ((s.size:Int) > 200)))) []:=by
 refine vc_eq fs68 rfl ?_
 rewrite[vc68q,(V68qe _ _).down]
 obtain ⟨r,hr,h⟩:=p98q l hl
 exact ⟨r,h,by rw[hr]⟩
theorem p156p (l:List Int) (hl:Small l.length):∃r:Int,decide (r≥0)=l.any (fun b=>decide (b<10∨b≥2048))∧Runs Fs2 156 [.o (.sl 1 (il l)),.fn 129 []] [] (.n (.int .i64 r)) []:=by
 have key:∃r,Runs Fs2 156 [.o (.sl 1 (il l)),.fn 129 []] [] r []∧∃k:Int,r = .n (.int .i64 k)∧decide (k≥0)=l.any (fun b=>decide (b<10∨b≥2048)):=by
  refine vc_runs (R:=fun r=>∃k:Int,r = .n (.int .i64 k)∧decide (k≥0)=l.any (fun b=>decide (b<10∨b≥2048))) fs156 rfl ?_
  rw[vc156p,(V156pe _ _).down,il_len]
  refine ⟨fun i=>0≤i∧i≤l.length∧∀(j:Nat) (h:j<l.length),(j:Int)<i→decide (l[j]<10∨l[j]≥2048)=false,fun i=>(l.length - i).toNat,⟨rfl,by omega,by omega,fun j _ hj=>by omega⟩,?_⟩
  rintro i ⟨h0,h1,hok⟩ _
  refine sel_dec (fun h => ?_) (fun h=>⟨-1,rfl,?_⟩)
  · have hi:i.toNat<l.length:=by omega
    refine ⟨rfl,h0,_,il_at hi,_,rfl,_,p129 _,sel_intro (fun hb=>⟨i,rfl,?_⟩) (fun hb => ?_)⟩
    · rw[decide_eq_true h0];exact (any_at (p:=fun b:Int=>decide (b<10∨b≥2048)) hi hb).symm
    · repeat (refine And.intro rfl ?_)
      rw[i64_in _ (by omega)]
      exact ⟨⟨by omega,by omega,step_up (p:=fun b:Int=>decide (b<10∨b≥2048)) h0 hi hb hok⟩,by first|omega|(dsimp only;omega)⟩
  · exact (any_up (p:=fun b:Int=>decide (b<10∨b≥2048)) h0 h hok).symm
 obtain ⟨r,hr,k,rfl,hk⟩:=key
 exact ⟨k,hk,hr⟩
theorem p128p (l:List Int) (hl:Small l.length):Runs Fs2 128 [.o (.sl 1 (il l)),.fn 129 []] [] (.n (.bool (l.any fun b=>decide (b<10∨b≥2048)))) []:=by
 refine vc_eq fs128 rfl ?_
 rewrite[vc128p,(V128pe _ _).down]
 obtain ⟨r,hr,h⟩:=p156p l hl
 exact ⟨r,h,by rw[hr]⟩
def kOK (l:List ByteArray) (i:Nat):Prop:=∀(j:Nat) (h:j<l.length),j<i→1≤l[j].size∧l[j].size≤32∧(∀(h2:0<j),lt (l[j - 1]'(by omega)) l[j]=true)
def KOK (l:List ByteArray):Prop:=kOK l l.length
def Stands (n:Nd):Prop:=n.keys.length≤9∧KOK n.keys ∧
 ((n.leaf=true∧n.kids=[]∧n.vals.length=n.keys.length∧∀v∈n.vals,v.size≤200) ∨
  (n.leaf=false∧n.vals=[]∧1≤n.keys.length∧n.kids.length=n.keys.length+1∧∀b∈n.kids,10≤b∧b<2048))
noncomputable instance (n:Nd):Decidable (Stands n):=Classical.propDecidable _
def NdOK (n:Nd) (root:Bool):Prop:=Stands n∧n.keys.length≤8∧(root=true∨4≤n.keys.length)
noncomputable instance (n:Nd) (root:Bool):Decidable (NdOK n root):=Classical.propDecidable _
theorem no_st {n:Nd} (h:¬Stands n):AV.n (D.bool false) = .n (.bool (decide (Stands n))):=by rw[decide_eq_false h]
theorem kOK_zero (l:List ByteArray):kOK l 0:=fun j _ h=>by omega
theorem kOK_step {l:List ByteArray} {i:Nat} (h:kOK l i) (hi:i<l.length) (h1:1≤l[i].size) (h2:l[i].size≤32) (h3:∀(h0:0<i),lt (l[i - 1]'(by omega)) l[i]=true):kOK l (i+1):=fun j hj hji=>by
 by_cases e:j=i
 · subst e;exact ⟨h1,h2,h3⟩
 · exact h j hj (by omega)
theorem kOK_bad {l:List ByteArray} {i:Nat} (hi:i<l.length) (h:¬(1≤l[i].size∧l[i].size≤32∧(∀(h0:0<i),lt (l[i - 1]'(by omega)) l[i]=true))):¬KOK l:=fun hk=>h (hk i hi hi)
def NdFits (n:Nd):Prop:=Small n.keys.length∧Small n.vals.length∧Small n.kids.length
theorem p93 (n:Nd) (hf:NdFits n):Runs Fs2 93 [ndV n] [] (.n (.bool (decide (Stands n)))) []:=by
 obtain ⟨f1,f2,f3⟩:=hf
 refine vc_eq fs93 rfl ?_
 rw[ndV,vc93,(V93e _ _ _ _ _).down,sl_len,sl_len,il_len]
 refine sel_dec (fun h=>no_st (by unfold Stands;omega)) (fun h9 => ?_)
 refine ⟨fun i=>0≤i∧i≤n.keys.length∧kOK n.keys i.toNat,fun i=>(n.keys.length - i).toNat,⟨rfl,by omega,by omega,kOK_zero _⟩,?_⟩
 rintro i ⟨h0,h1,hk⟩ _
 refine sel_dec (fun hlt => ?_) (fun hge => ?_)
 · have hi:i.toNat<n.keys.length:=by omega
   have bad:¬(1≤n.keys[i.toNat].size∧n.keys[i.toNat].size≤32∧(∀(h0:0<i.toNat),lt (n.keys[i.toNat - 1]'(by omega)) n.keys[i.toNat]=true))→¬Stands n:=fun h hs=>kOK_bad hi h hs.2.1
   have e1:(i+1).toNat=i.toNat+1:=by omega
   refine ⟨rfl,h0,_,sl_at hi,_,rfl,sel_dec (fun h=>no_st (bad (by omega))) (fun ha=>sel_dec (fun h=>no_st (bad (by omega))) (fun hb=>sel_dec (fun hp => ?_) (fun hp => ?_)))⟩
   · have hj:(IntKind.wrap .i64 (i - 1)).toNat=i.toNat - 1:=by rw[i64_in _ (by omega)];omega
     have hj':i.toNat - 1<n.keys.length:=by omega
     refine ⟨rfl,by rw[i64_in _ (by omega)];omega,_,by rw[hj];exact sl_at hj',_,rfl,?_⟩
     rw[le_eq]
     refine sel_intro (fun hc=>no_st (bad fun h => ?_)) (fun hc => ?_)
     · rw[h.2.2 (by omega)]at hc;cases hc
     · repeat (refine And.intro rfl ?_)
       rw[i64_in _ (by omega)]
       refine ⟨⟨by omega,by omega,?_⟩,by first|omega|(dsimp only;omega)⟩
       rw[e1]
       exact kOK_step hk hi (by omega) (by omega) fun _=>by simpa using hc
   · repeat (refine And.intro rfl ?_)
     rw[i64_in _ (by omega)]
     refine ⟨⟨by omega,by omega,?_⟩,by first|omega|(dsimp only;omega)⟩
     rw[e1]
     exact kOK_step hk hi (by omega) (by omega) fun h=>by omega
 · rw[show i.toNat=n.keys.length by omega]at hk
   refine sel_intro (fun hl => ?_) (fun hl => ?_)
   · refine sel_intro (fun h => ?_) (fun h=>no_st fun hs => ?_)
     · have hz:n.kids=[]:=nil_of h
       refine sel_intro (fun h => ?_) (fun h=>no_st fun hs => ?_)
       · have hv:n.vals.length=n.keys.length:=by have:=nat_eq h;omega
         refine ⟨_,p68q n.vals f2,?_⟩
         congr 2
         refine (Bool.eq_iff_iff.2 ⟨fun h => ?_,fun h => ?_⟩)
         · refine decide_eq_true ⟨by omega,hk,.inl ⟨hl,hz,hv,fun v hm => ?_⟩⟩
           have h2:(n.vals.any fun s=>decide ((s.size:Int) > 200))=false:=by simpa using h
           have:=List.any_eq_false.1 h2 v hm
           have:¬(v.size:Int) > 200:=by simpa using this
           omega
         · have hs:=of_decide_eq_true h
           rcases hs.2.2 with ⟨_,_,_,hv2⟩|⟨h2,_⟩
           · have:(n.vals.any fun s=>decide ((s.size:Int) > 200))=false:=List.any_eq_false.2 fun v hm=>by
               have:=hv2 v hm
               simp;omega
             rw[this];rfl
           · rw[hl]at h2;cases h2
       · have hv:(n.vals.length:Int)≠n.keys.length:=by simpa using h
         rcases hs.2.2 with ⟨_,_,h3,_⟩|⟨h2,_⟩
         · omega
         · rw[hl]at h2;cases h2
     · have hv:(n.kids.length:Int)≠0:=by simpa using h
       rcases hs.2.2 with ⟨_,h3,_⟩|⟨h2,_⟩
       · rw[h3]at hv;exact hv rfl
       · rw[hl]at h2;cases h2
   · refine sel_intro (fun h => ?_) (fun h=>no_st fun hs => ?_)
     · have hz:n.vals=[]:=nil_of h
       refine sel_dec (fun h1 => ?_) (fun h1=>no_st fun hs => ?_)
       · rw[i64_in _ (by omega)]
         refine sel_intro (fun h => ?_) (fun h=>no_st fun hs => ?_)
         · have hv:n.kids.length=n.keys.length+1:=by have:=nat_eq h;omega
           refine ⟨_,p128p n.kids f3,?_⟩
           congr 2
           refine (Bool.eq_iff_iff.2 ⟨fun h => ?_,fun h => ?_⟩)
           · refine decide_eq_true ⟨by omega,hk,.inr ⟨hl,hz,by omega,hv,fun b hm => ?_⟩⟩
             have h2:(n.kids.any fun b=>decide (b<10∨b≥2048))=false:=by simpa using h
             have:=List.any_eq_false.1 h2 b hm
             have:¬(b<10∨b≥2048):=by simpa using this
             omega
           · have hs:=of_decide_eq_true h
             rcases hs.2.2 with ⟨h2,_⟩|⟨_,_,_,_,hv2⟩
             · rw[hl]at h2;cases h2
             · have:(n.kids.any fun b=>decide (b<10∨b≥2048))=false:=List.any_eq_false.2 fun b hm=>by
                have:=hv2 b hm
                simp;omega
               rw[this];rfl
         · have hv:(n.kids.length:Int)≠n.keys.length+1:=by simpa using h
           rcases hs.2.2 with ⟨h2,_⟩|⟨_,_,_,h3,_⟩
           · rw[hl]at h2;cases h2
           · omega
       · rcases hs.2.2 with ⟨h2,_⟩|⟨_,_,h3,_,_⟩
         · rw[hl]at h2;cases h2
         · omega
     · have hv:(n.vals.length:Int)≠0:=by simpa using h
       rcases hs.2.2 with ⟨h2,_⟩|⟨_,h3,_⟩
       · rw[hl]at h2;cases h2
       · rw[h3]at hv;exact hv rfl
end Go.Proofs.YtclgengkohbjjaaGreatDoor.M
