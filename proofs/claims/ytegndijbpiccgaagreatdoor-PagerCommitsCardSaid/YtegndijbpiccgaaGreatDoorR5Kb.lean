import Derived.Test.YtegndijbpiccgaaGreatDoorR5P
import Derived.Test.YtegndijbpiccgaaGreatDoorR5EdZ
import Derived.Test.YtegndijbpiccgaaGreatDoorR5FunB
import Derived.Test.YtegndijbpiccgaaGreatDoorR5LV
import Derived.Test.YtegndijbpiccgaaGreatDoorR5PW
import Derived.Test.YtegndijbpiccgaaGreatDoorR5Blk
namespace Go.Proofs.YtegndijbpiccgaaGreatDoor.M
set_option linter.unusedVariables false
set_option linter.unusedSimpArgs false
open Go Go.Mir
set_option linter.unusedVariables false
def V132 (a0:LD) (a1:Int) (R:Mir.AV→Prop):Prop:=
 (sel (decide (a1≥0)) (qcn_ a1 a0 R) (R (.n (.bool false))))
def V132e (a0:LD) (a1:Int) (R:Mir.AV→Prop):=PLift.up (by delta V132 qbP_ qU_ qcn_ qv_;exact rfl:V132 a0 a1 R=_)
theorem vc132 (a0:LD) (a1:Int) (R:Mir.AV→Prop):Vc Fs4 c132.body (argsQ c132 [(.o (.sl 1 a0)),(.n (.int .i64 a1))]) [] (endQ c132 R)=V132 a0 a1 R:=by kernel_rfl
abbrev qdH_ (p0:(Nat×LD)):=
 (rh [(8500100,(.row false true (Prod.fst p0) 5 1 (Prod.snd p0)))])
def V85 (a0:LD) (R:Mir.AV→Prop):Prop:=
 (∃x0:qL_,(∃x1:qM_,(((rh [(8500100,(.row false true 0 5 1 []))])∧(x0 0 0 (0,[])))∧(∀x2:Nat,(∀x3:Int,(∀x4:(Nat×LD),((x0 x2 x3 x4)→(∀x5:(Nat→Mir.AV),(sel (qU_ x3 a0) (∃x6:(Int→(Int→Prop)),(∃x7:(Int→(Int→Nat)),(((qdH_ x4)∧(x6 0 7))∧(∀x8:Int,(∀x9:Int,((x6 x8 x9)→(∀x10:(Nat→Mir.AV),(sel (decide (x9≥0)) (∃x11:Bool,((Runs Fs4 132 [(aL a0),(aI (IntKind.wrap .i64 (x3+x9)))] [] (aB x11) [])∧(sel x11 ((rq (aL a0))∧(rq (.row 8500100 x2))∧(rq (aI x3))∧(qdH_ x4)∧(x6 (IntKind.wrap .i64 ((IntKind.wrap .i64 (x8*2))+1)) (IntKind.wrap .i64 (x9 - 1)))∧(((x7 (IntKind.wrap .i64 ((IntKind.wrap .i64 (x8*2))+1)) (IntKind.wrap .i64 (x9 - 1))):Nat)<(x7 x8 x9))) ((rq (aL a0))∧(rq (.row 8500100 x2))∧(rq (aI x3))∧(qdH_ x4)∧(x6 (IntKind.wrap .i64 (x8*2)) (IntKind.wrap .i64 (x9 - 1)))∧(((x7 (IntKind.wrap .i64 (x8*2)) (IntKind.wrap .i64 (x9 - 1))):Nat)<(x7 x8 x9)))))) ((rn 0)∧((rn 1)∨(@Eq LD [(Mir.D.int .u8 (IntKind.wrap .u8 x8))] []))∧(qN_ x4 x2)∧(((((List.length (Prod.snd x4))+(List.length [(Mir.D.int .u8 (IntKind.wrap .u8 x8))]))*1):Nat)≤140737488355328)∧(rq (aL a0))∧(rh [(8500100,(.row false true (x2+1) 5 1 ((Prod.snd x4)++[(Mir.D.int .u8 (IntKind.wrap .u8 x8))])))])∧(x0 (x2+1) (IntKind.wrap .i64 (x3+8)) ((x2+1),((Prod.snd x4)++[(Mir.D.int .u8 (IntKind.wrap .u8 x8))])))∧(((x1 (x2+1) (IntKind.wrap .i64 (x3+8)) ((x2+1),((Prod.snd x4)++[(Mir.D.int .u8 (IntKind.wrap .u8 x8))]))):Nat)<(x1 x2 x3 x4))))))))))) ((qf_ x4 x2)∧(qg_ x4)∧(qh_ x4)∧(R (.n (.str (qi_ x4))))))))))))))
def V85e (a0:LD) (R:Mir.AV→Prop):=PLift.up (by delta V85 qh_ qf_ qU_ qN_ qdH_ qi_ qg_ qL_ qM_;exact rfl:V85 a0 R=_)
theorem vc85 (a0:LD) (R:Mir.AV→Prop):Vc Fs4 c85.body (argsQ c85 [(.o (.sl 1 a0))]) [] (endQ c85 R)=V85 a0 R:=by kernel_rfl
def V37 (a0:LD) (R:Mir.AV→Prop):Prop:=
 (((8:Int)≠0)∧((0:Int)≤(IntKind.wrap .i64 (Int.tdiv (IntKind.wrap .i64 ((a0.length:Int)+7)) 8)))∧((((Int.toNat (IntKind.wrap .i64 (Int.tdiv (IntKind.wrap .i64 ((a0.length:Int)+7)) 8)))*1):Nat)≤140737488355328)∧(∃x0:(Int→((Nat×LD)→Prop)),(∃x1:(Int→((Nat×LD)→Nat)),(((rh [(3700104,(.row false true 0 5 1 (List.replicate (Int.toNat (IntKind.wrap .i64 (Int.tdiv (IntKind.wrap .i64 ((a0.length:Int)+7)) 8))) (Mir.D.int .u8 0))))])∧(x0 0 (0,(List.replicate (Int.toNat (IntKind.wrap .i64 (Int.tdiv (IntKind.wrap .i64 ((a0.length:Int)+7)) 8))) (Mir.D.int .u8 0)))))∧(∀x2:Int,(∀x3:(Nat×LD),((x0 x2 x3)→(∀x4:(Nat→Mir.AV),(sel (qU_ x2 a0) ((rn 1)∧((0:Int)≤x2)∧(∃x5:Mir.D,((qv_ a0 x2 x5)∧(∃x6:Bool,((qbP_ x5 x6)∧(sel x6 (((8:Int)≠0)∧(qdo_ x3)∧((0:Int)≤(IntKind.wrap .i64 (Int.tdiv x2 8)))∧(((IntKind.wrap .i64 (Int.tdiv x2 8)):Int)<((Prod.snd x3).length:Int))∧(((0:Nat)=(Prod.fst x3))∧(rn 1))∧(∃x7:Mir.D,(((Prod.snd x3)[Int.toNat (IntKind.wrap .i64 (Int.tdiv x2 8))]?=some x7)∧(∃x8:Int,(((D.cells x7)[0]?=some (Mir.D.int .u8 x8))∧((8:Int)≠0)∧((0:Int)≤(Int.tmod x2 8))∧(qdo_ x3)∧((0:Int)≤(IntKind.wrap .i64 (Int.tdiv x2 8)))∧(((IntKind.wrap .i64 (Int.tdiv x2 8)):Int)<((Prod.snd x3).length:Int))∧(qdp_ x3)∧(((Int.toNat (IntKind.wrap .i64 (Int.tdiv x2 8))):Nat)<(List.length (Prod.snd x3)))∧(rq (.row 3700104 0))∧(rq (aL a0))∧(rq (aI (a0.length:Int)))∧(rh [(3700104,(.row false true (Prod.fst x3) 5 1 (List.set (Prod.snd x3) (Int.toNat (IntKind.wrap .i64 (Int.tdiv x2 8))) (Mir.D.int .u8 (IntKind.wrap .u8 (((BitVec.toNat (HOr.hOr (BitVec.ofInt (Go.IntKind.bits .u8) x8) (BitVec.ofInt (Go.IntKind.bits .u8) (IntKind.wrap .u8 (1*(2 ^ (Min.min (Int.toNat (Int.tmod x2 8)) (Go.IntKind.bits .u8)))))))):Nat):Int))))))])∧(x0 (IntKind.wrap .i64 (x2+1)) ((Prod.fst x3),(List.set (Prod.snd x3) (Int.toNat (IntKind.wrap .i64 (Int.tdiv x2 8))) (Mir.D.int .u8 (IntKind.wrap .u8 (((BitVec.toNat (HOr.hOr (BitVec.ofInt (Go.IntKind.bits .u8) x8) (BitVec.ofInt (Go.IntKind.bits .u8) (IntKind.wrap .u8 (1*(2 ^ (Min.min (Int.toNat (Int.tmod x2 8)) (Go.IntKind.bits .u8)))))))):Nat):Int))))))∧(((x1 (IntKind.wrap .i64 (x2+1)) ((Prod.fst x3),(List.set (Prod.snd x3) (Int.toNat (IntKind.wrap .i64 (Int.tdiv x2 8))) (Mir.D.int .u8 (IntKind.wrap .u8 (((BitVec.toNat (HOr.hOr (BitVec.ofInt (Go.IntKind.bits .u8) x8) (BitVec.ofInt (Go.IntKind.bits .u8) (IntKind.wrap .u8 (1*(2 ^ (Min.min (Int.toNat (Int.tmod x2 8)) (Go.IntKind.bits .u8)))))))):Nat):Int)))))):Nat)<(x1 x2 x3))))))) ((rq (.row 3700104 0))∧(rq (aL a0))∧(rq (aI (a0.length:Int)))∧(rh [(3700104,(.row false true (Prod.fst x3) 5 1 (Prod.snd x3)))])∧(x0 (IntKind.wrap .i64 (x2+1)) ((Prod.fst x3),(Prod.snd x3)))∧(((x1 (IntKind.wrap .i64 (x2+1)) ((Prod.fst x3),(Prod.snd x3))):Nat)<(x1 x2 x3))))))))) ((((Prod.fst x3):Nat)=0)∧(qg_ x3)∧(qh_ x3)∧(R (.n (.str (qi_ x3))))))))))))))
def V37e (a0:LD) (R:Mir.AV→Prop):=PLift.up (by delta V37 qh_ qdp_ qU_ qi_ qbP_ qdo_ qg_ qv_;exact rfl:V37 a0 R=_)
theorem vc37 (a0:LD) (R:Mir.AV→Prop):Vc Fs4 c37.body (argsQ c37 [(.o (.sl 1 a0))]) [] (endQ c37 R)=V37 a0 R:=by kernel_rfl
abbrev qdI_ (p0:Int):=
 (List.replicate (Int.toNat p0) (Mir.D.bool false))
def V91 (a0:ByteArray) (a1:Int) (R:Mir.AV→Prop):Prop:=
 (sel (decide (a1<0)) (qc1_ R) (sel (decide (a1 > 2048)) (qc1_ R) (((8:Int)≠0)∧(sel (decide ((((ByteArray.size a0):Nat):Int)<(IntKind.wrap .i64 (Int.tdiv (IntKind.wrap .i64 (a1+7)) 8)))) (R (.tup [(.o (.sl 1 [])),(.n (.int .i64 3))])) (((0:Int)≤a1)∧(qc_ a1)∧(rn 0)∧(∃x0:(Int→((Nat×LD)→Prop)),(∃x1:(Int→((Nat×LD)→Nat)),(((rh [(9100501,(.row false true 0 4 1 (qdI_ a1)))])∧(x0 0 (0,(qdI_ a1))))∧(∀x2:Int,(∀x3:(Nat×LD),((x0 x2 x3)→(∀x4:(Nat→Mir.AV),(sel (decide (x2<((qdI_ a1).length:Int))) (((8:Int)≠0)∧((0:Int)≤(IntKind.wrap .i64 (Int.tdiv x2 8)))∧(∃x5:UInt8,((((GetElem?.getElem? (qn_ a0) (Int.toNat (IntKind.wrap .i64 (Int.tdiv x2 8)))):(Option UInt8))=(some x5))∧((8:Int)≠0)∧((0:Int)≤(Int.tmod x2 8))∧(qdo_ x3)∧((0:Int)≤x2)∧(qbt_ x2 x3)∧(qdp_ x3)∧(qbw_ x2 x3)∧(rq (aS a0))∧(rq (.row 9100501 0))∧(rq (aI ((qdI_ a1).length:Int)))∧(rh [(9100501,(.row false true (Prod.fst x3) 4 1 (List.set (Prod.snd x3) (Int.toNat x2) (Mir.D.bool ((IntKind.wrap .u8 (((BitVec.toNat (HAnd.hAnd (BitVec.ofInt (Go.IntKind.bits .u8) (Int.fdiv (((UInt8.toNat x5):Nat):Int) (2 ^ (Min.min (Int.toNat (Int.tmod x2 8)) (Go.IntKind.bits .u8))))) (BitVec.ofInt (Go.IntKind.bits .u8) 1))):Nat):Int))==1)))))])∧(x0 (IntKind.wrap .i64 (x2+1)) ((Prod.fst x3),(List.set (Prod.snd x3) (Int.toNat x2) (Mir.D.bool ((IntKind.wrap .u8 (((BitVec.toNat (HAnd.hAnd (BitVec.ofInt (Go.IntKind.bits .u8) (Int.fdiv (((UInt8.toNat x5):Nat):Int) (2 ^ (Min.min (Int.toNat (Int.tmod x2 8)) (Go.IntKind.bits .u8))))) (BitVec.ofInt (Go.IntKind.bits .u8) 1))):Nat):Int))==1)))))∧(((x1 (IntKind.wrap .i64 (x2+1)) ((Prod.fst x3),(List.set (Prod.snd x3) (Int.toNat x2) (Mir.D.bool ((IntKind.wrap .u8 (((BitVec.toNat (HAnd.hAnd (BitVec.ofInt (Go.IntKind.bits .u8) (Int.fdiv (((UInt8.toNat x5):Nat):Int) (2 ^ (Min.min (Int.toNat (Int.tmod x2 8)) (Go.IntKind.bits .u8))))) (BitVec.ofInt (Go.IntKind.bits .u8) 1))):Nat):Int))==1))))):Nat)<(x1 x2 x3))))) (((Prod.fst x3)=0)∧(∃x6:ByteArray,((Runs Fs4 37 [(aL (Prod.snd x3))] [] (aS x6) [])∧(sel (Bool.not (qB_ x6 a0)) (R (.tup [(.o (.sl 1 [])),(.n (.int .i64 4))])) (((Prod.fst x3)=0)∧(R (.tup [(.o (.sl 1 (Prod.snd x3))),(.n (.int .i64 0))]))))))))))))))))))))
def V91e (a0:ByteArray) (a1:Int) (R:Mir.AV→Prop):=PLift.up (by delta V91 qdp_ qdI_ qc1_ qn_ qc_ qB_ qdo_ qbA_ qbw_ qbt_;exact rfl:V91 a0 a1 R=_)
theorem vc91 (a0:ByteArray) (a1:Int) (R:Mir.AV→Prop):Vc Fs4 c91.body (argsQ c91 [(.n (.str a0)),(.n (.int .i64 a1))]) [] (endQ c91 R)=V91 a0 a1 R:=by kernel_rfl
def V33 (a0:Int) (R:Mir.AV→Prop):Prop:=
 (sel (decide (a0<24)) (qc3_ R) (sel (decide (a0 > 2048)) (qc3_ R) (((0:Int)≤a0)∧(qc_ a0)∧(∃x0:(Int→((Nat×LD)→Prop)),(∃x1:(Int→((Nat×LD)→Nat)),(((rh [(hB 3300000 qbz_),(3300301,(.row false true 0 4 1 (qdI_ a0)))])∧(x0 0 (0,(qdI_ a0))))∧(∀x2:Int,(∀x3:(Nat×LD),((x0 x2 x3)→(∀x4:(Nat→Mir.AV),(sel (decide (x2<10)) ((qdo_ x3)∧((0:Int)≤x2)∧(qbt_ x2 x3)∧(qdp_ x3)∧(qbw_ x2 x3)∧(rq (.ptr 3300000 0))∧(rq (.row 3300301 0))∧(rh [(hB 3300000 qbz_),(3300301,(.row false true (Prod.fst x3) 4 1 (qcA_ x3 x2)))])∧(x0 (IntKind.wrap .i64 (x2+1)) ((Prod.fst x3),(qcA_ x3 x2)))∧(((x1 (IntKind.wrap .i64 (x2+1)) ((Prod.fst x3),(qcA_ x3 x2))):Nat)<(x1 x2 x3))) (((Prod.fst x3)=0)∧(∃x5:Nat,(∃x6:LD,((Runs Fs4 74 [(aL (Prod.snd x3))] [] (.row 7400001 x5) [(hR 7400001 x5 4 1 x6)])∧((Prod.fst x3)=0)∧(x5=x5)∧(R (.tup [(.agg [(.o (.sl 1 (Prod.snd x3))),(.o (.sl 1 x6))]),(.n (.int .i64 0))])))))))))))))))))
def V33e (a0:Int) (R:Mir.AV→Prop):=PLift.up (by delta V33 qbz_ qdp_ qdI_ qc2_ qcA_ qc_ qdo_ qbA_ qbw_ qc3_ qbt_;exact rfl:V33 a0 R=_)
theorem vc33 (a0:Int) (R:Mir.AV→Prop):Vc Fs4 c33.body (argsQ c33 [(.n (.int .i64 a0))]) [] (endQ c33 R)=V33 a0 R:=by kernel_rfl
def V145 (a0_0:LD) (a0_1:LD) (a1:Int) (R:Mir.AV→Prop):Prop:=
 (sel (decide (a1≥0)) (sel (qU_ a1 a0_1) ((rn 1)∧((0:Int)≤a1)∧(∃x0:Mir.D,((qv_ a0_1 a1 x0)∧(∃x1:Bool,((qbP_ x0 x1)∧(sel (Bool.not x1) ((rn 1)∧((0:Int)≤a1)∧(∃x2:Mir.D,((qv_ a0_0 a1 x2)∧(∃x3:Bool,((qbP_ x2 x3)∧(R (.n (.bool (Bool.not x3))))))))) (R (.n (.bool false))))))))) (R (.n (.bool false)))) (R (.n (.bool false))))
def V145e (a0_0:LD) (a0_1:LD) (a1:Int) (R:Mir.AV→Prop):=PLift.up (by delta V145 qbP_ qU_ qv_;exact rfl:V145 a0_0 a0_1 a1 R=_)
theorem vc145 (a0_0:LD) (a0_1:LD) (a1:Int) (R:Mir.AV→Prop):Vc Fs4 c145.body (argsQ c145 [(.agg [(.o (.sl 1 a0_0)),(.o (.sl 1 a0_1))]),(.n (.int .i64 a1))]) [] (endQ c145 R)=V145 a0_0 a0_1 a1 R:=by kernel_rfl
abbrev qdJ_ (p0:(Nat×LD)) (p1:Bool):=
 (((((List.length (Prod.snd p0))+(List.length [(Mir.D.bool p1)]))*1):Nat)≤140737488355328)
abbrev qdL_ (p0:(Nat×LD)) (p1:Bool):=
 ((Prod.snd p0)++[(Mir.D.bool p1)])
abbrev qdK_ (p0 p1:LD) (p2:(LD×(Nat×(Unit)))) (p3:(Nat×LD)) (p4:Bool):=
 (rh [(hB 14400000 [(aL p0),(aL p1)]),(hB 14400001 qbz_),(hB 14400103 [(aL p2.1),(.row 14490001 (p2.2.1+1))]),(14490001,(.row false true (p2.2.1+1) 4 1 (qdL_ p3 p4)))])
def V144 (a0_0:LD) (a0_1:LD) (a1:Int) (a2:Bool) (R:Mir.AV→Prop):Prop:=
 (∃x0:qbH_,(∃x1:qbI_,(((rh [(hB 14400000 [(aL a0_0),(aL a0_1)]),(hB 14400001 qbz_),(hB 14400103 [(aL a0_0),(.row 14490001 0)]),(14490001,(.row false true 0 4 1 []))])∧(x0 0 (a0_0,(0,())) (0,[])))∧(∀x2:Int,(∀x3:(LD×(Nat×(Unit))),(∀x4:(Nat×LD),((x0 x2 x3 x4)→(∀x5:(Nat→Mir.AV),(sel (qU_ x2 a0_1) (sel (x2==a1) ((rn 0)∧((rn 1)∨(@Eq LD [(Mir.D.bool a2)] []))∧(((((Prod.fst x4):Nat)=x3.2.1)∧(rn 4))∧(rn 1))∧(qdJ_ x4 a2)∧(rq (aI a1))∧(rq (aB a2))∧(rq (.ptr 14400000 0))∧(rq (.ptr 14400001 0))∧(rq (.ptr 14400103 0))∧(qV_ a0_1)∧(qdK_ a0_0 a0_1 x3 x4 a2)∧(x0 (IntKind.wrap .i64 (x2+1)) (x3.1,((x3.2.1+1),())) ((x3.2.1+1),(qdL_ x4 a2)))∧(((x1 (IntKind.wrap .i64 (x2+1)) (x3.1,((x3.2.1+1),())) ((x3.2.1+1),(qdL_ x4 a2))):Nat)<(x1 x2 x3 x4))) ((rn 1)∧((0:Int)≤x2)∧(∃x6:Mir.D,((qv_ a0_1 x2 x6)∧(∃x7:Bool,((qbP_ x6 x7)∧(rn 0)∧((rn 1)∨(@Eq LD [(Mir.D.bool x7)] []))∧(((((Prod.fst x4):Nat)=x3.2.1)∧(rn 4))∧(rn 1))∧(qdJ_ x4 x7)∧(rq (aI a1))∧(rq (aB a2))∧(rq (.ptr 14400000 0))∧(rq (.ptr 14400001 0))∧(rq (.ptr 14400103 0))∧(qV_ a0_1)∧(qdK_ a0_0 a0_1 x3 x4 x7)∧(x0 (IntKind.wrap .i64 (x2+1)) (x3.1,((x3.2.1+1),())) ((x3.2.1+1),(qdL_ x4 x7)))∧(((x1 (IntKind.wrap .i64 (x2+1)) (x3.1,((x3.2.1+1),())) ((x3.2.1+1),(qdL_ x4 x7))):Nat)<(x1 x2 x3 x4)))))))) (((Prod.fst x4)=x3.2.1)∧(R (.agg [(.o (.sl 1 x3.1)),(.o (.sl 1 (Prod.snd x4)))]))))))))))))
def V144e (a0_0:LD) (a0_1:LD) (a1:Int) (a2:Bool) (R:Mir.AV→Prop):=PLift.up (by delta V144 qbz_ qdK_ qdL_ qU_ qbH_ qbP_ qv_ qdJ_ qV_ qbI_;exact rfl:V144 a0_0 a0_1 a1 a2 R=_)
theorem vc144 (a0_0:LD) (a0_1:LD) (a1:Int) (a2:Bool) (R:Mir.AV→Prop):Vc Fs4 c144.body (argsQ c144 [(.agg [(.o (.sl 1 a0_0)),(.o (.sl 1 a0_1))]),(.n (.int .i64 a1)),(.n (.bool a2))]) [] (endQ c144 R)=V144 a0_0 a0_1 a1 a2 R:=by kernel_rfl
def V107 (a0_0:LD) (a0_1:LD) (a1:LD) (R:Mir.AV→Prop):Prop:=
 (∃x0:(Int→((LD×(LD×(Unit)))→(qb7_→Prop))),(∃x1:(Int→((LD×(LD×(Unit)))→(qb7_→Nat))),(((rh [(hB 10700000 [(aL a0_0),(aL a0_1)]),(hB 10700001 qbz_)])∧(x0 0 (a0_0,(a0_1,())) ((),((),()))))∧(∀x2:Int,(∀x3:(LD×(LD×(Unit))),(∀x4:qb7_,((x0 x2 x3 x4)→(∀x5:(Nat→Mir.AV),(sel (qU_ x2 a1) ((rn 1)∧((0:Int)≤x2)∧(∃x6:Mir.D,((qv_ a1 x2 x6)∧(∃x7:Int,(((D.cells x6)[0]?=some (Mir.D.int .i64 x7))∧(sel (decide (x7<10)) (qc4_ R) (sel (decide (x7≥((Prod.snd (1,x3.2.1)).length:Int))) (qc4_ R) ((rn 1)∧((0:Int)≤x7)∧(∃x8:Mir.D,(((Prod.snd (1,x3.2.1))[Int.toNat x7]?=some x8)∧(∃x9:Bool,((qbP_ x8 x9)∧(sel (Bool.not x9) (qc4_ R) (∃x10:LD,(∃x11:LD,((Runs Fs4 144 [(.agg [(aL x3.1),(aL x3.2.1)]),(aI x7),(aB false)] [] (.agg [(aL x10),(aL x11)]) [])∧(rq (.ptr 10700000 0))∧(rq (.ptr 10700001 0))∧(rq (aL a1))∧(rq (aI (a1.length:Int)))∧(rh [(hB 10700000 [(aL x10),(aL x11)]),(hB 10700001 qbz_)])∧(x0 (IntKind.wrap .i64 (x2+1)) (x10,(x11,())) ((),((),())))∧(((x1 (IntKind.wrap .i64 (x2+1)) (x10,(x11,())) ((),((),()))):Nat)<(x1 x2 x3 x4)))))))))))))))))) (R (.tup [(.agg [(.o (.sl 1 x3.1)),(.o (.sl 1 x3.2.1))]),(.n (.int .i64 0))])))))))))))
def V107e (a0_0:LD) (a0_1:LD) (a1:LD) (R:Mir.AV→Prop):=PLift.up (by delta V107 qbz_ qc2_ qU_ qbP_ qv_ qc4_ qb7_;exact rfl:V107 a0_0 a0_1 a1 R=_)
theorem vc107 (a0_0:LD) (a0_1:LD) (a1:LD) (R:Mir.AV→Prop):Vc Fs4 c107.body (argsQ c107 [(.agg [(.o (.sl 1 a0_0)),(.o (.sl 1 a0_1))]),(.o (.sl 1 a1))]) [] (endQ c107 R)=V107 a0_0 a0_1 a1 R:=by kernel_rfl
def V108 (a0_0:LD) (a0_1:LD) (R:Mir.AV→Prop):Prop:=
 (∃x0:(Int→(qb7_→Prop)),(∃x1:(Int→(qb7_→Nat)),(((rh [(hB 10800000 [(aL a0_0),(aL a0_1)]),(hB 10800001 qbz_)])∧(x0 0 ((),((),()))))∧(∀x2:Int,(∀x3:qb7_,((x0 x2 x3)→(∀x4:(Nat→Mir.AV),(sel (qU_ x2 a0_1) (∃x5:Bool,((Runs Fs4 145 [(.agg [(aL a0_0),(aL a0_1)]),(aI x2)] [] (aB x5) [])∧(sel x5 (∃x6:LD,(∃x7:LD,((Runs Fs4 144 [(.agg [(aL a0_0),(aL a0_1)]),(aI x2),(aB true)] [] (.agg [(aL x6),(aL x7)]) [])∧(R (.tup [(.agg [(.o (.sl 1 x6)),(.o (.sl 1 x7))]),(.n (.int .i64 x2)),(.n (.int .i64 0))]))))) ((rq (.ptr 10800000 0))∧(rq (.ptr 10800001 0))∧(qV_ a0_1)∧(rh [(hB 10800000 [(aL a0_0),(aL a0_1)]),(hB 10800001 qbz_)])∧(x0 (IntKind.wrap .i64 (x2+1)) ((),((),())))∧(((x1 (IntKind.wrap .i64 (x2+1)) ((),((),()))):Nat)<(x1 x2 x3)))))) (R (.tup [qc2_,(.n (.int .i64 0)),(.n (.int .i64 60))]))))))))))
def V108e (a0_0:LD) (a0_1:LD) (R:Mir.AV→Prop):=PLift.up (by delta V108 qbz_ qc2_ qb7_ qU_ qV_;exact rfl:V108 a0_0 a0_1 R=_)
theorem vc108 (a0_0:LD) (a0_1:LD) (R:Mir.AV→Prop):Vc Fs4 c108.body (argsQ c108 [(.agg [(.o (.sl 1 a0_0)),(.o (.sl 1 a0_1))])]) [] (endQ c108 R)=V108 a0_0 a0_1 R:=by kernel_rfl
def V141 (a0:LD) (a1:LD) (R:Mir.AV→Prop):Prop:=
 (sel (qbg_ a0 a1) (R (.n (.bool false))) (∃x0:(Int→Prop),(∃x1:(Int→Nat),(((rh [])∧(x0 0))∧(∀x2:Int,((x0 x2)→(∀x3:(Nat→Mir.AV),(sel (qU_ x2 a0) ((rn 1)∧((0:Int)≤x2)∧(∃x4:Mir.D,((qv_ a0 x2 x4)∧(∃x5:Bool,((qbP_ x4 x5)∧(rn 1)∧((0:Int)≤x2)∧(∃x6:Mir.D,((qv_ a1 x2 x6)∧(∃x7:Bool,((qbP_ x6 x7)∧(sel (Bool.not (x5==x7)) (R (.n (.bool false))) (qbh_ a0 a1 x0 x2 x1))))))))))) (R (.n (.bool true)))))))))))
def V141e (a0:LD) (a1:LD) (R:Mir.AV→Prop):=PLift.up (by delta V141 qbh_ qU_ qbP_ qv_ qbg_;exact rfl:V141 a0 a1 R=_)
theorem vc141 (a0:LD) (a1:LD) (R:Mir.AV→Prop):Vc Fs4 c141.body (argsQ c141 [(.o (.sl 1 a0)),(.o (.sl 1 a1))]) [] (endQ c141 R)=V141 a0 a1 R:=by kernel_rfl
def V98 (a0_0:LD) (a0_1:LD) (a1_0:LD) (a1_1:LD) (R:Mir.AV→Prop):Prop:=
 (∃x0:Bool,((Runs Fs4 141 [(aL a0_0),(aL a1_0)] [] (aB x0) [])∧(sel x0 (∃x1:Bool,((Runs Fs4 141 [(aL a0_1),(aL a1_1)] [] (aB x1) [])∧(R (.n (.bool x1))))) (R (.n (.bool false))))))
theorem vc98 (a0_0:LD) (a0_1:LD) (a1_0:LD) (a1_1:LD) (R:Mir.AV→Prop):Vc Fs4 c98.body (argsQ c98 [(.agg [(.o (.sl 1 a0_0)),(.o (.sl 1 a0_1))]),(.agg [(.o (.sl 1 a1_0)),(.o (.sl 1 a1_1))])]) [] (endQ c98 R)=V98 a0_0 a0_1 a1_0 a1_1 R:=by kernel_rfl
def V49 (a0_0:LD) (a0_1:LD) (a0_2:LD) (a0_3:Int) (a0_4:Int) (a1_0:LD) (a1_1:LD) (a1_2:LD) (a1_3:Int) (a1_4:Int) (R:Mir.AV→Prop):Prop:=
 (sel (a0_3 != a1_3) (R (.n (.bool false))) (sel (a0_4 != a1_4) (R (.n (.bool false))) (sel (qbg_ a0_2 a1_2) (R (.n (.bool false))) (∃x0:Bool,((Runs Fs4 98 [(.agg [(aL a0_0),(aL a0_1)]),(.agg [(aL a1_0),(aL a1_1)])] [] (aB x0) [])∧(sel (Bool.not x0) (R (.n (.bool false))) (∃x1:(Int→Prop),(∃x2:(Int→Nat),(((rh [(hB 4900000 (qbK_ a0_0 a0_1 a0_2 a0_3 a0_4)),(hB 4900001 (qbK_ a1_0 a1_1 a1_2 a1_3 a1_4))])∧(x1 0))∧(∀x3:Int,((x1 x3)→(∀x4:(Nat→Mir.AV),(sel (qU_ x3 a0_2) ((rn 1)∧((0:Int)≤x3)∧(∃x5:Mir.D,((qv_ a0_2 x3 x5)∧(∃x6:ByteArray,((qx_ x5 x6)∧(rn 1)∧((0:Int)≤x3)∧(∃x7:Mir.D,((qv_ a1_2 x3 x7)∧(∃x8:ByteArray,((qx_ x7 x8)∧(sel (Bool.not (qB_ x6 x8)) (R (.n (.bool false))) ((rq (.ptr 4900000 0))∧(rq (.ptr 4900001 0))∧(qV_ a0_2)∧(rh [(hB 4900000 (qbK_ a0_0 a0_1 a0_2 a0_3 a0_4)),(hB 4900001 (qbK_ a1_0 a1_1 a1_2 a1_3 a1_4))])∧(x1 (IntKind.wrap .i64 (x3+1)))∧(((x2 (IntKind.wrap .i64 (x3+1))):Nat)<(x2 x3))))))))))))) (R (.n (.bool true))))))))))))))))
def V49e (a0_0:LD) (a0_1:LD) (a0_2:LD) (a0_3:Int) (a0_4:Int) (a1_0:LD) (a1_1:LD) (a1_2:LD) (a1_3:Int) (a1_4:Int) (R:Mir.AV→Prop):=PLift.up (by delta V49 qbg_ qU_ qV_ qB_ qv_ qbK_ qx_;exact rfl:V49 a0_0 a0_1 a0_2 a0_3 a0_4 a1_0 a1_1 a1_2 a1_3 a1_4 R=_)
theorem vc49 (a0_0:LD) (a0_1:LD) (a0_2:LD) (a0_3:Int) (a0_4:Int) (a1_0:LD) (a1_1:LD) (a1_2:LD) (a1_3:Int) (a1_4:Int) (R:Mir.AV→Prop):Vc Fs4 c49.body (argsQ c49 [(.agg [(.o (.sl 1 a0_0)),(.o (.sl 1 a0_1)),(.o (.sl 1 a0_2)),(.n (.int .i64 a0_3)),(.n (.int .i64 a0_4))]),(.agg [(.o (.sl 1 a1_0)),(.o (.sl 1 a1_1)),(.o (.sl 1 a1_2)),(.n (.int .i64 a1_3)),(.n (.int .i64 a1_4))])]) [] (endQ c49 R)=V49 a0_0 a0_1 a0_2 a0_3 a0_4 a1_0 a1_1 a1_2 a1_3 a1_4 R:=by kernel_rfl
abbrev qdM_ (p0 p1:Nat) (p2:Int) (p3:Bool):=
 (hB 10550301 [(.row 10560301 p0),(.row 10570301 p1),(aI p2),(aB p3)])
abbrev qdN_ (p0:(Nat×LD)) (p1:Int) (p2:Bool):=
 (Runs Fs4 106 [(aL (Prod.snd p0)),(aI p1)] [] (aB p2) [])
def V105o (ba:LD) (no:LD) (pa:LD) (ro:Int) (ge:Int) (R:Mir.AV→Heap→Prop):Prop:=
 (∃x0:Bool,((Runs Fs4 69 (qbL_ ba no pa ro ge) [] (aB x0) [])∧(sel (Bool.not x0) (R (.tup [(.o (.sl 1 [])),(.n (.int .i64 1))]) []) (∃x1:Unit,(∃x2:Nat,(∃x3:Nat,(∃x4:Int,(∃x5:Bool,(∃x6:Nat,(∃x7:LD,(∃x8:Nat,(∃x9:LD,((Runs Fs4 31 (qbL_ ba no pa ro ge) [] (.ptr 3100101 0) [(qcD_ x2 x3 x4 x5),(hR 3190001 x6 129 2 x7),(hR 3190002 x8 3 1 x9)])∧(sel x5 (R (.tup [(.o (.sl 1 [])),(.n (.int .i64 81))]) []) (∃x10:(Nat→(Int→qbX_)),(∃x11:(Nat→(Int→qbY_)),(((rh [(hB 10500000 (qbK_ ba no pa ro ge)),(10500600,(.row false true 0 3 1 [])),(qdM_ x2 x3 x4 x5),(hR 10560301 x6 129 2 x7),(hR 10570301 x8 3 1 x9)])∧(x10 0 0 (x8,x9) (0,[])))∧(∀x12:Nat,(∀x13:Int,(∀x14:(Nat×LD),(∀x15:(Nat×LD),((x10 x12 x13 x14 x15)→(∀x16:(Nat→Mir.AV),(sel (qU_ x13 no) (((Prod.fst x14)=x3)∧(∃x17:Bool,((qdN_ x14 x13 x17)∧(sel x17 ((rn 0)∧(qb1_ x13)∧(((qf_ x15 x12)∧(rn 3))∧(rn 1))∧(((((qbA_ x15)+(List.length [(Mir.D.int .i64 x13)]))*8):Nat)≤140737488355328)∧(rq (.ptr 10550301 0))∧(rq (aI (no.length:Int)))∧(rh [(hB 10500000 (qbK_ ba no pa ro ge)),(10500600,(.row false true (x12+1) 3 1 ((Prod.snd x15)++[(Mir.D.int .i64 x13)]))),(qdM_ x2 x3 x4 x5),(hR 10560301 x6 129 2 x7),(hR 10570301 (Prod.fst x14) 3 1 (Prod.snd x14))])∧(x10 (x12+1) (IntKind.wrap .i64 (x13+1)) ((Prod.fst x14),(Prod.snd x14)) ((x12+1),((Prod.snd x15)++[(Mir.D.int .i64 x13)])))∧(((x11 (x12+1) (IntKind.wrap .i64 (x13+1)) ((Prod.fst x14),(Prod.snd x14)) ((x12+1),((Prod.snd x15)++[(Mir.D.int .i64 x13)]))):Nat)<(x11 x12 x13 x14 x15))) ((rq (.ptr 10550301 0))∧(rq (aI (no.length:Int)))∧(rh [(hB 10500000 (qbK_ ba no pa ro ge)),(10500600,(.row false true (Prod.fst x15) 3 1 (Prod.snd x15))),(qdM_ x2 x3 x4 x5),(hR 10560301 x6 129 2 x7),(hR 10570301 (Prod.fst x14) 3 1 (Prod.snd x14))])∧(x10 x12 (IntKind.wrap .i64 (x13+1)) ((Prod.fst x14),(Prod.snd x14)) ((Prod.fst x15),(Prod.snd x15)))∧(((x11 x12 (IntKind.wrap .i64 (x13+1)) ((Prod.fst x14),(Prod.snd x14)) ((Prod.fst x15),(Prod.snd x15))):Nat)<(x11 x12 x13 x14 x15))))))) (R (.tup [(.row 10500600 x12),(.n (.int .i64 0))]) [(10500600,(.row false true (Prod.fst x15) 3 1 (Prod.snd x15)))])))))))))))))))))))))))))
def V105oe (ba:LD) (no:LD) (pa:LD) (ro:Int) (ge:Int) (R:Mir.AV→Heap→Prop):=PLift.up (by delta V105o qb1_ qcD_ qbX_ qf_ qbL_ qdM_ qU_ qdN_ qbY_ qbA_ qbK_;exact rfl:V105o ba no pa ro ge R=_)
theorem vc105o (ba:LD) (no:LD) (pa:LD) (ro:Int) (ge:Int) (R:Mir.AV→Heap→Prop):Vc Fs4 c105.body (argsQ c105 [(.agg [.o (.sl 1 ba),.o (.sl 1 no),.o (.sl 1 pa),.n (.int .i64 ro),.n (.int .i64 ge)])]) [] (endQO c105 R)=V105o ba no pa ro ge R:=by kernel_rfl
abbrev qdO_ (p0 p1:Nat) (p2:Int) (p3:Bool):=
 (hB 6450401 [(.row 6460401 p0),(.row 6470401 p1),(aI p2),(aB p3)])
abbrev qdQ_ (p0:Nat) (p1 p2 p3:LD) (p4 p5:Int) (p6:q9_) (p7:(Nat×LD)) (p8 p9:Nat) (p10:Int) (p11:Bool) (p12:Nat) (p13:LD) (p14:Nat) (p15:LD) (p16:(Int→(q9_→Prop))) (p17:Int) (p18:(Int→(q9_→Nat))):=
 ((rq (.ptr 6400001 0))∧(rq (.row 6450101 p0))∧(rq (.ptr 6450401 0))∧(rq (aL p1))∧(qV_ p1)∧(rh [(hB 6400000 (qbK_ p2 p1 p3 p4 p5)),(hB 6400001 [(aI p6.1),(aI p6.2.1),(aI p6.2.2.1)]),(6450101,(.row false true (Prod.fst p7) 3 1 (Prod.snd p7))),(qdO_ p8 p9 p10 p11),(hR 6460401 p12 129 2 p13),(hR 6470401 p14 3 1 p15)])∧(p16 (IntKind.wrap .i64 (p17+1)) (p6.1,(p6.2.1,(p6.2.2.1,()))))∧(((p18 (IntKind.wrap .i64 (p17+1)) (p6.1,(p6.2.1,(p6.2.2.1,())))):Nat)<(p18 p17 p6)))
abbrev qdP_ (p0:(Nat→qcx_)) (p1:LD) (p2:Mir.AV→Prop) (p3 p4 p5:LD) (p6 p7:Int) (p8 p9:Nat) (p10:Int) (p11:Bool) (p12:Nat) (p13:LD) (p14:Nat) (p15:LD) (p16:(Nat→qcy_)):=
 (∀x15:Nat,(∀x16:Int,(∀x17:q9_,(∀x18:(Nat×LD),((p0 x15 x16 x17 x18)→(∀x19:(Nat→Mir.AV),(sel (qU_ x16 p1) ((rn 1)∧((0:Int)≤x16)∧(∃x20:Mir.D,((qv_ p1 x16 x20)∧(∃x21:Int,(((D.cells x20)[0]?=some (Mir.D.int .i64 x21))∧(sel (decide (x21<10)) (qcz_ p2) (sel (qbn_ x21 p3) (qcz_ p2) (((Prod.fst x18)=x15)∧(∃x22:Bool,((qdN_ x18 x21 x22)∧(sel x22 (qcz_ p2) ((rn 0)∧(qb1_ x21)∧(((qf_ x18 x15)∧(rn 3))∧(rn 1))∧(((((qbA_ x18)+(List.length [(Mir.D.int .i64 x21)]))*8):Nat)≤140737488355328)∧(rq (.ptr 6400000 0))∧(rq (.ptr 6400001 0))∧(rq (.ptr 6450401 0))∧(rq (aL p1))∧(rq (aI (p1.length:Int)))∧(rh [(hB 6400000 (qbK_ p4 p3 p5 p6 p7)),(hB 6400001 [(aI x17.1),(aI x17.2.1),(aI x17.2.2.1)]),(6450101,(.row false true (x15+1) 3 1 ((Prod.snd x18)++[(Mir.D.int .i64 x21)]))),(qdO_ p8 p9 p10 p11),(hR 6460401 p12 129 2 p13),(hR 6470401 p14 3 1 p15)])∧(p0 (x15+1) (IntKind.wrap .i64 (x16+1)) (x17.1,(x17.2.1,(x17.2.2.1,()))) ((x15+1),((Prod.snd x18)++[(Mir.D.int .i64 x21)])))∧(((p16 (x15+1) (IntKind.wrap .i64 (x16+1)) (x17.1,(x17.2.1,(x17.2.2.1,()))) ((x15+1),((Prod.snd x18)++[(Mir.D.int .i64 x21)]))):Nat)<(p16 x15 x16 x17 x18)))))))))))))) (∃x23:(Int→(q9_→Prop)),(∃x24:(Int→(q9_→Nat)),(((rh [(hB 6400000 (qbK_ p4 p3 p5 p6 p7)),(hB 6400001 [(aI x17.1),(aI x17.2.1),(aI x17.2.2.1)]),(6450101,(.row false true (Prod.fst x18) 3 1 (Prod.snd x18))),(qdO_ p8 p9 p10 p11),(hR 6460401 p12 129 2 p13),(hR 6470401 p14 3 1 p15)])∧(x23 0 (x17.1,(x17.2.1,(x17.2.2.1,())))))∧(∀x25:Int,(∀x26:q9_,((x23 x25 x26)→(∀x27:(Nat→Mir.AV),(sel (qU_ x25 p3) ((rn 1)∧((0:Int)≤x25)∧(∃x28:Mir.D,((qv_ p3 x25 x28)∧(∃x29:Bool,((qbP_ x28 x29)∧(sel (decide (x25<10)) (sel (Bool.not (x29==true)) (qcz_ p2) (qdQ_ x15 p3 p4 p5 p6 p7 x26 x18 p8 p9 p10 p11 p12 p13 p14 p15 x23 x25 x24)) (((Prod.fst x18)=x15)∧(∃x30:Bool,((qdN_ x18 x25 x30)∧(sel (Bool.not (x29==x30)) (qcz_ p2) (qdQ_ x15 p3 p4 p5 p6 p7 x26 x18 p8 p9 p10 p11 p12 p13 p14 p15 x23 x25 x24))))))))))) (((p12:Nat)=p8)∧((p14:Nat)=p9)∧(p2 (.tup [(.agg [(.n (.int .i64 (p13.length:Int))),(.n (.int .i64 p10)),(.n (.int .i64 (p15.length:Int)))]),(.n (.int .i64 0))]))))))))))))))))))
def V64 (a0_0:LD) (a0_1:LD) (a0_2:LD) (a0_3:Int) (a0_4:Int) (a1:LD) (R:Mir.AV→Prop):Prop:=
 ((∃x0:Nat,(∃x1:Int,(∃x2:Nat,(∃x3:LD,((Runs Fs4 105 (qbL_ a0_0 a0_1 a0_2 a0_3 a0_4) [] (.tup [(.row 10500600 x0),(aI x1)]) [(10500600,(.row false true x2 3 1 x3))])∧(sel (x1 != 0) (qcw_ R x1) (∃x4:Unit,(∃x5:Nat,(∃x6:Nat,(∃x7:Int,(∃x8:Bool,(∃x9:Nat,(∃x10:LD,(∃x11:Nat,(∃x12:LD,((Runs Fs4 31 (qbL_ a0_0 a0_1 a0_2 a0_3 a0_4) [] (.ptr 3100101 0) [(qcD_ x5 x6 x7 x8),(hR 3190001 x9 129 2 x10),(hR 3190002 x11 3 1 x12)])∧(∃x13:(Nat→qcx_),(∃x14:(Nat→qcy_),(((rh [(hB 6400000 (qbK_ a0_0 a0_1 a0_2 a0_3 a0_4)),(hB 6400001 [(aI 0),(aI 0),(aI 0)]),(6450101,(.row false true x2 3 1 x3)),(qdO_ x5 x6 x7 x8),(hR 6460401 x9 129 2 x10),(hR 6470401 x11 3 1 x12)])∧(x13 x0 0 (0,(0,(0,()))) (x2,x3)))∧(qdP_ x13 a1 R a0_1 a0_0 a0_2 a0_3 a0_4 x5 x6 x7 x8 x9 x10 x11 x12 x14))))))))))))))))))))∨(∃x31:LD,(∃x32:Int,((Runs Fs4 105 (qbL_ a0_0 a0_1 a0_2 a0_3 a0_4) [] (.tup [(aL x31),(aI x32)]) [])∧(sel (x32 != 0) (qcw_ R x32) (∃x33:Unit,(∃x34:Nat,(∃x35:Nat,(∃x36:Int,(∃x37:Bool,(∃x38:Nat,(∃x39:LD,(∃x40:Nat,(∃x41:LD,((Runs Fs4 31 (qbL_ a0_0 a0_1 a0_2 a0_3 a0_4) [] (.ptr 3100101 0) [(qcD_ x34 x35 x36 x37),(hR 3190001 x38 129 2 x39),(hR 3190002 x40 3 1 x41)])∧(∃x42:(Nat→qcx_),(∃x43:(Nat→qcy_),(False∧(qdP_ x42 a1 R a0_1 a0_0 a0_2 a0_3 a0_4 x34 x35 x36 x37 x38 x39 x40 x41 x43)))))))))))))))))))
def V64e (a0_0:LD) (a0_1:LD) (a0_2:LD) (a0_3:Int) (a0_4:Int) (a1:LD) (R:Mir.AV→Prop):=PLift.up (by delta V64 qU_ qbP_ qbn_ qV_ qdQ_ qcz_ qcw_ qbA_ qv_ qbK_ qb1_ qdO_ qf_ qbL_ qcx_ qdP_ qcD_ qcC_ qdN_ qcy_ q9_;exact rfl:V64 a0_0 a0_1 a0_2 a0_3 a0_4 a1 R=_)
theorem vc64 (a0_0:LD) (a0_1:LD) (a0_2:LD) (a0_3:Int) (a0_4:Int) (a1:LD) (R:Mir.AV→Prop):Vc Fs4 c64.body (argsQ c64 [(.agg [(.o (.sl 1 a0_0)),(.o (.sl 1 a0_1)),(.o (.sl 1 a0_2)),(.n (.int .i64 a0_3)),(.n (.int .i64 a0_4))]),(.o (.sl 1 a1))]) [] (endQ c64 R)=V64 a0_0 a0_1 a0_2 a0_3 a0_4 a1 R:=by kernel_rfl
def V40 (a0:Int) (a1:LD) (R:Mir.AV→Prop):Prop:=
 (∃x0:ByteArray,((Runs Fs4 85 [(aL a1)] [] (aS x0) [])∧(∃x1:ByteArray,((Runs Fs4 84 [(.agg [(aI 3),(aI a0),(aS x0)])] [] (aS x1) [])∧(R (.n (.str x1)))))))
theorem vc40 (a0:Int) (a1:LD) (R:Mir.AV→Prop):Vc Fs4 c40.body (argsQ c40 [(.n (.int .i64 a0)),(.o (.sl 1 a1))]) [] (endQ c40 R)=V40 a0 a1 R:=by kernel_rfl
noncomputable instance (a b:Wd):Decidable (a=b):=Classical.propDecidable _
theorem p141 (a b:List Bool) (ha:Small a.length):Runs Fs4 141 [.o (.sl 1 (blD a)),.o (.sl 1 (blD b))] [] (.n (.bool (decide (a=b)))) []:=by
 refine vc_eq fs141 rfl ?_
 rw[vc141,(V141e _ _ _).down,blD_len,blD_len]
 refine sel_intro (fun h => ?_) (fun h => ?_)
 · rw[decide_eq_false]
   rintro rfl
   simp at h
 have hl:a.length=b.length:=by
   have:(a.length:Int)=b.length:=by simpa using h
   omega
 refine ⟨fun i=>0≤i∧i≤a.length∧∀j:Nat,(j:Int)<i→a[j]?=b[j]?,fun i=>(a.length - i).toNat,⟨rfl,by omega,by omega,fun j hj=>by omega⟩,?_⟩
 rintro i ⟨h0,h1,hok⟩ _
 refine sel_dec (fun hlt => ?_) (fun hge => ?_)
 · have hi:i.toNat<a.length:=by omega
   have hj:i.toNat<b.length:=by omega
   refine ⟨rfl,h0,_,blD_at hi,_,rfl,rfl,h0,_,blD_at hj,_,rfl,?_⟩
   refine sel_intro (fun hx => ?_) (fun hx => ?_)
   · rw[decide_eq_false]
     rintro rfl
     simp at hx
   · have hx:a[i.toNat]=b[i.toNat]:=by simpa using hx
     repeat (refine And.intro rfl ?_)
     rw[i64_in _ (by omega)]
     refine ⟨⟨by omega,by omega,fun j hji => ?_⟩,by first|omega|(dsimp only;omega)⟩
     by_cases e:(j:Int)<i
     · exact hok j e
     · obtain rfl:j=i.toNat:=by omega
       rw[List.getElem?_eq_getElem hi,List.getElem?_eq_getElem hj,hx]
 · rw[decide_eq_true]
   refine List.ext_getElem? fun j => ?_
   by_cases hj:j<a.length
   · exact hok j (by omega)
   · rw[List.getElem?_eq_none (by omega),List.getElem?_eq_none (by omega)]
theorem p98 (a b c d:List Bool) (ha:Small a.length) (hb:Small b.length):Runs Fs4 98 [alV a b,alV c d] [] (.n (.bool (decide (a=c∧b=d)))) []:=by
 have g1:=p141 a c ha
 have g2:=p141 b d hb
 refine vc_eq fs98 rfl ?_
 rw[alV,alV,vc98,V98]
 refine ⟨_,g1,sel_dec (fun h=>⟨_,g2,?_⟩) (fun h=>by rw[decide_eq_false (fun hh=>h hh.1)])⟩
 congr 2
 rw[decide_eq_decide]
 exact ⟨fun h2=>⟨h,h2⟩,fun h2=>h2.2⟩
theorem wd_ext {a b:Wd} (h1:a.base=b.base) (h2:a.now=b.now) (h3:a.pages=b.pages) (h4:a.root=b.root) (h5:a.gen=b.gen):a=b:=by
 cases a;cases b;simp_all
theorem p49 (a b:Wd) (hf:WFits a):Runs Fs4 49 [wdV a,wdV b] [] (.n (.bool (decide (a=b)))) []:=by
 have g1:=p98 a.base a.now b.base b.now hf.b hf.n
 have no:a≠b→AV.n (D.bool false) = .n (.bool (decide (a=b))):=fun h=>by rw[decide_eq_false h]
 refine vc_eq fs49 rfl ?_
 rw[wdV,wdV,vc49,(V49e _ _ _ _ _ _ _ _ _ _ _).down,sl_len,sl_len]
 refine sel_intro (fun h=>no (by rintro rfl;simp at h)) (fun h1=>sel_intro (fun h=>no (by rintro rfl;simp at h)) (fun h2=>sel_intro (fun h=>no (by rintro rfl;simp at h)) (fun h3=>⟨_,g1,?_⟩)))
 have h1:a.root=b.root:=by simpa using h1
 have h2:a.gen=b.gen:=by simpa using h2
 have hl:a.pages.length=b.pages.length:=by
   have:(a.pages.length:Int)=b.pages.length:=by simpa using h3
   omega
 by_cases hc:a.base=b.base∧a.now=b.now
 · rw[decide_eq_true hc]
   refine sel_intro (fun h=>by cases h) (fun _ => ?_)
   refine ⟨fun i=>0≤i∧i≤a.pages.length∧∀j:Nat,(j:Int)<i→a.pages[j]?=b.pages[j]?,fun i=>(a.pages.length - i).toNat,⟨rfl,by omega,by omega,fun j hj=>by omega⟩,?_⟩
   rintro i ⟨h0,h1',hok⟩ _
   have hs:=hf.p
   refine sel_dec (fun hlt => ?_) (fun hge => ?_)
   · have hi:i.toNat<a.pages.length:=by omega
     have hj:i.toNat<b.pages.length:=by omega
     refine ⟨rfl,h0,_,sl_at hi,_,rfl,rfl,h0,_,sl_at hj,_,rfl,sel_nb (fun hx => ?_) (fun hx => ?_)⟩
     · refine no fun e=>hx ?_
       subst e;rfl
     · repeat (refine And.intro rfl ?_)
       rw[i64_in _ (by omega)]
       refine ⟨⟨by omega,by omega,fun j hji => ?_⟩,by first|omega|(dsimp only;omega)⟩
       by_cases e:(j:Int)<i
       · exact hok j e
       · obtain rfl:j=i.toNat:=by omega
         rw[List.getElem?_eq_getElem hi,List.getElem?_eq_getElem hj,hx]
   · rw[decide_eq_true]
     refine wd_ext hc.1 hc.2 (List.ext_getElem? fun j => ?_) h1 h2
     by_cases hj:j<a.pages.length
     · exact hok j (by omega)
     · rw[List.getElem?_eq_none (by omega),List.getElem?_eq_none (by omega)]
 · rw[decide_eq_false hc]
   exact sel_intro (fun _=>no fun e=>hc ⟨by rw[e],by rw[e]⟩) (fun h=>by cases h)
theorem p145 (w:Wd) (hl:w.base.length=w.now.length) (i:Int) (h0:0≤i) (hi:i<w.now.length):Runs Fs4 145 [alV w.base w.now,.n (.int .i64 i)] [] (.n (.bool (freeAt w i.toNat))) []:=by
 refine vc_eq fs145 rfl ?_
 rw[alV,vc145,(V145e _ _ _ _).down,blD_len]
 have ib:i.toNat<w.base.length:=by omega
 have ia:i.toNat<w.now.length:=by omega
 refine sel_dec (fun _=>sel_dec (fun _=>⟨rfl,h0,_,blD_at ia,_,rfl,sel_intro (fun h=>⟨rfl,h0,_,blD_at ib,_,rfl,?_⟩) (fun h => ?_)⟩) (fun h=>absurd hi h)) (fun h=>absurd h0 h)
 · have h:w.now[i.toNat]=false:=by simpa using h
   rw[freeAt,tr_at ia,tr_at ib,h];simp
 · have h:w.now[i.toNat]=true:=by simpa using h
   rw[freeAt,tr_at ia,h];simp
theorem p106' (l:List Int) (hl:Small l.length) (b:Int):Runs Fs4 106 [.o (.sl 1 (il l)),.n (.int .i64 b)] [] (.n (.bool (decide (b∈l)))) []:=((p106 l hl b).up up3).up up4
theorem t21 (w:Wd) (hf:WFits w) (hn:w.now.length≤2048):∃va vb,Runs Fs4 31 [wdV w] [] (.ptr 3100101 0) (hT (treeW w) va vb):=by
 obtain ⟨va,vb,g⟩:=p31 w hf hn
 exact ⟨va,vb,(g.up up3).up up4⟩
theorem wd0_fits:WFits wd0:=⟨by decide,by decide,by decide,fun s hs=>by cases hs⟩
theorem p69' (w:Wd) (hf:WFits w):Runs Fs4 69 [wdV w] [] (.n (.bool (decide (WRight w)))) []:=((p69 w hf).up up3).up up4
end Go.Proofs.YtegndijbpiccgaaGreatDoor.M
