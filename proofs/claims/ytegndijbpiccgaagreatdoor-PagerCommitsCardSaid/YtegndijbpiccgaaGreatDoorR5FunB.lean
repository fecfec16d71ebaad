import Derived.Test.YtegndijbpiccgaaGreatDoorR5Fun
namespace Go.Proofs.YtegndijbpiccgaaGreatDoor.M
set_option linter.unusedVariables false
set_option linter.unusedSimpArgs false
open Go Go.Mir
set_option linter.unusedVariables false
abbrev qk_:=
 (ByteArray.mk (List.toArray []))
abbrev qj_:Mir.AV:=
 (.n (.str qk_))
abbrev qb_ (p0:Mir.AV→Prop):=
 (p0 (.tup [qj_,(.n (.int .i64 1))]))
abbrev qc_ (p0:Int):=
 ((((Int.toNat p0)*1):Nat)≤140737488355328)
abbrev qf_ (p0:(Nat×LD)) (p1:Nat):=
 (((Prod.fst p0):Nat)=p1)
abbrev qd_ (p0:(Nat×LD)) (p1:Nat):=
 ((qf_ p0 p1)∧(rn 1))
abbrev qe_ (p0:Nat) (p1:(Nat×LD)):=
 (((((p0:Nat)=(Prod.fst p1))∧(rn 0))∧(rn 1))∧(rn 1))
abbrev qg_ (p0:(Nat×LD)):=
 ((rn 1)∨(@Eq LD (Prod.snd p0) []))
abbrev qh_ (p0:(Nat×LD)):=
 (((List.all (Prod.snd p0) Go.Mir.D.isU8):Bool)=true)
abbrev qi_ (p0:(Nat×LD)):=
 (ByteArray.mk (List.toArray (List.map Go.Mir.byteOf (Prod.snd p0))))
def V79 (a0:Int) (a1:Int) (R:Mir.AV→Prop):Prop:=
 (sel (decide (a1<1)) (qb_ R) (sel (decide (a1 > 6)) (qb_ R) (sel (decide (a0<0)) (qb_ R) (((0:Int)≤(IntKind.wrap .i64 (8*a1)))∧(sel ((Int.fdiv a0 (2 ^ (Min.min (Int.toNat (IntKind.wrap .i64 (8*a1))) (Go.IntKind.bits .i64)))) != 0) (qb_ R) (((0:Int)≤a1)∧(qc_ a1)∧(rn 0)∧(∃x0:(Int→(Int→(Nat→(Int→(Int→((Nat×LD)→Prop)))))),(∃x1:(Int→(Int→(Nat→(Int→(Int→((Nat×LD)→Nat)))))),(((rh [(7900301,(.row false true 0 5 1 (List.replicate (Int.toNat a1) (Mir.D.int .u8 0))))])∧(x0 a0 a1 0 ((List.replicate (Int.toNat a1) (Mir.D.int .u8 0)).length:Int) 0 (0,(List.replicate (Int.toNat a1) (Mir.D.int .u8 0)))))∧(∀x2:Int,(∀x3:Int,(∀x4:Nat,(∀x5:Int,(∀x6:Int,(∀x7:(Nat×LD),((x0 x2 x3 x4 x5 x6 x7)→(∀x8:(Nat→Mir.AV),(sel (decide (x6<x5)) (((0:Int)≤(IntKind.wrap .i64 (8*x6)))∧(qd_ x7 x4)∧((0:Int)≤(IntKind.wrap .i64 ((IntKind.wrap .i64 (x3 - 1)) - x6)))∧(((IntKind.wrap .i64 ((IntKind.wrap .i64 (x3 - 1)) - x6)):Int)<((Prod.snd x7).length:Int))∧(qe_ x4 x7)∧(((Int.toNat (IntKind.wrap .i64 ((IntKind.wrap .i64 (x3 - 1)) - x6))):Nat)<(List.length (Prod.snd x7)))∧(rh [(7900301,(.row false true (Prod.fst x7) 5 1 (List.set (Prod.snd x7) (Int.toNat (IntKind.wrap .i64 ((IntKind.wrap .i64 (x3 - 1)) - x6))) (Mir.D.int .u8 (IntKind.wrap .u8 (Int.fdiv x2 (2 ^ (Min.min (Int.toNat (IntKind.wrap .i64 (8*x6))) (Go.IntKind.bits .i64)))))))))])∧(x0 x2 x3 x4 x5 (IntKind.wrap .i64 (x6+1)) ((Prod.fst x7),(List.set (Prod.snd x7) (Int.toNat (IntKind.wrap .i64 ((IntKind.wrap .i64 (x3 - 1)) - x6))) (Mir.D.int .u8 (IntKind.wrap .u8 (Int.fdiv x2 (2 ^ (Min.min (Int.toNat (IntKind.wrap .i64 (8*x6))) (Go.IntKind.bits .i64)))))))))∧(((x1 x2 x3 x4 x5 (IntKind.wrap .i64 (x6+1)) ((Prod.fst x7),(List.set (Prod.snd x7) (Int.toNat (IntKind.wrap .i64 ((IntKind.wrap .i64 (x3 - 1)) - x6))) (Mir.D.int .u8 (IntKind.wrap .u8 (Int.fdiv x2 (2 ^ (Min.min (Int.toNat (IntKind.wrap .i64 (8*x6))) (Go.IntKind.bits .i64))))))))):Nat)<(x1 x2 x3 x4 x5 x6 x7))) ((qf_ x7 x4)∧(qg_ x7)∧(qh_ x7)∧(R (.tup [(.n (.str (qi_ x7))),(.n (.int .i64 0))])))))))))))))))))))))
def V79e (a0:Int) (a1:Int) (R:Mir.AV→Prop):=PLift.up (by delta V79 qh_ qf_ qj_ qd_ qi_ qc_ qg_ qb_ qe_ qk_;exact rfl:V79 a0 a1 R=_)
theorem vc79 (a0:Int) (a1:Int) (R:Mir.AV→Prop):Vc Fs c79.body (argsQ c79 [(.n (.int .i64 a0)),(.n (.int .i64 a1))]) [] (endQ c79 R)=V79 a0 a1 R:=by kernel_rfl
def V83 (a0:LD) (R:Mir.AV→Prop):Prop:=
 (∃x0:ByteArray,((Runs Fs 128 [(aL a0),(aS qk_)] [] (aS x0) [])∧(R (.n (.str x0)))))
def V83e (a0:LD) (R:Mir.AV→Prop):=PLift.up (by delta V83 qk_;exact rfl:V83 a0 R=_)
theorem vc83 (a0:LD) (R:Mir.AV→Prop):Vc Fs c83.body (argsQ c83 [(.o (.sl 1 a0))]) [] (endQ c83 R)=V83 a0 R:=by kernel_rfl
abbrev ql_ (p0:Mir.AV→Prop):=
 (p0 (.tup [qj_,(.n (.int .i64 2))]))
def V80 (a0:ByteArray) (R:Mir.AV→Prop):Prop:=
 (sel (decide ((((ByteArray.size a0):Nat):Int) > 65535)) (ql_ R) (∃x0:ByteArray,(∃x1:Int,((Runs Fs 79 [(aI (((ByteArray.size a0):Nat):Int)),(aI 2)] [] (.tup [(aS x0),(aI x1)]) [])∧(0=0)∧(∃x2:ByteArray,((Runs Fs 83 [(aL [(Mir.D.str x0),(Mir.D.str a0)])] [] (aS x2) [])∧(R (.tup [(.n (.str x2)),(.n (.int .i64 x1))]))))))))
def V80e (a0:ByteArray) (R:Mir.AV→Prop):=PLift.up (by delta V80 qj_ ql_ qk_;exact rfl:V80 a0 R=_)
theorem vc80 (a0:ByteArray) (R:Mir.AV→Prop):Vc Fs c80.body (argsQ c80 [(.n (.str a0))]) [] (endQ c80 R)=V80 a0 R:=by kernel_rfl
abbrev qm_:=
 (aS (ByteArray.mk (List.toArray [0])))
def V81 (a0:ByteArray) (R:Mir.AV→Prop):Prop:=
 (∃x0:ByteArray,((Runs Fs 126 [(aS a0),qm_] [] (aS x0) [])∧(R (.n (.str x0)))))
def V81e (a0:ByteArray) (R:Mir.AV→Prop):=PLift.up (by delta V81 qm_;exact rfl:V81 a0 R=_)
theorem vc81 (a0:ByteArray) (R:Mir.AV→Prop):Vc Fs c81.body (argsQ c81 [(.n (.str a0))]) [] (endQ c81 R)=V81 a0 R:=by kernel_rfl
abbrev qn_ (p0:ByteArray):=
 (Array.toList (ByteArray.data p0))
abbrev qo_ (p0:Int) (p1:ByteArray) (p2:Mir.AV→Prop):=
 (((0:Int)≤p0)∧((p0:Int)≤(((ByteArray.size p1):Nat):Int))∧(p2 (.n (.str (ByteArray.extract p1 0 (Int.toNat p0))))))
def V103 (a0:ByteArray) (R:Mir.AV→Prop):Prop:=
 (∃x0:(ByteArray→(Int→Prop)),(∃x1:(ByteArray→(Int→Nat)),(((rh [])∧(x0 a0 (((ByteArray.size a0):Nat):Int)))∧(∀x2:ByteArray,(∀x3:Int,((x0 x2 x3)→(∀x4:(Nat→Mir.AV),(sel (decide (x3 > 0)) (((0:Int)≤(IntKind.wrap .i64 (x3 - 1)))∧(∃x5:UInt8,((((GetElem?.getElem? (qn_ x2) (Int.toNat (IntKind.wrap .i64 (x3 - 1)))):(Option UInt8))=(some x5))∧(sel ((((UInt8.toNat x5):Nat):Int)==0) ((rh [])∧(x0 x2 (IntKind.wrap .i64 (x3 - 1)))∧(((x1 x2 (IntKind.wrap .i64 (x3 - 1))):Nat)<(x1 x2 x3))) (qo_ x3 x2 R))))) (qo_ x3 x2 R)))))))))
def V103e (a0:ByteArray) (R:Mir.AV→Prop):=PLift.up (by delta V103 qn_ qo_;exact rfl:V103 a0 R=_)
theorem vc103 (a0:ByteArray) (R:Mir.AV→Prop):Vc Fs c103.body (argsQ c103 [(.n (.str a0))]) [] (endQ c103 R)=V103 a0 R:=by kernel_rfl
abbrev qp_ (p0:Int) (p1:ByteArray):=
 (p0 - (((ByteArray.size p1):Nat):Int))
def V156 (a0:ByteArray) (a1:Int) (R:Mir.AV→Prop):Prop:=
 (sel (decide (a1<0)) (qb_ R) (sel (decide (a1 > 4096)) (qb_ R) (sel (decide ((((ByteArray.size a0):Nat):Int) > a1)) (ql_ R) (∃x0:ByteArray,((Runs Fs 187 [qm_,(aI (IntKind.wrap .i64 (qp_ a1 a0)))] [] (aS x0) [])∧(0=0)∧(∃x1:ByteArray,((Runs Fs 83 [(aL [(Mir.D.str a0),(Mir.D.str x0)])] [] (aS x1) [])∧(R (.tup [(.n (.str x1)),(.n (.int .i64 0))])))))))))
def V156e (a0:ByteArray) (a1:Int) (R:Mir.AV→Prop):=PLift.up (by delta V156 qp_ qj_ qb_ qm_ ql_ qk_;exact rfl:V156 a0 a1 R=_)
theorem vc156 (a0:ByteArray) (a1:Int) (R:Mir.AV→Prop):Vc Fs c156.body (argsQ c156 [(.n (.str a0)),(.n (.int .i64 a1))]) [] (endQ c156 R)=V156 a0 a1 R:=by kernel_rfl
def V138 (a0:ByteArray) (a1:Int) (R:Mir.AV→Prop):Prop:=
 (sel (decide (a1<0)) (qb_ R) (sel (decide (a1 > 4096)) (qb_ R) (sel (decide ((((ByteArray.size a0):Nat):Int) > a1)) (ql_ R) (((0:Int)≤(IntKind.wrap .i64 (qp_ a1 a0)))∧((((Int.toNat (IntKind.wrap .i64 (qp_ a1 a0)))*1):Nat)≤140737488355328)∧(rn 0)∧((rn 1)∨(@Eq LD (List.replicate (Int.toNat (IntKind.wrap .i64 (qp_ a1 a0))) (Mir.D.int .u8 0)) []))∧(((List.all (List.replicate (Int.toNat (IntKind.wrap .i64 (qp_ a1 a0))) (Mir.D.int .u8 0)) Go.Mir.D.isU8):Bool)=true)∧((((((ByteArray.size a0)+(ByteArray.size (ByteArray.mk (List.toArray (List.map Go.Mir.byteOf (List.replicate (Int.toNat (IntKind.wrap .i64 (qp_ a1 a0))) (Mir.D.int .u8 0))))))):Nat):Int):Int)≤9223372036854775807)∧(R (.tup [(.n (.str (a0++(ByteArray.mk (List.toArray (List.map Go.Mir.byteOf (List.replicate (Int.toNat (IntKind.wrap .i64 (qp_ a1 a0))) (Mir.D.int .u8 0)))))))),(.n (.int .i64 0))]))))))
def V138e (a0:ByteArray) (a1:Int) (R:Mir.AV→Prop):=PLift.up (by delta V138 qp_ qj_ qb_ ql_ qk_;exact rfl:V138 a0 a1 R=_)
theorem vc138 (a0:ByteArray) (a1:Int) (R:Mir.AV→Prop):Vc Fs c138.body (argsQ c138 [(.n (.str a0)),(.n (.int .i64 a1))]) [] (endQ c138 R)=V138 a0 a1 R:=by kernel_rfl
abbrev qq_ (p0:Mir.AV→Prop):=
 (p0 (.tup [(.n (.int .i64 0)),(.n (.int .i64 0)),(.n (.int .i64 1))]))
abbrev qr_ (p0:ByteArray) (p1:Int):=
 ((((ByteArray.size p0):Nat):Int) - p1)
abbrev qs_ (p0:Mir.AV→Prop):=
 (p0 (.tup [(.n (.int .i64 0)),(.n (.int .i64 0)),(.n (.int .i64 3))]))
abbrev qt_:=
 (Int→(LD→(Int→(Int→Prop))))
abbrev qu_:=
 (Int→(LD→(Int→(Int→Nat))))
abbrev qv_ (p0:LD) (p1:Int) (p2:Mir.D):=
 (p0[Int.toNat p1]?=some p2)
def V134 (a0:ByteArray) (a1:Int) (a2:Int) (R:Mir.AV→Prop):Prop:=
 (sel (decide (a2<1)) (qq_ R) (sel (decide (a2 > 6)) (qq_ R) (sel (decide (a1<0)) (qq_ R) (sel (decide (a1 > (((ByteArray.size a0):Nat):Int))) (qq_ R) (sel (decide ((IntKind.wrap .i64 (qr_ a0 a1))<a2)) (qs_ R) (((0:Int)≤(IntKind.wrap .i64 (a1+a2)))∧(((IntKind.wrap .i64 (a1+a2)):Int)≤(((ByteArray.size a0):Nat):Int))∧((0:Int)≤a1)∧((a1:Int)≤(((Int.toNat (IntKind.wrap .i64 (a1+a2))):Nat):Int))∧(∃x0:(Int→(Int→qt_)),(∃x1:(Int→(Int→qu_)),(((rh [])∧(x0 a1 a2 0 (Go.Mir.bytesD (ByteArray.extract a0 (Int.toNat a1) (Int.toNat (IntKind.wrap .i64 (a1+a2))))) ((Go.Mir.bytesD (ByteArray.extract a0 (Int.toNat a1) (Int.toNat (IntKind.wrap .i64 (a1+a2))))).length:Int) 0))∧(∀x2:Int,(∀x3:Int,(∀x4:Int,(∀x5:LD,(∀x6:Int,(∀x7:Int,((x0 x2 x3 x4 x5 x6 x7)→(∀x8:(Nat→Mir.AV),(sel (decide (x7<x6)) ((rn 1)∧((0:Int)≤x7)∧(∃x9:Mir.D,((qv_ x5 x7 x9)∧(∃x10:Int,(((D.cells x9)[0]?=some (Mir.D.int .u8 x10))∧((0:Int)≤8)∧(rh [])∧(x0 x2 x3 (IntKind.wrap .i64 (((BitVec.toNat (HOr.hOr (BitVec.ofInt (Go.IntKind.bits .i64) (IntKind.wrap .i64 (x4*(2 ^ (Min.min (Int.toNat 8) (Go.IntKind.bits .i64)))))) (BitVec.ofInt (Go.IntKind.bits .i64) (IntKind.wrap .i64 x10)))):Nat):Int)) x5 x6 (IntKind.wrap .i64 (x7+1)))∧(((x1 x2 x3 (IntKind.wrap .i64 (((BitVec.toNat (HOr.hOr (BitVec.ofInt (Go.IntKind.bits .i64) (IntKind.wrap .i64 (x4*(2 ^ (Min.min (Int.toNat 8) (Go.IntKind.bits .i64)))))) (BitVec.ofInt (Go.IntKind.bits .i64) (IntKind.wrap .i64 x10)))):Nat):Int)) x5 x6 (IntKind.wrap .i64 (x7+1))):Nat)<(x1 x2 x3 x4 x5 x6 x7))))))) (R (.tup [(.n (.int .i64 x4)),(.n (.int .i64 (IntKind.wrap .i64 (x2+x3)))),(.n (.int .i64 0))]))))))))))))))))))))
def V134e (a0:ByteArray) (a1:Int) (a2:Int) (R:Mir.AV→Prop):=PLift.up (by delta V134 qq_ qr_ qu_ qv_ qs_ qt_;exact rfl:V134 a0 a1 a2 R=_)
theorem vc134 (a0:ByteArray) (a1:Int) (a2:Int) (R:Mir.AV→Prop):Vc Fs c134.body (argsQ c134 [(.n (.str a0)),(.n (.int .i64 a1)),(.n (.int .i64 a2))]) [] (endQ c134 R)=V134 a0 a1 a2 R:=by kernel_rfl
abbrev qw_:=
 (Int→(Int→(Int→Prop)))
def V139 (a0:ByteArray) (a1:Int) (a2:Int) (R:Mir.AV→Prop):Prop:=
 (sel (decide (a2<1)) (qq_ R) (sel (decide (a2 > 6)) (qq_ R) (sel (decide (a1<0)) (qq_ R) (sel (decide (a1 > (((ByteArray.size a0):Nat):Int))) (qq_ R) (sel (decide ((IntKind.wrap .i64 (qr_ a0 a1))<a2)) (qs_ R) (∃x0:(ByteArray→(Int→qw_)),(∃x1:(ByteArray→(Int→(Int→(Int→(Int→Nat))))),(((rh [])∧(x0 a0 a1 a2 0 0))∧(∀x2:ByteArray,(∀x3:Int,(∀x4:Int,(∀x5:Int,(∀x6:Int,((x0 x2 x3 x4 x5 x6)→(∀x7:(Nat→Mir.AV),(sel (decide (x6<x4)) (((0:Int)≤(IntKind.wrap .i64 (x3+x6)))∧(∃x8:UInt8,((((GetElem?.getElem? (qn_ x2) (Int.toNat (IntKind.wrap .i64 (x3+x6)))):(Option UInt8))=(some x8))∧(rh [])∧(x0 x2 x3 x4 (IntKind.wrap .i64 ((IntKind.wrap .i64 (x5*256))+(IntKind.wrap .i64 (((UInt8.toNat x8):Nat):Int)))) (IntKind.wrap .i64 (x6+1)))∧(((x1 x2 x3 x4 (IntKind.wrap .i64 ((IntKind.wrap .i64 (x5*256))+(IntKind.wrap .i64 (((UInt8.toNat x8):Nat):Int)))) (IntKind.wrap .i64 (x6+1))):Nat)<(x1 x2 x3 x4 x5 x6))))) (R (.tup [(.n (.int .i64 x5)),(.n (.int .i64 (IntKind.wrap .i64 (x3+x4)))),(.n (.int .i64 0))]))))))))))))))))))
def V139e (a0:ByteArray) (a1:Int) (a2:Int) (R:Mir.AV→Prop):=PLift.up (by delta V139 qq_ qr_ qw_ qn_ qs_;exact rfl:V139 a0 a1 a2 R=_)
theorem vc139 (a0:ByteArray) (a1:Int) (a2:Int) (R:Mir.AV→Prop):Vc Fs c139.body (argsQ c139 [(.n (.str a0)),(.n (.int .i64 a1)),(.n (.int .i64 a2))]) [] (endQ c139 R)=V139 a0 a1 a2 R:=by kernel_rfl
def V163 (a0:Int) (a1:ByteArray) (R:Mir.AV→Prop):Prop:=
 (∃x0:qt_,(∃x1:qu_,(((rh [])∧(x0 (IntKind.wrap .u32 (((BitVec.toNat (HXor.hXor (BitVec.ofInt (Go.IntKind.bits .u32) (Go.IntKind.max .u32)) (BitVec.ofInt (Go.IntKind.bits .u32) a0))):Nat):Int)) (Go.Mir.bytesD a1) ((Go.Mir.bytesD a1).length:Int) 0))∧(∀x2:Int,(∀x3:LD,(∀x4:Int,(∀x5:Int,((x0 x2 x3 x4 x5)→(∀x6:(Nat→Mir.AV),(sel (decide (x5<x4)) ((rn 1)∧((0:Int)≤x5)∧(∃x7:Mir.D,((qv_ x3 x5 x7)∧(∃x8:Int,(((D.cells x7)[0]?=some (Mir.D.int .u8 x8))∧(∃x9:(Int→(LD→qw_)),(∃x10:(Int→(LD→(Int→(Int→(Int→Nat))))),(((rh [])∧(x9 (IntKind.wrap .u32 (((BitVec.toNat (HXor.hXor (BitVec.ofInt (Go.IntKind.bits .u32) x2) (BitVec.ofInt (Go.IntKind.bits .u32) (IntKind.wrap .u32 x8)))):Nat):Int)) x3 x4 x5 0))∧(∀x11:Int,(∀x12:LD,(∀x13:Int,(∀x14:Int,(∀x15:Int,((x9 x11 x12 x13 x14 x15)→(∀x16:(Nat→Mir.AV),(sel (decide (x15<8)) (((0:Int)≤1)∧(rh [])∧(x9 (IntKind.wrap .u32 (((BitVec.toNat (HXor.hXor (BitVec.ofInt (Go.IntKind.bits .u32) (Int.fdiv x11 (2 ^ (Min.min (Int.toNat 1) (Go.IntKind.bits .u32))))) (BitVec.ofInt (Go.IntKind.bits .u32) (IntKind.wrap .u32 (((BitVec.toNat (HAnd.hAnd (BitVec.ofInt (Go.IntKind.bits .u32) 2197175160) (BitVec.ofInt (Go.IntKind.bits .u32) (IntKind.wrap .u32 (0 - (IntKind.wrap .u32 (((BitVec.toNat (HAnd.hAnd (BitVec.ofInt (Go.IntKind.bits .u32) x11) (BitVec.ofInt (Go.IntKind.bits .u32) 1))):Nat):Int))))))):Nat):Int))))):Nat):Int)) x12 x13 x14 (IntKind.wrap .i64 (x15+1)))∧(((x10 (IntKind.wrap .u32 (((BitVec.toNat (HXor.hXor (BitVec.ofInt (Go.IntKind.bits .u32) (Int.fdiv x11 (2 ^ (Min.min (Int.toNat 1) (Go.IntKind.bits .u32))))) (BitVec.ofInt (Go.IntKind.bits .u32) (IntKind.wrap .u32 (((BitVec.toNat (HAnd.hAnd (BitVec.ofInt (Go.IntKind.bits .u32) 2197175160) (BitVec.ofInt (Go.IntKind.bits .u32) (IntKind.wrap .u32 (0 - (IntKind.wrap .u32 (((BitVec.toNat (HAnd.hAnd (BitVec.ofInt (Go.IntKind.bits .u32) x11) (BitVec.ofInt (Go.IntKind.bits .u32) 1))):Nat):Int))))))):Nat):Int))))):Nat):Int)) x12 x13 x14 (IntKind.wrap .i64 (x15+1))):Nat)<(x10 x11 x12 x13 x14 x15))) ((rh [])∧(x0 x11 x12 x13 (IntKind.wrap .i64 (x14+1)))∧(((x1 x11 x12 x13 (IntKind.wrap .i64 (x14+1))):Nat)<(x1 x2 x3 x4 x5))))))))))))))))))) (R (.n (Mir.D.int .u32 (IntKind.wrap .u32 (((BitVec.toNat (HXor.hXor (BitVec.ofInt (Go.IntKind.bits .u32) (Go.IntKind.max .u32)) (BitVec.ofInt (Go.IntKind.bits .u32) x2))):Nat):Int)))))))))))))))
def V163e (a0:Int) (a1:ByteArray) (R:Mir.AV→Prop):=PLift.up (by delta V163 qt_ qv_ qu_ qw_;exact rfl:V163 a0 a1 R=_)
theorem vc163 (a0:Int) (a1:ByteArray) (R:Mir.AV→Prop):Vc Fs c163.body (argsQ c163 [(.n (.int .u32 a0)),(.n (.str a1))]) [] (endQ c163 R)=V163 a0 a1 R:=by kernel_rfl
def V193 (a0:Int) (a1:ByteArray) (R:Mir.AV→Prop):Prop:=
 (∃x0:(ByteArray→(Int→(Int→Prop))),(∃x1:(ByteArray→(Int→(Int→Nat))),(((rh [])∧(x0 a1 (IntKind.wrap .u32 (4294967295 - a0)) 0))∧(∀x2:ByteArray,(∀x3:Int,(∀x4:Int,((x0 x2 x3 x4)→(∀x5:(Nat→Mir.AV),(sel (decide (x4<(((ByteArray.size x2):Nat):Int))) (∃x6:(ByteArray→qw_),(∃x7:(ByteArray→(Int→(Int→(Int→Nat)))),(((rh [])∧(x6 x2 x3 x4 0))∧(∀x8:ByteArray,(∀x9:Int,(∀x10:Int,(∀x11:Int,((x6 x8 x9 x10 x11)→(∀x12:(Nat→Mir.AV),(sel (decide (x11<8)) (((0:Int)≤x10)∧(∃x13:UInt8,((((GetElem?.getElem? (qn_ x8) (Int.toNat x10)):(Option UInt8))=(some x13))∧((0:Int)≤(IntKind.wrap .u64 x11))∧((2:Int)≠0)∧((2:Int)≠0)∧((2:Int)≠0)∧(sel ((Int.tmod x9 2) != (Int.tmod (Int.fdiv (IntKind.wrap .u32 (((UInt8.toNat x13):Nat):Int)) (2 ^ (Min.min (Int.toNat (IntKind.wrap .u64 x11)) (Go.IntKind.bits .u32)))) 2)) ((rh [])∧(x6 x8 (IntKind.wrap .u32 (((BitVec.toNat (HXor.hXor (BitVec.ofInt (Go.IntKind.bits .u32) (IntKind.wrap .u32 (Int.tdiv x9 2))) (BitVec.ofInt (Go.IntKind.bits .u32) 2197175160))):Nat):Int)) x10 (IntKind.wrap .i64 (x11+1)))∧(((x7 x8 (IntKind.wrap .u32 (((BitVec.toNat (HXor.hXor (BitVec.ofInt (Go.IntKind.bits .u32) (IntKind.wrap .u32 (Int.tdiv x9 2))) (BitVec.ofInt (Go.IntKind.bits .u32) 2197175160))):Nat):Int)) x10 (IntKind.wrap .i64 (x11+1))):Nat)<(x7 x8 x9 x10 x11))) ((rh [])∧(x6 x8 (IntKind.wrap .u32 (Int.tdiv x9 2)) x10 (IntKind.wrap .i64 (x11+1)))∧(((x7 x8 (IntKind.wrap .u32 (Int.tdiv x9 2)) x10 (IntKind.wrap .i64 (x11+1))):Nat)<(x7 x8 x9 x10 x11))))))) ((rh [])∧(x0 x8 x9 (IntKind.wrap .i64 (x10+1)))∧(((x1 x8 x9 (IntKind.wrap .i64 (x10+1))):Nat)<(x1 x2 x3 x4))))))))))))) (R (.n (Mir.D.int .u32 (IntKind.wrap .u32 (4294967295 - x3))))))))))))))
def V193e (a0:Int) (a1:ByteArray) (R:Mir.AV→Prop):=PLift.up (by delta V193 qn_ qw_;exact rfl:V193 a0 a1 R=_)
theorem vc193 (a0:Int) (a1:ByteArray) (R:Mir.AV→Prop):Vc Fs c193.body (argsQ c193 [(.n (.int .u32 a0)),(.n (.str a1))]) [] (endQ c193 R)=V193 a0 a1 R:=by kernel_rfl
abbrev qx_ (p0:Mir.D) (p1:ByteArray):=
 ((D.cells p0)[0]?=some (Mir.D.str p1))
def V127 (a0:LD) (R:Mir.AV→Prop):Prop:=
 (∃x0:qt_,(∃x1:qu_,(((rh [])∧(x0 0 a0 (a0.length:Int) 0))∧(∀x2:Int,(∀x3:LD,(∀x4:Int,(∀x5:Int,((x0 x2 x3 x4 x5)→(∀x6:(Nat→Mir.AV),(sel (decide (x5<x4)) ((rn 1)∧((0:Int)≤x5)∧(∃x7:Mir.D,((qv_ x3 x5 x7)∧(∃x8:ByteArray,((qx_ x7 x8)∧(∃x9:Int,((Runs Fs 163 [(.n (Mir.D.int .u32 x2)),(aS x8)] [] (.n (Mir.D.int .u32 x9)) [])∧(rh [])∧(x0 x9 x3 x4 (IntKind.wrap .i64 (x5+1)))∧(((x1 x9 x3 x4 (IntKind.wrap .i64 (x5+1))):Nat)<(x1 x2 x3 x4 x5))))))))) (R (.n (Mir.D.int .u32 x2)))))))))))))
def V127e (a0:LD) (R:Mir.AV→Prop):=PLift.up (by delta V127 qt_ qx_ qu_ qv_;exact rfl:V127 a0 R=_)
theorem vc127 (a0:LD) (R:Mir.AV→Prop):Vc Fs c127.body (argsQ c127 [(.o (.sl 1 a0))]) [] (endQ c127 R)=V127 a0 R:=by kernel_rfl
def V168 (a0:ByteArray) (R:Mir.AV→Prop):Prop:=
 (∃x0:Int,((Runs Fs 193 [(.n (Mir.D.int .u32 0)),(aS a0)] [] (.n (Mir.D.int .u32 x0)) [])∧(R (.n (Mir.D.int .u32 x0)))))
theorem vc168 (a0:ByteArray) (R:Mir.AV→Prop):Vc Fs c168.body (argsQ c168 [(.n (.str a0))]) [] (endQ c168 R)=V168 a0 R:=by kernel_rfl
def V82 (a0:ByteArray) (R:Mir.AV→Prop):Prop:=
 ((0=0)∧(∃x0:Int,((Runs Fs 127 [(aL [(Mir.D.str a0)])] [] (.n (Mir.D.int .u32 x0)) [])∧((0:Int)≤8)∧((0:Int)≤16)∧((0:Int)≤24)∧(rn 0)∧((rn 1)∨(@Eq LD [(Mir.D.int .u8 (IntKind.wrap .u8 x0)),(Mir.D.int .u8 (IntKind.wrap .u8 (Int.fdiv x0 (2 ^ (Min.min (Int.toNat 8) (Go.IntKind.bits .u32)))))),(Mir.D.int .u8 (IntKind.wrap .u8 (Int.fdiv x0 (2 ^ (Min.min (Int.toNat 16) (Go.IntKind.bits .u32)))))),(Mir.D.int .u8 (IntKind.wrap .u8 (Int.fdiv x0 (2 ^ (Min.min (Int.toNat 24) (Go.IntKind.bits .u32))))))] []))∧(((List.all [(Mir.D.int .u8 (IntKind.wrap .u8 x0)),(Mir.D.int .u8 (IntKind.wrap .u8 (Int.fdiv x0 (2 ^ (Min.min (Int.toNat 8) (Go.IntKind.bits .u32)))))),(Mir.D.int .u8 (IntKind.wrap .u8 (Int.fdiv x0 (2 ^ (Min.min (Int.toNat 16) (Go.IntKind.bits .u32)))))),(Mir.D.int .u8 (IntKind.wrap .u8 (Int.fdiv x0 (2 ^ (Min.min (Int.toNat 24) (Go.IntKind.bits .u32))))))] Go.Mir.D.isU8):Bool)=true)∧(0=0)∧(∃x1:ByteArray,((Runs Fs 83 [(aL [(Mir.D.str a0),(Mir.D.str (ByteArray.mk (List.toArray (List.map Go.Mir.byteOf [(Mir.D.int .u8 (IntKind.wrap .u8 x0)),(Mir.D.int .u8 (IntKind.wrap .u8 (Int.fdiv x0 (2 ^ (Min.min (Int.toNat 8) (Go.IntKind.bits .u32)))))),(Mir.D.int .u8 (IntKind.wrap .u8 (Int.fdiv x0 (2 ^ (Min.min (Int.toNat 16) (Go.IntKind.bits .u32)))))),(Mir.D.int .u8 (IntKind.wrap .u8 (Int.fdiv x0 (2 ^ (Min.min (Int.toNat 24) (Go.IntKind.bits .u32))))))]))))])] [] (aS x1) [])∧(R (.n (.str x1))))))))
theorem vc82 (a0:ByteArray) (R:Mir.AV→Prop):Vc Fs c82.body (argsQ c82 [(.n (.str a0))]) [] (endQ c82 R)=V82 a0 R:=by kernel_rfl
def V131 (a0:ByteArray) (R:Mir.AV→Prop):Prop:=
 (∃x0:Int,((Runs Fs 168 [(aS a0)] [] (.n (Mir.D.int .u32 x0)) [])∧((256:Int)≠0)∧((256:Int)≠0)∧((256:Int)≠0)∧((65536:Int)≠0)∧((256:Int)≠0)∧((16777216:Int)≠0)∧(rn 0)∧((rn 1)∨(@Eq LD [(Mir.D.int .u8 (IntKind.wrap .u8 (Int.tmod x0 256))),(Mir.D.int .u8 (IntKind.wrap .u8 (Int.tmod (IntKind.wrap .u32 (Int.tdiv x0 256)) 256))),(Mir.D.int .u8 (IntKind.wrap .u8 (Int.tmod (IntKind.wrap .u32 (Int.tdiv x0 65536)) 256))),(Mir.D.int .u8 (IntKind.wrap .u8 (IntKind.wrap .u32 (Int.tdiv x0 16777216))))] []))∧(((List.all [(Mir.D.int .u8 (IntKind.wrap .u8 (Int.tmod x0 256))),(Mir.D.int .u8 (IntKind.wrap .u8 (Int.tmod (IntKind.wrap .u32 (Int.tdiv x0 256)) 256))),(Mir.D.int .u8 (IntKind.wrap .u8 (Int.tmod (IntKind.wrap .u32 (Int.tdiv x0 65536)) 256))),(Mir.D.int .u8 (IntKind.wrap .u8 (IntKind.wrap .u32 (Int.tdiv x0 16777216))))] Go.Mir.D.isU8):Bool)=true)∧((((((ByteArray.size a0)+(ByteArray.size (ByteArray.mk (List.toArray (List.map Go.Mir.byteOf [(Mir.D.int .u8 (IntKind.wrap .u8 (Int.tmod x0 256))),(Mir.D.int .u8 (IntKind.wrap .u8 (Int.tmod (IntKind.wrap .u32 (Int.tdiv x0 256)) 256))),(Mir.D.int .u8 (IntKind.wrap .u8 (Int.tmod (IntKind.wrap .u32 (Int.tdiv x0 65536)) 256))),(Mir.D.int .u8 (IntKind.wrap .u8 (IntKind.wrap .u32 (Int.tdiv x0 16777216))))]))))):Nat):Int):Int)≤9223372036854775807)∧(R (.n (.str (a0++(ByteArray.mk (List.toArray (List.map Go.Mir.byteOf [(Mir.D.int .u8 (IntKind.wrap .u8 (Int.tmod x0 256))),(Mir.D.int .u8 (IntKind.wrap .u8 (Int.tmod (IntKind.wrap .u32 (Int.tdiv x0 256)) 256))),(Mir.D.int .u8 (IntKind.wrap .u8 (Int.tmod (IntKind.wrap .u32 (Int.tdiv x0 65536)) 256))),(Mir.D.int .u8 (IntKind.wrap .u8 (IntKind.wrap .u32 (Int.tdiv x0 16777216))))])))))))))
theorem vc131 (a0:ByteArray) (R:Mir.AV→Prop):Vc Fs c131.body (argsQ c131 [(.n (.str a0))]) [] (endQ c131 R)=V131 a0 R:=by kernel_rfl
abbrev qy_ (p0 p1:Int) (p2:Mir.AV→Prop) (p3:ByteArray):=
 (sel (decide (p0≥1)) (sel (decide (p0≤5)) (sel (decide (p1≥0)) (sel (decide (p1≤1099511627776)) (p2 (.n (.bool (decide ((((ByteArray.size p3):Nat):Int)≤4000))))) (p2 (.n (.bool false)))) (p2 (.n (.bool false)))) (p2 (.n (.bool false)))) (p2 (.n (.bool false))))
def V78 (a0_0:Int) (a0_1:Int) (a0_2:ByteArray) (R:Mir.AV→Prop):Prop:=
 (qy_ a0_0 a0_1 R a0_2)
def V78e (a0_0:Int) (a0_1:Int) (a0_2:ByteArray) (R:Mir.AV→Prop):=PLift.up (by delta V78 qy_;exact rfl:V78 a0_0 a0_1 a0_2 R=_)
theorem vc78 (a0_0:Int) (a0_1:Int) (a0_2:ByteArray) (R:Mir.AV→Prop):Vc Fs c78.body (argsQ c78 [(.agg [(.n (.int .i64 a0_0)),(.n (.int .i64 a0_1)),(.n (.str a0_2))])]) [] (endQ c78 R)=V78 a0_0 a0_1 a0_2 R:=by kernel_rfl
def V140 (a0_0:Int) (a0_1:Int) (a0_2:ByteArray) (R:Mir.AV→Prop):Prop:=
 (qy_ a0_0 a0_1 R a0_2)
def V140e (a0_0:Int) (a0_1:Int) (a0_2:ByteArray) (R:Mir.AV→Prop):=PLift.up (by delta V140 qy_;exact rfl:V140 a0_0 a0_1 a0_2 R=_)
theorem vc140 (a0_0:Int) (a0_1:Int) (a0_2:ByteArray) (R:Mir.AV→Prop):Vc Fs c140.body (argsQ c140 [(.agg [(.n (.int .i64 a0_0)),(.n (.int .i64 a0_1)),(.n (.str a0_2))])]) [] (endQ c140 R)=V140 a0_0 a0_1 a0_2 R:=by kernel_rfl
abbrev qz_ (p0 p1:ByteArray):=
 (Runs Fs 81 [(aS p0)] [] (aS p1) [])
def V36 (a0_0:Int) (a0_1:Int) (a0_2:ByteArray) (R:Mir.AV→Prop):Prop:=
 (∃x0:Bool,((Runs Fs 78 [(.agg [(aI a0_0),(aI a0_1),(aS a0_2)])] [] (aB x0) [])∧(sel (Bool.not x0) (qb_ R) (∃x1:ByteArray,(∃x2:Int,((Runs Fs 79 [(aI a0_0),(aI 1)] [] (.tup [(aS x1),(aI x2)]) [])∧(∃x3:ByteArray,(∃x4:Int,((Runs Fs 79 [(aI a0_1),(aI 6)] [] (.tup [(aS x3),(aI x4)]) [])∧(∃x5:ByteArray,(∃x6:Int,((Runs Fs 80 [(aS a0_2)] [] (.tup [(aS x5),(aI x6)]) [])∧(0=0)∧(∃x7:ByteArray,((Runs Fs 83 [(aL [(Mir.D.str x1),(Mir.D.str x3),(Mir.D.str x5)])] [] (aS x7) [])∧(∃x8:ByteArray,((Runs Fs 82 [(aS x7)] [] (aS x8) [])∧(∃x9:ByteArray,((qz_ x8 x9)∧(R (.tup [(.n (.str x9)),(.n (.int .i64 0))]))))))))))))))))))))
def V36e (a0_0:Int) (a0_1:Int) (a0_2:ByteArray) (R:Mir.AV→Prop):=PLift.up (by delta V36 qj_ qz_ qb_ qk_;exact rfl:V36 a0_0 a0_1 a0_2 R=_)
theorem vc36 (a0_0:Int) (a0_1:Int) (a0_2:ByteArray) (R:Mir.AV→Prop):Vc Fs c36.body (argsQ c36 [(.agg [(.n (.int .i64 a0_0)),(.n (.int .i64 a0_1)),(.n (.str a0_2))])]) [] (endQ c36 R)=V36 a0_0 a0_1 a0_2 R:=by kernel_rfl
abbrev qA_ (p0:ByteArray):=
 ((((ByteArray.size p0):Nat):Int) - 4)
abbrev qB_ (p0 p1:ByteArray):=
 ((ByteArray.toList p0)==(ByteArray.toList p1))
def V169 (a0:ByteArray) (R:Mir.AV→Prop):Prop:=
 (sel (decide ((IntKind.wrap .i64 (qA_ a0))<0)) (R (.tup [qj_,(.n (.int .i64 3))])) (((0:Int)≤(IntKind.wrap .i64 (qA_ a0)))∧(((IntKind.wrap .i64 (qA_ a0)):Int)≤(((ByteArray.size a0):Nat):Int))∧(∃x0:ByteArray,((Runs Fs 82 [(aS (ByteArray.extract a0 0 (Int.toNat (IntKind.wrap .i64 (qA_ a0)))))] [] (aS x0) [])∧(sel (Bool.not (qB_ x0 a0)) (R (.tup [qj_,(.n (.int .i64 41))])) (((0:Int)≤(IntKind.wrap .i64 (qA_ a0)))∧(((IntKind.wrap .i64 (qA_ a0)):Int)≤(((ByteArray.size a0):Nat):Int))∧(R (.tup [(.n (.str (ByteArray.extract a0 0 (Int.toNat (IntKind.wrap .i64 (qA_ a0)))))),(.n (.int .i64 0))]))))))))
def V169e (a0:ByteArray) (R:Mir.AV→Prop):=PLift.up (by delta V169 qj_ qB_ qA_ qk_;exact rfl:V169 a0 R=_)
theorem vc169 (a0:ByteArray) (R:Mir.AV→Prop):Vc Fs c169.body (argsQ c169 [(.n (.str a0))]) [] (endQ c169 R)=V169 a0 R:=by kernel_rfl
abbrev qC_:Mir.AV:=
 (.agg [(.n (.int .i64 0)),(.n (.int .i64 0)),qj_])
abbrev qD_ (p0 p1 p2:Int):Mir.AV:=
 (.tup [(aI p0),(aI p1),(aI p2)])
abbrev qE_ (p0:Mir.AV→Prop):=
 (p0 (.tup [qC_,(.n (.int .i64 4))]))
abbrev qF_ (p0:Mir.AV→Prop):=
 (p0 (.tup [qC_,(.n (.int .i64 40))]))
abbrev qG_ (p0:ByteArray):=
 (Bool.not ((ByteArray.toList p0)==(ByteArray.toList qk_)))
def V135 (a0:ByteArray) (R:Mir.AV→Prop):Prop:=
 (∃x0:ByteArray,(∃x1:Int,((Runs Fs 156 [(aS a0),(aI 4096)] [] (.tup [(aS x0),(aI x1)]) [])∧(sel (x1 != 0) (R (.tup [qC_,(.n (.int .i64 1))])) (∃x2:Int,(∃x3:Int,(∃x4:Int,((Runs Fs 134 [(aS x0),(aI 7),(aI 2)] [] (qD_ x2 x3 x4) [])∧(sel (decide (x2 > 4000)) (qE_ R) (((0:Int)≤(IntKind.wrap .i64 ((IntKind.wrap .i64 (9+x2))+4)))∧(((IntKind.wrap .i64 ((IntKind.wrap .i64 (9+x2))+4)):Int)≤(((ByteArray.size x0):Nat):Int))∧(∃x5:ByteArray,(∃x6:Int,((Runs Fs 169 [(aS (ByteArray.extract x0 0 (Int.toNat (IntKind.wrap .i64 ((IntKind.wrap .i64 (9+x2))+4)))))] [] (.tup [(aS x5),(aI x6)]) [])∧(sel (x6 != 0) (R (.tup [qC_,(.n (.int .i64 x6))])) (∃x7:Int,(∃x8:Int,(∃x9:Int,((Runs Fs 134 [(aS x5),(aI 0),(aI 1)] [] (qD_ x7 x8 x9) [])∧(∃x10:Int,(∃x11:Int,(∃x12:Int,((Runs Fs 134 [(aS x5),(aI x8),(aI 6)] [] (qD_ x10 x11 x12) [])∧((0:Int)≤9)∧((9:Int)≤(((ByteArray.size x5):Nat):Int))∧(sel (decide (x7<1)) (qF_ R) (sel (decide (x7 > 5)) (qF_ R) (∃x13:Bool,((Runs Fs 78 [(.agg [(aI x7),(aI x10),(aS (ByteArray.extract x5 (Int.toNat 9) (ByteArray.size x5)))])] [] (aB x13) [])∧(sel (Bool.not x13) (qE_ R) (((0:Int)≤(IntKind.wrap .i64 ((IntKind.wrap .i64 (9+x2))+4)))∧(((IntKind.wrap .i64 ((IntKind.wrap .i64 (9+x2))+4)):Int)≤(((ByteArray.size x0):Nat):Int))∧(∃x14:ByteArray,((Runs Fs 81 [(aS (ByteArray.extract x0 (Int.toNat (IntKind.wrap .i64 ((IntKind.wrap .i64 (9+x2))+4))) (ByteArray.size x0)))] [] (aS x14) [])∧(sel (qG_ x14) (qE_ R) (R (.tup [(.agg [(.n (.int .i64 x7)),(.n (.int .i64 x10)),(.n (.str (ByteArray.extract x5 (Int.toNat 9) (ByteArray.size x5))))]),(.n (.int .i64 0))])))))))))))))))))))))))))))))))))
def V135e (a0:ByteArray) (R:Mir.AV→Prop):=PLift.up (by delta V135 qC_ qj_ qG_ qD_ qF_ qk_ qE_;exact rfl:V135 a0 R=_)
theorem vc135 (a0:ByteArray) (R:Mir.AV→Prop):Vc Fs c135.body (argsQ c135 [(.n (.str a0))]) [] (endQ c135 R)=V135 a0 R:=by kernel_rfl
abbrev qH_ (p0:ByteArray):=
 (decide ((((ByteArray.size p0):Nat):Int) > 4096))
def V95 (a0:ByteArray) (R:Mir.AV→Prop):Prop:=
 (sel (qH_ a0) (R (.tup [qC_,(.n (.int .i64 1))])) (∃x0:ByteArray,(∃x1:Int,((Runs Fs 138 [(aS a0),(aI 4096)] [] (.tup [(aS x0),(aI x1)]) [])∧((0:Int)≤7)∧(∃x2:UInt8,((((GetElem?.getElem? (qn_ x0) (Int.toNat 7)):(Option UInt8))=(some x2))∧((0:Int)≤8)∧(∃x3:UInt8,((((GetElem?.getElem? (qn_ x0) (Int.toNat 8)):(Option UInt8))=(some x3))∧(sel (decide ((IntKind.wrap .i64 ((IntKind.wrap .i64 (256*(IntKind.wrap .i64 (((UInt8.toNat x2):Nat):Int))))+(IntKind.wrap .i64 (((UInt8.toNat x3):Nat):Int)))) > 4000)) (qE_ R) (((0:Int)≤(IntKind.wrap .i64 (9+(IntKind.wrap .i64 ((IntKind.wrap .i64 (256*(IntKind.wrap .i64 (((UInt8.toNat x2):Nat):Int))))+(IntKind.wrap .i64 (((UInt8.toNat x3):Nat):Int)))))))∧(((IntKind.wrap .i64 (9+(IntKind.wrap .i64 ((IntKind.wrap .i64 (256*(IntKind.wrap .i64 (((UInt8.toNat x2):Nat):Int))))+(IntKind.wrap .i64 (((UInt8.toNat x3):Nat):Int)))))):Int)≤(((ByteArray.size x0):Nat):Int))∧(∃x4:ByteArray,((Runs Fs 131 [(aS (ByteArray.extract x0 0 (Int.toNat (IntKind.wrap .i64 (9+(IntKind.wrap .i64 ((IntKind.wrap .i64 (256*(IntKind.wrap .i64 (((UInt8.toNat x2):Nat):Int))))+(IntKind.wrap .i64 (((UInt8.toNat x3):Nat):Int)))))))))] [] (aS x4) [])∧((0:Int)≤(IntKind.wrap .i64 (13+(IntKind.wrap .i64 ((IntKind.wrap .i64 (256*(IntKind.wrap .i64 (((UInt8.toNat x2):Nat):Int))))+(IntKind.wrap .i64 (((UInt8.toNat x3):Nat):Int)))))))∧(((IntKind.wrap .i64 (13+(IntKind.wrap .i64 ((IntKind.wrap .i64 (256*(IntKind.wrap .i64 (((UInt8.toNat x2):Nat):Int))))+(IntKind.wrap .i64 (((UInt8.toNat x3):Nat):Int)))))):Int)≤(((ByteArray.size x0):Nat):Int))∧(sel (Bool.not ((ByteArray.toList x4)==(ByteArray.toList (ByteArray.extract x0 0 (Int.toNat (IntKind.wrap .i64 (13+(IntKind.wrap .i64 ((IntKind.wrap .i64 (256*(IntKind.wrap .i64 (((UInt8.toNat x2):Nat):Int))))+(IntKind.wrap .i64 (((UInt8.toNat x3):Nat):Int))))))))))) (R (.tup [qC_,(.n (.int .i64 41))])) (∃x5:Int,(∃x6:Int,(∃x7:Int,((Runs Fs 139 [(aS x0),(aI 1),(aI 6)] [] (qD_ x5 x6 x7) [])∧((0:Int)≤0)∧(∃x8:UInt8,((((GetElem?.getElem? (qn_ x0) (Int.toNat 0)):(Option UInt8))=(some x8))∧((0:Int)≤(IntKind.wrap .i64 (9+(IntKind.wrap .i64 ((IntKind.wrap .i64 (256*(IntKind.wrap .i64 (((UInt8.toNat x2):Nat):Int))))+(IntKind.wrap .i64 (((UInt8.toNat x3):Nat):Int)))))))∧(((IntKind.wrap .i64 (9+(IntKind.wrap .i64 ((IntKind.wrap .i64 (256*(IntKind.wrap .i64 (((UInt8.toNat x2):Nat):Int))))+(IntKind.wrap .i64 (((UInt8.toNat x3):Nat):Int)))))):Int)≤(((ByteArray.size x0):Nat):Int))∧((0:Int)≤9)∧((9:Int)≤(((Int.toNat (IntKind.wrap .i64 (9+(IntKind.wrap .i64 ((IntKind.wrap .i64 (256*(IntKind.wrap .i64 (((UInt8.toNat x2):Nat):Int))))+(IntKind.wrap .i64 (((UInt8.toNat x3):Nat):Int))))))):Nat):Int))∧(sel (decide ((IntKind.wrap .i64 (((UInt8.toNat x8):Nat):Int))<1)) (qF_ R) (sel (decide ((IntKind.wrap .i64 (((UInt8.toNat x8):Nat):Int)) > 5)) (qF_ R) (∃x9:Bool,((Runs Fs 140 [(.agg [(aI (IntKind.wrap .i64 (((UInt8.toNat x8):Nat):Int))),(aI x5),(aS (ByteArray.extract x0 (Int.toNat 9) (Int.toNat (IntKind.wrap .i64 (9+(IntKind.wrap .i64 ((IntKind.wrap .i64 (256*(IntKind.wrap .i64 (((UInt8.toNat x2):Nat):Int))))+(IntKind.wrap .i64 (((UInt8.toNat x3):Nat):Int)))))))))])] [] (aB x9) [])∧(sel (Bool.not x9) (qE_ R) (((0:Int)≤(IntKind.wrap .i64 (13+(IntKind.wrap .i64 ((IntKind.wrap .i64 (256*(IntKind.wrap .i64 (((UInt8.toNat x2):Nat):Int))))+(IntKind.wrap .i64 (((UInt8.toNat x3):Nat):Int)))))))∧(((IntKind.wrap .i64 (13+(IntKind.wrap .i64 ((IntKind.wrap .i64 (256*(IntKind.wrap .i64 (((UInt8.toNat x2):Nat):Int))))+(IntKind.wrap .i64 (((UInt8.toNat x3):Nat):Int)))))):Int)≤(((ByteArray.size x0):Nat):Int))∧(∃x10:ByteArray,((Runs Fs 103 [(aS (ByteArray.extract x0 (Int.toNat (IntKind.wrap .i64 (13+(IntKind.wrap .i64 ((IntKind.wrap .i64 (256*(IntKind.wrap .i64 (((UInt8.toNat x2):Nat):Int))))+(IntKind.wrap .i64 (((UInt8.toNat x3):Nat):Int))))))) (ByteArray.size x0)))] [] (aS x10) [])∧(sel (qG_ x10) (qE_ R) (R (.tup [(.agg [(.n (.int .i64 (IntKind.wrap .i64 (((UInt8.toNat x8):Nat):Int)))),(.n (.int .i64 x5)),(.n (.str (ByteArray.extract x0 (Int.toNat 9) (Int.toNat (IntKind.wrap .i64 (9+(IntKind.wrap .i64 ((IntKind.wrap .i64 (256*(IntKind.wrap .i64 (((UInt8.toNat x2):Nat):Int))))+(IntKind.wrap .i64 (((UInt8.toNat x3):Nat):Int))))))))))]),(.n (.int .i64 0))]))))))))))))))))))))))))))))))
def V95e (a0:ByteArray) (R:Mir.AV→Prop):=PLift.up (by delta V95 qC_ qj_ qn_ qH_ qG_ qD_ qF_ qk_ qE_;exact rfl:V95 a0 R=_)
theorem vc95 (a0:ByteArray) (R:Mir.AV→Prop):Vc Fs c95.body (argsQ c95 [(.n (.str a0))]) [] (endQ c95 R)=V95 a0 R:=by kernel_rfl
def V170 (a0:LD) (a1:Int) (R:Mir.AV→Prop):Prop:=
 (∃x0:(LD→qw_),(∃x1:(LD→(Int→(Int→(Int→Nat)))),(((rh [])∧(x0 a0 a1 (a0.length:Int) 0))∧(∀x2:LD,(∀x3:Int,(∀x4:Int,(∀x5:Int,((x0 x2 x3 x4 x5)→(∀x6:(Nat→Mir.AV),(sel (decide (x5<x4)) ((rn 1)∧((0:Int)≤x5)∧(∃x7:Mir.D,((qv_ x2 x5 x7)∧(∃x8:Int,(((D.cells x7)[0]?=some (Mir.D.int .i64 x8))∧(sel (x3==x8) (R (.n (.int .i64 x5))) ((rh [])∧(x0 x2 x3 x4 (IntKind.wrap .i64 (x5+1)))∧(((x1 x2 x3 x4 (IntKind.wrap .i64 (x5+1))):Nat)<(x1 x2 x3 x4 x5))))))))) (R (.n (.int .i64 (-1))))))))))))))
def V170e (a0:LD) (a1:Int) (R:Mir.AV→Prop):=PLift.up (by delta V170 qw_ qv_;exact rfl:V170 a0 a1 R=_)
theorem vc170 (a0:LD) (a1:Int) (R:Mir.AV→Prop):Vc Fs c170.body (argsQ c170 [(.o (.sl 1 a0)),(.n (.int .i64 a1))]) [] (endQ c170 R)=V170 a0 a1 R:=by kernel_rfl
abbrev qI_ (p0:Int):Mir.AV:=
 (.n (.bool (decide (p0≥0))))
def V136 (a0:LD) (a1:Int) (R:Mir.AV→Prop):Prop:=
 (∃x0:Int,((Runs Fs 170 [(aL a0),(aI a1)] [] (aI x0) [])∧(R (qI_ x0))))
def V136e (a0:LD) (a1:Int) (R:Mir.AV→Prop):=PLift.up (by delta V136 qI_;exact rfl:V136 a0 a1 R=_)
theorem vc136 (a0:LD) (a1:Int) (R:Mir.AV→Prop):Vc Fs c136.body (argsQ c136 [(.o (.sl 1 a0)),(.n (.int .i64 a1))]) [] (endQ c136 R)=V136 a0 a1 R:=by kernel_rfl
abbrev qJ_ (p0 p1:Int) (p2:ByteArray) (p3:Int):Mir.AV:=
 (.tup [(.agg [(aI p0),(aI p1),(aS p2)]),(aI p3)])
def V90 (a0:ByteArray) (a1:LD) (R:Mir.AV→Prop):Prop:=
 (∃x0:Int,(∃x1:Int,(∃x2:ByteArray,(∃x3:Int,((Runs Fs 135 [(aS a0)] [] (qJ_ x0 x1 x2 x3) [])∧(sel (x3 != 0) (R (.tup [qC_,(.n (.int .i64 x3))])) (∃x4:Bool,((Runs Fs 136 [(aL a1),(aI x0)] [] (aB x4) [])∧(sel (Bool.not x4) (qF_ R) (R (.tup [(.agg [(.n (.int .i64 x0)),(.n (.int .i64 x1)),(.n (.str x2))]),(.n (.int .i64 0))])))))))))))
def V90e (a0:ByteArray) (a1:LD) (R:Mir.AV→Prop):=PLift.up (by delta V90 qC_ qj_ qJ_ qF_ qk_;exact rfl:V90 a0 a1 R=_)
theorem vc90 (a0:ByteArray) (a1:LD) (R:Mir.AV→Prop):Vc Fs c90.body (argsQ c90 [(.n (.str a0)),(.o (.sl 1 a1))]) [] (endQ c90 R)=V90 a0 a1 R:=by kernel_rfl
abbrev qK_ (p0:Int) (p1:Mir.AV→Prop) (p2:ByteArray) (p3 p4:Int):=
 (sel (p0 != 0) (p1 (.tup [qj_,(.n (.int .i64 0)),(.n (.int .i64 p0))])) (sel (decide ((IntKind.wrap .i64 (qr_ p2 p3))<p4)) (p1 (.tup [qj_,(.n (.int .i64 0)),(.n (.int .i64 3))])) (((0:Int)≤(IntKind.wrap .i64 (p3+p4)))∧(((IntKind.wrap .i64 (p3+p4)):Int)≤(((ByteArray.size p2):Nat):Int))∧((0:Int)≤p3)∧((p3:Int)≤(((Int.toNat (IntKind.wrap .i64 (p3+p4))):Nat):Int))∧(p1 (.tup [(.n (.str (ByteArray.extract p2 (Int.toNat p3) (Int.toNat (IntKind.wrap .i64 (p3+p4)))))),(.n (.int .i64 (IntKind.wrap .i64 (p3+p4)))),(.n (.int .i64 0))])))))
def V245 (a0:ByteArray) (a1:Int) (R:Mir.AV→Prop):Prop:=
 (∃x0:Int,(∃x1:Int,(∃x2:Int,((Runs Fs 134 [(aS a0),(aI a1),(aI 2)] [] (qD_ x0 x1 x2) [])∧(qK_ x2 R a0 x1 x0)))))
def V245e (a0:ByteArray) (a1:Int) (R:Mir.AV→Prop):=PLift.up (by delta V245 qr_ qj_ qK_ qD_ qk_;exact rfl:V245 a0 a1 R=_)
theorem vc245 (a0:ByteArray) (a1:Int) (R:Mir.AV→Prop):Vc Fs c245.body (argsQ c245 [(.n (.str a0)),(.n (.int .i64 a1))]) [] (endQ c245 R)=V245 a0 a1 R:=by kernel_rfl
def V184 (a0:ByteArray) (a1:Int) (R:Mir.AV→Prop):Prop:=
 (∃x0:Int,(∃x1:Int,(∃x2:Int,((Runs Fs 139 [(aS a0),(aI a1),(aI 2)] [] (qD_ x0 x1 x2) [])∧(qK_ x2 R a0 x1 x0)))))
def V184e (a0:ByteArray) (a1:Int) (R:Mir.AV→Prop):=PLift.up (by delta V184 qr_ qj_ qK_ qD_ qk_;exact rfl:V184 a0 a1 R=_)
theorem vc184 (a0:ByteArray) (a1:Int) (R:Mir.AV→Prop):Vc Fs c184.body (argsQ c184 [(.n (.str a0)),(.n (.int .i64 a1))]) [] (endQ c184 R)=V184 a0 a1 R:=by kernel_rfl
def V167 (a0:Int) (R:Mir.AV→Prop):Prop:=
 (∃x0:qw_,(∃x1:(Int→(Int→(Int→Nat))),(((rh [])∧(x0 a0 1 0))∧(∀x2:Int,(∀x3:Int,(∀x4:Int,((x0 x2 x3 x4)→(∀x5:(Nat→Mir.AV),(sel (decide (x4<x2)) ((rh [])∧(x0 x2 (IntKind.wrap .i64 (x3*256)) (IntKind.wrap .i64 (x4+1)))∧(((x1 x2 (IntKind.wrap .i64 (x3*256)) (IntKind.wrap .i64 (x4+1))):Nat)<(x1 x2 x3 x4))) (R (.n (.int .i64 x3))))))))))))
def V167e (a0:Int) (R:Mir.AV→Prop):=PLift.up (by delta V167 qw_;exact rfl:V167 a0 R=_)
theorem vc167 (a0:Int) (R:Mir.AV→Prop):Vc Fs c167.body (argsQ c167 [(.n (.int .i64 a0))]) [] (endQ c167 R)=V167 a0 R:=by kernel_rfl
abbrev qL_:=
 (Nat→(Int→((Nat×LD)→Prop)))
abbrev qM_:=
 (Nat→(Int→((Nat×LD)→Nat)))
abbrev qN_ (p0:(Nat×LD)) (p1:Nat):=
 (((qf_ p0 p1)∧(rn 5))∧(rn 1))
def V129 (a0:Int) (a1:Int) (R:Mir.AV→Prop):Prop:=
 (sel (decide (a1<1)) (qb_ R) (sel (decide (a1 > 6)) (qb_ R) (sel (decide (a0<0)) (qb_ R) (∃x0:Int,((Runs Fs 167 [(aI a1)] [] (aI x0) [])∧(sel (decide (a0≥x0)) (qb_ R) (∃x1:(Int→qL_),(∃x2:(Int→qM_),(((rh [(12900300,(.row false true 0 5 1 []))])∧(x1 a0 0 (IntKind.wrap .i64 (a1 - 1)) (0,[])))∧(∀x3:Int,(∀x4:Nat,(∀x5:Int,(∀x6:(Nat×LD),((x1 x3 x4 x5 x6)→(∀x7:(Nat→Mir.AV),(sel (decide (x5≥0)) (∃x8:Int,((Runs Fs 167 [(aI x5)] [] (aI x8) [])∧((x8:Int)≠0)∧((256:Int)≠0)∧(rn 0)∧((rn 1)∨(@Eq LD [(Mir.D.int .u8 (IntKind.wrap .u8 (Int.tmod (IntKind.wrap .i64 (Int.tdiv x3 x8)) 256)))] []))∧(qN_ x6 x4)∧(((((List.length (Prod.snd x6))+(List.length [(Mir.D.int .u8 (IntKind.wrap .u8 (Int.tmod (IntKind.wrap .i64 (Int.tdiv x3 x8)) 256)))]))*1):Nat)≤140737488355328)∧(rh [(12900300,(.row false true (x4+1) 5 1 ((Prod.snd x6)++[(Mir.D.int .u8 (IntKind.wrap .u8 (Int.tmod (IntKind.wrap .i64 (Int.tdiv x3 x8)) 256)))])))])∧(x1 x3 (x4+1) (IntKind.wrap .i64 (x5 - 1)) ((x4+1),((Prod.snd x6)++[(Mir.D.int .u8 (IntKind.wrap .u8 (Int.tmod (IntKind.wrap .i64 (Int.tdiv x3 x8)) 256)))])))∧(((x2 x3 (x4+1) (IntKind.wrap .i64 (x5 - 1)) ((x4+1),((Prod.snd x6)++[(Mir.D.int .u8 (IntKind.wrap .u8 (Int.tmod (IntKind.wrap .i64 (Int.tdiv x3 x8)) 256)))]))):Nat)<(x2 x3 x4 x5 x6)))) ((qf_ x6 x4)∧(qg_ x6)∧(qh_ x6)∧(R (.tup [(.n (.str (qi_ x6))),(.n (.int .i64 0))])))))))))))))))))))
def V129e (a0:Int) (a1:Int) (R:Mir.AV→Prop):=PLift.up (by delta V129 qh_ qf_ qj_ qN_ qi_ qg_ qb_ qL_ qk_ qM_;exact rfl:V129 a0 a1 R=_)
theorem vc129 (a0:Int) (a1:Int) (R:Mir.AV→Prop):Vc Fs c129.body (argsQ c129 [(.n (.int .i64 a0)),(.n (.int .i64 a1))]) [] (endQ c129 R)=V129 a0 a1 R:=by kernel_rfl
abbrev qO_ (p0:ByteArray):=
 (Int.tdiv (((ByteArray.size p0):Nat):Int) 256)
abbrev qP_ (p0:ByteArray):=
 (Int.tmod (((ByteArray.size p0):Nat):Int) 256)
def V130 (a0:ByteArray) (R:Mir.AV→Prop):Prop:=
 (sel (decide ((((ByteArray.size a0):Nat):Int) > 65535)) (ql_ R) (((256:Int)≠0)∧((256:Int)≠0)∧(rn 0)∧((rn 1)∨(@Eq LD [(Mir.D.int .u8 (IntKind.wrap .u8 (IntKind.wrap .i64 (qO_ a0)))),(Mir.D.int .u8 (IntKind.wrap .u8 (qP_ a0)))] []))∧(((List.all [(Mir.D.int .u8 (IntKind.wrap .u8 (IntKind.wrap .i64 (qO_ a0)))),(Mir.D.int .u8 (IntKind.wrap .u8 (qP_ a0)))] Go.Mir.D.isU8):Bool)=true)∧((((((ByteArray.size (ByteArray.mk (List.toArray (List.map Go.Mir.byteOf [(Mir.D.int .u8 (IntKind.wrap .u8 (IntKind.wrap .i64 (qO_ a0)))),(Mir.D.int .u8 (IntKind.wrap .u8 (qP_ a0)))]))))+(ByteArray.size a0)):Nat):Int):Int)≤9223372036854775807)∧(R (.tup [(.n (.str ((ByteArray.mk (List.toArray (List.map Go.Mir.byteOf [(Mir.D.int .u8 (IntKind.wrap .u8 (IntKind.wrap .i64 (qO_ a0)))),(Mir.D.int .u8 (IntKind.wrap .u8 (qP_ a0)))])))++a0))),(.n (.int .i64 0))]))))
def V130e (a0:ByteArray) (R:Mir.AV→Prop):=PLift.up (by delta V130 qj_ qO_ qP_ ql_ qk_;exact rfl:V130 a0 R=_)
theorem vc130 (a0:ByteArray) (R:Mir.AV→Prop):Vc Fs c130.body (argsQ c130 [(.n (.str a0))]) [] (endQ c130 R)=V130 a0 R:=by kernel_rfl
def V84 (a0_0:Int) (a0_1:Int) (a0_2:ByteArray) (R:Mir.AV→Prop):Prop:=
 (∃x0:ByteArray,(∃x1:Int,((Runs Fs 129 [(aI a0_0),(aI 1)] [] (.tup [(aS x0),(aI x1)]) [])∧(∃x2:ByteArray,(∃x3:Int,((Runs Fs 129 [(aI a0_1),(aI 6)] [] (.tup [(aS x2),(aI x3)]) [])∧(∃x4:ByteArray,(∃x5:Int,((Runs Fs 130 [(aS a0_2)] [] (.tup [(aS x4),(aI x5)]) [])∧((((((ByteArray.size x0)+(ByteArray.size x2)):Nat):Int):Int)≤9223372036854775807)∧((((((ByteArray.size (x0++x2))+(ByteArray.size x4)):Nat):Int):Int)≤9223372036854775807)∧(∃x6:ByteArray,((Runs Fs 131 [(aS ((x0++x2)++x4))] [] (aS x6) [])∧(∃x7:ByteArray,((Runs Fs 103 [(aS x6)] [] (aS x7) [])∧(R (.n (.str x7))))))))))))))))
theorem vc84 (a0_0:Int) (a0_1:Int) (a0_2:ByteArray) (R:Mir.AV→Prop):Vc Fs c84.body (argsQ c84 [(.agg [(.n (.int .i64 a0_0)),(.n (.int .i64 a0_1)),(.n (.str a0_2))])]) [] (endQ c84 R)=V84 a0_0 a0_1 a0_2 R:=by kernel_rfl
def V86 (a0:ByteArray) (R:Mir.AV→Prop):Prop:=
 (sel (decide ((((ByteArray.size a0):Nat):Int)≤4096)) (∃x0:ByteArray,((qz_ a0 x0)∧(R (.n (.bool (qB_ x0 a0)))))) (R (.n (.bool false))))
def V86e (a0:ByteArray) (R:Mir.AV→Prop):=PLift.up (by delta V86 qB_ qz_;exact rfl:V86 a0 R=_)
theorem vc86 (a0:ByteArray) (R:Mir.AV→Prop):Vc Fs c86.body (argsQ c86 [(.n (.str a0))]) [] (endQ c86 R)=V86 a0 R:=by kernel_rfl
def V186 (a0:LD) (a1:Int) (R:Mir.AV→Prop):Prop:=
 ((rn 1)∧((0:Int)≤(mmI false (IntKind.wrap .i64 ((IntKind.wrap .i64 (a1+1))*512)) (a0.length:Int)))∧(((mmI false (IntKind.wrap .i64 ((IntKind.wrap .i64 (a1+1))*512)) (a0.length:Int)):Int)≤(a0.length:Int))∧((0:Int)≤(mmI false (IntKind.wrap .i64 ((IntKind.wrap .i64 (a1+1))*512)) (a0.length:Int)))∧(((mmI false (IntKind.wrap .i64 ((IntKind.wrap .i64 (a1+1))*512)) (a0.length:Int)):Int)≤(((Int.toNat (mmI false (IntKind.wrap .i64 ((IntKind.wrap .i64 (a1+1))*512)) (a0.length:Int))):Nat):Int))∧((0:Int)≤(mmI false (IntKind.wrap .i64 (a1*512)) (a0.length:Int)))∧(((mmI false (IntKind.wrap .i64 (a1*512)) (a0.length:Int)):Int)≤(((Int.toNat (mmI false (IntKind.wrap .i64 ((IntKind.wrap .i64 (a1+1))*512)) (a0.length:Int))):Nat):Int))∧((rn 1)∨(@Eq LD (List.drop (Int.toNat (mmI false (IntKind.wrap .i64 (a1*512)) (a0.length:Int))) (List.take (Int.toNat (mmI false (IntKind.wrap .i64 ((IntKind.wrap .i64 (a1+1))*512)) (a0.length:Int))) a0)) []))∧(((List.all (List.drop (Int.toNat (mmI false (IntKind.wrap .i64 (a1*512)) (a0.length:Int))) (List.take (Int.toNat (mmI false (IntKind.wrap .i64 ((IntKind.wrap .i64 (a1+1))*512)) (a0.length:Int))) a0)) Go.Mir.D.isU8):Bool)=true)∧(R (.n (.str (ByteArray.mk (List.toArray (List.map Go.Mir.byteOf (List.drop (Int.toNat (mmI false (IntKind.wrap .i64 (a1*512)) (a0.length:Int))) (List.take (Int.toNat (mmI false (IntKind.wrap .i64 ((IntKind.wrap .i64 (a1+1))*512)) (a0.length:Int))) a0)))))))))
theorem vc186 (a0:LD) (a1:Int) (R:Mir.AV→Prop):Vc Fs c186.body (argsQ c186 [(.o (.sl 1 a0)),(.n (.int .i64 a1))]) [] (endQ c186 R)=V186 a0 a1 R:=by kernel_rfl
abbrev qQ_ (p0:ByteArray) (p1:(Nat×LD)) (p2:Nat) (p3 p4:ByteArray) (p5:Int) (p6:qL_) (p7:Int) (p8:qM_):=
 (∃x8:ByteArray,(∃x9:Int,((Runs Fs 156 [(aS p0),(aI 512)] [] (.tup [(aS x8),(aI x9)]) [])∧(qN_ p1 p2)∧((((List.length (Prod.snd p1))+(ByteArray.size x8)):Nat)≤140737488355328)∧(rq (aS p3))∧(rq (aS p4))∧(rq (aI p5))∧(rh [(12000902,(.row false true (p2+1) 5 1 ((Prod.snd p1)++(Go.Mir.bytesD x8))))])∧(p6 (p2+1) (IntKind.wrap .i64 (p7+1)) ((p2+1),((Prod.snd p1)++(Go.Mir.bytesD x8))))∧(((p8 (p2+1) (IntKind.wrap .i64 (p7+1)) ((p2+1),((Prod.snd p1)++(Go.Mir.bytesD x8)))):Nat)<(p8 p2 p7 p1)))))
def V120 (a0:ByteArray) (a1:ByteArray) (a2:Int) (R:Mir.AV→Prop):Prop:=
 (∃x0:qL_,(∃x1:qM_,(((rh [(12000902,(.row false true 0 5 1 []))])∧(x0 0 0 (0,[])))∧(∀x2:Nat,(∀x3:Int,(∀x4:(Nat×LD),((x0 x2 x3 x4)→(∀x5:(Nat→Mir.AV),(sel (decide (x3<8)) (∃x6:ByteArray,((Runs Fs 155 [(aS a0),(aI x3)] [] (aS x6) [])∧((0:Int)≤x3)∧(sel ((IntKind.wrap .i64 (((BitVec.toNat (HAnd.hAnd (BitVec.ofInt (Go.IntKind.bits .i64) (Int.fdiv a2 (2 ^ (Min.min (Int.toNat x3) (Go.IntKind.bits .i64))))) (BitVec.ofInt (Go.IntKind.bits .i64) 1))):Nat):Int))==1) (∃x7:ByteArray,((Runs Fs 155 [(aS a1),(aI x3)] [] (aS x7) [])∧(qQ_ x7 x4 x2 a0 a1 a2 x0 x3 x1))) (qQ_ x6 x4 x2 a0 a1 a2 x0 x3 x1)))) ((qf_ x4 x2)∧(qg_ x4)∧(qh_ x4)∧(∃x12:ByteArray,((Runs Fs 81 [(aS (qi_ x4))] [] (aS x12) [])∧(R (.n (.str x12)))))))))))))))
def V120e (a0:ByteArray) (a1:ByteArray) (a2:Int) (R:Mir.AV→Prop):=PLift.up (by delta V120 qh_ qf_ qN_ qi_ qg_ qL_ qQ_ qM_;exact rfl:V120 a0 a1 a2 R=_)
theorem vc120 (a0:ByteArray) (a1:ByteArray) (a2:Int) (R:Mir.AV→Prop):Vc Fs c120.body (argsQ c120 [(.n (.str a0)),(.n (.str a1)),(.n (.int .i64 a2))]) [] (endQ c120 R)=V120 a0 a1 a2 R:=by kernel_rfl
def V155 (a0:ByteArray) (a1:Int) (R:Mir.AV→Prop):Prop:=
 (sel (decide (a1<0)) (R qj_) (sel (decide (a1≥8)) (R qj_) (∃x0:ByteArray,((Runs Fs 186 [(aL (Go.Mir.bytesD a0)),(aI a1)] [] (aS x0) [])∧(∃x1:ByteArray,((qz_ x0 x1)∧(R (.n (.str x1)))))))))
def V155e (a0:ByteArray) (a1:Int) (R:Mir.AV→Prop):=PLift.up (by delta V155 qj_ qz_ qk_;exact rfl:V155 a0 a1 R=_)
theorem vc155 (a0:ByteArray) (a1:Int) (R:Mir.AV→Prop):Vc Fs c155.body (argsQ c155 [(.n (.str a0)),(.n (.int .i64 a1))]) [] (endQ c155 R)=V155 a0 a1 R:=by kernel_rfl
abbrev qR_ (p0:LD):=
 (decide ((p0.length:Int) > 2048))
abbrev qS_ (p0 p1:LD):List Mir.AV:=
 [(aL p0),(.o (Mir.D.sl 2 p1))]
abbrev qT_ (p0:LD):=
 (hB 4100103 [(aI (p0.length:Int))])
abbrev qU_ (p0:Int) (p1:LD):=
 (decide (p0<(p1.length:Int)))
abbrev qV_ (p0:LD):=
 (rq (aI (p0.length:Int)))
def V41 (a0_0:LD) (a0_1:LD) (R:Mir.AV→Prop):Prop:=
 (sel (decide ((a0_0.length:Int)<1)) (R (.n (.bool false))) (sel (qR_ a0_0) (R (.n (.bool false))) (sel (qR_ a0_1) (R (.n (.bool false))) (∃x0:(Int→Prop),(∃x1:(Int→Nat),(((rh [(hB 4100000 (qS_ a0_0 a0_1)),(qT_ a0_0)])∧(x0 0))∧(∀x2:Int,((x0 x2)→(∀x3:(Nat→Mir.AV),(sel (qU_ x2 a0_0) ((rn 1)∧((0:Int)≤x2)∧(∃x4:Mir.D,((qv_ a0_0 x2 x4)∧(∃x5:ByteArray,((qx_ x4 x5)∧(∃x6:Bool,((Runs Fs 86 [(aS x5)] [] (aB x6) [])∧(sel (Bool.not x6) (R (.n (.bool false))) ((rq (.ptr 4100000 0))∧(rq (.ptr 4100103 0))∧(rq (aL a0_0))∧(qV_ a0_0)∧(rh [(hB 4100000 (qS_ a0_0 a0_1)),(qT_ a0_0)])∧(x0 (IntKind.wrap .i64 (x2+1)))∧(((x1 (IntKind.wrap .i64 (x2+1))):Nat)<(x1 x2))))))))))) (∃x7:Bool,((Runs Fs 87 [(.o (Mir.D.sl 2 a0_1)),(.fn 88 [(.ptr 4100103 0)])] [(qT_ a0_0)] (aB x7) [(qT_ a0_0)])∧(R (.n (.bool (Bool.not x7))))))))))))))))
def V41e (a0_0:LD) (a0_1:LD) (R:Mir.AV→Prop):=PLift.up (by delta V41 qT_ qU_ qV_ qR_ qv_ qx_ qS_;exact rfl:V41 a0_0 a0_1 R=_)
theorem vc41 (a0_0:LD) (a0_1:LD) (R:Mir.AV→Prop):Vc Fs c41.body (argsQ c41 [(.agg [(.o (.sl 1 a0_0)),(.o (.sl 2 a0_1))])]) [] (endQ c41 R)=V41 a0_0 a0_1 R:=by kernel_rfl
abbrev qW_ (p0:Int):=
 (hB 4100103 [(.n (.int .i64 p0))])
def V88r (b:Int) (s:ByteArray) (n:Int) (R:Mir.AV→Heap→Prop):Prop:=
 (sel (decide (b<0)) (R (.n (.bool true)) [(qW_ n)]) (sel (decide (b≥n)) (R (.n (.bool true)) [(qW_ n)]) (∃x0:Bool,((Runs Fs 86 [(aS s)] [] (aB x0) [])∧(R (.n (.bool (Bool.not x0))) [(qW_ n)])))))
def V88re (b:Int) (s:ByteArray) (n:Int) (R:Mir.AV→Heap→Prop):=PLift.up (by delta V88r qW_;exact rfl:V88r b s n R=_)
theorem vc88r (b:Int) (s:ByteArray) (n:Int) (R:Mir.AV→Heap→Prop):Vc Fs c88.body (argsQ c88 [.agg [.n (.int .i64 b),.n (.str s)],.ptr 4100103 0]) [(4100103,.box [.n (.int .i64 n)])] (endQH c88 [(4100103,.box [.n (.int .i64 n)])] R)=V88r b s n R:=by kernel_rfl
abbrev qX_ (p0:Mir.D) (p1:Int) (p2:ByteArray):=
 (@Eq LD (List.take 2 (D.cells p0)) [(Mir.D.int .i64 p1),(Mir.D.str p2)])
abbrev qY_ (p0:Mir.D):=
 ((2:Nat)≤(List.length (D.cells p0)))
def V133r (els:LD) (n:Int) (R:Mir.AV→Heap→Prop):Prop:=
 (∃x0:(Int→Prop),(∃x1:(Int→Nat),(((rh [(hB 4100103 [(aI n)])])∧(x0 0))∧(∀x2:Int,((x0 x2)→(∀x3:(Nat→Mir.AV),(sel (qU_ x2 els) ((rn 2)∧((0:Int)≤x2)∧(∃x4:Mir.D,((qv_ els x2 x4)∧(∃x5:Int,(∃x6:ByteArray,((qX_ x4 x5 x6)∧(qY_ x4)∧(∃x7:Bool,((Runs Fs 88 [(.agg [(aI x5),(aS x6)]),(.ptr 4100103 0)] [(hB 4100103 [(aI n)])] (aB x7) [(hB 4100103 [(aI n)])])∧(sel x7 (R (.n (.int .i64 x2)) [(qW_ n)]) ((rq (.o (Mir.D.sl 2 els)))∧(rq (.fn 88 [(.ptr 4100103 0)]))∧(qV_ els)∧(rh [(hB 4100103 [(aI n)])])∧(x0 (IntKind.wrap .i64 (x2+1)))∧(((x1 (IntKind.wrap .i64 (x2+1))):Nat)<(x1 x2)))))))))))) (R (.n (.int .i64 (-1))) [(qW_ n)]))))))))
def V133re (els:LD) (n:Int) (R:Mir.AV→Heap→Prop):=PLift.up (by delta V133r qX_ qY_ qU_ qv_ qV_ qW_;exact rfl:V133r els n R=_)
theorem vc133r (els:LD) (n:Int) (R:Mir.AV→Heap→Prop):Vc Fs c133.body (argsQ c133 [.o (.sl 2 els),.fn 88 [.ptr 4100103 0]]) [(4100103,.box [.n (.int .i64 n)])] (endQH c133 [(4100103,.box [.n (.int .i64 n)])] R)=V133r els n R:=by kernel_rfl
def V87r (els:LD) (n:Int) (R:Mir.AV→Heap→Prop):Prop:=
 (∃x0:Int,((Runs Fs 133 [(.o (Mir.D.sl 2 els)),(.fn 88 [(.ptr 4100103 0)])] [(hB 4100103 [(aI n)])] (aI x0) [(hB 4100103 [(aI n)])])∧(R (qI_ x0) [(qW_ n)])))
def V87re (els:LD) (n:Int) (R:Mir.AV→Heap→Prop):=PLift.up (by delta V87r qI_ qW_;exact rfl:V87r els n R=_)
theorem vc87r (els:LD) (n:Int) (R:Mir.AV→Heap→Prop):Vc Fs c87.body (argsQ c87 [.o (.sl 2 els),.fn 88 [.ptr 4100103 0]]) [(4100103,.box [.n (.int .i64 n)])] (endQH c87 [(4100103,.box [.n (.int .i64 n)])] R)=V87r els n R:=by kernel_rfl
abbrev qZ_ (p0:Mir.AV→Prop):=
 (p0 (.tup [(.n (.int .i64 0)),qj_,(.n (.int .i64 4))]))
def V93 (a0:ByteArray) (a1:Int) (R:Mir.AV→Prop):Prop:=
 ((0=0)∧(∃x0:Int,(∃x1:Int,(∃x2:ByteArray,(∃x3:Int,((Runs Fs 90 [(aS a0),(aL [(Mir.D.int .i64 5)])] [] (qJ_ x0 x1 x2 x3) [])∧(sel (x3 != 0) (R (.tup [(.n (.int .i64 0)),qj_,(.n (.int .i64 x3))])) (∃x4:Int,(∃x5:Int,(∃x6:Int,((Runs Fs 134 [(aS x2),(aI 0),(aI 1)] [] (qD_ x4 x5 x6) [])∧(sel (x6 != 0) (qZ_ R) (sel (x1 != a1) (qZ_ R) (sel (decide ((IntKind.wrap .i64 (qr_ x2 x5)) > 480)) (qZ_ R) (sel (decide (x4≥8)) (qZ_ R) (((0:Int)≤x5)∧((x5:Int)≤(((ByteArray.size x2):Nat):Int))∧(R (.tup [(.n (.int .i64 x4)),(.n (.str (ByteArray.extract x2 (Int.toNat x5) (ByteArray.size x2)))),(.n (.int .i64 0))]))))))))))))))))))
def V93e (a0:ByteArray) (a1:Int) (R:Mir.AV→Prop):=PLift.up (by delta V93 qr_ qj_ qZ_ qJ_ qD_ qk_;exact rfl:V93 a0 a1 R=_)
theorem vc93 (a0:ByteArray) (a1:Int) (R:Mir.AV→Prop):Vc Fs c93.body (argsQ c93 [(.n (.str a0)),(.n (.int .i64 a1))]) [] (endQ c93 R)=V93 a0 a1 R:=by kernel_rfl
abbrev q0_:Mir.AV:=
 (.agg [(.n (.int .i64 0)),(.n (.int .i64 0)),(.n (.int .i64 0)),(.n (.int .i64 0))])
abbrev q9_:=
 (Int×(Int×(Int×(Unit))))
abbrev q1_:=
 (Int×q9_)
abbrev q2_:=
 (Int×(Int×(ByteArray×(Unit))))
abbrev q3_:List Mir.AV:=
 [(aI 0),(aI 0),(aI 0),(aI 0)]
abbrev q4_ (p0:Mir.AV→Prop):=
 (p0 (.tup [q0_,(.n (.int .i64 4))]))
abbrev q5_:=
 (rq (.agg [(.ptr 8900403 1),(.ptr 8900403 2),(.ptr 8900403 3)]))
abbrev q6_ (p0:q1_):=
 (hB 8900000 [(aI p0.1),(aI p0.2.1),(aI p0.2.2.1),(aI p0.2.2.2.1)])
abbrev q7_ (p0:q2_):=
 (hB 8900106 [(aI p0.1),(aI p0.2.1),(aS p0.2.2.1)])
abbrev q8_ (p0:q1_):Mir.AV:=
 (.agg [(.n (.int .i64 p0.1)),(.n (.int .i64 p0.2.1)),(.n (.int .i64 p0.2.2.1)),(.n (.int .i64 p0.2.2.2.1))])
def V89 (a0:ByteArray) (R:Mir.AV→Prop):Prop:=
 ((0=0)∧(∃x0:Int,(∃x1:Int,(∃x2:ByteArray,(∃x3:Int,((Runs Fs 90 [(aS a0),(aL [(Mir.D.int .i64 4)])] [] (qJ_ x0 x1 x2 x3) [])∧(sel (x3 != 0) (R (.tup [q0_,(.n (.int .i64 x3))])) (∃x4:(Int→(Int→(q1_→(q2_→(q1_→Prop))))),(∃x5:(Int→(Int→(q1_→(q2_→(q1_→Nat))))),(((rh [(hB 8900000 q3_),(8900101,(.row false true 0 3 1 [(Mir.D.int .i64 4)])),(hB 8900106 [(aI x0),(aI x1),(aS x2)]),(hB 8900403 [(aI x1),(aI 0),(aI 0),(aI 0)])])∧(x4 0 0 (0,(0,(0,(0,())))) (x0,(x1,(x2,()))) (x1,(0,(0,(0,()))))))∧(∀x6:Int,(∀x7:Int,(∀x8:q1_,(∀x9:q2_,(∀x10:q1_,((x4 x6 x7 x8 x9 x10)→(∀x11:(Nat→Mir.AV),(sel (decide (x7<3)) (((0:Int)≤x7)∧((x7:Int)<((3:Nat):Int))∧(sel (x7==((0:Nat):Int)) (∃x12:Int,(∃x13:Int,(∃x14:Int,((Runs Fs 134 [(aS x9.2.2.1),(aI x6),(aI 2)] [] (qD_ x12 x13 x14) [])∧(sel (x14 != 0) (q4_ R) ((rq (.ptr 8900000 0))∧(rq (.ptr 8900106 0))∧(rq (.ptr 8900403 0))∧q5_∧(rh [(q6_ x8),(8900101,(.row false true 0 3 1 [(Mir.D.int .i64 4)])),(q7_ x9),(hB 8900403 [(aI x10.1),(aI x12),(aI x10.2.2.1),(aI x10.2.2.2.1)])])∧(x4 x13 (IntKind.wrap .i64 (x7+1)) (x8.1,(x8.2.1,(x8.2.2.1,(x8.2.2.2.1,())))) (x9.1,(x9.2.1,(x9.2.2.1,()))) (x10.1,(x12,(x10.2.2.1,(x10.2.2.2.1,())))))∧(((x5 x13 (IntKind.wrap .i64 (x7+1)) (x8.1,(x8.2.1,(x8.2.2.1,(x8.2.2.2.1,())))) (x9.1,(x9.2.1,(x9.2.2.1,()))) (x10.1,(x12,(x10.2.2.1,(x10.2.2.2.1,()))))):Nat)<(x5 x6 x7 x8 x9 x10)))))))) (sel (x7==(((0+1):Nat):Int)) (∃x15:Int,(∃x16:Int,(∃x17:Int,((Runs Fs 134 [(aS x9.2.2.1),(aI x6),(aI 2)] [] (qD_ x15 x16 x17) [])∧(sel (x17 != 0) (q4_ R) ((rq (.ptr 8900000 0))∧(rq (.ptr 8900106 0))∧(rq (.ptr 8900403 0))∧q5_∧(rh [(q6_ x8),(8900101,(.row false true 0 3 1 [(Mir.D.int .i64 4)])),(q7_ x9),(hB 8900403 [(aI x10.1),(aI x10.2.1),(aI x15),(aI x10.2.2.2.1)])])∧(x4 x16 (IntKind.wrap .i64 (x7+1)) (x8.1,(x8.2.1,(x8.2.2.1,(x8.2.2.2.1,())))) (x9.1,(x9.2.1,(x9.2.2.1,()))) (x10.1,(x10.2.1,(x15,(x10.2.2.2.1,())))))∧(((x5 x16 (IntKind.wrap .i64 (x7+1)) (x8.1,(x8.2.1,(x8.2.2.1,(x8.2.2.2.1,())))) (x9.1,(x9.2.1,(x9.2.2.1,()))) (x10.1,(x10.2.1,(x15,(x10.2.2.2.1,()))))):Nat)<(x5 x6 x7 x8 x9 x10)))))))) (sel (x7==((((0+1)+1):Nat):Int)) (∃x18:Int,(∃x19:Int,(∃x20:Int,((Runs Fs 134 [(aS x9.2.2.1),(aI x6),(aI 2)] [] (qD_ x18 x19 x20) [])∧(sel (x20 != 0) (q4_ R) ((rq (.ptr 8900000 0))∧(rq (.ptr 8900106 0))∧(rq (.ptr 8900403 0))∧q5_∧(rh [(q6_ x8),(8900101,(.row false true 0 3 1 [(Mir.D.int .i64 4)])),(q7_ x9),(hB 8900403 [(aI x10.1),(aI x10.2.1),(aI x10.2.2.1),(aI x18)])])∧(x4 x19 (IntKind.wrap .i64 (x7+1)) (x8.1,(x8.2.1,(x8.2.2.1,(x8.2.2.2.1,())))) (x9.1,(x9.2.1,(x9.2.2.1,()))) (x10.1,(x10.2.1,(x10.2.2.1,(x18,())))))∧(((x5 x19 (IntKind.wrap .i64 (x7+1)) (x8.1,(x8.2.1,(x8.2.2.1,(x8.2.2.2.1,())))) (x9.1,(x9.2.1,(x9.2.2.1,()))) (x10.1,(x10.2.1,(x10.2.2.1,(x18,()))))):Nat)<(x5 x6 x7 x8 x9 x10)))))))) False)))) (sel (x6 != (((ByteArray.size x9.2.2.1):Nat):Int)) (q4_ R) (∃x21:Bool,((Runs Fs 66 [(.agg [(aI x10.1),(aI x10.2.1),(aI x10.2.2.1),(aI x10.2.2.2.1)])] [] (aB x21) [])∧(sel (Bool.not x21) (q4_ R) (R (.tup [(q8_ x10),(.n (.int .i64 0))]))))))))))))))))))))))))
def V89e (a0:ByteArray) (R:Mir.AV→Prop):=PLift.up (by delta V89 q0_ q8_ q3_ q5_ q4_ qJ_ q2_ q9_ qD_ q1_ q7_ q6_;exact rfl:V89 a0 R=_)
theorem vc89 (a0:ByteArray) (R:Mir.AV→Prop):Vc Fs c89.body (argsQ c89 [(.n (.str a0))]) [] (endQ c89 R)=V89 a0 R:=by kernel_rfl
abbrev qba_ (p0:LD) (p1:q1_) (p2:(Int→(Int→(q1_→Prop)))) (p3 p4:Int) (p5:(Int→(Int→(q1_→Nat)))):=
 ((rq (.ptr 4200000 0))∧(rq (.ptr 4200101 0))∧(rq (aL p0))∧(rq (aI (p0.length:Int)))∧(rh [(hB 4200000 q3_),(hB 4200101 [(aI p1.1),(aI p1.2.1),(aI p1.2.2.1),(aI p1.2.2.2.1)])])∧(p2 p3 (IntKind.wrap .i64 (p4+1)) (p1.1,(p1.2.1,(p1.2.2.1,(p1.2.2.2.1,())))))∧(((p5 p3 (IntKind.wrap .i64 (p4+1)) (p1.1,(p1.2.1,(p1.2.2.1,(p1.2.2.2.1,()))))):Nat)<(p5 p3 p4 p1)))
def V42 (a0:LD) (R:Mir.AV→Prop):Prop:=
 (∃x0:(Int→(Int→(q1_→Prop))),(∃x1:(Int→(Int→(q1_→Nat))),(((rh [(hB 4200000 q3_),(hB 4200101 q3_)])∧(x0 (-1) 0 (0,(0,(0,(0,()))))))∧(∀x2:Int,(∀x3:Int,(∀x4:q1_,((x0 x2 x3 x4)→(∀x5:(Nat→Mir.AV),(sel (qU_ x3 a0) ((rn 1)∧((0:Int)≤x3)∧(∃x6:Mir.D,((qv_ a0 x3 x6)∧(∃x7:ByteArray,((qx_ x6 x7)∧(∃x8:Int,(∃x9:Int,(∃x10:Int,(∃x11:Int,(∃x12:Int,((Runs Fs 89 [(aS x7)] [] (.tup [(.agg [(aI x8),(aI x9),(aI x10),(aI x11)]),(aI x12)]) [])∧(sel (x12==0) (sel (decide (x8 > x4.1)) ((rq (.ptr 4200000 0))∧(rq (.ptr 4200101 0))∧(rq (aL a0))∧(rq (aI (a0.length:Int)))∧(rh [(hB 4200000 q3_),(hB 4200101 [(aI x8),(aI x9),(aI x10),(aI x11)])])∧(x0 x3 (IntKind.wrap .i64 (x3+1)) (x8,(x9,(x10,(x11,())))))∧(((x1 x3 (IntKind.wrap .i64 (x3+1)) (x8,(x9,(x10,(x11,()))))):Nat)<(x1 x2 x3 x4))) (qba_ a0 x4 x0 x2 x3 x1)) (qba_ a0 x4 x0 x2 x3 x1))))))))))))) (sel (decide (x2<0)) (R (.tup [q0_,(.n (.int .i64 0)),(.n (.int .i64 120))])) (R (.tup [(q8_ x4),(.n (.int .i64 x2)),(.n (.int .i64 0))]))))))))))))
def V42e (a0:LD) (R:Mir.AV→Prop):=PLift.up (by delta V42 q0_ qba_ q8_ qU_ q3_ q9_ qv_ q1_ qx_;exact rfl:V42 a0 R=_)
theorem vc42 (a0:LD) (R:Mir.AV→Prop):Vc Fs c42.body (argsQ c42 [(.o (.sl 1 a0))]) [] (endQ c42 R)=V42 a0 R:=by kernel_rfl
abbrev qbb_ (p0 p1 p2 p3:Int):List Mir.AV:=
 [(.agg [(aI p0),(aI p1),(aI p2),(aI p3)])]
abbrev qbc_ (p0:Int) (p1:ByteArray) (p2:Int):=
 (Runs Fs 79 [(aI p0),(aI 2)] [] (.tup [(aS p1),(aI p2)]) [])
def V38 (a0_0:Int) (a0_1:Int) (a0_2:Int) (a0_3:Int) (R:Mir.AV→Prop):Prop:=
 (∃x0:Bool,((Runs Fs 66 (qbb_ a0_0 a0_1 a0_2 a0_3) [] (aB x0) [])∧(sel (Bool.not x0) (qb_ R) (∃x1:ByteArray,(∃x2:Int,((qbc_ a0_1 x1 x2)∧(∃x3:ByteArray,(∃x4:Int,((qbc_ a0_2 x3 x4)∧(∃x5:ByteArray,(∃x6:Int,((qbc_ a0_3 x5 x6)∧(0=0)∧(∃x7:ByteArray,((Runs Fs 83 [(aL [(Mir.D.str x1),(Mir.D.str x3),(Mir.D.str x5)])] [] (aS x7) [])∧(∃x8:ByteArray,(∃x9:Int,((Runs Fs 36 [(.agg [(aI 4),(aI a0_0),(aS x7)])] [] (.tup [(aS x8),(aI x9)]) [])∧(R (.tup [(.n (.str x8)),(.n (.int .i64 x9))])))))))))))))))))))
def V38e (a0_0:Int) (a0_1:Int) (a0_2:Int) (a0_3:Int) (R:Mir.AV→Prop):=PLift.up (by delta V38 qj_ qb_ qbb_ qk_ qbc_;exact rfl:V38 a0_0 a0_1 a0_2 a0_3 R=_)
theorem vc38 (a0_0:Int) (a0_1:Int) (a0_2:Int) (a0_3:Int) (R:Mir.AV→Prop):Vc Fs c38.body (argsQ c38 [(.agg [(.n (.int .i64 a0_0)),(.n (.int .i64 a0_1)),(.n (.int .i64 a0_2)),(.n (.int .i64 a0_3))])]) [] (endQ c38 R)=V38 a0_0 a0_1 a0_2 a0_3 R:=by kernel_rfl
abbrev qbd_ (p0 p1:Int) (p2:Mir.AV→Prop) (p3:Int):=
 (sel (decide (p0≥10)) (sel (decide (p0<p1)) (p2 (.n (.bool (p0 != p3)))) (p2 (.n (.bool false)))) (p2 (.n (.bool false))))
def V68 (a0_0:Int) (a0_1:Int) (a0_2:Int) (a0_3:Int) (R:Mir.AV→Prop):Prop:=
 (sel (decide (a0_0<1)) (R (.n (.bool false))) (sel (decide (a0_0 > 1099511627776)) (R (.n (.bool false))) (sel (decide (a0_3<24)) (R (.n (.bool false))) (sel (decide (a0_3 > 2048)) (R (.n (.bool false))) (sel (a0_1 != 0) (sel (decide (a0_1<10)) (R (.n (.bool false))) (sel (decide (a0_1≥a0_3)) (R (.n (.bool false))) (qbd_ a0_2 a0_3 R a0_1))) (qbd_ a0_2 a0_3 R a0_1))))))
def V68e (a0_0:Int) (a0_1:Int) (a0_2:Int) (a0_3:Int) (R:Mir.AV→Prop):=PLift.up (by delta V68 qbd_;exact rfl:V68 a0_0 a0_1 a0_2 a0_3 R=_)
theorem vc68 (a0_0:Int) (a0_1:Int) (a0_2:Int) (a0_3:Int) (R:Mir.AV→Prop):Vc Fs c68.body (argsQ c68 [(.agg [(.n (.int .i64 a0_0)),(.n (.int .i64 a0_1)),(.n (.int .i64 a0_2)),(.n (.int .i64 a0_3))])]) [] (endQ c68 R)=V68 a0_0 a0_1 a0_2 a0_3 R:=by kernel_rfl
abbrev qbf_ (p0 p1 p2 p3:Int):=
 (hB 6600000 [(aI p0),(aI p1),(aI p2),(aI p3)])
abbrev qbe_ (p0 p1 p2 p3:Int) (p4:Mir.AV→Prop):=
 (∃x0:Bool,((Runs Fs 110 [(aI p0),(.ptr 6600000 0)] [(qbf_ p1 p2 p0 p3)] (aB x0) [(qbf_ p1 p2 p0 p3)])∧(sel x0 (p4 (.n (.bool (p0 != p2)))) (p4 (.n (.bool false))))))
def V66 (a0_0:Int) (a0_1:Int) (a0_2:Int) (a0_3:Int) (R:Mir.AV→Prop):Prop:=
 (sel (decide (a0_0≥1)) (sel (decide (a0_0≤1099511627776)) (sel (decide (a0_3≥24)) (sel (decide (a0_3≤2048)) (sel (a0_1==0) (qbe_ a0_2 a0_0 a0_1 a0_3 R) (∃x1:Bool,((Runs Fs 110 [(aI a0_1),(.ptr 6600000 0)] [(qbf_ a0_0 a0_1 a0_2 a0_3)] (aB x1) [(qbf_ a0_0 a0_1 a0_2 a0_3)])∧(sel x1 (qbe_ a0_2 a0_0 a0_1 a0_3 R) (R (.n (.bool false))))))) (R (.n (.bool false)))) (R (.n (.bool false)))) (R (.n (.bool false)))) (R (.n (.bool false))))
def V66e (a0_0:Int) (a0_1:Int) (a0_2:Int) (a0_3:Int) (R:Mir.AV→Prop):=PLift.up (by delta V66 qbe_ qbf_;exact rfl:V66 a0_0 a0_1 a0_2 a0_3 R=_)
theorem vc66 (a0_0:Int) (a0_1:Int) (a0_2:Int) (a0_3:Int) (R:Mir.AV→Prop):Vc Fs c66.body (argsQ c66 [(.agg [(.n (.int .i64 a0_0)),(.n (.int .i64 a0_1)),(.n (.int .i64 a0_2)),(.n (.int .i64 a0_3))])]) [] (endQ c66 R)=V66 a0_0 a0_1 a0_2 a0_3 R:=by kernel_rfl
def V39 (a0_0:Int) (a0_1:Int) (a0_2:Int) (a0_3:Int) (R:Mir.AV→Prop):Prop:=
 (((256:Int)≠0)∧((256:Int)≠0)∧((256:Int)≠0)∧((256:Int)≠0)∧((256:Int)≠0)∧((256:Int)≠0)∧(rn 0)∧((rn 1)∨(@Eq LD [(Mir.D.int .u8 (IntKind.wrap .u8 (IntKind.wrap .i64 (Int.tdiv a0_1 256)))),(Mir.D.int .u8 (IntKind.wrap .u8 (Int.tmod a0_1 256))),(Mir.D.int .u8 (IntKind.wrap .u8 (IntKind.wrap .i64 (Int.tdiv a0_2 256)))),(Mir.D.int .u8 (IntKind.wrap .u8 (Int.tmod a0_2 256))),(Mir.D.int .u8 (IntKind.wrap .u8 (IntKind.wrap .i64 (Int.tdiv a0_3 256)))),(Mir.D.int .u8 (IntKind.wrap .u8 (Int.tmod a0_3 256)))] []))∧(((List.all [(Mir.D.int .u8 (IntKind.wrap .u8 (IntKind.wrap .i64 (Int.tdiv a0_1 256)))),(Mir.D.int .u8 (IntKind.wrap .u8 (Int.tmod a0_1 256))),(Mir.D.int .u8 (IntKind.wrap .u8 (IntKind.wrap .i64 (Int.tdiv a0_2 256)))),(Mir.D.int .u8 (IntKind.wrap .u8 (Int.tmod a0_2 256))),(Mir.D.int .u8 (IntKind.wrap .u8 (IntKind.wrap .i64 (Int.tdiv a0_3 256)))),(Mir.D.int .u8 (IntKind.wrap .u8 (Int.tmod a0_3 256)))] Go.Mir.D.isU8):Bool)=true)∧(∃x0:ByteArray,((Runs Fs 84 [(.agg [(aI 4),(aI a0_0),(aS (ByteArray.mk (List.toArray (List.map Go.Mir.byteOf [(Mir.D.int .u8 (IntKind.wrap .u8 (IntKind.wrap .i64 (Int.tdiv a0_1 256)))),(Mir.D.int .u8 (IntKind.wrap .u8 (Int.tmod a0_1 256))),(Mir.D.int .u8 (IntKind.wrap .u8 (IntKind.wrap .i64 (Int.tdiv a0_2 256)))),(Mir.D.int .u8 (IntKind.wrap .u8 (Int.tmod a0_2 256))),(Mir.D.int .u8 (IntKind.wrap .u8 (IntKind.wrap .i64 (Int.tdiv a0_3 256)))),(Mir.D.int .u8 (IntKind.wrap .u8 (Int.tmod a0_3 256)))]))))])] [] (aS x0) [])∧(R (.n (.str x0))))))
theorem vc39 (a0_0:Int) (a0_1:Int) (a0_2:Int) (a0_3:Int) (R:Mir.AV→Prop):Vc Fs c39.body (argsQ c39 [(.agg [(.n (.int .i64 a0_0)),(.n (.int .i64 a0_1)),(.n (.int .i64 a0_2)),(.n (.int .i64 a0_3))])]) [] (endQ c39 R)=V39 a0_0 a0_1 a0_2 a0_3 R:=by kernel_rfl
abbrev qbg_ (p0 p1:LD):=
 ((p0.length:Int) != (p1.length:Int))
abbrev qbh_ (p0 p1:LD) (p2:(Int→Prop)) (p3:Int) (p4:(Int→Nat)):=
 ((rq (aL p0))∧(rq (aL p1))∧(rq (aI (p0.length:Int)))∧(rh [])∧(p2 (IntKind.wrap .i64 (p3+1)))∧(((p4 (IntKind.wrap .i64 (p3+1))):Nat)<(p4 p3)))
def V50 (a0:LD) (a1:LD) (R:Mir.AV→Prop):Prop:=
 (sel (qbg_ a0 a1) (R (.n (.bool false))) (∃x0:(Int→Prop),(∃x1:(Int→Nat),(((rh [])∧(x0 0))∧(∀x2:Int,((x0 x2)→(∀x3:(Nat→Mir.AV),(sel (qU_ x2 a0) ((rn 1)∧((0:Int)≤x2)∧(∃x4:Mir.D,((qv_ a0 x2 x4)∧(∃x5:ByteArray,((qx_ x4 x5)∧(rn 1)∧((0:Int)≤x2)∧(∃x6:Mir.D,((qv_ a1 x2 x6)∧(∃x7:ByteArray,((qx_ x6 x7)∧(sel (Bool.not (qB_ x5 x7)) (R (.n (.bool false))) (qbh_ a0 a1 x0 x2 x1))))))))))) (R (.n (.bool true)))))))))))
def V50e (a0:LD) (a1:LD) (R:Mir.AV→Prop):=PLift.up (by delta V50 qbh_ qbg_ qU_ qB_ qv_ qx_;exact rfl:V50 a0 a1 R=_)
theorem vc50 (a0:LD) (a1:LD) (R:Mir.AV→Prop):Vc Fs c50.body (argsQ c50 [(.o (.sl 1 a0)),(.o (.sl 1 a1))]) [] (endQ c50 R)=V50 a0 a1 R:=by kernel_rfl
abbrev qbi_ (p0:ByteArray):=
 ((rn 1)∨(@Eq LD [(Mir.D.str p0)] []))
abbrev qbj_ (p0:(Nat×LD)) (p1:ByteArray):=
 (((((List.length (Prod.snd p0))+(List.length [(Mir.D.str p1)]))*16):Nat)≤140737488355328)
abbrev qbk_ (p0:(Nat×LD)) (p1:ByteArray):=
 ((Prod.snd p0)++[(Mir.D.str p1)])
def V45 (a0:Int) (a1:LD) (R:Mir.AV→Prop):Prop:=
 (∃x0:qL_,(∃x1:qM_,(((rh [(4500803,(.row false true 0 9 1 []))])∧(x0 0 0 (0,[])))∧(∀x2:Nat,(∀x3:Int,(∀x4:(Nat×LD),((x0 x2 x3 x4)→(∀x5:(Nat→Mir.AV),(sel (qU_ x3 a1) ((rn 1)∧((0:Int)≤x3)∧(∃x6:Mir.D,((qv_ a1 x3 x6)∧(∃x7:ByteArray,((qx_ x6 x7)∧(∃x8:Int,(∃x9:ByteArray,(∃x10:Int,((Runs Fs 93 [(aS x7),(aI a0)] [] (.tup [(aI x8),(aS x9),(aI x10)]) [])∧(sel (x10 != 0) (((Prod.fst x4)=x2)∧(R (.o (.sl 1 (Prod.snd x4))))) (sel (x8 != x3) (((Prod.fst x4)=x2)∧(R (.o (.sl 1 (Prod.snd x4))))) ((rn 0)∧(qbi_ x9)∧(((qf_ x4 x2)∧(rn 9))∧(rn 1))∧(qbj_ x4 x9)∧(rq (aI a0))∧(rq (aL a1))∧(rq (aI (a1.length:Int)))∧(rh [(4500803,(.row false true (x2+1) 9 1 (qbk_ x4 x9)))])∧(x0 (x2+1) (IntKind.wrap .i64 (x3+1)) ((x2+1),(qbk_ x4 x9)))∧(((x1 (x2+1) (IntKind.wrap .i64 (x3+1)) ((x2+1),(qbk_ x4 x9))):Nat)<(x1 x2 x3 x4)))))))))))))) (((Prod.fst x4)=x2)∧(R (.o (.sl 1 (Prod.snd x4))))))))))))))
def V45e (a0:Int) (a1:LD) (R:Mir.AV→Prop):=PLift.up (by delta V45 qv_ qf_ qL_ qU_ qbi_ qbk_ qbj_ qx_ qM_;exact rfl:V45 a0 a1 R=_)
theorem vc45 (a0:Int) (a1:LD) (R:Mir.AV→Prop):Vc Fs c45.body (argsQ c45 [(.n (.int .i64 a0)),(.o (.sl 1 a1))]) [] (endQ c45 R)=V45 a0 a1 R:=by kernel_rfl
abbrev qbl_ (p0 p1 p2 p3:Int):=
 (hB 6600000 [(.n (.int .i64 p0)),(.n (.int .i64 p1)),(.n (.int .i64 p2)),(.n (.int .i64 p3))])
def V110h (x:Int) (g:Int) (r:Int) (m:Int) (z:Int) (R:Mir.AV→Heap→Prop):Prop:=
 (sel (decide (x≥10)) (R (.n (.bool (decide (x<z)))) [(qbl_ g r m z)]) (R (.n (.bool false)) [(qbl_ g r m z)]))
def V110he (x:Int) (g:Int) (r:Int) (m:Int) (z:Int) (R:Mir.AV→Heap→Prop):=PLift.up (by delta V110h qbl_;exact rfl:V110h x g r m z R=_)
theorem vc110h (x:Int) (g:Int) (r:Int) (m:Int) (z:Int) (R:Mir.AV→Heap→Prop):Vc Fs c110.body (argsQ c110 [(.n (.int .i64 x)),(.ptr 6600000 0)]) [(6600000,.box [.n (.int .i64 g),.n (.int .i64 r),.n (.int .i64 m),.n (.int .i64 z)])] (endQH c110 [(6600000,.box [.n (.int .i64 g),.n (.int .i64 r),.n (.int .i64 m),.n (.int .i64 z)])] R)=V110h x g r m z R:=by kernel_rfl
abbrev qbm_ (p0 p1 p2 p3:LD):=
 (rh [(hB 1300000 (qS_ p0 p1)),(hB 1300001 (qS_ p2 p3))])
def V13 (a0_0:LD) (a0_1:LD) (a1_0:LD) (a1_1:LD) (R:Mir.AV→Prop):Prop:=
 (sel (qbg_ a0_0 a1_0) (R (.n (.bool false))) (sel (qbg_ a0_1 a1_1) (R (.n (.bool false))) (∃x0:(Int→Prop),(∃x1:(Int→Nat),(((qbm_ a0_0 a0_1 a1_0 a1_1)∧(x0 0))∧(∀x2:Int,((x0 x2)→(∀x3:(Nat→Mir.AV),(sel (qU_ x2 a0_0) ((rn 1)∧((0:Int)≤x2)∧(∃x4:Mir.D,((qv_ a0_0 x2 x4)∧(∃x5:ByteArray,((qx_ x4 x5)∧(rn 1)∧((0:Int)≤x2)∧(∃x6:Mir.D,((qv_ a1_0 x2 x6)∧(∃x7:ByteArray,((qx_ x6 x7)∧(sel (Bool.not (qB_ x5 x7)) (R (.n (.bool false))) ((rq (.ptr 1300000 0))∧(rq (.ptr 1300001 0))∧(qV_ a0_0)∧(qbm_ a0_0 a0_1 a1_0 a1_1)∧(x0 (IntKind.wrap .i64 (x2+1)))∧(((x1 (IntKind.wrap .i64 (x2+1))):Nat)<(x1 x2))))))))))))) (∃x8:(Int→Prop),(∃x9:(Int→Nat),(((qbm_ a0_0 a0_1 a1_0 a1_1)∧(x8 0))∧(∀x10:Int,((x8 x10)→(∀x11:(Nat→Mir.AV),(sel (qU_ x10 a0_1) ((rn 2)∧((0:Int)≤x10)∧(∃x12:Mir.D,((qv_ a0_1 x10 x12)∧(∃x13:Int,(∃x14:ByteArray,((qX_ x12 x13 x14)∧(qY_ x12)∧(rn 2)∧((0:Int)≤x10)∧(∃x15:Mir.D,((qv_ a1_1 x10 x15)∧(∃x16:Int,(∃x17:ByteArray,((qX_ x15 x16 x17)∧(qY_ x15)∧(sel (Bool.not ((x13==x16)&&((qB_ x14 x17)&&true))) (R (.n (.bool false))) ((rq (.ptr 1300000 0))∧(rq (.ptr 1300001 0))∧(qV_ a0_1)∧(qbm_ a0_0 a0_1 a1_0 a1_1)∧(x8 (IntKind.wrap .i64 (x10+1)))∧(((x9 (IntKind.wrap .i64 (x10+1))):Nat)<(x9 x10))))))))))))))) (R (.n (.bool true)))))))))))))))))))
def V13e (a0_0:LD) (a0_1:LD) (a1_0:LD) (a1_1:LD) (R:Mir.AV→Prop):=PLift.up (by delta V13 qv_ qX_ qY_ qU_ qbg_ qx_ qB_ qbm_ qV_ qS_;exact rfl:V13 a0_0 a0_1 a1_0 a1_1 R=_)
theorem vc13 (a0_0:LD) (a0_1:LD) (a1_0:LD) (a1_1:LD) (R:Mir.AV→Prop):Vc Fs c13.body (argsQ c13 [(.agg [(.o (.sl 1 a0_0)),(.o (.sl 2 a0_1))]),(.agg [(.o (.sl 1 a1_0)),(.o (.sl 2 a1_1))])]) [] (endQ c13 R)=V13 a0_0 a0_1 a1_0 a1_1 R:=by kernel_rfl
abbrev qbn_ (p0:Int) (p1:LD):=
 (decide (p0≥(p1.length:Int)))
def V22 (a0_0:LD) (a0_1:LD) (R:Mir.AV→Prop):Prop:=
 (sel (decide ((a0_0.length:Int)<1)) (R (.n (.bool false))) (sel (qR_ a0_0) (R (.n (.bool false))) (sel (qR_ a0_1) (R (.n (.bool false))) (∃x0:(Int→Prop),(∃x1:(Int→Nat),(((rh [(hB 2200000 (qS_ a0_0 a0_1))])∧(x0 0))∧(∀x2:Int,((x0 x2)→(∀x3:(Nat→Mir.AV),(sel (qU_ x2 a0_0) ((rn 1)∧((0:Int)≤x2)∧(∃x4:Mir.D,((qv_ a0_0 x2 x4)∧(∃x5:ByteArray,((qx_ x4 x5)∧(∃x6:Bool,((Runs Fs 55 [(aS x5)] [] (aB x6) [])∧(sel (Bool.not x6) (R (.n (.bool false))) ((rq (.ptr 2200000 0))∧(qV_ a0_0)∧(rq (aL a0_0))∧(qV_ a0_0)∧(rh [(hB 2200000 (qS_ a0_0 a0_1))])∧(x0 (IntKind.wrap .i64 (x2+1)))∧(((x1 (IntKind.wrap .i64 (x2+1))):Nat)<(x1 x2))))))))))) (∃x7:(Int→Prop),(∃x8:(Int→Nat),(((rh [(hB 2200000 (qS_ a0_0 a0_1))])∧(x7 0))∧(∀x9:Int,((x7 x9)→(∀x10:(Nat→Mir.AV),(sel (qU_ x9 a0_1) ((rn 2)∧((0:Int)≤x9)∧(∃x11:Mir.D,((qv_ a0_1 x9 x11)∧(∃x12:Int,(∃x13:ByteArray,((qX_ x11 x12 x13)∧(qY_ x11)∧(sel (decide (x12<0)) (R (.n (.bool false))) (sel (qbn_ x12 a0_0) (R (.n (.bool false))) (∃x14:Bool,((Runs Fs 55 [(aS x13)] [] (aB x14) [])∧(sel (Bool.not x14) (R (.n (.bool false))) ((qV_ a0_0)∧(rq (.o (Mir.D.sl 2 a0_1)))∧(qV_ a0_1)∧(rh [(hB 2200000 (qS_ a0_0 a0_1))])∧(x7 (IntKind.wrap .i64 (x9+1)))∧(((x8 (IntKind.wrap .i64 (x9+1))):Nat)<(x8 x9)))))))))))))) (R (.n (.bool true))))))))))))))))))))
def V22e (a0_0:LD) (a0_1:LD) (R:Mir.AV→Prop):=PLift.up (by delta V22 qX_ qY_ qU_ qx_ qR_ qv_ qbn_ qV_ qS_;exact rfl:V22 a0_0 a0_1 R=_)
theorem vc22 (a0_0:LD) (a0_1:LD) (R:Mir.AV→Prop):Vc Fs c22.body (argsQ c22 [(.agg [(.o (.sl 1 a0_0)),(.o (.sl 2 a0_1))])]) [] (endQ c22 R)=V22 a0_0 a0_1 R:=by kernel_rfl
def V55 (a0:ByteArray) (R:Mir.AV→Prop):Prop:=
 (sel (decide ((((ByteArray.size a0):Nat):Int)≤4096)) (sel ((((ByteArray.size a0):Nat):Int)==0) (R (.n (.bool true))) (((0:Int)≤(IntKind.wrap .i64 ((((ByteArray.size a0):Nat):Int) - 1)))∧(∃x0:UInt8,((((GetElem?.getElem? (qn_ a0) (Int.toNat (IntKind.wrap .i64 ((((ByteArray.size a0):Nat):Int) - 1)))):(Option UInt8))=(some x0))∧(R (.n (.bool ((((UInt8.toNat x0):Nat):Int) != 0)))))))) (R (.n (.bool false))))
def V55e (a0:ByteArray) (R:Mir.AV→Prop):=PLift.up (by delta V55 qn_;exact rfl:V55 a0 R=_)
theorem vc55 (a0:ByteArray) (R:Mir.AV→Prop):Vc Fs c55.body (argsQ c55 [(.n (.str a0))]) [] (endQ c55 R)=V55 a0 R:=by kernel_rfl
def V142 (a0:ByteArray) (a1:Int) (R:Mir.AV→Prop):Prop:=
 (sel (decide (a1<(((ByteArray.size a0):Nat):Int))) (((0:Int)≤a1)∧(∃x0:UInt8,((((GetElem?.getElem? (qn_ a0) (Int.toNat a1)):(Option UInt8))=(some x0))∧(R (.n (Mir.D.int .u8 (((UInt8.toNat x0):Nat):Int))))))) (R (.n (Mir.D.int .u8 0))))
def V142e (a0:ByteArray) (a1:Int) (R:Mir.AV→Prop):=PLift.up (by delta V142 qn_;exact rfl:V142 a0 a1 R=_)
theorem vc142 (a0:ByteArray) (a1:Int) (R:Mir.AV→Prop):Vc Fs c142.body (argsQ c142 [(.n (.str a0)),(.n (.int .i64 a1))]) [] (endQ c142 R)=V142 a0 a1 R:=by kernel_rfl
def V102 (a0:ByteArray) (a1:ByteArray) (a2:Int) (R:Mir.AV→Prop):Prop:=
 (∃x0:qL_,(∃x1:qM_,(((rh [(10200100,(.row false true 0 5 1 []))])∧(x0 0 0 (0,[])))∧(∀x2:Nat,(∀x3:Int,(∀x4:(Nat×LD),((x0 x2 x3 x4)→(∀x5:(Nat→Mir.AV),(sel (decide (x3<4096)) (((512:Int)≠0)∧((0:Int)≤(IntKind.wrap .u64 (IntKind.wrap .i64 (Int.tdiv x3 512))))∧((2:Int)≠0)∧(sel ((Int.tmod (Int.fdiv a2 (2 ^ (Min.min (Int.toNat (IntKind.wrap .u64 (IntKind.wrap .i64 (Int.tdiv x3 512)))) (Go.IntKind.bits .i64)))) 2) != 0) (∃x6:Int,((Runs Fs 142 [(aS a1),(aI x3)] [] (.n (Mir.D.int .u8 x6)) [])∧(rn 0)∧((rn 1)∨(@Eq LD [(Mir.D.int .u8 x6)] []))∧(qN_ x4 x2)∧(((((List.length (Prod.snd x4))+(List.length [(Mir.D.int .u8 x6)]))*1):Nat)≤140737488355328)∧(rq (aS a0))∧(rq (aS a1))∧(rq (aI a2))∧(rh [(10200100,(.row false true (x2+1) 5 1 ((Prod.snd x4)++[(Mir.D.int .u8 x6)])))])∧(x0 (x2+1) (IntKind.wrap .i64 (x3+1)) ((x2+1),((Prod.snd x4)++[(Mir.D.int .u8 x6)])))∧(((x1 (x2+1) (IntKind.wrap .i64 (x3+1)) ((x2+1),((Prod.snd x4)++[(Mir.D.int .u8 x6)]))):Nat)<(x1 x2 x3 x4)))) (∃x7:Int,((Runs Fs 142 [(aS a0),(aI x3)] [] (.n (Mir.D.int .u8 x7)) [])∧(rn 0)∧((rn 1)∨(@Eq LD [(Mir.D.int .u8 x7)] []))∧(qN_ x4 x2)∧(((((List.length (Prod.snd x4))+(List.length [(Mir.D.int .u8 x7)]))*1):Nat)≤140737488355328)∧(rq (aS a0))∧(rq (aS a1))∧(rq (aI a2))∧(rh [(10200100,(.row false true (x2+1) 5 1 ((Prod.snd x4)++[(Mir.D.int .u8 x7)])))])∧(x0 (x2+1) (IntKind.wrap .i64 (x3+1)) ((x2+1),((Prod.snd x4)++[(Mir.D.int .u8 x7)])))∧(((x1 (x2+1) (IntKind.wrap .i64 (x3+1)) ((x2+1),((Prod.snd x4)++[(Mir.D.int .u8 x7)]))):Nat)<(x1 x2 x3 x4)))))) ((qf_ x4 x2)∧(qg_ x4)∧(qh_ x4)∧(∃x8:ByteArray,((Runs Fs 103 [(aS (qi_ x4))] [] (aS x8) [])∧(R (.n (.str x8)))))))))))))))
def V102e (a0:ByteArray) (a1:ByteArray) (a2:Int) (R:Mir.AV→Prop):=PLift.up (by delta V102 qh_ qf_ qN_ qi_ qg_ qL_ qM_;exact rfl:V102 a0 a1 a2 R=_)
theorem vc102 (a0:ByteArray) (a1:ByteArray) (a2:Int) (R:Mir.AV→Prop):Vc Fs c102.body (argsQ c102 [(.n (.str a0)),(.n (.str a1)),(.n (.int .i64 a2))]) [] (endQ c102 R)=V102 a0 a1 a2 R:=by kernel_rfl
abbrev qbo_:=
 (Int→((Nat×((Unit)×(Unit)))→((Nat×LD)→Prop)))
abbrev qbp_:=
 (Int→((Nat×((Unit)×(Unit)))→((Nat×LD)→Nat)))
abbrev qbz_:List Mir.AV:=
 [(.n Mir.D.nil),(.n Mir.D.nil)]
abbrev qbq_:=
 (hB 5600001 qbz_)
abbrev qbs_ (p0:(Nat×LD)) (p1:(Nat×((Unit)×(Unit)))):=
 ((((Prod.fst p0):Nat)=p1.1)∧(rn 1))
abbrev qbt_ (p0:Int) (p1:(Nat×LD)):=
 ((p0:Int)<((Prod.snd p1).length:Int))
abbrev qbu_ (p0:(Nat×LD)) (p1:Int) (p2:Mir.D):=
 ((Prod.snd p0)[Int.toNat p1]?=some p2)
abbrev qbv_ (p0:(Nat×((Unit)×(Unit)))) (p1:(Nat×LD)):=
 (((((p0.1:Nat)=(Prod.fst p1))∧(rn 0))∧(rn 1))∧(rn 1))
abbrev qbA_ (p0:(Nat×LD)):=
 (List.length (Prod.snd p0))
abbrev qbw_ (p0:Int) (p1:(Nat×LD)):=
 (((Int.toNat p0):Nat)<(qbA_ p1))
abbrev qby_ (p0:(Nat×LD)) (p1:Int) (p2:ByteArray):=
 (List.set (Prod.snd p0) (Int.toNat p1) (Mir.D.str p2))
abbrev qbx_ (p0 p1:LD) (p2:(Nat×((Unit)×(Unit)))) (p3:(Nat×LD)) (p4:Int) (p5:ByteArray):=
 (rh [(hB 5600000 (qS_ p0 p1)),qbq_,(hB 5600101 [(.row 5600504 p2.1),(.n Mir.D.nil)]),(5600504,(.row false true (Prod.fst p3) 9 1 (qby_ p3 p4 p5)))])
abbrev qbr_ (p0:(Nat×LD)) (p1:(Nat×((Unit)×(Unit)))) (p2:Int) (p3:ByteArray) (p4:Bool) (p5 p6 p7:LD) (p8:qbo_) (p9:Int) (p10:qbp_):=
 ((qbs_ p0 p1)∧((0:Int)≤p2)∧(qbt_ p2 p0)∧(((p1.1:Nat)=(Prod.fst p0))∧(rn 1))∧(∃x19:Mir.D,((qbu_ p0 p2 x19)∧(∃x20:ByteArray,((qx_ x19 x20)∧(∃x21:ByteArray,((Runs Fs 102 [(aS x20),(aS p3),(aI 255)] [] (aS x21) [])∧(qbs_ p0 p1)∧((0:Int)≤p2)∧(qbt_ p2 p0)∧(qbv_ p1 p0)∧(qbw_ p2 p0)∧(rq (aB p4))∧(rq (aL p5))∧(rq (.ptr 5600001 0))∧(rq (.ptr 5600101 0))∧(rq (.o (Mir.D.sl 2 p6)))∧(qV_ p6)∧(qbx_ p7 p6 p1 p0 p2 x21)∧(p8 (IntKind.wrap .i64 (p9+1)) (p1.1,((),())) ((Prod.fst p0),(qby_ p0 p2 x21)))∧(((p10 (IntKind.wrap .i64 (p9+1)) (p1.1,((),())) ((Prod.fst p0),(qby_ p0 p2 x21))):Nat)<(p10 p9 p1 p0)))))))))
def V56 (a0_0:LD) (a0_1:LD) (a1:Bool) (a2:LD) (R:Mir.AV→Prop):Prop:=
 (∃x0:qbo_,(∃x1:qbp_,(((rh [(hB 5600000 (qS_ a0_0 a0_1)),qbq_,(hB 5600101 [(.row 5600504 0),(.n Mir.D.nil)]),(5600504,(.row false true 0 9 1 []))])∧(x0 0 (0,((),())) (0,[])))∧(∀x2:Int,(∀x3:(Nat×((Unit)×(Unit))),(∀x4:(Nat×LD),((x0 x2 x3 x4)→(∀x5:(Nat→Mir.AV),(sel (qU_ x2 a0_0) ((rn 1)∧((0:Int)≤x2)∧(∃x6:Mir.D,((qv_ a0_0 x2 x6)∧(∃x7:ByteArray,((qx_ x6 x7)∧(rn 0)∧(qbi_ x7)∧(((((Prod.fst x4):Nat)=x3.1)∧(rn 9))∧(rn 1))∧(qbj_ x4 x7)∧(rq (aB a1))∧(rq (aL a2))∧(rq (.ptr 5600000 0))∧(rq (.ptr 5600001 0))∧(rq (.ptr 5600101 0))∧(rq (aL a0_0))∧(qV_ a0_0)∧(rh [(hB 5600000 (qS_ a0_0 a0_1)),qbq_,(hB 5600101 [(.row 5600504 (x3.1+1)),(.n Mir.D.nil)]),(5600504,(.row false true (x3.1+1) 9 1 (qbk_ x4 x7)))])∧(x0 (IntKind.wrap .i64 (x2+1)) ((x3.1+1),((),())) ((x3.1+1),(qbk_ x4 x7)))∧(((x1 (IntKind.wrap .i64 (x2+1)) ((x3.1+1),((),())) ((x3.1+1),(qbk_ x4 x7))):Nat)<(x1 x2 x3 x4))))))) (∃x8:qbo_,(∃x9:qbp_,(((rh [(hB 5600000 (qS_ a0_0 a0_1)),qbq_,(hB 5600101 [(.row 5600504 x3.1),(.n Mir.D.nil)]),(5600504,(.row false true (Prod.fst x4) 9 1 (Prod.snd x4)))])∧(x8 0 (x3.1,((),())) ((Prod.fst x4),(Prod.snd x4))))∧(∀x10:Int,(∀x11:(Nat×((Unit)×(Unit))),(∀x12:(Nat×LD),((x8 x10 x11 x12)→(∀x13:(Nat→Mir.AV),(sel (qU_ x10 a0_1) ((rn 2)∧((0:Int)≤x10)∧(∃x14:Mir.D,((qv_ a0_1 x10 x14)∧(∃x15:Int,(∃x16:ByteArray,((qX_ x14 x15 x16)∧(qY_ x14)∧(sel (qU_ x10 a2) ((rn 1)∧((0:Int)≤x10)∧(∃x17:Mir.D,((qv_ a2 x10 x17)∧(∃x18:Int,(((D.cells x17)[0]?=some (Mir.D.int .i64 x18))∧(sel a1 (qbr_ x12 x11 x15 x16 a1 a2 a0_1 a0_0 x8 x10 x9) ((qbs_ x12 x11)∧((0:Int)≤x15)∧(qbt_ x15 x12)∧(((x11.1:Nat)=(Prod.fst x12))∧(rn 1))∧(∃x22:Mir.D,((qbu_ x12 x15 x22)∧(∃x23:ByteArray,((qx_ x22 x23)∧(∃x24:ByteArray,((Runs Fs 102 [(aS x23),(aS x16),(aI x18)] [] (aS x24) [])∧(qbs_ x12 x11)∧((0:Int)≤x15)∧(qbt_ x15 x12)∧(qbv_ x11 x12)∧(qbw_ x15 x12)∧(rq (aB a1))∧(rq (aL a2))∧(rq (.ptr 5600001 0))∧(rq (.ptr 5600101 0))∧(rq (.o (Mir.D.sl 2 a0_1)))∧(qV_ a0_1)∧(qbx_ a0_0 a0_1 x11 x12 x15 x24)∧(x8 (IntKind.wrap .i64 (x10+1)) (x11.1,((),())) ((Prod.fst x12),(qby_ x12 x15 x24)))∧(((x9 (IntKind.wrap .i64 (x10+1)) (x11.1,((),())) ((Prod.fst x12),(qby_ x12 x15 x24))):Nat)<(x9 x10 x11 x12))))))))))))))) (sel a1 (qbr_ x12 x11 x15 x16 a1 a2 a0_1 a0_0 x8 x10 x9) ((qbs_ x12 x11)∧((0:Int)≤x15)∧(qbt_ x15 x12)∧(((x11.1:Nat)=(Prod.fst x12))∧(rn 1))∧(∃x28:Mir.D,((qbu_ x12 x15 x28)∧(∃x29:ByteArray,((qx_ x28 x29)∧(∃x30:ByteArray,((Runs Fs 102 [(aS x29),(aS x16),(aI 0)] [] (aS x30) [])∧(qbs_ x12 x11)∧((0:Int)≤x15)∧(qbt_ x15 x12)∧(qbv_ x11 x12)∧(qbw_ x15 x12)∧(rq (aB a1))∧(rq (aL a2))∧(rq (.ptr 5600001 0))∧(rq (.ptr 5600101 0))∧(rq (.o (Mir.D.sl 2 a0_1)))∧(qV_ a0_1)∧(qbx_ a0_0 a0_1 x11 x12 x15 x30)∧(x8 (IntKind.wrap .i64 (x10+1)) (x11.1,((),())) ((Prod.fst x12),(qby_ x12 x15 x30)))∧(((x9 (IntKind.wrap .i64 (x10+1)) (x11.1,((),())) ((Prod.fst x12),(qby_ x12 x15 x30))):Nat)<(x9 x10 x11 x12))))))))))))))))) (((Prod.fst x12)=x11.1)∧(R (.agg [(.o (.sl 1 (Prod.snd x12))),(.o (Mir.D.sl 2 []))])))))))))))))))))))))
def V56e (a0_0:LD) (a0_1:LD) (a1:Bool) (a2:LD) (R:Mir.AV→Prop):=PLift.up (by delta V56 qX_ qU_ qbk_ qbv_ qV_ qbp_ qbz_ qbx_ qbu_ qbi_ qv_ qbA_ qbw_ qby_ qbo_ qY_ qbq_ qbs_ qS_ qbj_ qbt_ qx_ qbr_;exact rfl:V56 a0_0 a0_1 a1 a2 R=_)
theorem vc56 (a0_0:LD) (a0_1:LD) (a1:Bool) (a2:LD) (R:Mir.AV→Prop):Vc Fs c56.body (argsQ c56 [(.agg [(.o (.sl 1 a0_0)),(.o (.sl 2 a0_1))]),(.n (.bool a1)),(.o (.sl 1 a2))]) [] (endQ c56 R)=V56 a0_0 a0_1 a1 a2 R:=by kernel_rfl
abbrev qbB_ (p0:Nat) (p1:(Nat×LD)):=
 (((p0:Nat)=(Prod.fst p1))∧(rn 1))
def V72f (bs:LD) (ps:LD) (R:Mir.AV→Prop):Prop:=
 (∃x0:Nat,(∃x1:LD,((Runs Fs 119 [(aL bs)] [] (.row 11900001 x0) [(hR 11900001 x0 9 1 x1)])∧(∃x2:(Int→((Nat×LD)→Prop)),(∃x3:(Int→((Nat×LD)→Nat)),(((rh [(hB 7200000 (qS_ bs ps)),(hB 7200001 qbz_),(hB 7200104 [(.row 11900001 x0),(.n Mir.D.nil)]),(hR 11900001 x0 9 1 x1)])∧(x2 0 (x0,x1)))∧(∀x4:Int,(∀x5:(Nat×LD),((x2 x4 x5)→(∀x6:(Nat→Mir.AV),(sel (qU_ x4 ps) ((rn 2)∧((0:Int)≤x4)∧(∃x7:Mir.D,((qv_ ps x4 x7)∧(∃x8:Int,(∃x9:ByteArray,((qX_ x7 x8 x9)∧(qY_ x7)∧(qd_ x5 x0)∧((0:Int)≤x8)∧(qbt_ x8 x5)∧(qbB_ x0 x5)∧(∃x10:Mir.D,((qbu_ x5 x8 x10)∧(∃x11:ByteArray,((qx_ x10 x11)∧(∃x12:Int,((Runs Fs 101 [(aI x4)] [] (aI x12) [])∧(∃x13:ByteArray,((Runs Fs 120 [(aS x11),(aS x9),(aI x12)] [] (aS x13) [])∧(qd_ x5 x0)∧((0:Int)≤x8)∧(qbt_ x8 x5)∧(qe_ x0 x5)∧(qbw_ x8 x5)∧(rq (.fn 101 []))∧(rq (.ptr 7200001 0))∧(rq (.ptr 7200104 0))∧(rq (.o (Mir.D.sl 2 ps)))∧(rq (aI (ps.length:Int)))∧(rh [(hB 7200000 (qS_ bs ps)),(hB 7200001 qbz_),(hB 7200104 [(.row 11900001 x0),(.n Mir.D.nil)]),(hR 11900001 (Prod.fst x5) 9 1 (qby_ x5 x8 x13))])∧(x2 (IntKind.wrap .i64 (x4+1)) ((Prod.fst x5),(qby_ x5 x8 x13)))∧(((x3 (IntKind.wrap .i64 (x4+1)) ((Prod.fst x5),(qby_ x5 x8 x13))):Nat)<(x3 x4 x5)))))))))))))))) (((Prod.fst x5)=x0)∧(R (.agg [(.o (.sl 1 (Prod.snd x5))),(.o (Mir.D.sl 2 []))]))))))))))))))
def V72fe (bs:LD) (ps:LD) (R:Mir.AV→Prop):=PLift.up (by delta V72f qbz_ qv_ qf_ qe_ qbu_ qX_ qbB_ qd_ qY_ qU_ qbA_ qbw_ qbt_ qby_ qx_ qS_;exact rfl:V72f bs ps R=_)
theorem vc72f (bs:LD) (ps:LD) (R:Mir.AV→Prop):Vc Fs c72.body (argsQ c72 [.agg [.o (.sl 1 bs),.o (.sl 2 ps)],.fn 101 []]) [] (endQ c72 R)=V72f bs ps R:=by kernel_rfl
def V101 (a0:Int) (R:Mir.AV→Prop):Prop:=
 (R (.n (.int .i64 255)))
theorem vc101 (a0:Int) (R:Mir.AV→Prop):Vc Fs c101.body (argsQ c101 [(.n (.int .i64 a0))]) [] (endQ c101 R)=V101 a0 R:=by kernel_rfl
abbrev qbC_ (p0 p1:LD):Mir.AV:=
 (.agg (qS_ p0 p1))
abbrev qbD_:Mir.AV:=
 (.agg [(.o (.sl 1 [])),(.o (Mir.D.sl 2 []))])
def V54 (a0_0:LD) (a0_1:LD) (R:Mir.AV→Prop):Prop:=
 (∃x0:Bool,((Runs Fs 41 [(qbC_ a0_0 a0_1)] [] (aB x0) [])∧(sel (Bool.not x0) (R (.tup [qbD_,(.n (.int .i64 1))])) (∃x1:LD,(∃x2:LD,((Runs Fs 72 [(qbC_ a0_0 a0_1),(.fn 101 [])] [] (qbC_ x1 x2) [])∧(R (.tup [(.agg [(.o (.sl 1 x1)),(.o (Mir.D.sl 2 x2))]),(.n (.int .i64 0))]))))))))
def V54e (a0_0:LD) (a0_1:LD) (R:Mir.AV→Prop):=PLift.up (by delta V54 qbD_ qbC_ qS_;exact rfl:V54 a0_0 a0_1 R=_)
theorem vc54 (a0_0:LD) (a0_1:LD) (R:Mir.AV→Prop):Vc Fs c54.body (argsQ c54 [(.agg [(.o (.sl 1 a0_0)),(.o (.sl 2 a0_1))])]) [] (endQ c54 R)=V54 a0_0 a0_1 R:=by kernel_rfl
def V99 (a0_0:LD) (a0_1:LD) (a1:Int) (R:Mir.AV→Prop):Prop:=
 (∃x0:Bool,((Runs Fs 41 [(qbC_ a0_0 a0_1)] [] (aB x0) [])∧(sel (Bool.not x0) (R (.n (.int .i64 1))) (sel (decide (a1<0)) (R (.n (.int .i64 30))) (sel (qbn_ a1 a0_0) (R (.n (.int .i64 30))) (R (.n (.int .i64 0))))))))
def V99e (a0_0:LD) (a0_1:LD) (a1:Int) (R:Mir.AV→Prop):=PLift.up (by delta V99 qbn_ qbC_ qS_;exact rfl:V99 a0_0 a0_1 a1 R=_)
theorem vc99 (a0_0:LD) (a0_1:LD) (a1:Int) (R:Mir.AV→Prop):Vc Fs c99.body (argsQ c99 [(.agg [(.o (.sl 1 a0_0)),(.o (.sl 2 a0_1))]),(.n (.int .i64 a1))]) [] (endQ c99 R)=V99 a0_0 a0_1 a1 R:=by kernel_rfl
abbrev qbE_ (p0:Mir.AV→Prop) (p1:Int):=
 (p0 (.tup [qbD_,(.n (.int .i64 p1))]))
abbrev qbF_ (p0:LD):=
 (decide ((p0.length:Int)≥2048))
abbrev qbG_ (p0:Int) (p1:ByteArray):=
 ((rn 2)∨(@Eq LD [(Mir.D.rcd [(Mir.D.int .i64 p0),(Mir.D.str p1)])] []))
def V53 (a0_0:LD) (a0_1:LD) (a1:Int) (a2:ByteArray) (R:Mir.AV→Prop):Prop:=
 (∃x0:Int,((Runs Fs 99 [(qbC_ a0_0 a0_1),(aI a1)] [] (aI x0) [])∧(sel (x0 != 0) (qbE_ R x0) (sel (qH_ a2) (R (.tup [qbD_,(.n (.int .i64 2))])) (sel (qbF_ a0_1) (R (.tup [qbD_,(.n (.int .i64 2))])) (∃x1:Nat,(∃x2:LD,((Runs Fs 100 [(.o (Mir.D.sl 2 a0_1))] [] (.row 10000001 x1) [(hR 10000001 x1 88 2 x2)])∧(∃x3:ByteArray,((qz_ a2 x3)∧(rn 0)∧(qbG_ a1 x3)∧(((rn x1)∧(rn 88))∧(rn 2))∧(((((List.length x2)+(List.length [(Mir.D.rcd [(Mir.D.int .i64 a1),(Mir.D.str x3)])]))*24):Nat)≤140737488355328)∧((x1+1)=(x1+1))∧(R (.tup [(.agg [(.o (.sl 1 a0_0)),(.o (Mir.D.sl 2 (x2++[(Mir.D.rcd [(Mir.D.int .i64 a1),(Mir.D.str x3)])])))]),(.n (.int .i64 0))]))))))))))))
def V53e (a0_0:LD) (a0_1:LD) (a1:Int) (a2:ByteArray) (R:Mir.AV→Prop):=PLift.up (by delta V53 qbG_ qz_ qbF_ qH_ qbE_ qbD_ qbC_ qS_;exact rfl:V53 a0_0 a0_1 a1 a2 R=_)
theorem vc53 (a0_0:LD) (a0_1:LD) (a1:Int) (a2:ByteArray) (R:Mir.AV→Prop):Vc Fs c53.body (argsQ c53 [(.agg [(.o (.sl 1 a0_0)),(.o (.sl 2 a0_1))]),(.n (.int .i64 a1)),(.n (.str a2))]) [] (endQ c53 R)=V53 a0_0 a0_1 a1 a2 R:=by kernel_rfl
def V109 (a0_0:LD) (a0_1:LD) (a1:Int) (R:Mir.AV→Prop):Prop:=
 ((rn 1)∧((0:Int)≤a1)∧(∃x0:Mir.D,((qv_ a0_0 a1 x0)∧(∃x1:ByteArray,((qx_ x0 x1)∧(∃x2:(ByteArray→(Int→Prop)),(∃x3:(ByteArray→(Int→Nat)),(((rh [(hB 10900000 (qS_ a0_0 a0_1))])∧(x2 x1 0))∧(∀x4:ByteArray,(∀x5:Int,((x2 x4 x5)→(∀x6:(Nat→Mir.AV),(sel (qU_ x5 a0_1) ((rn 2)∧((0:Int)≤x5)∧(∃x7:Mir.D,((qv_ a0_1 x5 x7)∧(∃x8:Int,(∃x9:ByteArray,((qX_ x7 x8 x9)∧(qY_ x7)∧(sel (x8==a1) ((rq (aI a1))∧(rq (.o (Mir.D.sl 2 a0_1)))∧(qV_ a0_1)∧(rh [(hB 10900000 (qS_ a0_0 a0_1))])∧(x2 x9 (IntKind.wrap .i64 (x5+1)))∧(((x3 x9 (IntKind.wrap .i64 (x5+1))):Nat)<(x3 x4 x5))) ((rq (aI a1))∧(rq (.o (Mir.D.sl 2 a0_1)))∧(qV_ a0_1)∧(rh [(hB 10900000 (qS_ a0_0 a0_1))])∧(x2 x4 (IntKind.wrap .i64 (x5+1)))∧(((x3 x4 (IntKind.wrap .i64 (x5+1))):Nat)<(x3 x4 x5)))))))))) (R (.n (.str x4))))))))))))))))
def V109e (a0_0:LD) (a0_1:LD) (a1:Int) (R:Mir.AV→Prop):=PLift.up (by delta V109 qX_ qY_ qU_ qx_ qv_ qV_ qS_;exact rfl:V109 a0_0 a0_1 a1 R=_)
theorem vc109 (a0_0:LD) (a0_1:LD) (a1:Int) (R:Mir.AV→Prop):Vc Fs c109.body (argsQ c109 [(.agg [(.o (.sl 1 a0_0)),(.o (.sl 2 a0_1))]),(.n (.int .i64 a1))]) [] (endQ c109 R)=V109 a0_0 a0_1 a1 R:=by kernel_rfl
abbrev qbH_:=
 (Int→((LD×(Nat×(Unit)))→((Nat×LD)→Prop)))
abbrev qbI_:=
 (Int→((LD×(Nat×(Unit)))→((Nat×LD)→Nat)))
def V57 (a0_0:LD) (a0_1:LD) (a1:Int) (a2:ByteArray) (R:Mir.AV→Prop):Prop:=
 (∃x0:qbH_,(∃x1:qbI_,(((rh [(hB 5700000 (qS_ a0_0 a0_1)),(hB 5700001 qbz_),(hB 5700103 [(aL a0_0),(.row 5700504 0)]),(5700504,(.row false true 0 88 2 []))])∧(x0 0 (a0_0,(0,())) (0,[])))∧(∀x2:Int,(∀x3:(LD×(Nat×(Unit))),(∀x4:(Nat×LD),((x0 x2 x3 x4)→(∀x5:(Nat→Mir.AV),(sel (qU_ x2 a0_1) ((rn 2)∧((0:Int)≤x2)∧(∃x6:Mir.D,((qv_ a0_1 x2 x6)∧(∃x7:Int,(∃x8:ByteArray,((qX_ x6 x7 x8)∧(qY_ x6)∧(rn 0)∧(qbG_ x7 x8)∧(((((Prod.fst x4):Nat)=x3.2.1)∧(rn 88))∧(rn 2))∧(((((List.length (Prod.snd x4))+(List.length [(Mir.D.rcd [(Mir.D.int .i64 x7),(Mir.D.str x8)])]))*24):Nat)≤140737488355328)∧(rq (aI a1))∧(rq (aS a2))∧(rq (.ptr 5700001 0))∧(rq (.ptr 5700103 0))∧(rq (.o (Mir.D.sl 2 a0_1)))∧(qV_ a0_1)∧(rh [(hB 5700000 (qS_ a0_0 a0_1)),(hB 5700001 qbz_),(hB 5700103 [(aL x3.1),(.row 5700504 (x3.2.1+1))]),(5700504,(.row false true (x3.2.1+1) 88 2 ((Prod.snd x4)++[(Mir.D.rcd [(Mir.D.int .i64 x7),(Mir.D.str x8)])])))])∧(x0 (IntKind.wrap .i64 (x2+1)) (x3.1,((x3.2.1+1),())) ((x3.2.1+1),((Prod.snd x4)++[(Mir.D.rcd [(Mir.D.int .i64 x7),(Mir.D.str x8)])])))∧(((x1 (IntKind.wrap .i64 (x2+1)) (x3.1,((x3.2.1+1),())) ((x3.2.1+1),((Prod.snd x4)++[(Mir.D.rcd [(Mir.D.int .i64 x7),(Mir.D.str x8)])]))):Nat)<(x1 x2 x3 x4)))))))) (∃x9:ByteArray,((Runs Fs 103 [(aS a2)] [] (aS x9) [])∧(rn 0)∧(qbG_ a1 x9)∧(((((Prod.fst x4):Nat)=x3.2.1)∧(rn 88))∧(rn 2))∧(((((List.length (Prod.snd x4))+(List.length [(Mir.D.rcd [(Mir.D.int .i64 a1),(Mir.D.str x9)])]))*24):Nat)≤140737488355328)∧((x3.2.1+1)=(x3.2.1+1))∧(R (.agg [(.o (.sl 1 x3.1)),(.o (Mir.D.sl 2 ((Prod.snd x4)++[(Mir.D.rcd [(Mir.D.int .i64 a1),(Mir.D.str x9)])])))])))))))))))))
def V57e (a0_0:LD) (a0_1:LD) (a1:Int) (a2:ByteArray) (R:Mir.AV→Prop):=PLift.up (by delta V57 qbG_ qbz_ qX_ qY_ qU_ qbH_ qv_ qV_ qS_ qbI_;exact rfl:V57 a0_0 a0_1 a1 a2 R=_)
theorem vc57 (a0_0:LD) (a0_1:LD) (a1:Int) (a2:ByteArray) (R:Mir.AV→Prop):Vc Fs c57.body (argsQ c57 [(.agg [(.o (.sl 1 a0_0)),(.o (.sl 2 a0_1))]),(.n (.int .i64 a1)),(.n (.str a2))]) [] (endQ c57 R)=V57 a0_0 a0_1 a1 a2 R:=by kernel_rfl
end Go.Proofs.YtegndijbpiccgaaGreatDoor.M
