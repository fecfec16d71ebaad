import Derived.Test.YtclgengkohbjjaaGreatDoorR4E
import Derived.Test.YtclgengkohbjjaaGreatDoorR4FunB
import Derived.Test.YtclgengkohbjjaaGreatDoorR4LV
import Derived.Test.YtclgengkohbjjaaGreatDoorR4LW
namespace Go.Proofs.YtclgengkohbjjaaGreatDoor.M
set_option linter.unusedVariables false
set_option linter.unusedSimpArgs false
open Go Go.Mir
set_option linter.unusedVariables false
def V113 (a0:Int) (a1:LD) (R:Mir.AV→Prop):Prop:=
 (∃x0:((Unit)→((Int×(Unit))→Prop)),(∃x1:((Unit)→((Int×(Unit))→Nat)),(((rh [(hB 11300102 [(aI (mmI true a0 0))])])∧(x0 () ((mmI true a0 0),())))∧(∀x2:(Unit),(∀x3:(Int×(Unit)),((x0 x2 x3)→(∀x4:(Nat→Mir.AV),(∃x5:Int,((Runs Fs3 133 [(aL a1)] [] (aI x5) [])∧(sel (decide (x3.1<x5)) (∃x6:Bool,((Runs Fs3 134 [(aL a1),(.fn 145 [(.ptr 11300102 0)])] [(hB 11300102 [(aI x3.1)])] (aB x6) [(hB 11300102 [(aI x3.1)])])∧(sel (Bool.not x6) (R (.n (.int .i64 x3.1))) ((rq (aL a1))∧(rh [(hB 11300102 [(aI (IntKind.wrap .i64 (x3.1+1)))])])∧(x0 () ((IntKind.wrap .i64 (x3.1+1)),()))∧(((x1 () ((IntKind.wrap .i64 (x3.1+1)),())):Nat)<(x1 x2 x3)))))) (R (.n (.int .i64 (-1))))))))))))))
theorem vc113 (a0:Int) (a1:LD) (R:Mir.AV→Prop):Vc Fs3 c113.body (argsQ c113 [(.n (.int .i64 a0)),(.o (.sl 1 a1))]) [] (endQ c113 R)=V113 a0 a1 R:=by kernel_rfl
def V114 (a0:LD) (a1:Bool) (a2:LD) (R:Mir.AV→Prop):Prop:=
 (∃x0:Nat,(∃x1:LD,((Runs Fs3 137 [(aL a0)] [] (.row 13700001 x0) [(hR 13700001 x0 4 1 x1)])∧(∃x2:(Int→((Nat×LD)→Prop)),(∃x3:(Int→((Nat×LD)→Nat)),(((rh [(hR 11450101 x0 4 1 x1)])∧(x2 0 (x0,x1)))∧(∀x4:Int,(∀x5:(Nat×LD),((x2 x4 x5)→(∀x6:(Nat→Mir.AV),(sel (qM_ x4 a2) ((rn 1)∧((0:Int)≤x4)∧(∃x7:Mir.D,((qp_ a2 x4 x7)∧(∃x8:Int,(((D.cells x7)[0]?=some (Mir.D.int .i64 x8))∧(sel (decide (x8<0)) (R (.tup [(.o (.sl 1 [])),(.n (.int .i64 1))])) (sel (qQ_ x8 a0) (R (.tup [(.o (.sl 1 [])),(.n (.int .i64 1))])) (((qc_ x5 x0)∧(rn 1))∧((0:Int)≤x8)∧((x8:Int)<((Prod.snd x5).length:Int))∧(qd_ x0 x5)∧(((Int.toNat x8):Nat)<(List.length (Prod.snd x5)))∧(rq (aL a0))∧(rq (aB a1))∧(rq (.row 11450101 x0))∧(rq (aL a2))∧(rq (aI (a2.length:Int)))∧(rh [(hR 11450101 (Prod.fst x5) 4 1 (List.set (Prod.snd x5) (Int.toNat x8) (Mir.D.bool a1)))])∧(x2 (IntKind.wrap .i64 (x4+1)) ((Prod.fst x5),(List.set (Prod.snd x5) (Int.toNat x8) (Mir.D.bool a1))))∧(((x3 (IntKind.wrap .i64 (x4+1)) ((Prod.fst x5),(List.set (Prod.snd x5) (Int.toNat x8) (Mir.D.bool a1)))):Nat)<(x3 x4 x5)))))))))) (((Prod.fst x5)=x0)∧(R (.tup [(.o (.sl 1 (Prod.snd x5))),(.n (.int .i64 0))]))))))))))))))
def V114e (a0:LD) (a1:Bool) (a2:LD) (R:Mir.AV→Prop):=PLift.up (by delta V114 qQ_ qc_ qd_ qM_ qp_;exact rfl:V114 a0 a1 a2 R=_)
theorem vc114 (a0:LD) (a1:Bool) (a2:LD) (R:Mir.AV→Prop):Vc Fs3 c114.body (argsQ c114 [(.o (.sl 1 a0)),(.n (.bool a1)),(.o (.sl 1 a2))]) [] (endQ c114 R)=V114 a0 a1 a2 R:=by kernel_rfl
abbrev qbZ_:Mir.AV:=
 (.agg [(.o (.sl 1 [])),(.o (.sl 1 []))])
def V78 (a0_0:LD) (a0_1:LD) (R:Mir.AV→Prop):Prop:=
 (∃x0:Bool,((Runs Fs3 67 (qK_ a0_0 a0_1) [] (aB x0) [])∧(sel (Bool.not x0) (R (.tup [qbZ_,(.n (.int .i64 0)),(.n (.int .i64 1))])) ((0=0)∧(∃x1:Int,((Runs Fs3 113 [(aI 0),(aL [(Mir.D.sl 1 a0_0),(Mir.D.sl 1 a0_1)])] [] (aI x1) [])∧(sel (decide (x1<0)) (R (.tup [qbZ_,(.n (.int .i64 0)),(.n (.int .i64 60))])) ((0=0)∧(∃x2:LD,(∃x3:Int,((Runs Fs3 114 [(aL a0_1),(aB true),(aL [(Mir.D.int .i64 x1)])] [] (.tup [(aL x2),(aI x3)]) [])∧(R (.tup [(.agg [(.o (.sl 1 a0_0)),(.o (.sl 1 x2))]),(.n (.int .i64 x1)),(.n (.int .i64 x3))])))))))))))))
def V78e (a0_0:LD) (a0_1:LD) (R:Mir.AV→Prop):=PLift.up (by delta V78 qK_ qbZ_;exact rfl:V78 a0_0 a0_1 R=_)
theorem vc78 (a0_0:LD) (a0_1:LD) (R:Mir.AV→Prop):Vc Fs3 c78.body (argsQ c78 [(.agg [(.o (.sl 1 a0_0)),(.o (.sl 1 a0_1))])]) [] (endQ c78 R)=V78 a0_0 a0_1 R:=by kernel_rfl
abbrev qb0_:=
 (hB 10000001 [(.n Mir.D.nil),(.n Mir.D.nil)])
abbrev qb1_ (p0:Mir.AV→Prop):=
 (p0 (.tup [qbZ_,(.n (.int .i64 30))]))
abbrev qb2_ (p0:(Nat×LD)) (p1:Int):=
 (List.set (Prod.snd p0) (Int.toNat p1) (Mir.D.bool false))
def V100 (a0_0:LD) (a0_1:LD) (a1:LD) (R:Mir.AV→Prop):Prop:=
 (∃x0:Bool,((Runs Fs3 67 (qK_ a0_0 a0_1) [] (aB x0) [])∧(sel (Bool.not x0) (R (.tup [qbZ_,(.n (.int .i64 1))])) (∃x1:Nat,(∃x2:LD,((Runs Fs3 137 [(aL a0_1)] [] (.row 13700001 x1) [(hR 13700001 x1 4 1 x2)])∧(∃x3:(Int→(qbh_→((Nat×LD)→Prop))),(∃x4:(Int→(qbh_→((Nat×LD)→Nat))),(((rh [(hB 10000000 [(aL a0_0),(aL a0_1)]),qb0_,(hR 10050302 x1 4 1 x2)])∧(x3 0 ((),((),())) (x1,x2)))∧(∀x5:Int,(∀x6:qbh_,(∀x7:(Nat×LD),((x3 x5 x6 x7)→(∀x8:(Nat→Mir.AV),(sel (qM_ x5 a1) ((rn 1)∧((0:Int)≤x5)∧(∃x9:Mir.D,((qp_ a1 x5 x9)∧(∃x10:Int,(((D.cells x9)[0]?=some (Mir.D.int .i64 x10))∧(sel (decide (x10<10)) (qb1_ R) ((qc_ x7 x1)∧(sel (decide (x10≥((Prod.snd x7).length:Int))) (qb1_ R) (((qc_ x7 x1)∧(rn 1))∧((0:Int)≤x10)∧((x10:Int)<((Prod.snd x7).length:Int))∧(((x1:Nat)=(Prod.fst x7))∧(rn 1))∧(∃x11:Mir.D,(((Prod.snd x7)[Int.toNat x10]?=some x11)∧(∃x12:Bool,((qT_ x11 x12)∧(sel (Bool.not x12) (qb1_ R) (((qc_ x7 x1)∧(rn 1))∧((0:Int)≤x10)∧((x10:Int)<((Prod.snd x7).length:Int))∧(qd_ x1 x7)∧(((Int.toNat x10):Nat)<(List.length (Prod.snd x7)))∧(rq (.ptr 10000000 0))∧(rq (.ptr 10000001 0))∧(rq (.row 10050302 x1))∧(rq (aL a1))∧(rq (aI (a1.length:Int)))∧(rh [(hB 10000000 [(aL a0_0),(aL a0_1)]),qb0_,(hR 10050302 (Prod.fst x7) 4 1 (qb2_ x7 x10))])∧(x3 (IntKind.wrap .i64 (x5+1)) ((),((),())) ((Prod.fst x7),(qb2_ x7 x10)))∧(((x4 (IntKind.wrap .i64 (x5+1)) ((),((),())) ((Prod.fst x7),(qb2_ x7 x10))):Nat)<(x4 x5 x6 x7))))))))))))))))) (((Prod.fst x7)=x1)∧(R (.tup [(.agg [(.o (.sl 1 a0_0)),(.o (.sl 1 (Prod.snd x7)))]),(.n (.int .i64 0))]))))))))))))))))))
def V100e (a0_0:LD) (a0_1:LD) (a1:LD) (R:Mir.AV→Prop):=PLift.up (by delta V100 qp_ qbZ_ qc_ qb1_ qM_ qbh_ qT_ qK_ qb2_ qd_ qb0_;exact rfl:V100 a0_0 a0_1 a1 R=_)
theorem vc100 (a0_0:LD) (a0_1:LD) (a1:LD) (R:Mir.AV→Prop):Vc Fs3 c100.body (argsQ c100 [(.agg [(.o (.sl 1 a0_0)),(.o (.sl 1 a0_1))]),(.o (.sl 1 a1))]) [] (endQ c100 R)=V100 a0_0 a0_1 a1 R:=by kernel_rfl
abbrev qb3_:=
 (Int→((ByteArray×(Unit))→Prop))
abbrev qb4_ (p0:Bool) (p1 p2 p3:LD) (p4:ByteArray):=
 (rh [(hB 7600000 [(aB p0),(aL p1),(aL p2),(aL p3)]),(hB 7600307 [(aS p4)])])
abbrev qb5_ (p0 p1 p2:ByteArray):=
 (Runs Fs3 107 [(aS p0),(.ptr 7600307 0)] [(hB 7600307 [(aS p1)])] (.tup []) [(hB 7600307 [(aS p2)])])
abbrev qb6_:=
 (rq (.fn 107 [(.ptr 7600307 0)]))
def V76 (a0_0:Bool) (a0_1:LD) (a0_2:LD) (a0_3:LD) (R:Mir.AV→Prop):Prop:=
 (∃x0:Bool,((Runs Fs3 92 [(qJ_ a0_0 a0_1 a0_2 a0_3),(aB true)] [] (aB x0) [])∧(sel (Bool.not x0) (qb_ R) (∃x1:ByteArray,(∃x2:Int,((Runs Fs3 106 [(aI (a0_1.length:Int)),(aI 1)] [] (.tup [(aS x1),(aI x2)]) [])∧(sel a0_0 (∃x3:qb3_,(∃x4:(Int→((ByteArray×(Unit))→Nat)),(((qb4_ a0_0 a0_1 a0_2 a0_3 x1)∧(x3 0 (x1,())))∧(∀x5:Int,(∀x6:(ByteArray×(Unit)),((x3 x5 x6)→(∀x7:(Nat→Mir.AV),(sel (qM_ x5 a0_1) ((rn 1)∧((0:Int)≤x5)∧(∃x8:Mir.D,((qp_ a0_1 x5 x8)∧(∃x9:ByteArray,((qr_ x8 x9)∧(∃x10:ByteArray,((Runs Fs3 107 [(aS x9),(.ptr 7600307 0)] [(hB 7600307 [(aS x6.1)])] (.tup []) [(hB 7600307 [(aS x10)])])∧(rn 1)∧((0:Int)≤x5)∧(∃x11:Mir.D,((qp_ a0_2 x5 x11)∧(∃x12:ByteArray,((qr_ x11 x12)∧(∃x13:ByteArray,((qb5_ x12 x10 x13)∧(rq (.ptr 7600000 0))∧(rq (.ptr 7600307 0))∧qb6_∧(rq (aL a0_1))∧(qN_ a0_1)∧(qb4_ a0_0 a0_1 a0_2 a0_3 x13)∧(x3 (IntKind.wrap .i64 (x5+1)) (x13,()))∧(((x4 (IntKind.wrap .i64 (x5+1)) (x13,())):Nat)<(x4 x5 x6))))))))))))))) (R (.tup [(.n (.str x6.1)),(.n (.int .i64 0))])))))))))) (∃x14:qb3_,(∃x15:(Int→((ByteArray×(Unit))→Nat)),(((qb4_ a0_0 a0_1 a0_2 a0_3 x1)∧(x14 0 (x1,())))∧(∀x16:Int,(∀x17:(ByteArray×(Unit)),((x14 x16 x17)→(∀x18:(Nat→Mir.AV),(sel (qM_ x16 a0_3) ((rn 1)∧((0:Int)≤x16)∧(∃x19:Mir.D,((qp_ a0_3 x16 x19)∧(∃x20:Int,(((D.cells x19)[0]?=some (Mir.D.int .i64 x20))∧(∃x21:ByteArray,(∃x22:Int,((Runs Fs3 106 [(aI x20),(aI 2)] [] (.tup [(aS x21),(aI x22)]) [])∧(0=0)∧(∃x23:ByteArray,((Runs Fs3 109 [(aL [(Mir.D.str x17.1),(Mir.D.str x21)])] [] (aS x23) [])∧(sel (qM_ x16 a0_1) ((rn 1)∧((0:Int)≤x16)∧(∃x24:Mir.D,((qp_ a0_1 x16 x24)∧(∃x25:ByteArray,((qr_ x24 x25)∧(∃x26:ByteArray,((qb5_ x25 x23 x26)∧(rq (.ptr 7600000 0))∧(rq (.ptr 7600307 0))∧qb6_∧(rq (aL a0_3))∧(qN_ a0_3)∧(qb4_ a0_0 a0_1 a0_2 a0_3 x26)∧(x14 (IntKind.wrap .i64 (x16+1)) (x26,()))∧(((x15 (IntKind.wrap .i64 (x16+1)) (x26,())):Nat)<(x15 x16 x17))))))))) ((rq (.ptr 7600000 0))∧(rq (.ptr 7600307 0))∧qb6_∧(rq (aL a0_3))∧(qN_ a0_3)∧(qb4_ a0_0 a0_1 a0_2 a0_3 x23)∧(x14 (IntKind.wrap .i64 (x16+1)) (x23,()))∧(((x15 (IntKind.wrap .i64 (x16+1)) (x23,())):Nat)<(x15 x16 x17)))))))))))))) (R (.tup [(.n (.str x17.1)),(.n (.int .i64 0))])))))))))))))))))
def V76e (a0_0:Bool) (a0_1:LD) (a0_2:LD) (a0_3:LD) (R:Mir.AV→Prop):=PLift.up (by delta V76 qb_ qr_ qe_ qN_ qM_ qf_ qb5_ qJ_ qb4_ qb6_ qp_ qb3_;exact rfl:V76 a0_0 a0_1 a0_2 a0_3 R=_)
theorem vc76 (a0_0:Bool) (a0_1:LD) (a0_2:LD) (a0_3:LD) (R:Mir.AV→Prop):Vc Fs3 c76.body (argsQ c76 [(.agg [(.n (.bool a0_0)),(.o (.sl 1 a0_1)),(.o (.sl 1 a0_2)),(.o (.sl 1 a0_3))])]) [] (endQ c76 R)=V76 a0_0 a0_1 a0_2 a0_3 R:=by kernel_rfl
abbrev qb7_ (p0:LD):=
 ((4:Int)≤(p0.length:Int))
abbrev qb8_ (p0 p1:LD):=
 (Runs Fs3 138 [(aL [(Mir.D.sl 1 (List.drop 0 (List.take (Int.toNat 4) p0)))])] [] (aL p1) [])
abbrev qb9_ (p0 p1:LD):=
 (Runs Fs3 138 [(aL [(Mir.D.sl 1 (List.drop (Int.toNat 4) (List.take (List.length p0) p0)))])] [] (aL p1) [])
abbrev qca_ (p0 p1:LD):Mir.AV:=
 (.agg [(.n (.bool true)),(.o (.sl 1 p0)),(.o (.sl 1 p1)),(.o (.sl 1 []))])
abbrev qcb_ (p0:LD):=
 ((5:Int)≤(p0.length:Int))
abbrev qcc_ (p0:LD):List Mir.AV:=
 [(aL [(Mir.D.sl 1 (List.drop (Int.toNat 5) (List.take (List.length p0) p0)))])]
abbrev qcd_ (p0 p1:LD):Mir.AV:=
 (.agg [(.n (.bool false)),(.o (.sl 1 p0)),(.o (.sl 1 [])),(.o (.sl 1 p1))])
def V118 (a0_0:Bool) (a0_1:LD) (a0_2:LD) (a0_3:LD) (R:Mir.AV→Prop):Prop:=
 (∃x0:Bool,((Runs Fs3 93 [(qJ_ a0_0 a0_1 a0_2 a0_3)] [] (aB x0) [])∧(sel (Bool.not x0) (R (.tup [qU_,qe_,qU_,(.n (.int .i64 1))])) (sel ((a0_1.length:Int) != 9) (R (.tup [qU_,qe_,qU_,(.n (.int .i64 1))])) ((rn 1)∧((0:Int)≤4)∧(∃x1:Mir.D,((a0_1[Int.toNat 4]?=some x1)∧(∃x2:ByteArray,((qr_ x1 x2)∧(sel a0_0 ((rn 1)∧((0:Int)≤4)∧(qb7_ a0_1)∧(0=0)∧(∃x3:LD,((qb8_ a0_1 x3)∧(rn 1)∧((0:Int)≤4)∧(qb7_ a0_2)∧(0=0)∧(∃x4:LD,((qb8_ a0_2 x4)∧(rn 1)∧((0:Int)≤4)∧(qb7_ a0_1)∧(0=0)∧(∃x5:LD,((qb9_ a0_1 x5)∧(rn 1)∧((0:Int)≤4)∧(qb7_ a0_2)∧(0=0)∧(∃x6:LD,((qb9_ a0_2 x6)∧(R (.tup [(qca_ x3 x4),(.n (.str x2)),(qca_ x5 x6),(.n (.int .i64 0))]))))))))))) ((rn 1)∧((0:Int)≤4)∧(qb7_ a0_1)∧(0=0)∧(∃x7:LD,((qb8_ a0_1 x7)∧(rn 1)∧((0:Int)≤5)∧(qcb_ a0_3)∧(0=0)∧(∃x8:LD,((Runs Fs3 139 [(aL [(Mir.D.sl 1 (List.drop 0 (List.take (Int.toNat 5) a0_3)))])] [] (aL x8) [])∧(rn 1)∧((0:Int)≤5)∧(qcb_ a0_1)∧(0=0)∧(∃x9:LD,((Runs Fs3 138 (qcc_ a0_1) [] (aL x9) [])∧(rn 1)∧((0:Int)≤5)∧(qcb_ a0_3)∧(0=0)∧(∃x10:LD,((Runs Fs3 139 (qcc_ a0_3) [] (aL x10) [])∧(R (.tup [(qcd_ x7 x8),(.n (.str x2)),(qcd_ x9 x10),(.n (.int .i64 0))])))))))))))))))))))))
def V118e (a0_0:Bool) (a0_1:LD) (a0_2:LD) (a0_3:LD) (R:Mir.AV→Prop):=PLift.up (by delta V118 qcd_ qb7_ qr_ qcc_ qe_ qcb_ qU_ qb8_ qf_ qb9_ qJ_ qca_;exact rfl:V118 a0_0 a0_1 a0_2 a0_3 R=_)
theorem vc118 (a0_0:Bool) (a0_1:LD) (a0_2:LD) (a0_3:LD) (R:Mir.AV→Prop):Vc Fs3 c118.body (argsQ c118 [(.agg [(.n (.bool a0_0)),(.o (.sl 1 a0_1)),(.o (.sl 1 a0_2)),(.o (.sl 1 a0_3))])]) [] (endQ c118 R)=V118 a0_0 a0_1 a0_2 a0_3 R:=by kernel_rfl
def V138 (a0:LD) (R:Mir.AV→Prop):Prop:=
 (∃x0:LD,((Runs Fs3 140 [(aL a0)] [] (aL x0) [])∧(R (.o (.sl 1 x0)))))
theorem vc138 (a0:LD) (R:Mir.AV→Prop):Vc Fs3 c138.body (argsQ c138 [(.o (.sl 1 a0))]) [] (endQ c138 R)=V138 a0 R:=by kernel_rfl
def V139 (a0:LD) (R:Mir.AV→Prop):Prop:=
 (∃x0:LD,((Runs Fs3 141 [(aL a0)] [] (aL x0) [])∧(R (.o (.sl 1 x0)))))
theorem vc139 (a0:LD) (R:Mir.AV→Prop):Vc Fs3 c139.body (argsQ c139 [(.o (.sl 1 a0))]) [] (endQ c139 R)=V139 a0 R:=by kernel_rfl
abbrev qce_ (p0:Int) (p1:LD) (p2:Int) (p3:(Int→(Int→Prop))) (p4:(Int→(Int→Nat))):=
 ((rn 1)∧((0:Int)≤p0)∧(∃x5:Mir.D,((qp_ p1 p0 x5)∧(∃x6:LD,((qbx_ x5 x6)∧(sel (decide ((IntKind.wrap .i64 (p2+(x6.length:Int)))<0)) False ((rq (aL p1))∧(rq (aL p1))∧(rq (aI (p1.length:Int)))∧(rh [])∧(p3 (IntKind.wrap .i64 (p2+(x6.length:Int))) (IntKind.wrap .i64 (p0+1)))∧(((p4 (IntKind.wrap .i64 (p2+(x6.length:Int))) (IntKind.wrap .i64 (p0+1))):Nat)<(p4 p2 p0)))))))))
def V140 (a0:LD) (R:Mir.AV→Prop):Prop:=
 (∃x0:(Int→(Int→Prop)),(∃x1:(Int→(Int→Nat)),(((rh [])∧(x0 0 0))∧(∀x2:Int,(∀x3:Int,((x0 x2 x3)→(∀x4:(Nat→Mir.AV),(sel (qM_ x3 a0) (qce_ x3 a0 x2 x0 x1) (∃x7:Nat,(∃x8:LD,((Runs Fs3 158 [(.n Mir.D.nil),(aI x2)] [] (.row 15800001 x7) [(hR 15800001 x7 9 1 x8)])∧(∃x9:(Nat→(Int→((Nat×LD)→Prop))),(∃x10:(Nat→(Int→((Nat×LD)→Nat))),(((rh [(hR 14050901 x7 9 1 x8)])∧(x9 x7 0 (x7,x8)))∧(∀x11:Nat,(∀x12:Int,(∀x13:(Nat×LD),((x9 x11 x12 x13)→(∀x14:(Nat→Mir.AV),(sel (qM_ x12 a0) ((rn 1)∧((0:Int)≤x12)∧(∃x15:Mir.D,((qp_ a0 x12 x15)∧(∃x16:LD,((qbx_ x15 x16)∧((rn 1)∨(@Eq LD x16 []))∧(((qc_ x13 x11)∧(rn 9))∧(rn 1))∧(((((q9_ x13)+(List.length x16))*16):Nat)≤140737488355328)∧(rq (aL a0))∧(rq (aI (a0.length:Int)))∧(rh [(hR 14050901 (x11+1) 9 1 ((Prod.snd x13)++x16))])∧(x9 (x11+1) (IntKind.wrap .i64 (x12+1)) ((x11+1),((Prod.snd x13)++x16)))∧(((x10 (x11+1) (IntKind.wrap .i64 (x12+1)) ((x11+1),((Prod.snd x13)++x16))):Nat)<(x10 x11 x12 x13))))))) (((Prod.fst x13)=x11)∧(R (.o (.sl 1 (Prod.snd x13)))))))))))))))))))))))))
def V140e (a0:LD) (R:Mir.AV→Prop):=PLift.up (by delta V140 qce_ qc_ qbx_ qM_ qp_ q9_;exact rfl:V140 a0 R=_)
theorem vc140 (a0:LD) (R:Mir.AV→Prop):Vc Fs3 c140.body (argsQ c140 [(.o (.sl 1 a0))]) [] (endQ c140 R)=V140 a0 R:=by kernel_rfl
def V141 (a0:LD) (R:Mir.AV→Prop):Prop:=
 (∃x0:(Int→(Int→Prop)),(∃x1:(Int→(Int→Nat)),(((rh [])∧(x0 0 0))∧(∀x2:Int,(∀x3:Int,((x0 x2 x3)→(∀x4:(Nat→Mir.AV),(sel (qM_ x3 a0) (qce_ x3 a0 x2 x0 x1) (∃x7:Nat,(∃x8:LD,((Runs Fs3 159 [(.n Mir.D.nil),(aI x2)] [] (.row 15900001 x7) [(hR 15900001 x7 3 1 x8)])∧(∃x9:(Nat→(Int→((Nat×LD)→Prop))),(∃x10:(Nat→(Int→((Nat×LD)→Nat))),(((rh [(hR 14150901 x7 3 1 x8)])∧(x9 x7 0 (x7,x8)))∧(∀x11:Nat,(∀x12:Int,(∀x13:(Nat×LD),((x9 x11 x12 x13)→(∀x14:(Nat→Mir.AV),(sel (qM_ x12 a0) ((rn 1)∧((0:Int)≤x12)∧(∃x15:Mir.D,((qp_ a0 x12 x15)∧(∃x16:LD,((qbx_ x15 x16)∧((rn 1)∨(@Eq LD x16 []))∧(((qc_ x13 x11)∧(rn 3))∧(rn 1))∧(((((q9_ x13)+(List.length x16))*8):Nat)≤140737488355328)∧(rq (aL a0))∧(rq (aI (a0.length:Int)))∧(rh [(hR 14150901 (x11+1) 3 1 ((Prod.snd x13)++x16))])∧(x9 (x11+1) (IntKind.wrap .i64 (x12+1)) ((x11+1),((Prod.snd x13)++x16)))∧(((x10 (x11+1) (IntKind.wrap .i64 (x12+1)) ((x11+1),((Prod.snd x13)++x16))):Nat)<(x10 x11 x12 x13))))))) (((Prod.fst x13)=x11)∧(R (.o (.sl 1 (Prod.snd x13)))))))))))))))))))))))))
def V141e (a0:LD) (R:Mir.AV→Prop):=PLift.up (by delta V141 qce_ qc_ qbx_ qM_ qp_ q9_;exact rfl:V141 a0 R=_)
theorem vc141 (a0:LD) (R:Mir.AV→Prop):Vc Fs3 c141.body (argsQ c141 [(.o (.sl 1 a0))]) [] (endQ c141 R)=V141 a0 R:=by kernel_rfl
abbrev qcf_ (p0:ByteArray) (p1:Mir.AV→Prop) (p2:ByteArray):=
 (sel (decide ((((ByteArray.size p0):Nat):Int)≥1)) (sel (decide ((((ByteArray.size p0):Nat):Int)≤32)) (p1 (.n (.bool (decide ((((ByteArray.size p2):Nat):Int)≤200))))) (p1 (.n (.bool false)))) (p1 (.n (.bool false))))
def V58 (a0:ByteArray) (a1:ByteArray) (R:Mir.AV→Prop):Prop:=
 (qcf_ a0 R a1)
def V58e (a0:ByteArray) (a1:ByteArray) (R:Mir.AV→Prop):=PLift.up (by delta V58 qcf_;exact rfl:V58 a0 a1 R=_)
theorem vc58 (a0:ByteArray) (a1:ByteArray) (R:Mir.AV→Prop):Vc Fs3 c58.body (argsQ c58 [(.n (.str a0)),(.n (.str a1))]) [] (endQ c58 R)=V58 a0 a1 R:=by kernel_rfl
abbrev qck_:Mir.AV:=
 (.agg [(.o (.sl 1 [])),(.o (.sl 1 [])),(.o (.sl 1 [])),(.n (.int .i64 0)),(.n (.int .i64 0))])
abbrev qcg_ (p0:Mir.AV→Prop):=
 (p0 (.tup [qck_,(.n (.int .i64 1))]))
abbrev qch_ (p0 p1:LD) (p2:Nat) (p3 p4 p5:Int):=
 (hB 5000202 [(aL p0),(aL p1),(.row 5050102 p2),(aI p3),(aI p4),(aI p5)])
abbrev qci_ (p0 p1:LD) (p2:Nat) (p3 p4 p5:Int) (p6:Nat) (p7:LD) (p8:Mir.AV→Prop):=
 (∃x20:LD,(∃x21:LD,(∃x22:LD,(∃x23:Int,(∃x24:Int,(∃x25:Int,(∃x26:Bool,(∃x27:LD,(∃x28:LD,(∃x29:Nat,(∃x30:Int,(∃x31:Int,(∃x32:Int,(∃x33:Nat,(∃x34:LD,((Runs Fs3 53 [(.ptr 5000202 0)] [(qch_ p0 p1 p2 p3 p4 p5),(hR 5050102 p6 9 1 p7)] (.tup [(qC_ x20 x21 x22 x23 x24),(aI x25)]) [(qch_ x27 x28 x29 x30 x31 x32),(5050102,(.row x26 false x33 9 1 x34))])∧(p8 (.tup [(.agg [(.o (.sl 1 x20)),(.o (.sl 1 x21)),(.o (.sl 1 x22)),(.n (.int .i64 x23)),(.n (.int .i64 x24))]),(.n (.int .i64 x25))]))))))))))))))))))
abbrev qcj_ (p0 p1:ByteArray):=
 (hB 3000305 [(.ptr 5000202 0),(aS p0),(aS p1)])
def V30 (a0_0:LD) (a0_1:LD) (a0_2:LD) (a0_3:Int) (a0_4:Int) (a1:ByteArray) (a2:ByteArray) (R:Mir.AV→Prop):Prop:=
 (∃x0:Bool,((Runs Fs3 48 [(qC_ a0_0 a0_1 a0_2 a0_3 a0_4)] [] (aB x0) [])∧(sel (Bool.not x0) (qcg_ R) (∃x1:Bool,((Runs Fs3 58 [(aS a1),(aS a2)] [] (aB x1) [])∧(sel (Bool.not x1) (qcg_ R) (∃x2:Unit,(∃x3:LD,(∃x4:LD,(∃x5:Nat,(∃x6:Int,(∃x7:Int,(∃x8:Int,(∃x9:Nat,(∃x10:LD,((Runs Fs3 50 [(qC_ a0_0 a0_1 a0_2 a0_3 a0_4)] [] (.ptr 5000202 0) [(qch_ x3 x4 x5 x6 x7 x8),(hR 5050102 x9 9 1 x10)])∧(sel (a0_3==0) ((0=0)∧(0=0)∧(∃x11:Int,(∃x12:LD,(∃x13:LD,(∃x14:Nat,(∃x15:Int,(∃x16:Int,(∃x17:Int,(∃x18:Nat,(∃x19:LD,((Runs Fs3 52 [(.ptr 5000202 0),(.agg [(aB true),(aL [(Mir.D.str a1)]),(aL [(Mir.D.str a2)]),(aL [])])] [(qch_ x3 x4 x5 x6 x7 x8),(hR 5050102 x9 9 1 x10)] (aI x11) [(qch_ x12 x13 x14 x15 x16 x17),(hR 5050102 x18 9 1 x19)])∧(qci_ x12 x13 x14 x11 x16 x17 x18 x19 R)))))))))))) (∃x35:Int,(∃x36:Int,(∃x37:ByteArray,(∃x38:Bool,(∃x39:ByteArray,(∃x40:ByteArray,(∃x41:LD,(∃x42:LD,(∃x43:Nat,(∃x44:Int,(∃x45:Int,(∃x46:Int,(∃x47:Nat,(∃x48:LD,((Runs Fs3 59 [(.ptr 3000305 0),(aI a0_3),(aI 1)] [(qcj_ a1 a2),(qch_ x3 x4 x5 x6 x7 x8),(hR 5050102 x9 9 1 x10)] (.agg [(aI x35),(aI x36),(aS x37),(aB x38)]) [(qcj_ x39 x40),(qch_ x41 x42 x43 x44 x45 x46),(hR 5050102 x47 9 1 x48)])∧(sel x38 ((0=0)∧(0=0)∧(∃x49:Int,(∃x50:LD,(∃x51:LD,(∃x52:Nat,(∃x53:Int,(∃x54:Int,(∃x55:Int,(∃x56:Nat,(∃x57:LD,((Runs Fs3 52 [(.ptr 5000202 0),(.agg [(aB false),(aL [(Mir.D.str x37)]),(aL []),(aL [(Mir.D.int .i64 x35),(Mir.D.int .i64 x36)])])] [(qch_ x41 x42 x43 x35 x45 x46),(hR 5050102 x47 9 1 x48)] (aI x49) [(qch_ x50 x51 x52 x53 x54 x55),(hR 5050102 x56 9 1 x57)])∧(qci_ x50 x51 x52 x49 x54 x55 x56 x57 R)))))))))))) (qci_ x41 x42 x43 x35 x45 x46 x47 x48 R))))))))))))))))))))))))))))))))))
def V30e (a0_0:LD) (a0_1:LD) (a0_2:LD) (a0_3:Int) (a0_4:Int) (a1:ByteArray) (a2:ByteArray) (R:Mir.AV→Prop):=PLift.up (by delta V30 qck_ qch_ qci_ qcj_ qG_ qcg_ qC_;exact rfl:V30 a0_0 a0_1 a0_2 a0_3 a0_4 a1 a2 R=_)
theorem vc30 (a0_0:LD) (a0_1:LD) (a0_2:LD) (a0_3:Int) (a0_4:Int) (a1:ByteArray) (a2:ByteArray) (R:Mir.AV→Prop):Vc Fs3 c30.body (argsQ c30 [(.agg [(.o (.sl 1 a0_0)),(.o (.sl 1 a0_1)),(.o (.sl 1 a0_2)),(.n (.int .i64 a0_3)),(.n (.int .i64 a0_4))]),(.n (.str a1)),(.n (.str a2))]) [] (endQ c30 R)=V30 a0_0 a0_1 a0_2 a0_3 a0_4 a1 a2 R:=by kernel_rfl
abbrev qcl_:=
 (LD×(LD×(LD×(Int×(Int×(Unit))))))
abbrev qcm_:=
 ((Unit)×((Unit)×((Unit)×(Int×(Int×(Unit))))))
abbrev qcn_ (p0:qcl_):List Mir.AV:=
 [(aL p0.1),(aL p0.2.1),(aL p0.2.2.1),(aI p0.2.2.2.1),(aI p0.2.2.2.2.1)]
def V35 (a0_0:LD) (a0_1:LD) (a0_2:LD) (a0_3:Int) (a0_4:Int) (a1:LD) (R:Mir.AV→Prop):Prop:=
 (∃x0:Bool,((Runs Fs3 48 [(qC_ a0_0 a0_1 a0_2 a0_3 a0_4)] [] (aB x0) [])∧(sel (Bool.not x0) (qcg_ R) (∃x1:(Int→(qcl_→(qcm_→Prop))),(∃x2:(Int→(qcl_→(qcm_→Nat))),(((rh [(hB 3500000 (qG_ a0_0 a0_1 a0_2 a0_3 a0_4)),(hB 3500001 [(.n Mir.D.nil),(.n Mir.D.nil),(.n Mir.D.nil),(aI 0),(aI 0)])])∧(x1 0 (a0_0,(a0_1,(a0_2,(a0_3,(a0_4,()))))) ((),((),((),(0,(0,())))))))∧(∀x3:Int,(∀x4:qcl_,(∀x5:qcm_,((x1 x3 x4 x5)→(∀x6:(Nat→Mir.AV),(sel (qM_ x3 a1) ((rn 2)∧((0:Int)≤x3)∧(∃x7:Mir.D,((qp_ a1 x3 x7)∧(∃x8:ByteArray,(∃x9:ByteArray,((qbX_ x7 x8 x9)∧(qbY_ x7)∧(∃x10:LD,(∃x11:LD,(∃x12:LD,(∃x13:Int,(∃x14:Int,(∃x15:Int,((Runs Fs3 30 [(.agg (qcn_ x4)),(aS x8),(aS x9)] [] (.tup [(qC_ x10 x11 x12 x13 x14),(aI x15)]) [])∧(sel (x15 != 0) (R (.tup [qck_,(.n (.int .i64 x15))])) ((rq (.ptr 3500000 0))∧(rq (.ptr 3500001 0))∧(rq (.o (Mir.D.sl 2 a1)))∧(rq (aI (a1.length:Int)))∧(rh [(hB 3500000 (qG_ x10 x11 x12 x13 x14)),(hB 3500001 [(.n Mir.D.nil),(.n Mir.D.nil),(.n Mir.D.nil),(aI x5.2.2.2.1),(aI x5.2.2.2.2.1)])])∧(x1 (IntKind.wrap .i64 (x3+1)) (x10,(x11,(x12,(x13,(x14,()))))) ((),((),((),(x5.2.2.2.1,(x5.2.2.2.2.1,()))))))∧(((x2 (IntKind.wrap .i64 (x3+1)) (x10,(x11,(x12,(x13,(x14,()))))) ((),((),((),(x5.2.2.2.1,(x5.2.2.2.2.1,())))))):Nat)<(x2 x3 x4 x5))))))))))))))))) (R (.tup [(.agg [(.o (.sl 1 x4.1)),(.o (.sl 1 x4.2.1)),(.o (.sl 1 x4.2.2.1)),(.n (.int .i64 x4.2.2.2.1)),(.n (.int .i64 x4.2.2.2.2.1))]),(.n (.int .i64 0))]))))))))))))))
def V35e (a0_0:LD) (a0_1:LD) (a0_2:LD) (a0_3:Int) (a0_4:Int) (a1:LD) (R:Mir.AV→Prop):=PLift.up (by delta V35 qck_ qcn_ qbY_ qbX_ qcl_ qcm_ qM_ qG_ qcg_ qp_ qC_;exact rfl:V35 a0_0 a0_1 a0_2 a0_3 a0_4 a1 R=_)
theorem vc35 (a0_0:LD) (a0_1:LD) (a0_2:LD) (a0_3:Int) (a0_4:Int) (a1:LD) (R:Mir.AV→Prop):Vc Fs3 c35.body (argsQ c35 [(.agg [(.o (.sl 1 a0_0)),(.o (.sl 1 a0_1)),(.o (.sl 1 a0_2)),(.n (.int .i64 a0_3)),(.n (.int .i64 a0_4))]),(.o (.sl 2 a1))]) [] (endQ c35 R)=V35 a0_0 a0_1 a0_2 a0_3 a0_4 a1 R:=by kernel_rfl
abbrev qco_ (p0:LD) (p1:Nat) (p2:LD):=
 (Runs Fs3 70 [(aL p0)] [] (.row 7000001 p1) [(hR 7000001 p1 9 1 p2)])
def V50o (ba:LD) (no:LD) (pa:LD) (ro:Int) (ge:Int) (R:Mir.AV→Heap→Prop):Prop:=
 (∃x0:Nat,(∃x1:LD,((qco_ pa x0 x1)∧(R (.ptr 5000202 0) [(hB 5000202 [(.o (.sl 1 ba)),(.o (.sl 1 no)),(.row 5050102 x0),(.n (.int .i64 ro)),(.n (.int .i64 ge)),(.n (.int .i64 0))]),(hR 5050102 x0 9 1 x1)]))))
def V50oe (ba:LD) (no:LD) (pa:LD) (ro:Int) (ge:Int) (R:Mir.AV→Heap→Prop):=PLift.up (by delta V50o qco_;exact rfl:V50o ba no pa ro ge R=_)
theorem vc50o (ba:LD) (no:LD) (pa:LD) (ro:Int) (ge:Int) (R:Mir.AV→Heap→Prop):Vc Fs3 c50.body (argsQ c50 [(.agg [.o (.sl 1 ba),.o (.sl 1 no),.o (.sl 1 pa),.n (.int .i64 ro),.n (.int .i64 ge)])]) [] (endQO c50 R)=V50o ba no pa ro ge R:=by kernel_rfl
abbrev qcp_ (p0 p1:LD) (p2:Nat) (p3 p4 p5:Int):=
 (hB 5000202 [(.o (.sl 1 p0)),(.o (.sl 1 p1)),(.row 5050102 p2),(.n (.int .i64 p3)),(.n (.int .i64 p4)),(.n (.int .i64 p5))])
abbrev qcq_ (p0 p1:LD) (p2:Nat) (p3 p4:Int):=
 (hB 5000202 [(.o (.sl 1 p0)),(.o (.sl 1 p1)),(.row 5050102 p2),(.n (.int .i64 p3)),(.n (.int .i64 p4)),(.n (.int .i64 81))])
def V71h (ba:LD) (no:LD) (v:Nat) (ro:Int) (ge:Int) (bad:Int) (pa:LD) (block:Int) (deep:Int) (R:Mir.AV→Heap→Prop):Prop:=
 (sel (bad != 0) (R qO_ [(qcp_ ba no v ro ge bad),(hR 5050102 v 9 1 pa)]) ((v=v)∧(∃x0:Bool,(∃x1:LD,(∃x2:LD,(∃x3:LD,(∃x4:Int,((Runs Fs3 99 [(qC_ ba no pa ro ge),(aI block),(aB (deep==1))] [] (.tup [(qI_ x0 x1 x2 x3),(aI x4)]) [])∧(sel (x4 != 0) (R qO_ [(qcq_ ba no v ro ge),(hR 5050102 v 9 1 pa)]) (sel (decide (deep > 8)) (R qO_ [(qcq_ ba no v ro ge),(hR 5050102 v 9 1 pa)]) (R (qP_ x0 x1 x2 x3) [(qcp_ ba no v ro ge bad),(hR 5050102 v 9 1 pa)])))))))))))
def V71he (ba:LD) (no:LD) (v:Nat) (ro:Int) (ge:Int) (bad:Int) (pa:LD) (block:Int) (deep:Int) (R:Mir.AV→Heap→Prop):=PLift.up (by delta V71h qP_ qcq_ qcp_ qI_ qO_ qG_ qC_;exact rfl:V71h ba no v ro ge bad pa block deep R=_)
theorem vc71h (ba:LD) (no:LD) (v:Nat) (ro:Int) (ge:Int) (bad:Int) (pa:LD) (block:Int) (deep:Int) (R:Mir.AV→Heap→Prop):Vc Fs3 c71.body (argsQ c71 [.ptr 5000202 0,.n (.int .i64 block),.n (.int .i64 deep)]) [(5000202,.box [.o (.sl 1 ba),.o (.sl 1 no),.row 5050102 v,.n (.int .i64 ro),.n (.int .i64 ge),.n (.int .i64 bad)]),(5050102,.row false false v 9 1 pa)] (endQH c71 [(5000202,.box [.o (.sl 1 ba),.o (.sl 1 no),.row 5050102 v,.n (.int .i64 ro),.n (.int .i64 ge),.n (.int .i64 bad)]),(5050102,.row false false v 9 1 pa)] R)=V71h ba no v ro ge bad pa block deep R:=by kernel_rfl
def V72h (ba:LD) (no:LD) (v:Nat) (ro:Int) (ge:Int) (bad:Int) (pa:LD) (block:Int) (R:Mir.AV→Heap→Prop):Prop:=
 (sel (bad != 0) (R (.tup []) [(qcp_ ba no v ro ge bad),(hR 5050102 v 9 1 pa)]) ((0=0)∧(∃x0:LD,(∃x1:LD,(∃x2:Int,((Runs Fs3 100 [(.agg [(aL ba),(aL no)]),(aL [(Mir.D.int .i64 block)])] [] (.tup [(.agg [(aL x0),(aL x1)]),(aI x2)]) [])∧(sel (x2 != 0) (R (.tup []) [(qcq_ ba no v ro ge),(hR 5050102 v 9 1 pa)]) (R (.tup []) [(qcp_ x0 x1 v ro ge bad),(hR 5050102 v 9 1 pa)]))))))))
def V72he (ba:LD) (no:LD) (v:Nat) (ro:Int) (ge:Int) (bad:Int) (pa:LD) (block:Int) (R:Mir.AV→Heap→Prop):=PLift.up (by delta V72h qcp_ qcq_;exact rfl:V72h ba no v ro ge bad pa block R=_)
theorem vc72h (ba:LD) (no:LD) (v:Nat) (ro:Int) (ge:Int) (bad:Int) (pa:LD) (block:Int) (R:Mir.AV→Heap→Prop):Vc Fs3 c72.body (argsQ c72 [.ptr 5000202 0,.n (.int .i64 block)]) [(5000202,.box [.o (.sl 1 ba),.o (.sl 1 no),.row 5050102 v,.n (.int .i64 ro),.n (.int .i64 ge),.n (.int .i64 bad)]),(5050102,.row false false v 9 1 pa)] (endQH c72 [(5000202,.box [.o (.sl 1 ba),.o (.sl 1 no),.row 5050102 v,.n (.int .i64 ro),.n (.int .i64 ge),.n (.int .i64 bad)]),(5050102,.row false false v 9 1 pa)] R)=V72h ba no v ro ge bad pa block R:=by kernel_rfl
abbrev qcs_ (p0:Nat):=
 ((((rn p0)∧(rn 0))∧(rn 1))∧(rn 1))
abbrev qct_ (p0:Int) (p1:LD):=
 (((Int.toNat p0):Nat)<(List.length p1))
abbrev qcr_ (p0:Int) (p1:Mir.AV→Heap→Prop) (p2 p3:LD) (p4:Nat) (p5 p6:Int) (p7:LD) (p8:Int) (p9:ByteArray):=
 (sel (p0 != 0) (p1 (.n (.int .i64 0)) [(qcq_ p2 p3 p4 p5 p6),(hR 5050102 p4 9 1 p7)]) (∃x4:LD,(∃x5:LD,(∃x6:Int,(∃x7:Int,((Runs Fs3 78 [(.agg [(aL p2),(aL p3)])] [] (.tup [(.agg [(aL x4),(aL x5)]),(aI x6),(aI x7)]) [])∧(sel (x7 != 0) (p1 (.n (.int .i64 0)) [(qcp_ p2 p3 p4 p5 p6 x7),(hR 5050102 p4 9 1 p7)]) (((rn p4)∧(rn 1))∧((0:Int)≤x6)∧((x6:Int)<(p7.length:Int))∧(qcs_ p4)∧(qct_ x6 p7)∧(p1 (.n (.int .i64 x6)) [(qcp_ x4 x5 p4 p5 p6 p8),(hR 5050102 p4 9 1 (List.set p7 (Int.toNat x6) (Mir.D.str p9)))])))))))))
def V52h (ba:LD) (no:LD) (v:Nat) (ro:Int) (ge:Int) (bad:Int) (pa:LD) (nl:Bool) (nk:LD) (nv:LD) (nc:LD) (R:Mir.AV→Heap→Prop):Prop:=
 (sel (bad != 0) (R (.n (.int .i64 0)) [(qcp_ ba no v ro ge bad),(hR 5050102 v 9 1 pa)]) (sel nl (∃x0:ByteArray,(∃x1:Int,((Runs Fs3 76 [(qJ_ nl nk nv nc)] [] (.tup [(aS x0),(aI x1)]) [])∧(sel (x1 != 0) (R (.n (.int .i64 0)) [(qcq_ ba no v ro ge),(hR 5050102 v 9 1 pa)]) (∃x2:ByteArray,(∃x3:Int,((Runs Fs3 77 [(.agg [(aI 1),(aI ge),(aS x0)])] [] (.tup [(aS x2),(aI x3)]) [])∧(qcr_ x3 R ba no v ro ge pa bad x2)))))))) (∃x8:ByteArray,(∃x9:Int,((Runs Fs3 76 [(qJ_ nl nk nv nc)] [] (.tup [(aS x8),(aI x9)]) [])∧(sel (x9 != 0) (R (.n (.int .i64 0)) [(qcq_ ba no v ro ge),(hR 5050102 v 9 1 pa)]) (∃x10:ByteArray,(∃x11:Int,((Runs Fs3 77 [(.agg [(aI 2),(aI ge),(aS x8)])] [] (.tup [(aS x10),(aI x11)]) [])∧(qcr_ x11 R ba no v ro ge pa bad x10))))))))))
def V52he (ba:LD) (no:LD) (v:Nat) (ro:Int) (ge:Int) (bad:Int) (pa:LD) (nl:Bool) (nk:LD) (nv:LD) (nc:LD) (R:Mir.AV→Heap→Prop):=PLift.up (by delta V52h qcr_ qcq_ qcp_ qct_ qcs_ qJ_;exact rfl:V52h ba no v ro ge bad pa nl nk nv nc R=_)
theorem vc52h (ba:LD) (no:LD) (v:Nat) (ro:Int) (ge:Int) (bad:Int) (pa:LD) (nl:Bool) (nk:LD) (nv:LD) (nc:LD) (R:Mir.AV→Heap→Prop):Vc Fs3 c52.body (argsQ c52 [.ptr 5000202 0,(.agg [.n (.bool nl),.o (.sl 1 nk),.o (.sl 1 nv),.o (.sl 1 nc)])]) [(5000202,.box [.o (.sl 1 ba),.o (.sl 1 no),.row 5050102 v,.n (.int .i64 ro),.n (.int .i64 ge),.n (.int .i64 bad)]),(5050102,.row false false v 9 1 pa)] (endQH c52 [(5000202,.box [.o (.sl 1 ba),.o (.sl 1 no),.row 5050102 v,.n (.int .i64 ro),.n (.int .i64 ge),.n (.int .i64 bad)]),(5050102,.row false false v 9 1 pa)] R)=V52h ba no v ro ge bad pa nl nk nv nc R:=by kernel_rfl
def V53h (ba:LD) (no:LD) (v:Nat) (ro:Int) (ge:Int) (bad:Int) (pa:LD) (R:Mir.AV→Heap→Prop):Prop:=
 (sel (bad != 0) (R (.tup [qck_,(.n (.int .i64 bad))]) [(qcp_ ba no v ro ge bad),(hR 5050102 v 9 1 pa)]) ((v=v)∧(R (.tup [(.agg [(.o (.sl 1 ba)),(.o (.sl 1 no)),(.o (.sl 1 pa)),(.n (.int .i64 ro)),(.n (.int .i64 ge))]),(.n (.int .i64 0))]) [(qcp_ ba no v ro ge bad),(5050102,(.row true false v 9 1 pa))])))
def V53he (ba:LD) (no:LD) (v:Nat) (ro:Int) (ge:Int) (bad:Int) (pa:LD) (R:Mir.AV→Heap→Prop):=PLift.up (by delta V53h qck_ qcp_;exact rfl:V53h ba no v ro ge bad pa R=_)
theorem vc53h (ba:LD) (no:LD) (v:Nat) (ro:Int) (ge:Int) (bad:Int) (pa:LD) (R:Mir.AV→Heap→Prop):Vc Fs3 c53.body (argsQ c53 [.ptr 5000202 0]) [(5000202,.box [.o (.sl 1 ba),.o (.sl 1 no),.row 5050102 v,.n (.int .i64 ro),.n (.int .i64 ge),.n (.int .i64 bad)]),(5050102,.row false false v 9 1 pa)] (endQH c53 [(5000202,.box [.o (.sl 1 ba),.o (.sl 1 no),.row 5050102 v,.n (.int .i64 ro),.n (.int .i64 ge),.n (.int .i64 bad)]),(5050102,.row false false v 9 1 pa)] R)=V53h ba no v ro ge bad pa R:=by kernel_rfl
abbrev qcu_ (p0 p1:ByteArray):=
 (hB 3000305 [(.ptr 5000202 0),(.n (.str p0)),(.n (.str p1))])
abbrev qcv_:Mir.AV:=
 (.agg [(.n (.int .i64 0)),(.n (.int .i64 0)),qe_,(.n (.bool false))])
def V86h (key:ByteArray) (val:ByteArray) (ba:LD) (no:LD) (v:Nat) (ro:Int) (ge:Int) (bad:Int) (pa:LD) (nl:Bool) (nk:LD) (nv:LD) (nc:LD) (R:Mir.AV→Heap→Prop):Prop:=
 (sel (decide ((nk.length:Int)≤8)) (∃x0:Int,(∃x1:LD,(∃x2:LD,(∃x3:Nat,(∃x4:Int,(∃x5:Int,(∃x6:Int,(∃x7:Nat,(∃x8:LD,((Runs Fs3 52 [(.ptr 5000202 0),(qJ_ nl nk nv nc)] [(qch_ ba no v ro ge bad),(hR 5050102 v 9 1 pa)] (aI x0) [(qch_ x1 x2 x3 x4 x5 x6),(hR 5050102 x7 9 1 x8)])∧(R (.agg [(.n (.int .i64 x0)),(.n (.int .i64 0)),qe_,(.n (.bool false))]) [(qcu_ key val),(qcp_ x1 x2 x3 x4 x5 x6),(hR 5050102 x7 9 1 x8)]))))))))))) (∃x9:Bool,(∃x10:LD,(∃x11:LD,(∃x12:LD,(∃x13:ByteArray,(∃x14:Bool,(∃x15:LD,(∃x16:LD,(∃x17:LD,(∃x18:Int,((Runs Fs3 118 [(qJ_ nl nk nv nc)] [] (.tup [(qJ_ x9 x10 x11 x12),(aS x13),(qJ_ x14 x15 x16 x17),(aI x18)]) [])∧(sel (x18 != 0) (R qcv_ [(qcu_ key val),(qcq_ ba no v ro ge),(hR 5050102 v 9 1 pa)]) (∃x19:Int,(∃x20:LD,(∃x21:LD,(∃x22:Nat,(∃x23:Int,(∃x24:Int,(∃x25:Int,(∃x26:Nat,(∃x27:LD,((Runs Fs3 52 [(.ptr 5000202 0),(qJ_ x9 x10 x11 x12)] [(qch_ ba no v ro ge bad),(hR 5050102 v 9 1 pa)] (aI x19) [(qch_ x20 x21 x22 x23 x24 x25),(hR 5050102 x26 9 1 x27)])∧(∃x28:Int,(∃x29:LD,(∃x30:LD,(∃x31:Nat,(∃x32:Int,(∃x33:Int,(∃x34:Int,(∃x35:Nat,(∃x36:LD,((Runs Fs3 52 [(.ptr 5000202 0),(qJ_ x14 x15 x16 x17)] [(qch_ x20 x21 x22 x23 x24 x25),(hR 5050102 x26 9 1 x27)] (aI x28) [(qch_ x29 x30 x31 x32 x33 x34),(hR 5050102 x35 9 1 x36)])∧(R (.agg [(.n (.int .i64 x19)),(.n (.int .i64 x28)),(.n (.str x13)),(.n (.bool true))]) [(qcu_ key val),(qcp_ x29 x30 x31 x32 x33 x34),(hR 5050102 x35 9 1 x36)]))))))))))))))))))))))))))))))))))
def V86he (key:ByteArray) (val:ByteArray) (ba:LD) (no:LD) (v:Nat) (ro:Int) (ge:Int) (bad:Int) (pa:LD) (nl:Bool) (nk:LD) (nv:LD) (nc:LD) (R:Mir.AV→Heap→Prop):=PLift.up (by delta V86h qcq_ qch_ qcv_ qe_ qcp_ qf_ qJ_ qcu_;exact rfl:V86h key val ba no v ro ge bad pa nl nk nv nc R=_)
theorem vc86h (key:ByteArray) (val:ByteArray) (ba:LD) (no:LD) (v:Nat) (ro:Int) (ge:Int) (bad:Int) (pa:LD) (nl:Bool) (nk:LD) (nv:LD) (nc:LD) (R:Mir.AV→Heap→Prop):Vc Fs3 c86.body (argsQ c86 [.ptr 3000305 0,(.agg [.n (.bool nl),.o (.sl 1 nk),.o (.sl 1 nv),.o (.sl 1 nc)])]) [(3000305,.box [.ptr 5000202 0,.n (.str key),.n (.str val)]),(5000202,.box [.o (.sl 1 ba),.o (.sl 1 no),.row 5050102 v,.n (.int .i64 ro),.n (.int .i64 ge),.n (.int .i64 bad)]),(5050102,.row false false v 9 1 pa)] (endQH c86 [(3000305,.box [.ptr 5000202 0,.n (.str key),.n (.str val)]),(5000202,.box [.o (.sl 1 ba),.o (.sl 1 no),.row 5050102 v,.n (.int .i64 ro),.n (.int .i64 ge),.n (.int .i64 bad)]),(5050102,.row false false v 9 1 pa)] R)=V86h key val ba no v ro ge bad pa nl nk nv nc R:=by kernel_rfl
abbrev qcw_ (p0:Bool) (p1 p2 p3:LD) (p4 p5:ByteArray) (p6 p7:LD) (p8:Nat) (p9 p10 p11:Int) (p12:Nat) (p13:LD) (p14:Mir.AV→Heap→Prop):=
 (∃x44:Int,(∃x45:Int,(∃x46:ByteArray,(∃x47:Bool,(∃x48:ByteArray,(∃x49:ByteArray,(∃x50:LD,(∃x51:LD,(∃x52:Nat,(∃x53:Int,(∃x54:Int,(∃x55:Int,(∃x56:Nat,(∃x57:LD,((Runs Fs3 86 [(.ptr 3000305 0),(qJ_ p0 p1 p2 p3)] [(qcj_ p4 p5),(qch_ p6 p7 p8 p9 p10 p11),(hR 5050102 p12 9 1 p13)] (.agg [(aI x44),(aI x45),(aS x46),(aB x47)]) [(qcj_ x48 x49),(qch_ x50 x51 x52 x53 x54 x55),(hR 5050102 x56 9 1 x57)])∧(p14 (.agg [(.n (.int .i64 x44)),(.n (.int .i64 x45)),(.n (.str x46)),(.n (.bool x47))]) [(qcu_ x48 x49),(qcp_ x50 x51 x52 x53 x54 x55),(hR 5050102 x56 9 1 x57)]))))))))))))))))
def V59h (key:ByteArray) (val:ByteArray) (ba:LD) (no:LD) (v:Nat) (ro:Int) (ge:Int) (bad:Int) (pa:LD) (block:Int) (deep:Int) (R:Mir.AV→Heap→Prop):Prop:=
 (∃x0:Bool,(∃x1:LD,(∃x2:LD,(∃x3:LD,(∃x4:LD,(∃x5:LD,(∃x6:Nat,(∃x7:Int,(∃x8:Int,(∃x9:Int,(∃x10:Nat,(∃x11:LD,((Runs Fs3 71 [(.ptr 5000202 0),(aI block),(aI deep)] [(qch_ ba no v ro ge bad),(hR 5050102 v 9 1 pa)] (qI_ x0 x1 x2 x3) [(qch_ x4 x5 x6 x7 x8 x9),(hR 5050102 x10 9 1 x11)])∧(sel (x9 != 0) (R qcv_ [(qcu_ key val),(qcp_ x4 x5 x6 x7 x8 x9),(hR 5050102 x10 9 1 x11)]) (∃x12:LD,(∃x13:LD,(∃x14:Nat,(∃x15:Int,(∃x16:Int,(∃x17:Int,(∃x18:Nat,(∃x19:LD,((Runs Fs3 72 [(.ptr 5000202 0),(aI block)] [(qch_ x4 x5 x6 x7 x8 x9),(hR 5050102 x10 9 1 x11)] (.tup []) [(qch_ x12 x13 x14 x15 x16 x17),(hR 5050102 x18 9 1 x19)])∧(sel x0 (∃x20:Int,(∃x21:Bool,((Runs Fs3 64 [(qJ_ x0 x1 x2 x3),(aS key)] [] (.tup [(aI x20),(aB x21)]) [])∧(sel x21 (∃x22:Nat,(∃x23:LD,((qco_ x2 x22 x23)∧((rn x22)∧(rn 1))∧((0:Int)≤x20)∧((x20:Int)<(x23.length:Int))∧(qcs_ x22)∧(qct_ x20 x23)∧(x22=x22)∧(∃x24:Int,(∃x25:Int,(∃x26:ByteArray,(∃x27:Bool,(∃x28:ByteArray,(∃x29:ByteArray,(∃x30:LD,(∃x31:LD,(∃x32:Nat,(∃x33:Int,(∃x34:Int,(∃x35:Int,(∃x36:Nat,(∃x37:LD,((Runs Fs3 86 [(.ptr 3000305 0),(.agg [(aB x0),(aL x1),(aL (List.set x23 (Int.toNat x20) (Mir.D.str val))),(aL x3)])] [(qcj_ key val),(qch_ x12 x13 x14 x15 x16 x17),(hR 5050102 x18 9 1 x19)] (.agg [(aI x24),(aI x25),(aS x26),(aB x27)]) [(qcj_ x28 x29),(qch_ x30 x31 x32 x33 x34 x35),(hR 5050102 x36 9 1 x37)])∧(R (.agg [(.n (.int .i64 x24)),(.n (.int .i64 x25)),(.n (.str x26)),(.n (.bool x27))]) [(qcu_ x28 x29),(qcp_ x30 x31 x32 x33 x34 x35),(hR 5050102 x36 9 1 x37)]))))))))))))))))))) (∃x38:Nat,(∃x39:LD,((qco_ x1 x38 x39)∧(∃x40:LD,((Runs Fs3 87 [(.row 5951102 x38),(aI x20),(.row 5901108 0)] [(hR 5901108 0 9 1 [(Mir.D.str key)]),(hR 5951102 x38 9 1 x39)] (.row 5951102 (x38+1)) [(hR 5901108 0 9 1 [(Mir.D.str key)]),(hR 5951102 (x38+1) 9 1 x40)])∧(∃x41:Nat,(∃x42:LD,((qco_ x2 x41 x42)∧(∃x43:LD,((Runs Fs3 87 [(.row 5951202 x41),(aI x20),(.row 5901208 0)] [(hR 5901208 0 9 1 [(Mir.D.str val)]),(hR 5951202 x41 9 1 x42)] (.row 5951202 (x41+1)) [(hR 5901208 0 9 1 [(Mir.D.str val)]),(hR 5951202 (x41+1) 9 1 x43)])∧((x38+1)=(x38+1))∧((x41+1)=(x41+1))∧(qcw_ x0 x40 x43 x3 key val x12 x13 x14 x15 x16 x17 x18 x19 R))))))))))))))) (∃x58:Int,((Runs Fs3 63 [(qJ_ x0 x1 x2 x3),(aS key)] [] (aI x58) [])∧(rn 1)∧((0:Int)≤x58)∧(∃x59:Mir.D,((qp_ x3 x58 x59)∧(∃x60:Int,(((D.cells x59)[0]?=some (Mir.D.int .i64 x60))∧(∃x61:Int,(∃x62:Int,(∃x63:ByteArray,(∃x64:Bool,(∃x65:ByteArray,(∃x66:ByteArray,(∃x67:LD,(∃x68:LD,(∃x69:Nat,(∃x70:Int,(∃x71:Int,(∃x72:Int,(∃x73:Nat,(∃x74:LD,((Runs Fs3 59 [(.ptr 3000305 0),(aI x60),(qbW_ deep)] [(qcj_ key val),(qch_ x12 x13 x14 x15 x16 x17),(hR 5050102 x18 9 1 x19)] (.agg [(aI x61),(aI x62),(aS x63),(aB x64)]) [(qcj_ x65 x66),(qch_ x67 x68 x69 x70 x71 x72),(hR 5050102 x73 9 1 x74)])∧(sel (x72 != 0) (R qcv_ [(qcu_ x65 x66),(qcp_ x67 x68 x69 x70 x71 x72),(hR 5050102 x73 9 1 x74)]) (∃x75:Nat,(∃x76:LD,((Runs Fs3 74 [(aL x3)] [] (.row 7400001 x75) [(hR 7400001 x75 3 1 x76)])∧((rn x75)∧(rn 1))∧((0:Int)≤x58)∧((x58:Int)<(x76.length:Int))∧(qcs_ x75)∧(qct_ x58 x76)∧(sel x64 (∃x77:Nat,(∃x78:LD,((qco_ x1 x77 x78)∧(∃x79:LD,((Runs Fs3 87 [(.row 5952102 x77),(aI x58),(.row 5902106 0)] [(hR 5902106 0 9 1 [(Mir.D.str x63)]),(hR 5952102 x77 9 1 x78)] (.row 5952102 (x77+1)) [(hR 5902106 0 9 1 [(Mir.D.str x63)]),(hR 5952102 (x77+1) 9 1 x79)])∧(∃x80:LD,((Runs Fs3 88 [(.row 5951802 x75),(qbW_ x58),(.row 5902206 0)] [(hR 5902206 0 3 1 [(Mir.D.int .i64 x62)]),(hR 5951802 x75 3 1 (List.set x76 (Int.toNat x58) (Mir.D.int .i64 x61)))] (.row 5951802 (x75+1)) [(hR 5902206 0 3 1 [(Mir.D.int .i64 x62)]),(hR 5951802 (x75+1) 3 1 x80)])∧((x77+1)=(x77+1))∧((x75+1)=(x75+1))∧(qcw_ x0 x79 x2 x80 x65 x66 x67 x68 x69 x70 x71 x72 x73 x74 R)))))))) ((x75=x75)∧(∃x95:Int,(∃x96:Int,(∃x97:ByteArray,(∃x98:Bool,(∃x99:ByteArray,(∃x100:ByteArray,(∃x101:LD,(∃x102:LD,(∃x103:Nat,(∃x104:Int,(∃x105:Int,(∃x106:Int,(∃x107:Nat,(∃x108:LD,((Runs Fs3 86 [(.ptr 3000305 0),(.agg [(aB x0),(aL x1),(aL x2),(aL (List.set x76 (Int.toNat x58) (Mir.D.int .i64 x61)))])] [(qcj_ x65 x66),(qch_ x67 x68 x69 x70 x71 x72),(hR 5050102 x73 9 1 x74)] (.agg [(aI x95),(aI x96),(aS x97),(aB x98)]) [(qcj_ x99 x100),(qch_ x101 x102 x103 x104 x105 x106),(hR 5050102 x107 9 1 x108)])∧(R (.agg [(.n (.int .i64 x95)),(.n (.int .i64 x96)),(.n (.str x97)),(.n (.bool x98))]) [(qcu_ x99 x100),(qcp_ x101 x102 x103 x104 x105 x106),(hR 5050102 x107 9 1 x108)])))))))))))))))))))))))))))))))))))))))))))))))))))))))))))))))))))
def V59he (key:ByteArray) (val:ByteArray) (ba:LD) (no:LD) (v:Nat) (ro:Int) (ge:Int) (bad:Int) (pa:LD) (block:Int) (deep:Int) (R:Mir.AV→Heap→Prop):=PLift.up (by delta V59h qch_ qe_ qcv_ qco_ qcp_ qI_ qcj_ qf_ qct_ qcs_ qJ_ qcw_ qp_ qcu_ qbW_;exact rfl:V59h key val ba no v ro ge bad pa block deep R=_)
theorem vc59h (key:ByteArray) (val:ByteArray) (ba:LD) (no:LD) (v:Nat) (ro:Int) (ge:Int) (bad:Int) (pa:LD) (block:Int) (deep:Int) (R:Mir.AV→Heap→Prop):Vc Fs3 c59.body (argsQ c59 [.ptr 3000305 0,.n (.int .i64 block),.n (.int .i64 deep)]) [(3000305,.box [.ptr 5000202 0,.n (.str key),.n (.str val)]),(5000202,.box [.o (.sl 1 ba),.o (.sl 1 no),.row 5050102 v,.n (.int .i64 ro),.n (.int .i64 ge),.n (.int .i64 bad)]),(5050102,.row false false v 9 1 pa)] (endQH c59 [(3000305,.box [.ptr 5000202 0,.n (.str key),.n (.str val)]),(5000202,.box [.o (.sl 1 ba),.o (.sl 1 no),.row 5050102 v,.n (.int .i64 ro),.n (.int .i64 ge),.n (.int .i64 bad)]),(5050102,.row false false v 9 1 pa)] R)=V59h key val ba no v ro ge bad pa block deep R:=by kernel_rfl
def V107h (s:ByteArray) (out:ByteArray) (R:Mir.AV→Heap→Prop):Prop:=
 (∃x0:ByteArray,(∃x1:Int,((Runs Fs3 108 [(aS s)] [] (.tup [(aS x0),(aI x1)]) [])∧(0=0)∧(∃x2:ByteArray,((Runs Fs3 109 [(aL [(Mir.D.str out),(Mir.D.str x0)])] [] (aS x2) [])∧(R (.tup []) [(hB 7600307 [(.n (.str x2))])]))))))
theorem vc107h (s:ByteArray) (out:ByteArray) (R:Mir.AV→Heap→Prop):Vc Fs3 c107.body (argsQ c107 [.n (.str s),.ptr 7600307 0]) [(7600307,.box [.n (.str out)])] (endQH c107 [(7600307,.box [.n (.str out)])] R)=V107h s out R:=by kernel_rfl
abbrev qcx_ (p0:Int):=
 (hB 11300102 [(.n (.int .i64 p0))])
def V145h (a:LD) (i:Int) (R:Mir.AV→Heap→Prop):Prop:=
 (∃x0:Bool,((Runs Fs3 136 [(aL a),(aI i)] [] (aB x0) [])∧(R (.n (.bool x0)) [(qcx_ i)])))
def V145he (a:LD) (i:Int) (R:Mir.AV→Heap→Prop):=PLift.up (by delta V145h qcx_;exact rfl:V145h a i R=_)
theorem vc145h (a:LD) (i:Int) (R:Mir.AV→Heap→Prop):Vc Fs3 c145.body (argsQ c145 [.o (.sl 1 a),.ptr 11300102 0]) [(11300102,.box [.n (.int .i64 i)])] (endQH c145 [(11300102,.box [.n (.int .i64 i)])] R)=V145h a i R:=by kernel_rfl
def V134f (l:LD) (i:Int) (R:Mir.AV→Heap→Prop):Prop:=
 (∃x0:Int,((Runs Fs3 157 [(aL l),(.fn 145 [(.ptr 11300102 0)])] [(hB 11300102 [(aI i)])] (aI x0) [(hB 11300102 [(aI i)])])∧(R (.n (.bool (decide (x0≥0)))) [(qcx_ i)])))
def V134fe (l:LD) (i:Int) (R:Mir.AV→Heap→Prop):=PLift.up (by delta V134f qcx_;exact rfl:V134f l i R=_)
theorem vc134f (l:LD) (i:Int) (R:Mir.AV→Heap→Prop):Vc Fs3 c134.body (argsQ c134 [.o (.sl 1 l),.fn 145 [.ptr 11300102 0]]) [(11300102,.box [.n (.int .i64 i)])] (endQH c134 [(11300102,.box [.n (.int .i64 i)])] R)=V134f l i R:=by kernel_rfl
def V157f (l:LD) (i:Int) (R:Mir.AV→Heap→Prop):Prop:=
 (∃x0:(Int→Prop),(∃x1:(Int→Nat),(((rh [(hB 11300102 [(aI i)])])∧(x0 0))∧(∀x2:Int,((x0 x2)→(∀x3:(Nat→Mir.AV),(sel (qM_ x2 l) ((rn 1)∧((0:Int)≤x2)∧(∃x4:Mir.D,((qp_ l x2 x4)∧(∃x5:LD,((qbx_ x4 x5)∧(∃x6:Bool,((Runs Fs3 145 [(aL x5),(.ptr 11300102 0)] [(hB 11300102 [(aI i)])] (aB x6) [(hB 11300102 [(aI i)])])∧(sel x6 (R (.n (.int .i64 x2)) [(qcx_ i)]) ((rq (aL l))∧(rq (.fn 145 [(.ptr 11300102 0)]))∧(rq (aI (l.length:Int)))∧(rh [(hB 11300102 [(aI i)])])∧(x0 (IntKind.wrap .i64 (x2+1)))∧(((x1 (IntKind.wrap .i64 (x2+1))):Nat)<(x1 x2))))))))))) (R (.n (.int .i64 (-1))) [(qcx_ i)]))))))))
def V157fe (l:LD) (i:Int) (R:Mir.AV→Heap→Prop):=PLift.up (by delta V157f qbx_ qcx_ qp_ qM_;exact rfl:V157f l i R=_)
theorem vc157f (l:LD) (i:Int) (R:Mir.AV→Heap→Prop):Vc Fs3 c157.body (argsQ c157 [.o (.sl 1 l),.fn 145 [.ptr 11300102 0]]) [(11300102,.box [.n (.int .i64 i)])] (endQH c157 [(11300102,.box [.n (.int .i64 i)])] R)=V157f l i R:=by kernel_rfl
def hFi (i:Int):Heap:=[(11300102,.box [.n (.int .i64 i)])]
theorem p145 (a:List Bool) (i:Int) (h0:0≤i):Runs Fs3 145 [.o (.sl 1 (blD a)),.ptr 11300102 0] (hFi i) (.n (.bool (tr a i.toNat))) (hFi i):=by
 refine vc_look fs145 rfl (by kernel_rfl) ?_
 rewrite[hFi,vc145h,(V145he _ _ _).down]
 exact ⟨_,(p136 a i h0).up up3,rfl,rfl⟩
theorem fs3_157:Fs3 157=some (.code c157):=rfl
theorem fs3_134:Fs3 134=some (.code c134):=rfl
theorem p157f (L:List (List Bool)) (hl:Small L.length) (i:Int) (h0:0≤i):∃r:Int,decide (r≥0)=L.any (fun a=>tr a i.toNat)∧Runs Fs3 157 [.o (.sl 1 (bls L)),.fn 145 [.ptr 11300102 0]] (hFi i) (.n (.int .i64 r)) (hFi i):=by
 have key:∃r H',Runs Fs3 157 [.o (.sl 1 (bls L)),.fn 145 [.ptr 11300102 0]] (hFi i) r H'∧∃k:Int,r = .n (.int .i64 k)∧H'=hFi i∧decide (k≥0)=L.any (fun a=>tr a i.toNat):=by
  refine vc_objs (R:=fun r H'=>∃k:Int,r = .n (.int .i64 k)∧H'=hFi i∧decide (k≥0)=L.any (fun a=>tr a i.toNat)) fs3_157 rfl (by kernel_rfl) ?_
  rw[hFi,vc157f,(V157fe _ _ _).down,bls_len]
  refine ⟨fun k=>0≤k∧k≤L.length∧∀(j:Nat) (h:j<L.length),(j:Int)<k→tr L[j] i.toNat=false,fun k=>(L.length - k).toNat,⟨rfl,by omega,by omega,fun j _ hj=>by omega⟩,?_⟩
  rintro k ⟨k0,k1,hok⟩ _
  refine sel_dec (fun h => ?_) (fun h=>⟨-1,rfl,rfl,?_⟩)
  · have hi:k.toNat<L.length:=by omega
    refine ⟨rfl,k0,_,bls_at hi,_,rfl,_,p145 _ i h0,sel_intro (fun hb=>⟨k,rfl,rfl,?_⟩) (fun hb => ?_)⟩
    · rw[decide_eq_true k0];exact (any_at (p:=fun a:List Bool=>tr a i.toNat) hi hb).symm
    · repeat (refine And.intro rfl ?_)
      rw[i64_in _ (by omega)]
      exact ⟨⟨by omega,by omega,step_up (p:=fun a:List Bool=>tr a i.toNat) k0 hi hb hok⟩,by first|omega|(dsimp only;omega)⟩
  · exact (any_up (p:=fun a:List Bool=>tr a i.toNat) k0 h hok).symm
 obtain ⟨r,H',hr,k,rfl,rfl,hk⟩:=key
 exact ⟨k,hk,hr⟩
theorem p134f (L:List (List Bool)) (hl:Small L.length) (i:Int) (h0:0≤i):Runs Fs3 134 [.o (.sl 1 (bls L)),.fn 145 [.ptr 11300102 0]] (hFi i) (.n (.bool (L.any fun a=>tr a i.toNat))) (hFi i):=by
 refine vc_look fs3_134 rfl (by kernel_rfl) ?_
 rewrite[hFi,vc134f,(V134fe _ _ _).down]
 obtain ⟨r,hr,h⟩:=p157f L hl i h0
 exact ⟨r,h,by rw[hr],rfl⟩
def FirstIs (L:List (List Bool)) (r:Int):Prop:=
 (r = -1∧∀j,j<longest L→(L.any fun a=>tr a j)=true)∨(0≤r∧r.toNat<longest L∧(L.any fun a=>tr a r.toNat)=false∧∀j,j<r.toNat→(L.any fun a=>tr a j)=true)
theorem p113 (L:List (List Bool)) (hl:Small L.length) (hL:longest L≤2048):∃r,FirstIs L r∧Runs Fs3 113 [.n (.int .i64 0),.o (.sl 1 (bls L))] [] (.n (.int .i64 r)) []:=by
 have key:∃r,Runs Fs3 113 [.n (.int .i64 0),.o (.sl 1 (bls L))] [] r []∧∃k:Int,r = .n (.int .i64 k)∧FirstIs L k:=by
  refine vc_runs (R:=fun r=>∃k:Int,r = .n (.int .i64 k)∧FirstIs L k) fs113 rfl ?_
  rw[vc113,V113]
  refine ⟨fun _ p=>0≤p.1∧p.1≤longest L∧∀j:Nat,(j:Int)<p.1→(L.any fun a=>tr a j)=true,fun _ p=>(longest L - p.1).toNat,⟨rfl,by decide,by show mmI true 0 0≤_;simp[mmI],fun j hj=>by simp[mmI]at hj;omega⟩,?_⟩
  rintro _ ⟨i,_⟩ ⟨h0,h1,hok⟩ _
  dsimp only at h0 h1 hok ⊢
  refine ⟨_,(p133 L hl).up up3,sel_dec (fun h => ?_) (fun h=>⟨-1,rfl,.inl ⟨rfl,fun j hj=>hok j (by omega)⟩⟩)⟩
  refine ⟨_,p134f L hl i h0,sel_intro (fun hb=>⟨i,rfl,.inr ⟨h0,by omega,by simpa using hb,fun j hj=>hok j (by omega)⟩⟩) (fun hb => ?_)⟩
  repeat (refine And.intro rfl ?_)
  rw[i64_in _ (by omega)]
  refine ⟨⟨by omega,by omega,fun j hj => ?_⟩,by first|omega|(dsimp only;omega)⟩
  by_cases e:(j:Int)<i
  · exact hok j e
  · obtain rfl:j=i.toNat:=by omega
    simpa using hb
 obtain ⟨r,hr,k,rfl,hk⟩:=key
 exact ⟨k,hk,hr⟩
theorem p114 (l:List Bool) (b:Bool) (p:Nat) (hp:p<l.length) (hl:l.length≤2048):Runs Fs3 114 [.o (.sl 1 (blD l)),.n (.bool b),.o (.sl 1 [.int .i64 p])] [] (.tup [.o (.sl 1 (blD (l.set p b))),.n (.int .i64 0)]) []:=by
 refine vc_eq fs114 rfl ?_
 rw[vc114,(V114e _ _ _ _).down,blD_len]
 refine ⟨_,_,clone_runs fs137 (blD l) (by rw[blD_len];omega),fun i r=>(i=0∧r=(0,blD l))∨(i=1∧r=(0,blD (l.set p b))),fun i _=>(1 - i).toNat,⟨rfl,.inl ⟨rfl,rfl⟩⟩,?_⟩
 rintro i ⟨v,els⟩ h _
 rcases h with ⟨rfl,h⟩|⟨rfl,h⟩
 · obtain ⟨rfl,rfl⟩:=Prod.mk.inj h
   refine sel_dec (fun _ => ?_) (fun h=>absurd (by decide:(0:Int)<1) h)
   refine ⟨rfl,by decide,_,rfl,_,rfl,sel_dec (fun h=>by omega) (fun _=>sel_dec (fun h=>by omega) (fun _ => ?_))⟩
   dsimp only
   rw[blD_len,show Int.toNat (p:Int)=p from rfl,blD_set]
   refine ⟨⟨rfl,rfl⟩,by omega,by omega,⟨⟨⟨rfl,rfl⟩,rfl⟩,rfl⟩,hp,?_⟩
   repeat (refine And.intro rfl ?_)
   rw[i64_in _ (by omega)]
   exact ⟨.inr ⟨rfl,rfl⟩,by decide⟩
 · obtain ⟨rfl,rfl⟩:=Prod.mk.inj h
   exact sel_dec (fun h=>absurd h (by simp)) (fun _=>⟨rfl,rfl⟩)
theorem longest_two (a b:List Bool):longest [a,b]=max a.length b.length:=by simp[longest]
theorem any_two (a b:List Bool) (j:Nat):([a,b].any fun x=>tr x j)=(tr a j||tr b j):=by simp
theorem first_is {w:Wd} (hw:w.base.length=w.now.length) {r:Int} (h:FirstIs [w.base,w.now] r):match firstFree w with
   | none=>r<0
   | some b=>r=b∧b<w.now.length:=by
 have hl:longest [w.base,w.now]=w.now.length:=by rw[longest_two,hw];exact Nat.max_self _
 have hf:∀j,freeAt w j = !([w.base,w.now].any fun x=>tr x j):=fun j=>by
   rw[any_two,freeAt]
   cases tr w.base j <;> cases tr w.now j <;> rfl
 unfold FirstIs at h
 rw[hl]at h
 cases hx:firstFree w with
 | none=>
   have hn:=ffUp_none hx
   rcases h with ⟨h1,_⟩|⟨h0,h1,h2,_⟩
   · dsimp only;omega
   · have:=hn r.toNat h1
     rw[hf,h2]at this
     cases this
 | some b=>
   obtain ⟨k1,k2,k3⟩:=ffUp_some hx
   refine ⟨?_,k1⟩
   rcases h with ⟨_,h2⟩|⟨h0,h1,h2,h3⟩
   · have:=h2 b k1
     rw[hf,this]at k2
     cases k2
   · rcases Nat.lt_trichotomy r.toNat b with h|h|h
     · have:=k3 _ h
       rw[hf,h2]at this
       cases this
     · omega
     · have:=h3 _ h
       rw[hf,this]at k2
       cases k2
def al0:AV := .agg [.o (.sl 1 []),.o (.sl 1 [])]
theorem p78 (w:Wd) (h:ARight w.base w.now):Runs Fs3 78 [alV w.base w.now] [] (match firstFree w with
   | none => .tup [al0,.n (.int .i64 0),.n (.int .i64 60)]
   | some b => .tup [alV w.base (w.now.set b true),.n (.int .i64 b),.n (.int .i64 0)]) []:=by
 have h1:=h.1
 have h2:=h.2.2.1
 have g:=(p67 w.base w.now (by omega) (by omega)).up up3
 rw[decide_eq_true h]at g
 obtain ⟨r,hr,g2⟩:=p113 [w.base,w.now] (by simp) (by rw[longest_two];omega)
 have hf:=first_is h1 hr
 refine vc_eq fs78 rfl ?_
 rw[alV,vc78,(V78e _ _ _).down]
 refine ⟨_,g,sel_intro (fun h=>by cases h) (fun _=>⟨rfl,_,g2,?_⟩)⟩
 cases hx:firstFree w with
 | none=>
   rw[hx]at hf
   exact sel_dec (fun _=>rfl) (fun h=>absurd hf h)
 | some b=>
   rw[hx]at hf
   obtain ⟨rfl,hb⟩:=hf
   exact sel_dec (fun h=>by omega) (fun _=>⟨rfl,_,_,p114 w.now true b hb h2,rfl⟩)
theorem p100 (a b:List Bool) (h:ARight a b) (p:Int):Runs Fs3 100 [alV a b,.o (.sl 1 [.int .i64 p])] [] (if p<10∨p≥b.length∨tr b p.toNat=false then .tup [al0,.n (.int .i64 30)] else .tup [alV a (b.set p.toNat false),.n (.int .i64 0)]) []:=by
 have h1:=h.1
 have h2:=h.2.2.1
 have g:=(p67 a b (by omega) (by omega)).up up3
 rw[decide_eq_true h]at g
 refine vc_eq fs100 rfl ?_
 rw[alV,vc100,(V100e _ _ _ _).down]
 refine ⟨_,g,sel_intro (fun h=>by cases h) (fun _=>⟨_,_,clone_runs fs137 (blD b) (by rw[blD_len];omega),?_⟩)⟩
 refine ⟨fun i _ r=>(i=0∧r=(0,blD b))∨(i=1∧r=(0,blD (b.set p.toNat false))∧¬(p<10∨p≥b.length∨tr b p.toNat=false)),fun i _ _=>(1 - i).toNat,⟨rfl,.inl ⟨rfl,rfl⟩⟩,?_⟩
 rintro i _ ⟨v,els⟩ h _
 rcases h with ⟨rfl,h⟩|⟨rfl,h,hok⟩
 · obtain ⟨rfl,rfl⟩:=Prod.mk.inj h
   refine sel_dec (fun _ => ?_) (fun h=>absurd (by decide:(0:Int)<1) h)
   refine ⟨rfl,by decide,_,rfl,_,rfl,sel_dec (fun h=>by rw[if_pos (.inl h)];rfl) (fun k1=>⟨rfl,?_⟩)⟩
   dsimp only
   rw[blD_len]
   refine sel_dec (fun h=>by rw[if_pos (.inr (.inl h))];rfl) (fun k2 => ?_)
   have hp:p.toNat<b.length:=by omega
   refine ⟨⟨rfl,rfl⟩,by omega,by omega,⟨rfl,rfl⟩,_,blD_at hp,_,rfl,?_⟩
   rw[←tr_at hp]
   refine sel_intro (fun h=>by rw[if_pos (.inr (.inr (by simpa using h)))];rfl) (fun k3 => ?_)
   rw[blD_set]
   refine ⟨⟨rfl,rfl⟩,by omega,by omega,⟨⟨⟨rfl,rfl⟩,rfl⟩,rfl⟩,hp,?_⟩
   repeat (refine And.intro rfl ?_)
   rw[i64_in _ (by omega)]
   exact ⟨.inr ⟨rfl,rfl,by
    rintro (h|h|h)
    · exact k1 h
    · exact k2 h
    · rw[h]at k3;cases k3⟩,by decide⟩
 · obtain ⟨rfl,rfl⟩:=Prod.mk.inj h
   rw[if_neg hok]
   exact sel_dec (fun h=>absurd h (by simp)) (fun _=>⟨rfl,rfl⟩)
end Go.Proofs.YtclgengkohbjjaaGreatDoor.M
