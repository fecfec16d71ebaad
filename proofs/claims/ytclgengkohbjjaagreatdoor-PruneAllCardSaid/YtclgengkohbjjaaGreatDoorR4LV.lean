import Derived.Test.YtclgengkohbjjaaGreatDoorR4L
import Derived.Test.YtclgengkohbjjaaGreatDoorR4FunB
namespace Go.Proofs.YtclgengkohbjjaaGreatDoor.M
set_option linter.unusedVariables false
set_option linter.unusedSimpArgs false
open Go Go.Mir
set_option linter.unusedVariables false
abbrev qG_ (p0 p1 p2:LD) (p3 p4:Int):List Mir.AV:=
 [(aL p0),(aL p1),(aL p2),(aI p3),(aI p4)]
abbrev qC_ (p0 p1 p2:LD) (p3 p4:Int):Mir.AV:=
 (.agg (qG_ p0 p1 p2 p3 p4))
abbrev qD_ (p0:ByteArray):=
 (decide ((((ByteArray.size p0):Nat):Int)<1))
abbrev qE_ (p0:ByteArray):=
 (decide ((((ByteArray.size p0):Nat):Int) > 32))
abbrev qF_:=
 (LD×(LD×(LD×(Int×(Int×(ByteArray×(Int×(Int×((Unit)×(ByteArray×(Bool×(Bool×(Unit)))))))))))))
abbrev qH_ (p0 p1 p2:LD) (p3 p4:Int):List Mir.AV:=
 [(aL p0),(aL p1),(aL p2),(aI p3),(aI p4),(aS qf_),(aI 0),(aI 0),(.n Mir.D.nil),(aS qf_),(aB false),(aB false)]
abbrev qI_ (p0:Bool) (p1 p2 p3:LD):Mir.AV:=
 (.agg [(aB p0),(.n (Mir.D.sl 1 p1)),(.n (Mir.D.sl 1 p2)),(.n (Mir.D.sl 1 p3))])
abbrev qJ_ (p0:Bool) (p1 p2 p3:LD):Mir.AV:=
 (.agg [(aB p0),(aL p1),(aL p2),(aL p3)])
def V38 (a0_0:LD) (a0_1:LD) (a0_2:LD) (a0_3:Int) (a0_4:Int) (a1:ByteArray) (R:Mir.AV→Prop):Prop:=
 (∃x0:Bool,((Runs Fs2 48 [(qC_ a0_0 a0_1 a0_2 a0_3 a0_4)] [] (aB x0) [])∧(sel (Bool.not x0) (qb_ R) (sel (qD_ a1) (qb_ R) (sel (qE_ a1) (qb_ R) (sel (a0_3==0) (R (.tup [qe_,(.n (.int .i64 80))])) (∃x1:(Int→(Int→(qF_→Prop))),(∃x2:(Int→(Int→(qF_→Nat))),(((rh [(hB 3800000 (qG_ a0_0 a0_1 a0_2 a0_3 a0_4)),(hB 3800302 (qH_ a0_0 a0_1 a0_2 a0_3 a0_4))])∧(x1 a0_3 0 (a0_0,(a0_1,(a0_2,(a0_3,(a0_4,(qf_,(0,(0,((),(qf_,(false,(false,()))))))))))))))∧(∀x3:Int,(∀x4:Int,(∀x5:qF_,((x1 x3 x4 x5)→(∀x6:(Nat→Mir.AV),(sel (decide (x4<8)) (∃x7:Bool,(∃x8:LD,(∃x9:LD,(∃x10:LD,(∃x11:Bool,(∃x12:LD,(∃x13:LD,(∃x14:LD,(∃x15:Int,(∃x16:Int,(∃x17:ByteArray,(∃x18:Int,(∃x19:Int,(∃x20:ByteArray,(∃x21:Bool,(∃x22:Bool,((Runs Fs2 62 [(.ptr 3800302 0),(aI x3),(aB (x3==x5.2.2.2.1))] [(hB 3800302 [(aL x5.1),(aL x5.2.1),(aL x5.2.2.1),(aI x5.2.2.2.1),(aI x5.2.2.2.2.1),(aS x5.2.2.2.2.2.1),(aI x5.2.2.2.2.2.2.1),(aI x5.2.2.2.2.2.2.2.1),(.n Mir.D.nil),(aS x5.2.2.2.2.2.2.2.2.2.1),(aB x5.2.2.2.2.2.2.2.2.2.2.1),(aB x5.2.2.2.2.2.2.2.2.2.2.2.1)])] (.tup [(qI_ x7 x8 x9 x10),(aB x11)]) [(hB 3800302 [(aL x12),(aL x13),(aL x14),(aI x15),(aI x16),(aS x17),(aI x18),(aI x19),(.n Mir.D.nil),(aS x20),(aB x21),(aB x22)])])∧(sel (Bool.not x11) (R (.tup [qe_,(.n (.int .i64 81))])) (sel (Bool.not x7) (∃x23:Int,((Runs Fs2 63 [(qJ_ x7 x8 x9 x10),(aS a1)] [] (aI x23) [])∧(rn 1)∧((0:Int)≤x23)∧(∃x24:Mir.D,((qp_ x10 x23 x24)∧(∃x25:Int,(((D.cells x24)[0]?=some (Mir.D.int .i64 x25))∧(rq (aS a1))∧(rq (.ptr 3800302 0))∧(rh [(hB 3800000 (qG_ a0_0 a0_1 a0_2 a0_3 a0_4)),(hB 3800302 [(aL x12),(aL x13),(aL x14),(aI x15),(aI x16),(aS x17),(aI x18),(aI x19),(.n Mir.D.nil),(aS x20),(aB x21),(aB x22)])])∧(x1 x25 (IntKind.wrap .i64 (x4+1)) (x12,(x13,(x14,(x15,(x16,(x17,(x18,(x19,((),(x20,(x21,(x22,())))))))))))))∧(((x2 x25 (IntKind.wrap .i64 (x4+1)) (x12,(x13,(x14,(x15,(x16,(x17,(x18,(x19,((),(x20,(x21,(x22,()))))))))))))):Nat)<(x2 x3 x4 x5)))))))) (∃x26:Int,(∃x27:Bool,((Runs Fs2 64 [(qJ_ x7 x8 x9 x10),(aS a1)] [] (.tup [(aI x26),(aB x27)]) [])∧(sel (Bool.not x27) (R (.tup [qe_,(.n (.int .i64 80))])) ((rn 1)∧((0:Int)≤x26)∧(∃x28:Mir.D,((qp_ x9 x26 x28)∧(∃x29:ByteArray,((qr_ x28 x29)∧(R (.tup [(.n (.str x29)),(.n (.int .i64 0))])))))))))))))))))))))))))))))) (R (.tup [qe_,(.n (.int .i64 81))])))))))))))))))))
def V38e (a0_0:LD) (a0_1:LD) (a0_2:LD) (a0_3:Int) (a0_4:Int) (a1:ByteArray) (R:Mir.AV→Prop):=PLift.up (by delta V38 qI_ qr_ qJ_ qb_ qC_ qE_ qp_ qF_ qD_ qf_ qH_ qe_ qG_;exact rfl:V38 a0_0 a0_1 a0_2 a0_3 a0_4 a1 R=_)
theorem vc38 (a0_0:LD) (a0_1:LD) (a0_2:LD) (a0_3:Int) (a0_4:Int) (a1:ByteArray) (R:Mir.AV→Prop):Vc Fs2 c38.body (argsQ c38 [(.agg [(.o (.sl 1 a0_0)),(.o (.sl 1 a0_1)),(.o (.sl 1 a0_2)),(.n (.int .i64 a0_3)),(.n (.int .i64 a0_4))]),(.n (.str a1))]) [] (endQ c38 R)=V38 a0_0 a0_1 a0_2 a0_3 a0_4 a1 R:=by kernel_rfl
abbrev qK_ (p0 p1:LD):=
 ((p0.length:Int) != (p1.length:Int))
abbrev qL_ (p0:Int) (p1:LD):=
 (decide (p0<(p1.length:Int)))
abbrev qM_ (p0:LD):=
 (rq (aI (p0.length:Int)))
def V18 (a0_0:LD) (a0_1:LD) (a0_2:LD) (a0_3:Int) (a0_4:Int) (R:Mir.AV→Prop):Prop:=
 (∃x0:Bool,((Runs Fs2 54 [(.agg [(aL a0_0),(aL a0_1)])] [] (aB x0) [])∧(sel (Bool.not x0) (R (.n (.bool false))) (sel (qK_ a0_2 a0_1) (R (.n (.bool false))) (sel (decide (a0_4<1)) (R (.n (.bool false))) (sel (decide (a0_4 > 1099511627776)) (R (.n (.bool false))) (∃x1:(Int→Prop),(∃x2:(Int→Nat),(((rh [(hB 1800000 (qG_ a0_0 a0_1 a0_2 a0_3 a0_4)),(hB 1800107 [(aL a0_0),(aL a0_1)])])∧(x1 0))∧(∀x3:Int,((x1 x3)→(∀x4:(Nat→Mir.AV),(sel (qL_ x3 a0_2) ((rn 1)∧((0:Int)≤x3)∧(∃x5:Mir.D,((qp_ a0_2 x3 x5)∧(∃x6:ByteArray,((qr_ x5 x6)∧(sel (qA_ x6) (R (.n (.bool false))) ((rq (.ptr 1800000 0))∧(rq (aL a0_2))∧(qM_ a0_2)∧(rh [(hB 1800000 (qG_ a0_0 a0_1 a0_2 a0_3 a0_4)),(hB 1800107 [(aL a0_0),(aL a0_1)])])∧(x1 (IntKind.wrap .i64 (x3+1)))∧(((x2 (IntKind.wrap .i64 (x3+1))):Nat)<(x2 x3))))))))) (sel (a0_3==0) (R (.n (.bool true))) (sel (decide (a0_3≥10)) (R (.n (.bool (qL_ a0_3 a0_1)))) (R (.n (.bool false))))))))))))))))))
def V18e (a0_0:LD) (a0_1:LD) (a0_2:LD) (a0_3:Int) (a0_4:Int) (R:Mir.AV→Prop):=PLift.up (by delta V18 qL_ qA_ qM_ qr_ qK_ qp_ qG_;exact rfl:V18 a0_0 a0_1 a0_2 a0_3 a0_4 R=_)
theorem vc18 (a0_0:LD) (a0_1:LD) (a0_2:LD) (a0_3:Int) (a0_4:Int) (R:Mir.AV→Prop):Vc Fs2 c18.body (argsQ c18 [(.agg [(.o (.sl 1 a0_0)),(.o (.sl 1 a0_1)),(.o (.sl 1 a0_2)),(.n (.int .i64 a0_3)),(.n (.int .i64 a0_4))])]) [] (endQ c18 R)=V18 a0_0 a0_1 a0_2 a0_3 a0_4 R:=by kernel_rfl
abbrev qN_:Mir.AV:=
 (.agg [(.n (.bool false)),(.n (Mir.D.sl 1 [])),(.n (Mir.D.sl 1 [])),(.n (Mir.D.sl 1 []))])
abbrev qO_ (p0:Bool) (p1 p2 p3:LD):Mir.AV:=
 (.agg [(.n (.bool p0)),(.n (Mir.D.sl 1 p1)),(.n (Mir.D.sl 1 p2)),(.n (Mir.D.sl 1 p3))])
def V99 (a0_0:LD) (a0_1:LD) (a0_2:LD) (a0_3:Int) (a0_4:Int) (a1:Int) (a2:Bool) (R:Mir.AV→Prop):Prop:=
 (∃x0:Bool,((Runs Fs2 48 [(qC_ a0_0 a0_1 a0_2 a0_3 a0_4)] [] (aB x0) [])∧(sel (Bool.not x0) (R (.tup [qN_,(.n (.int .i64 1))])) (∃x1:Bool,(∃x2:LD,(∃x3:LD,(∃x4:LD,(∃x5:Bool,(∃x6:LD,(∃x7:LD,(∃x8:LD,(∃x9:Int,(∃x10:Int,(∃x11:ByteArray,(∃x12:Int,(∃x13:Int,(∃x14:ByteArray,(∃x15:Bool,(∃x16:Bool,((Runs Fs2 62 [(.ptr 9900302 0),(aI a1),(aB a2)] [(hB 9900302 (qH_ a0_0 a0_1 a0_2 a0_3 a0_4))] (.tup [(qI_ x1 x2 x3 x4),(aB x5)]) [(hB 9900302 [(aL x6),(aL x7),(aL x8),(aI x9),(aI x10),(aS x11),(aI x12),(aI x13),(.n Mir.D.nil),(aS x14),(aB x15),(aB x16)])])∧(sel (Bool.not x5) (R (.tup [qN_,(.n (.int .i64 81))])) (R (.tup [(qO_ x1 x2 x3 x4),(.n (.int .i64 0))])))))))))))))))))))))))
def V99e (a0_0:LD) (a0_1:LD) (a0_2:LD) (a0_3:Int) (a0_4:Int) (a1:Int) (a2:Bool) (R:Mir.AV→Prop):=PLift.up (by delta V99 qI_ qf_ qC_ qG_ qO_ qH_ qN_;exact rfl:V99 a0_0 a0_1 a0_2 a0_3 a0_4 a1 a2 R=_)
theorem vc99 (a0_0:LD) (a0_1:LD) (a0_2:LD) (a0_3:Int) (a0_4:Int) (a1:Int) (a2:Bool) (R:Mir.AV→Prop):Vc Fs2 c99.body (argsQ c99 [(.agg [(.o (.sl 1 a0_0)),(.o (.sl 1 a0_1)),(.o (.sl 1 a0_2)),(.n (.int .i64 a0_3)),(.n (.int .i64 a0_4))]),(.n (.int .i64 a1)),(.n (.bool a2))]) [] (endQ c99 R)=V99 a0_0 a0_1 a0_2 a0_3 a0_4 a1 a2 R:=by kernel_rfl
abbrev qP_ (p0:Int) (p1:LD):=
 (decide (p0≥(p1.length:Int)))
abbrev qQ_ (p0:LD) (p1:Mir.AV→Prop):=
 (∃x1:Bool,((Runs Fs2 68 [(aL p0),(.fn 69 [])] [] (aB x1) [])∧(p1 (.n (.bool (Bool.not x1))))))
def V48 (a0_0:LD) (a0_1:LD) (a0_2:LD) (a0_3:Int) (a0_4:Int) (R:Mir.AV→Prop):Prop:=
 (∃x0:Bool,((Runs Fs2 67 [(.agg [(aL a0_0),(aL a0_1)])] [] (aB x0) [])∧(sel (Bool.not x0) (R (.n (.bool false))) (sel (qK_ a0_2 a0_1) (R (.n (.bool false))) (sel (decide (a0_4<1)) (R (.n (.bool false))) (sel (decide (a0_4 > 1099511627776)) (R (.n (.bool false))) (sel (a0_3 != 0) (sel (decide (a0_3<10)) (R (.n (.bool false))) (sel (qP_ a0_3 a0_1) (R (.n (.bool false))) (qQ_ a0_2 R))) (qQ_ a0_2 R))))))))
def V48e (a0_0:LD) (a0_1:LD) (a0_2:LD) (a0_3:Int) (a0_4:Int) (R:Mir.AV→Prop):=PLift.up (by delta V48 qQ_ qK_ qP_;exact rfl:V48 a0_0 a0_1 a0_2 a0_3 a0_4 R=_)
theorem vc48 (a0_0:LD) (a0_1:LD) (a0_2:LD) (a0_3:Int) (a0_4:Int) (R:Mir.AV→Prop):Vc Fs2 c48.body (argsQ c48 [(.agg [(.o (.sl 1 a0_0)),(.o (.sl 1 a0_1)),(.o (.sl 1 a0_2)),(.n (.int .i64 a0_3)),(.n (.int .i64 a0_4))])]) [] (endQ c48 R)=V48 a0_0 a0_1 a0_2 a0_3 a0_4 R:=by kernel_rfl
abbrev qU_:Mir.AV:=
 (.agg [(.n (.bool false)),(.o (.sl 1 [])),(.o (.sl 1 [])),(.o (.sl 1 []))])
abbrev qR_ (p0:Mir.AV→Prop):=
 (p0 (.tup [qU_,(.n (.bool false))]))
abbrev qS_ (p0:Mir.D) (p1:Bool):=
 ((D.cells p0)[0]?=some (Mir.D.bool p1))
abbrev qT_ (p0:Bool) (p1 p2 p3:LD):Mir.AV:=
 (.agg [(.n (.bool p0)),(.o (.sl 1 p1)),(.o (.sl 1 p2)),(.o (.sl 1 p3))])
def V79 (a0_0:LD) (a0_1:LD) (a0_2:LD) (a0_3:Int) (a0_4:Int) (a1:Int) (a2:Bool) (R:Mir.AV→Prop):Prop:=
 (sel (decide (a1<10)) (qR_ R) (sel (qP_ a1 a0_1) (qR_ R) (sel (qP_ a1 a0_2) (qR_ R) ((rn 1)∧((0:Int)≤a1)∧(∃x0:Mir.D,((qp_ a0_1 a1 x0)∧(∃x1:Bool,((qS_ x0 x1)∧(sel (Bool.not x1) (qR_ R) ((rn 1)∧((0:Int)≤a1)∧(∃x2:Mir.D,((qp_ a0_2 a1 x2)∧(∃x3:ByteArray,((qr_ x2 x3)∧(∃x4:Int,(∃x5:Int,(∃x6:ByteArray,(∃x7:Int,((Runs Fs2 57 [(aS x3)] [] (.tup [(.agg [(aI x4),(aI x5),(aS x6)]),(aI x7)]) [])∧(sel (x7 != 0) (qR_ R) (sel (decide (x5 > a0_4)) (qR_ R) (∃x8:Bool,(∃x9:LD,(∃x10:LD,(∃x11:LD,(∃x12:Int,((Runs Fs2 115 [(aI x4),(aS x6)] [] (.tup [(qJ_ x8 x9 x10 x11),(aI x12)]) [])∧(sel (x12 != 0) (qR_ R) (∃x13:Bool,((Runs Fs2 116 [(qJ_ x8 x9 x10 x11),(aB a2)] [] (aB x13) [])∧(sel (Bool.not x13) (qR_ R) (R (.tup [(qT_ x8 x9 x10 x11),(.n (.bool true))])))))))))))))))))))))))))))))))))
def V79e (a0_0:LD) (a0_1:LD) (a0_2:LD) (a0_3:Int) (a0_4:Int) (a1:Int) (a2:Bool) (R:Mir.AV→Prop):=PLift.up (by delta V79 qR_ qS_ qr_ qJ_ qT_ qU_ qp_ qP_;exact rfl:V79 a0_0 a0_1 a0_2 a0_3 a0_4 a1 a2 R=_)
theorem vc79 (a0_0:LD) (a0_1:LD) (a0_2:LD) (a0_3:Int) (a0_4:Int) (a1:Int) (a2:Bool) (R:Mir.AV→Prop):Vc Fs2 c79.body (argsQ c79 [(.agg [(.o (.sl 1 a0_0)),(.o (.sl 1 a0_1)),(.o (.sl 1 a0_2)),(.n (.int .i64 a0_3)),(.n (.int .i64 a0_4))]),(.n (.int .i64 a1)),(.n (.bool a2))]) [] (endQ c79 R)=V79 a0_0 a0_1 a0_2 a0_3 a0_4 a1 a2 R:=by kernel_rfl
abbrev qV_:=
 ((Nat×LD)→((Nat×LD)→Prop))
abbrev qW_:=
 ((Nat×LD)→((Nat×LD)→Nat))
abbrev qX_:=
 (hB 6000000 [(.n Mir.D.nil),(.n Mir.D.nil)])
abbrev qY_ (p0:Int):=
 ((rn 1)∨(@Eq LD [(Mir.D.bool (decide (p0<10)))] []))
abbrev qZ_ (p0:(Nat×LD)) (p1:Int):=
 (((((List.length (Prod.snd p0))+(List.length [(Mir.D.bool (decide (p1<10)))]))*1):Nat)≤140737488355328)
abbrev q0_ (p0:(Nat×LD)) (p1:Int):=
 ((Prod.snd p0)++[(Mir.D.bool (decide (p1<10)))])
def V60 (a0:Int) (R:Mir.AV→Prop):Prop:=
 (∃x0:(Int→((Nat×(Nat×(Unit)))→qV_)),(∃x1:(Int→((Nat×(Nat×(Unit)))→qW_)),(((rh [qX_,(hB 6000101 [(.row 6000505 0),(.row 6000605 0)]),(6000505,(.row false true 0 4 1 [])),(6000605,(.row false true 0 4 1 []))])∧(x0 0 (0,(0,())) (0,[]) (0,[])))∧(∀x2:Int,(∀x3:(Nat×(Nat×(Unit))),(∀x4:(Nat×LD),(∀x5:(Nat×LD),((x0 x2 x3 x4 x5)→(∀x6:(Nat→Mir.AV),(sel (decide (x2<a0)) ((rn 0)∧(qY_ x2)∧(((((Prod.fst x4):Nat)=x3.1)∧(rn 4))∧(rn 1))∧(qZ_ x4 x2)∧(rn 0)∧(qY_ x2)∧(((((Prod.fst x5):Nat)=x3.2.1)∧(rn 4))∧(rn 1))∧(qZ_ x5 x2)∧(rq (aI a0))∧(rq (.ptr 6000000 0))∧(rq (.ptr 6000101 0))∧(rh [qX_,(hB 6000101 [(.row 6000505 (x3.1+1)),(.row 6000605 (x3.2.1+1))]),(6000505,(.row false true (x3.1+1) 4 1 (q0_ x4 x2))),(6000605,(.row false true (x3.2.1+1) 4 1 (q0_ x5 x2)))])∧(x0 (IntKind.wrap .i64 (x2+1)) ((x3.1+1),((x3.2.1+1),())) ((x3.1+1),(q0_ x4 x2)) ((x3.2.1+1),(q0_ x5 x2)))∧(((x1 (IntKind.wrap .i64 (x2+1)) ((x3.1+1),((x3.2.1+1),())) ((x3.1+1),(q0_ x4 x2)) ((x3.2.1+1),(q0_ x5 x2))):Nat)<(x1 x2 x3 x4 x5))) (((Prod.fst x4)=x3.1)∧((Prod.fst x5)=x3.2.1)∧(R (.agg [(.o (.sl 1 (Prod.snd x4))),(.o (.sl 1 (Prod.snd x5)))])))))))))))))
def V60e (a0:Int) (R:Mir.AV→Prop):=PLift.up (by delta V60 qZ_ qW_ qV_ qY_ qX_ q0_;exact rfl:V60 a0 R=_)
theorem vc60 (a0:Int) (R:Mir.AV→Prop):Vc Fs2 c60.body (argsQ c60 [(.n (.int .i64 a0))]) [] (endQ c60 R)=V60 a0 R:=by kernel_rfl
def V63 (a0_0:Bool) (a0_1:LD) (a0_2:LD) (a0_3:LD) (a1:ByteArray) (R:Mir.AV→Prop):Prop:=
 (sel a0_0 (R (.n (.int .i64 0))) (∃x0:Int,(∃x1:Bool,((Runs Fs2 64 [(qJ_ a0_0 a0_1 a0_2 a0_3),(aS a1)] [] (.tup [(aI x0),(aB x1)]) [])∧(sel x1 (R (.n (.int .i64 (IntKind.wrap .i64 (x0+1))))) (R (.n (.int .i64 x0))))))))
def V63e (a0_0:Bool) (a0_1:LD) (a0_2:LD) (a0_3:LD) (a1:ByteArray) (R:Mir.AV→Prop):=PLift.up (by delta V63 qJ_;exact rfl:V63 a0_0 a0_1 a0_2 a0_3 a1 R=_)
theorem vc63 (a0_0:Bool) (a0_1:LD) (a0_2:LD) (a0_3:LD) (a1:ByteArray) (R:Mir.AV→Prop):Vc Fs2 c63.body (argsQ c63 [(.agg [(.n (.bool a0_0)),(.o (.sl 1 a0_1)),(.o (.sl 1 a0_2)),(.o (.sl 1 a0_3))]),(.n (.str a1))]) [] (endQ c63 R)=V63 a0_0 a0_1 a0_2 a0_3 a1 R:=by kernel_rfl
def V64 (a0_0:Bool) (a0_1:LD) (a0_2:LD) (a0_3:LD) (a1:ByteArray) (R:Mir.AV→Prop):Prop:=
 (∃x0:Bool,((Runs Fs2 93 [(qJ_ a0_0 a0_1 a0_2 a0_3)] [] (aB x0) [])∧(sel (Bool.not x0) (R (.tup [(.n (.int .i64 0)),(.n (.bool false))])) (∃x1:Int,((Runs Fs2 94 [(aL a0_1),(aS a1)] [] (aI x1) [])∧(sel (qL_ x1 a0_1) ((rn 1)∧((0:Int)≤x1)∧(∃x2:Mir.D,((qp_ a0_1 x1 x2)∧(∃x3:ByteArray,((qr_ x2 x3)∧(R (.tup [(.n (.int .i64 x1)),(.n (.bool (qu_ x3 a1)))]))))))) (R (.tup [(.n (.int .i64 x1)),(.n (.bool false))]))))))))
def V64e (a0_0:Bool) (a0_1:LD) (a0_2:LD) (a0_3:LD) (a1:ByteArray) (R:Mir.AV→Prop):=PLift.up (by delta V64 qL_ qr_ qJ_ qu_ qp_;exact rfl:V64 a0_0 a0_1 a0_2 a0_3 a1 R=_)
theorem vc64 (a0_0:Bool) (a0_1:LD) (a0_2:LD) (a0_3:LD) (a1:ByteArray) (R:Mir.AV→Prop):Vc Fs2 c64.body (argsQ c64 [(.agg [(.n (.bool a0_0)),(.o (.sl 1 a0_1)),(.o (.sl 1 a0_2)),(.o (.sl 1 a0_3))]),(.n (.str a1))]) [] (endQ c64 R)=V64 a0_0 a0_1 a0_2 a0_3 a1 R:=by kernel_rfl
def V54 (a0_0:LD) (a0_1:LD) (R:Mir.AV→Prop):Prop:=
 (sel (qK_ a0_0 a0_1) (R (.n (.bool false))) (sel (decide ((a0_1.length:Int)<24)) (R (.n (.bool false))) (sel (decide ((a0_1.length:Int) > 2048)) (R (.n (.bool false))) (∃x0:(Int→Prop),(∃x1:(Int→Nat),(((rh [(hB 5400000 [(aL a0_0),(aL a0_1)])])∧(x0 0))∧(∀x2:Int,((x0 x2)→(∀x3:(Nat→Mir.AV),(sel (decide (x2<10)) ((rn 1)∧((0:Int)≤x2)∧(∃x4:Mir.D,((qp_ a0_0 x2 x4)∧(∃x5:Bool,((qS_ x4 x5)∧(sel (Bool.not x5) (R (.n (.bool false))) ((rn 1)∧((0:Int)≤x2)∧(∃x6:Mir.D,((qp_ a0_1 x2 x6)∧(∃x7:Bool,((qS_ x6 x7)∧(sel (Bool.not x7) (R (.n (.bool false))) ((rq (.ptr 5400000 0))∧(rh [(hB 5400000 [(aL a0_0),(aL a0_1)])])∧(x0 (IntKind.wrap .i64 (x2+1)))∧(((x1 (IntKind.wrap .i64 (x2+1))):Nat)<(x1 x2))))))))))))))) (R (.n (.bool true)))))))))))))
def V54e (a0_0:LD) (a0_1:LD) (R:Mir.AV→Prop):=PLift.up (by delta V54 qp_ qK_ qS_;exact rfl:V54 a0_0 a0_1 R=_)
theorem vc54 (a0_0:LD) (a0_1:LD) (R:Mir.AV→Prop):Vc Fs2 c54.body (argsQ c54 [(.agg [(.o (.sl 1 a0_0)),(.o (.sl 1 a0_1))])]) [] (endQ c54 R)=V54 a0_0 a0_1 R:=by kernel_rfl
abbrev q1_ (p0:LD):=
 (Mir.D.sl 1 (List.drop 0 (List.take (Int.toNat 10) p0)))
def V67 (a0_0:LD) (a0_1:LD) (R:Mir.AV→Prop):Prop:=
 (sel (qK_ a0_0 a0_1) (R (.n (.bool false))) (sel (decide ((a0_1.length:Int)<24)) (R (.n (.bool false))) (sel (decide ((a0_1.length:Int) > 2048)) (R (.n (.bool false))) ((rn 1)∧((0:Int)≤10)∧((10:Int)≤(a0_0.length:Int))∧(rn 1)∧((0:Int)≤10)∧((10:Int)≤(a0_1.length:Int))∧(0=0)∧(∃x0:Int,((Runs Fs2 97 [(aL [(q1_ a0_0),(q1_ a0_1)])] [] (aI x0) [])∧(R (.n (.bool (x0==10))))))))))
def V67e (a0_0:LD) (a0_1:LD) (R:Mir.AV→Prop):=PLift.up (by delta V67 qK_ q1_;exact rfl:V67 a0_0 a0_1 R=_)
theorem vc67 (a0_0:LD) (a0_1:LD) (R:Mir.AV→Prop):Vc Fs2 c67.body (argsQ c67 [(.agg [(.o (.sl 1 a0_0)),(.o (.sl 1 a0_1))])]) [] (endQ c67 R)=V67 a0_0 a0_1 R:=by kernel_rfl
abbrev qbh_:=
 ((Unit)×((Unit)×(Unit)))
abbrev q3_:=
 (Bool×((Unit)×qbh_))
abbrev q4_:=
 (Bool×(Nat×(Nat×(Nat×(Unit)))))
abbrev q5_:List Mir.AV:=
 [(aB false),(.n Mir.D.nil),(.n Mir.D.nil),(.n Mir.D.nil)]
abbrev q6_ (p0:Mir.AV→Prop) (p1:Int):=
 (p0 (.tup [qU_,(.n (.int .i64 p1))]))
abbrev q7_ (p0:Int):=
 ((rn 1)∨(@Eq LD [(Mir.D.int .i64 p0)] []))
abbrev q8_ (p0:(Nat×LD)) (p1:q4_):=
 (((((Prod.fst p0):Nat)=p1.2.2.2.1)∧(rn 3))∧(rn 1))
abbrev q9_ (p0:(Nat×LD)):=
 (List.length (Prod.snd p0))
abbrev qba_ (p0:ByteArray) (p1:Int) (p2:ByteArray) (p3 p4:Int):=
 (Runs Fs2 146 [(aS p0),(aI p1)] [] (.tup [(aS p2),(aI p3),(aI p4)]) [])
abbrev qbb_ (p0:ByteArray):=
 ((rn 1)∨(@Eq LD [(Mir.D.str p0)] []))
abbrev qbc_ (p0:(Nat×LD)) (p1:q4_):=
 (((((Prod.fst p0):Nat)=p1.2.1)∧(rn 9))∧(rn 1))
abbrev qbd_ (p0:(Nat×LD)) (p1:ByteArray):=
 (((((List.length (Prod.snd p0))+(List.length [(Mir.D.str p1)]))*16):Nat)≤140737488355328)
abbrev qbe_ (p0:q3_):=
 (hB 11500000 [(aB p0.1),(.n Mir.D.nil),(.n Mir.D.nil),(.n Mir.D.nil)])
abbrev qbf_ (p0:(Nat×LD)) (p1:ByteArray):=
 ((Prod.snd p0)++[(Mir.D.str p1)])
abbrev qbi_ (p0:Mir.AV→Prop):=
 (p0 (.tup [qU_,(.n (.int .i64 4))]))
abbrev qbj_ (p0:q4_):=
 ((p0.2.2.2.1+1)=(p0.2.2.2.1+1))
abbrev qbk_ (p0:Int) (p1:Mir.AV→Prop) (p2:Int) (p3:ByteArray) (p4:(Nat×LD)) (p5:q4_) (p6 p7:(Nat×LD)):=
 (sel (p0 != 0) (q6_ p1 p0) (sel (p2 != (((ByteArray.size p3):Nat):Int)) (qbi_ p1) (((Prod.fst p4)=p5.2.1)∧((Prod.fst p6)=p5.2.2.1)∧((Prod.fst p7)=p5.2.2.2.1)∧(∃x32:Bool,((Runs Fs2 116 [(.agg [(aB p5.1),(aL (Prod.snd p4)),(aL (Prod.snd p6)),(aL (Prod.snd p7))]),(aB true)] [] (aB x32) [])∧(sel (Bool.not x32) (qbi_ p1) (((Prod.fst p4)=p5.2.1)∧((Prod.fst p6)=p5.2.2.1)∧((Prod.fst p7)=p5.2.2.2.1)∧(p1 (.tup [(.agg [(.n (.bool p5.1)),(.o (.sl 1 (Prod.snd p4))),(.o (.sl 1 (Prod.snd p6))),(.o (.sl 1 (Prod.snd p7)))]),(.n (.int .i64 0))])))))))))
abbrev qbg_ (p0 p1:Int) (p2:ByteArray) (p3:Int) (p4:(Nat×LD)) (p5:q4_) (p6:Mir.AV→Prop) (p7 p8:(Nat×LD)):=
 (sel (p0==2) (sel (p1==0) (∃x28:Int,(∃x29:Int,(∃x30:Int,((Runs Fs2 83 [(aS p2),(aI p3),(aI 2)] [] (qw_ x28 x29 x30) [])∧(rn 0)∧(q7_ x28)∧(q8_ p4 p5)∧(((((q9_ p4)+(List.length [(Mir.D.int .i64 x28)]))*8):Nat)≤140737488355328)∧(sel (x30 != 0) (q6_ p6 x30) (sel (x29 != (((ByteArray.size p2):Nat):Int)) (qbi_ p6) (((Prod.fst p7)=p5.2.1)∧((Prod.fst p8)=p5.2.2.1)∧(qbj_ p5)∧(∃x31:Bool,((Runs Fs2 116 [(.agg [(aB p5.1),(aL (Prod.snd p7)),(aL (Prod.snd p8)),(aL ((Prod.snd p4)++[(Mir.D.int .i64 x28)]))]),(aB true)] [] (aB x31) [])∧(sel (Bool.not x31) (qbi_ p6) (((Prod.fst p7)=p5.2.1)∧((Prod.fst p8)=p5.2.2.1)∧(qbj_ p5)∧(p6 (.tup [(.agg [(.n (.bool p5.1)),(.o (.sl 1 (Prod.snd p7))),(.o (.sl 1 (Prod.snd p8))),(.o (.sl 1 ((Prod.snd p4)++[(Mir.D.int .i64 x28)])))]),(.n (.int .i64 0))]))))))))))))) (qbk_ p1 p6 p3 p2 p7 p5 p8 p4)) (qbk_ p1 p6 p3 p2 p7 p5 p8 p4))
abbrev q2_ (p0:ByteArray) (p1:Int) (p2:Mir.AV→Prop):=
 (∃x0:Int,(∃x1:Int,(∃x2:Int,((Runs Fs2 83 [(aS p0),(aI 0),(aI 1)] [] (qw_ x0 x1 x2) [])∧(∃x3:(Int→(Int→(q3_→(q4_→((Nat×LD)→qV_))))),(∃x4:(Int→(Int→(q3_→(q4_→((Nat×LD)→qW_))))),(((rh [(hB 11500000 q5_),(hB 11500303 [(aB (p1==1)),(.row 11501704 0),(.row 11502304 0),(.row 11501204 0)]),(11501204,(.row false true 0 3 1 [])),(11501704,(.row false true 0 9 1 [])),(11502304,(.row false true 0 9 1 []))])∧(x3 x1 0 (false,((),((),((),())))) ((p1==1),(0,(0,(0,())))) (0,[]) (0,[]) (0,[])))∧(∀x5:Int,(∀x6:Int,(∀x7:q3_,(∀x8:q4_,(∀x9:(Nat×LD),(∀x10:(Nat×LD),(∀x11:(Nat×LD),((x3 x5 x6 x7 x8 x9 x10 x11)→(∀x12:(Nat→Mir.AV),(sel (decide (x6<x0)) (sel (x2==0) (sel (p1==2) (∃x13:Int,(∃x14:Int,(∃x15:Int,((Runs Fs2 83 [(aS p0),(aI x5),(aI 2)] [] (qw_ x13 x14 x15) [])∧(sel (x15 != 0) (q6_ p2 x15) ((rn 0)∧(q7_ x13)∧(q8_ x11 x8)∧(((((q9_ x11)+(List.length [(Mir.D.int .i64 x13)]))*8):Nat)≤140737488355328)∧(∃x16:ByteArray,(∃x17:Int,(∃x18:Int,((qba_ p0 x14 x16 x17 x18)∧(sel (x18 != 0) (q6_ p2 x18) ((rn 0)∧(qbb_ x16)∧(qbc_ x9 x8)∧(qbd_ x9 x16)∧(sel (p1==1) (∃x19:ByteArray,(∃x20:Int,(∃x21:Int,((qba_ p0 x17 x19 x20 x21)∧(sel (x21 != 0) (q6_ p2 x21) ((rn 0)∧(qbb_ x19)∧(((((Prod.fst x10):Nat)=x8.2.2.1)∧(rn 9))∧(rn 1))∧(qbd_ x10 x19)∧(rq (aI p1))∧(rq (aS p0))∧(rq (.ptr 11500000 0))∧(rq (.ptr 11500303 0))∧(rq (aI x0))∧(rq (aI x2))∧(rh [(qbe_ x7),(hB 11500303 [(aB x8.1),(.row 11501704 (x8.2.1+1)),(.row 11502304 (x8.2.2.1+1)),(.row 11501204 (x8.2.2.2.1+1))]),(11501204,(.row false true (x8.2.2.2.1+1) 3 1 ((Prod.snd x11)++[(Mir.D.int .i64 x13)]))),(11501704,(.row false true (x8.2.1+1) 9 1 (qbf_ x9 x16))),(11502304,(.row false true (x8.2.2.1+1) 9 1 (qbf_ x10 x19)))])∧(x3 x20 (IntKind.wrap .i64 (x6+1)) (x7.1,((),((),((),())))) (x8.1,((x8.2.1+1),((x8.2.2.1+1),((x8.2.2.2.1+1),())))) ((x8.2.1+1),(qbf_ x9 x16)) ((x8.2.2.1+1),(qbf_ x10 x19)) ((x8.2.2.2.1+1),((Prod.snd x11)++[(Mir.D.int .i64 x13)])))∧(((x4 x20 (IntKind.wrap .i64 (x6+1)) (x7.1,((),((),((),())))) (x8.1,((x8.2.1+1),((x8.2.2.1+1),((x8.2.2.2.1+1),())))) ((x8.2.1+1),(qbf_ x9 x16)) ((x8.2.2.1+1),(qbf_ x10 x19)) ((x8.2.2.2.1+1),((Prod.snd x11)++[(Mir.D.int .i64 x13)]))):Nat)<(x4 x5 x6 x7 x8 x9 x10 x11)))))))) ((rq (aI p1))∧(rq (aS p0))∧(rq (.ptr 11500000 0))∧(rq (.ptr 11500303 0))∧(rq (aI x0))∧(rq (aI x2))∧(rh [(qbe_ x7),(hB 11500303 [(aB x8.1),(.row 11501704 (x8.2.1+1)),(.row 11502304 x8.2.2.1),(.row 11501204 (x8.2.2.2.1+1))]),(11501204,(.row false true (x8.2.2.2.1+1) 3 1 ((Prod.snd x11)++[(Mir.D.int .i64 x13)]))),(11501704,(.row false true (x8.2.1+1) 9 1 (qbf_ x9 x16))),(11502304,(.row false true (Prod.fst x10) 9 1 (Prod.snd x10)))])∧(x3 x17 (IntKind.wrap .i64 (x6+1)) (x7.1,((),((),((),())))) (x8.1,((x8.2.1+1),(x8.2.2.1,((x8.2.2.2.1+1),())))) ((x8.2.1+1),(qbf_ x9 x16)) ((Prod.fst x10),(Prod.snd x10)) ((x8.2.2.2.1+1),((Prod.snd x11)++[(Mir.D.int .i64 x13)])))∧(((x4 x17 (IntKind.wrap .i64 (x6+1)) (x7.1,((),((),((),())))) (x8.1,((x8.2.1+1),(x8.2.2.1,((x8.2.2.2.1+1),())))) ((x8.2.1+1),(qbf_ x9 x16)) ((Prod.fst x10),(Prod.snd x10)) ((x8.2.2.2.1+1),((Prod.snd x11)++[(Mir.D.int .i64 x13)]))):Nat)<(x4 x5 x6 x7 x8 x9 x10 x11)))))))))))))))) (∃x22:ByteArray,(∃x23:Int,(∃x24:Int,((qba_ p0 x5 x22 x23 x24)∧(sel (x24 != 0) (q6_ p2 x24) ((rn 0)∧(qbb_ x22)∧(qbc_ x9 x8)∧(qbd_ x9 x22)∧(sel (p1==1) (∃x25:ByteArray,(∃x26:Int,(∃x27:Int,((qba_ p0 x23 x25 x26 x27)∧(sel (x27 != 0) (q6_ p2 x27) ((rn 0)∧(qbb_ x25)∧(((((Prod.fst x10):Nat)=x8.2.2.1)∧(rn 9))∧(rn 1))∧(qbd_ x10 x25)∧(rq (aI p1))∧(rq (aS p0))∧(rq (.ptr 11500000 0))∧(rq (.ptr 11500303 0))∧(rq (aI x0))∧(rq (aI x2))∧(rh [(qbe_ x7),(hB 11500303 [(aB x8.1),(.row 11501704 (x8.2.1+1)),(.row 11502304 (x8.2.2.1+1)),(.row 11501204 x8.2.2.2.1)]),(11501204,(.row false true (Prod.fst x11) 3 1 (Prod.snd x11))),(11501704,(.row false true (x8.2.1+1) 9 1 (qbf_ x9 x22))),(11502304,(.row false true (x8.2.2.1+1) 9 1 (qbf_ x10 x25)))])∧(x3 x26 (IntKind.wrap .i64 (x6+1)) (x7.1,((),((),((),())))) (x8.1,((x8.2.1+1),((x8.2.2.1+1),(x8.2.2.2.1,())))) ((x8.2.1+1),(qbf_ x9 x22)) ((x8.2.2.1+1),(qbf_ x10 x25)) ((Prod.fst x11),(Prod.snd x11)))∧(((x4 x26 (IntKind.wrap .i64 (x6+1)) (x7.1,((),((),((),())))) (x8.1,((x8.2.1+1),((x8.2.2.1+1),(x8.2.2.2.1,())))) ((x8.2.1+1),(qbf_ x9 x22)) ((x8.2.2.1+1),(qbf_ x10 x25)) ((Prod.fst x11),(Prod.snd x11))):Nat)<(x4 x5 x6 x7 x8 x9 x10 x11)))))))) ((rq (aI p1))∧(rq (aS p0))∧(rq (.ptr 11500000 0))∧(rq (.ptr 11500303 0))∧(rq (aI x0))∧(rq (aI x2))∧(rh [(qbe_ x7),(hB 11500303 [(aB x8.1),(.row 11501704 (x8.2.1+1)),(.row 11502304 x8.2.2.1),(.row 11501204 x8.2.2.2.1)]),(11501204,(.row false true (Prod.fst x11) 3 1 (Prod.snd x11))),(11501704,(.row false true (x8.2.1+1) 9 1 (qbf_ x9 x22))),(11502304,(.row false true (Prod.fst x10) 9 1 (Prod.snd x10)))])∧(x3 x23 (IntKind.wrap .i64 (x6+1)) (x7.1,((),((),((),())))) (x8.1,((x8.2.1+1),(x8.2.2.1,(x8.2.2.2.1,())))) ((x8.2.1+1),(qbf_ x9 x22)) ((Prod.fst x10),(Prod.snd x10)) ((Prod.fst x11),(Prod.snd x11)))∧(((x4 x23 (IntKind.wrap .i64 (x6+1)) (x7.1,((),((),((),())))) (x8.1,((x8.2.1+1),(x8.2.2.1,(x8.2.2.2.1,())))) ((x8.2.1+1),(qbf_ x9 x22)) ((Prod.fst x10),(Prod.snd x10)) ((Prod.fst x11),(Prod.snd x11))):Nat)<(x4 x5 x6 x7 x8 x9 x10 x11))))))))))) (qbg_ p1 x2 p0 x5 x11 x8 p2 x9 x10)) (qbg_ p1 x2 p0 x5 x11 x8 p2 x9 x10))))))))))))))))))
def V115 (a0:Int) (a1:ByteArray) (R:Mir.AV→Prop):Prop:=
 (sel (a0 != 1) (sel (a0 != 2) (R (.tup [qU_,(.n (.int .i64 81))])) (q2_ a1 a0 R)) (q2_ a1 a0 R))
def V115e (a0:Int) (a1:ByteArray) (R:Mir.AV→Prop):=PLift.up (by delta V115 qbh_ q2_ qbk_ qbb_ q8_ qw_ qbi_ qV_ q6_ qbf_ qba_ q9_ qbj_ qbd_ qW_ qbe_ qbg_ q7_ q3_ qbc_ q4_ qU_ q5_;exact rfl:V115 a0 a1 R=_)
theorem vc115 (a0:Int) (a1:ByteArray) (R:Mir.AV→Prop):Vc Fs2 c115.body (argsQ c115 [(.n (.int .i64 a0)),(.n (.str a1))]) [] (endQ c115 R)=V115 a0 a1 R:=by kernel_rfl
abbrev qbm_ (p0:LD):=
 (decide ((p0.length:Int)≤8))
abbrev qbl_ (p0:Bool) (p1:LD) (p2:Bool) (p3:Mir.AV→Prop):=
 (sel p0 (sel (qbm_ p1) (sel p2 (p3 (.n (.bool true))) (p3 (.n (.bool (decide ((p1.length:Int)≥4)))))) (p3 (.n (.bool false)))) (p3 (.n (.bool false))))
def V116 (a0_0:Bool) (a0_1:LD) (a0_2:LD) (a0_3:LD) (a1:Bool) (R:Mir.AV→Prop):Prop:=
 (∃x0:Bool,((Runs Fs2 147 [(qJ_ a0_0 a0_1 a0_2 a0_3)] [] (aB x0) [])∧(qbl_ x0 a0_1 a1 R)))
def V116e (a0_0:Bool) (a0_1:LD) (a0_2:LD) (a0_3:LD) (a1:Bool) (R:Mir.AV→Prop):=PLift.up (by delta V116 qbm_ qJ_ qbl_;exact rfl:V116 a0_0 a0_1 a0_2 a0_3 a1 R=_)
theorem vc116 (a0_0:Bool) (a0_1:LD) (a0_2:LD) (a0_3:LD) (a1:Bool) (R:Mir.AV→Prop):Vc Fs2 c116.body (argsQ c116 [(.agg [(.n (.bool a0_0)),(.o (.sl 1 a0_1)),(.o (.sl 1 a0_2)),(.o (.sl 1 a0_3))]),(.n (.bool a1))]) [] (endQ c116 R)=V116 a0_0 a0_1 a0_2 a0_3 a1 R:=by kernel_rfl
abbrev qbo_ (p0:ByteArray) (p1 p2:Int):=
 (hB 9100302 [(aS p0),(aI p1),(aI p2)])
abbrev qbp_:=
 (ByteArray×(Int×(Int×(Unit))))
abbrev qbr_ (p0:Mir.AV→Prop):=
 (p0 (.tup [qN_,(.n (.int .i64 4))]))
abbrev qbs_ (p0:(Nat×LD)):Mir.AV:=
 (.n (Mir.D.sl 1 (Prod.snd p0)))
abbrev qbq_ (p0:q4_) (p1:qbp_) (p2:(Nat×LD)) (p3:Mir.AV→Prop) (p4:ByteArray) (p5 p6:(Nat×LD)):=
 (sel (Bool.not p0.1) (∃x29:Int,(∃x30:ByteArray,(∃x31:Int,(∃x32:Int,((Runs Fs2 125 [(.ptr 9100302 0),(aI 2)] [(hB 9100302 [(aS p1.1),(aI p1.2.1),(aI p1.2.2.1)])] (aI x29) [(qbo_ x30 x31 x32)])∧(rn 0)∧(q7_ x29)∧(q8_ p2 p0)∧(((((q9_ p2)+(List.length [(Mir.D.int .i64 x29)]))*8):Nat)≤140737488355328)∧(sel (x32 != 0) (p3 (.tup [qN_,(.n (.int .i64 x32))])) (sel (x31 != (((ByteArray.size p4):Nat):Int)) (qbr_ p3) (((Prod.fst p5)=p0.2.1)∧((Prod.fst p6)=p0.2.2.1)∧(qbj_ p0)∧(∃x33:Bool,((Runs Fs2 92 [(.agg [(aB p0.1),(aL (Prod.snd p5)),(aL (Prod.snd p6)),(aL ((Prod.snd p2)++[(Mir.D.int .i64 x29)]))]),(aB true)] [] (aB x33) [])∧(sel (Bool.not x33) (qbr_ p3) (((Prod.fst p5)=p0.2.1)∧((Prod.fst p6)=p0.2.2.1)∧(qbj_ p0)∧(p3 (.tup [(.agg [(.n (.bool p0.1)),(qbs_ p5),(qbs_ p6),(.n (Mir.D.sl 1 ((Prod.snd p2)++[(Mir.D.int .i64 x29)])))]),(.n (.int .i64 0))])))))))))))))) (sel (p1.2.2.1 != 0) (p3 (.tup [qN_,(.n (.int .i64 p1.2.2.1))])) (sel (p1.2.1 != (((ByteArray.size p4):Nat):Int)) (qbr_ p3) (((Prod.fst p5)=p0.2.1)∧((Prod.fst p6)=p0.2.2.1)∧((Prod.fst p2)=p0.2.2.2.1)∧(∃x34:Bool,((Runs Fs2 92 [(.agg [(aB p0.1),(aL (Prod.snd p5)),(aL (Prod.snd p6)),(aL (Prod.snd p2))]),(aB true)] [] (aB x34) [])∧(sel (Bool.not x34) (qbr_ p3) (((Prod.fst p5)=p0.2.1)∧((Prod.fst p6)=p0.2.2.1)∧((Prod.fst p2)=p0.2.2.2.1)∧(p3 (.tup [(.agg [(.n (.bool p0.1)),(qbs_ p5),(qbs_ p6),(qbs_ p2)]),(.n (.int .i64 0))]))))))))))
abbrev qbn_ (p0:ByteArray) (p1:Int) (p2:Mir.AV→Prop):=
 (∃x0:Int,(∃x1:ByteArray,(∃x2:Int,(∃x3:Int,((Runs Fs2 125 [(.ptr 9100302 0),(aI 1)] [(hB 9100302 [(aS p0),(aI 0),(aI 0)])] (aI x0) [(qbo_ x1 x2 x3)])∧(∃x4:(Int→(qbp_→(q4_→((Nat×LD)→qV_)))),(∃x5:(Int→(qbp_→(q4_→((Nat×LD)→qW_)))),(((rh [(hB 9100000 q5_),(qbo_ x1 x2 x3),(hB 9100403 [(aB (p1==1)),(.row 9190001 0),(.row 9190002 0),(.row 9190003 0)]),(9190001,(.row false true 0 9 1 [])),(9190002,(.row false true 0 9 1 [])),(9190003,(.row false true 0 3 1 []))])∧(x4 0 (x1,(x2,(x3,()))) ((p1==1),(0,(0,(0,())))) (0,[]) (0,[]) (0,[])))∧(∀x6:Int,(∀x7:qbp_,(∀x8:q4_,(∀x9:(Nat×LD),(∀x10:(Nat×LD),(∀x11:(Nat×LD),((x4 x6 x7 x8 x9 x10 x11)→(∀x12:(Nat→Mir.AV),(sel (decide (x6<x0)) (sel (x7.2.2.1==0) (sel x8.1 (∃x13:ByteArray,(∃x14:ByteArray,(∃x15:Int,(∃x16:Int,((Runs Fs2 126 [(.ptr 9100302 0)] [(hB 9100302 [(aS x7.1),(aI x7.2.1),(aI x7.2.2.1)])] (aS x13) [(qbo_ x14 x15 x16)])∧(rn 0)∧(qbb_ x13)∧(qbc_ x9 x8)∧(qbd_ x9 x13)∧(∃x17:ByteArray,(∃x18:ByteArray,(∃x19:Int,(∃x20:Int,((Runs Fs2 126 [(.ptr 9100302 0)] [(qbo_ x14 x15 x16)] (aS x17) [(qbo_ x18 x19 x20)])∧(rn 0)∧(qbb_ x17)∧(((((Prod.fst x10):Nat)=x8.2.2.1)∧(rn 9))∧(rn 1))∧(qbd_ x10 x17)∧(rq (aS p0))∧(rq (.ptr 9100000 0))∧(rq (.ptr 9100302 0))∧(rq (.ptr 9100403 0))∧(rq (aI x0))∧(rh [(hB 9100000 q5_),(qbo_ x18 x19 x20),(hB 9100403 [(aB x8.1),(.row 9190001 (x8.2.1+1)),(.row 9190002 (x8.2.2.1+1)),(.row 9190003 x8.2.2.2.1)]),(9190001,(.row false true (x8.2.1+1) 9 1 (qbf_ x9 x13))),(9190002,(.row false true (x8.2.2.1+1) 9 1 (qbf_ x10 x17))),(9190003,(.row false true (Prod.fst x11) 3 1 (Prod.snd x11)))])∧(x4 (IntKind.wrap .i64 (x6+1)) (x18,(x19,(x20,()))) (x8.1,((x8.2.1+1),((x8.2.2.1+1),(x8.2.2.2.1,())))) ((x8.2.1+1),(qbf_ x9 x13)) ((x8.2.2.1+1),(qbf_ x10 x17)) ((Prod.fst x11),(Prod.snd x11)))∧(((x5 (IntKind.wrap .i64 (x6+1)) (x18,(x19,(x20,()))) (x8.1,((x8.2.1+1),((x8.2.2.1+1),(x8.2.2.2.1,())))) ((x8.2.1+1),(qbf_ x9 x13)) ((x8.2.2.1+1),(qbf_ x10 x17)) ((Prod.fst x11),(Prod.snd x11))):Nat)<(x5 x6 x7 x8 x9 x10 x11)))))))))))) (∃x21:Int,(∃x22:ByteArray,(∃x23:Int,(∃x24:Int,((Runs Fs2 125 [(.ptr 9100302 0),(aI 2)] [(hB 9100302 [(aS x7.1),(aI x7.2.1),(aI x7.2.2.1)])] (aI x21) [(qbo_ x22 x23 x24)])∧(rn 0)∧(q7_ x21)∧(q8_ x11 x8)∧(((((q9_ x11)+(List.length [(Mir.D.int .i64 x21)]))*8):Nat)≤140737488355328)∧(∃x25:ByteArray,(∃x26:ByteArray,(∃x27:Int,(∃x28:Int,((Runs Fs2 126 [(.ptr 9100302 0)] [(qbo_ x22 x23 x24)] (aS x25) [(qbo_ x26 x27 x28)])∧(rn 0)∧(qbb_ x25)∧(qbc_ x9 x8)∧(qbd_ x9 x25)∧(rq (aS p0))∧(rq (.ptr 9100000 0))∧(rq (.ptr 9100302 0))∧(rq (.ptr 9100403 0))∧(rq (aI x0))∧(rh [(hB 9100000 q5_),(qbo_ x26 x27 x28),(hB 9100403 [(aB x8.1),(.row 9190001 (x8.2.1+1)),(.row 9190002 x8.2.2.1),(.row 9190003 (x8.2.2.2.1+1))]),(9190001,(.row false true (x8.2.1+1) 9 1 (qbf_ x9 x25))),(9190002,(.row false true (Prod.fst x10) 9 1 (Prod.snd x10))),(9190003,(.row false true (x8.2.2.2.1+1) 3 1 ((Prod.snd x11)++[(Mir.D.int .i64 x21)])))])∧(x4 (IntKind.wrap .i64 (x6+1)) (x26,(x27,(x28,()))) (x8.1,((x8.2.1+1),(x8.2.2.1,((x8.2.2.2.1+1),())))) ((x8.2.1+1),(qbf_ x9 x25)) ((Prod.fst x10),(Prod.snd x10)) ((x8.2.2.2.1+1),((Prod.snd x11)++[(Mir.D.int .i64 x21)])))∧(((x5 (IntKind.wrap .i64 (x6+1)) (x26,(x27,(x28,()))) (x8.1,((x8.2.1+1),(x8.2.2.1,((x8.2.2.2.1+1),())))) ((x8.2.1+1),(qbf_ x9 x25)) ((Prod.fst x10),(Prod.snd x10)) ((x8.2.2.2.1+1),((Prod.snd x11)++[(Mir.D.int .i64 x21)]))):Nat)<(x5 x6 x7 x8 x9 x10 x11))))))))))))) (qbq_ x8 x7 x11 p2 p0 x9 x10)) (qbq_ x8 x7 x11 p2 p0 x9 x10))))))))))))))))))
def V91 (a0:Int) (a1:ByteArray) (R:Mir.AV→Prop):Prop:=
 (sel (a0 != 1) (sel (a0 != 2) (R (.tup [qN_,(.n (.int .i64 81))])) (qbn_ a1 a0 R)) (qbn_ a1 a0 R))
def V91e (a0:Int) (a1:ByteArray) (R:Mir.AV→Prop):=PLift.up (by delta V91 qbp_ qbb_ q8_ qV_ qbo_ qbn_ qbs_ qbf_ q9_ qbr_ qbj_ qbd_ qW_ q7_ qbq_ qbc_ qN_ q4_ q5_;exact rfl:V91 a0 a1 R=_)
theorem vc91 (a0:Int) (a1:ByteArray) (R:Mir.AV→Prop):Vc Fs2 c91.body (argsQ c91 [(.n (.int .i64 a0)),(.n (.str a1))]) [] (endQ c91 R)=V91 a0 a1 R:=by kernel_rfl
def V92 (a0_0:Bool) (a0_1:LD) (a0_2:LD) (a0_3:LD) (a1:Bool) (R:Mir.AV→Prop):Prop:=
 (∃x0:Bool,((Runs Fs2 93 [(qJ_ a0_0 a0_1 a0_2 a0_3)] [] (aB x0) [])∧(qbl_ x0 a0_1 a1 R)))
def V92e (a0_0:Bool) (a0_1:LD) (a0_2:LD) (a0_3:LD) (a1:Bool) (R:Mir.AV→Prop):=PLift.up (by delta V92 qbm_ qJ_ qbl_;exact rfl:V92 a0_0 a0_1 a0_2 a0_3 a1 R=_)
theorem vc92 (a0_0:Bool) (a0_1:LD) (a0_2:LD) (a0_3:LD) (a1:Bool) (R:Mir.AV→Prop):Vc Fs2 c92.body (argsQ c92 [(.agg [(.n (.bool a0_0)),(.o (.sl 1 a0_1)),(.o (.sl 1 a0_2)),(.o (.sl 1 a0_3))]),(.n (.bool a1))]) [] (endQ c92 R)=V92 a0_0 a0_1 a0_2 a0_3 a1 R:=by kernel_rfl
abbrev qbt_ (p0:LD) (p1:Int) (p2:Mir.D):=
 (p0[Int.toNat (IntKind.wrap .i64 (p1 - 1))]?=some p2)
abbrev qbu_ (p0 p1:ByteArray):=
 (Op.bytesLess (ByteArray.toList p0) (ByteArray.toList p1))
abbrev qbv_ (p0:LD) (p1:Bool) (p2 p3:LD) (p4:(Int→Prop)) (p5:Int) (p6:(Int→Nat)):=
 ((rq (.ptr 9300000 0))∧(qM_ p0)∧(rq (aL p0))∧(qM_ p0)∧(rh [(hB 9300000 [(aB p1),(aL p0),(aL p2),(aL p3)])])∧(p4 (IntKind.wrap .i64 (p5+1)))∧(((p6 (IntKind.wrap .i64 (p5+1))):Nat)<(p6 p5)))
def V93 (a0_0:Bool) (a0_1:LD) (a0_2:LD) (a0_3:LD) (R:Mir.AV→Prop):Prop:=
 (sel (decide ((a0_1.length:Int) > 9)) (R (.n (.bool false))) (∃x0:(Int→Prop),(∃x1:(Int→Nat),(((rh [(hB 9300000 [(aB a0_0),(aL a0_1),(aL a0_2),(aL a0_3)])])∧(x0 0))∧(∀x2:Int,((x0 x2)→(∀x3:(Nat→Mir.AV),(sel (qL_ x2 a0_1) ((rn 1)∧((0:Int)≤x2)∧(∃x4:Mir.D,((qp_ a0_1 x2 x4)∧(∃x5:ByteArray,((qr_ x4 x5)∧(sel (qD_ x5) (R (.n (.bool false))) (sel (qE_ x5) (R (.n (.bool false))) (sel (decide (x2 > 0)) ((rn 1)∧((0:Int)≤(IntKind.wrap .i64 (x2 - 1)))∧(∃x6:Mir.D,((qbt_ a0_1 x2 x6)∧(∃x7:ByteArray,((qr_ x6 x7)∧(sel ((qbu_ x5 x7)||(qu_ x5 x7)) (R (.n (.bool false))) (qbv_ a0_1 a0_0 a0_2 a0_3 x0 x2 x1))))))) (qbv_ a0_1 a0_0 a0_2 a0_3 x0 x2 x1))))))))) (sel a0_0 (sel ((a0_3.length:Int)==0) (sel ((a0_2.length:Int)==(a0_1.length:Int)) (∃x8:Bool,((Runs Fs2 68 [(aL a0_2),(.fn 127 [])] [] (aB x8) [])∧(R (.n (.bool (Bool.not x8)))))) (R (.n (.bool false)))) (R (.n (.bool false)))) (sel ((a0_2.length:Int)==0) (sel (decide ((a0_1.length:Int)≥1)) (sel ((a0_3.length:Int)==(IntKind.wrap .i64 ((a0_1.length:Int)+1))) (∃x9:Bool,((Runs Fs2 128 [(aL a0_3),(.fn 129 [])] [] (aB x9) [])∧(R (.n (.bool (Bool.not x9)))))) (R (.n (.bool false)))) (R (.n (.bool false)))) (R (.n (.bool false)))))))))))))
def V93e (a0_0:Bool) (a0_1:LD) (a0_2:LD) (a0_3:LD) (R:Mir.AV→Prop):=PLift.up (by delta V93 qbt_ qbv_ qL_ qM_ qr_ qbu_ qE_ qu_ qp_ qD_;exact rfl:V93 a0_0 a0_1 a0_2 a0_3 R=_)
theorem vc93 (a0_0:Bool) (a0_1:LD) (a0_2:LD) (a0_3:LD) (R:Mir.AV→Prop):Vc Fs2 c93.body (argsQ c93 [(.agg [(.n (.bool a0_0)),(.o (.sl 1 a0_1)),(.o (.sl 1 a0_2)),(.o (.sl 1 a0_3))])]) [] (endQ c93 R)=V93 a0_0 a0_1 a0_2 a0_3 R:=by kernel_rfl
def V80 (a0:ByteArray) (a1:ByteArray) (a2:ByteArray) (R:Mir.AV→Prop):Prop:=
 (sel (Bool.not (qbu_ a0 a1)) (sel ((ByteArray.toList a2)==(ByteArray.toList qf_)) (R (.n (.bool true))) (R (.n (.bool (qbu_ a0 a2))))) (R (.n (.bool false))))
def V80e (a0:ByteArray) (a1:ByteArray) (a2:ByteArray) (R:Mir.AV→Prop):=PLift.up (by delta V80 qf_ qbu_;exact rfl:V80 a0 a1 a2 R=_)
theorem vc80 (a0:ByteArray) (a1:ByteArray) (a2:ByteArray) (R:Mir.AV→Prop):Vc Fs2 c80.body (argsQ c80 [(.n (.str a0)),(.n (.str a1)),(.n (.str a2))]) [] (endQ c80 R)=V80 a0 a1 a2 R:=by kernel_rfl
def V97 (a0:LD) (R:Mir.AV→Prop):Prop:=
 (∃x0:Int,((Runs Fs2 133 [(aL a0)] [] (aI x0) [])∧(∃x1:(Int→(Int→Prop)),(∃x2:(Int→(Int→Nat)),(((rh [])∧(x1 0 0))∧(∀x3:Int,(∀x4:Int,((x1 x3 x4)→(∀x5:(Nat→Mir.AV),(sel (decide (x4<x0)) (∃x6:Bool,((Runs Fs2 134 [(aL a0),(.fn 135 [(.ptr 9700401 0)])] [(hB 9700401 [(aI x4)])] (aB x6) [(hB 9700401 [(aI x4)])])∧(sel (Bool.not x6) ((rq (aL a0))∧(rq (aI x0))∧(rh [])∧(x1 (IntKind.wrap .i64 (x3+1)) (IntKind.wrap .i64 (x4+1)))∧(((x2 (IntKind.wrap .i64 (x3+1)) (IntKind.wrap .i64 (x4+1))):Nat)<(x2 x3 x4))) ((rq (aL a0))∧(rq (aI x0))∧(rh [])∧(x1 x3 (IntKind.wrap .i64 (x4+1)))∧(((x2 x3 (IntKind.wrap .i64 (x4+1))):Nat)<(x2 x3 x4)))))) (R (.n (.int .i64 x3)))))))))))))
theorem vc97 (a0:LD) (R:Mir.AV→Prop):Vc Fs2 c97.body (argsQ c97 [(.o (.sl 1 a0))]) [] (endQ c97 R)=V97 a0 R:=by kernel_rfl
abbrev qbw_ (p0:Bool) (p1 p2 p3:LD):=
 (rh [(hB 14700000 [(aB p0),(aL p1),(aL p2),(aL p3)])])
abbrev qbx_ (p0:LD) (p1:Bool) (p2 p3:LD) (p4:(Int→Prop)) (p5:Int) (p6:(Int→Nat)):=
 ((rq (.ptr 14700000 0))∧(rq (aL p0))∧(qM_ p0)∧(qbw_ p1 p0 p2 p3)∧(p4 (IntKind.wrap .i64 (p5+1)))∧(((p6 (IntKind.wrap .i64 (p5+1))):Nat)<(p6 p5)))
def V147 (a0_0:Bool) (a0_1:LD) (a0_2:LD) (a0_3:LD) (R:Mir.AV→Prop):Prop:=
 (sel (decide ((a0_1.length:Int) > 9)) (R (.n (.bool false))) (∃x0:(Int→Prop),(∃x1:(Int→Nat),(((qbw_ a0_0 a0_1 a0_2 a0_3)∧(x0 0))∧(∀x2:Int,((x0 x2)→(∀x3:(Nat→Mir.AV),(sel (qL_ x2 a0_1) ((rn 1)∧((0:Int)≤x2)∧(∃x4:Mir.D,((qp_ a0_1 x2 x4)∧(∃x5:ByteArray,((qr_ x4 x5)∧(sel (qD_ x5) (R (.n (.bool false))) (sel (qE_ x5) (R (.n (.bool false))) (sel (decide (x2 > 0)) ((rn 1)∧((0:Int)≤(IntKind.wrap .i64 (x2 - 1)))∧(∃x6:Mir.D,((qbt_ a0_1 x2 x6)∧(∃x7:ByteArray,((qr_ x6 x7)∧(sel ((qbu_ x5 x7)||(qu_ x5 x7)) (R (.n (.bool false))) (qbx_ a0_1 a0_0 a0_2 a0_3 x0 x2 x1))))))) (qbx_ a0_1 a0_0 a0_2 a0_3 x0 x2 x1))))))))) (∃x8:(Int→Prop),(∃x9:(Int→Nat),(((qbw_ a0_0 a0_1 a0_2 a0_3)∧(x8 0))∧(∀x10:Int,((x8 x10)→(∀x11:(Nat→Mir.AV),(sel (qL_ x10 a0_2) ((rn 1)∧((0:Int)≤x10)∧(∃x12:Mir.D,((qp_ a0_2 x10 x12)∧(∃x13:ByteArray,((qr_ x12 x13)∧(sel (decide ((((ByteArray.size x13):Nat):Int) > 200)) (R (.n (.bool false))) ((rq (.ptr 14700000 0))∧(rq (aL a0_2))∧(qM_ a0_2)∧(qbw_ a0_0 a0_1 a0_2 a0_3)∧(x8 (IntKind.wrap .i64 (x10+1)))∧(((x9 (IntKind.wrap .i64 (x10+1))):Nat)<(x9 x10))))))))) (∃x14:(Int→Prop),(∃x15:(Int→Nat),(((qbw_ a0_0 a0_1 a0_2 a0_3)∧(x14 0))∧(∀x16:Int,((x14 x16)→(∀x17:(Nat→Mir.AV),(sel (qL_ x16 a0_3) ((rn 1)∧((0:Int)≤x16)∧(∃x18:Mir.D,((qp_ a0_3 x16 x18)∧(∃x19:Int,(((D.cells x18)[0]?=some (Mir.D.int .i64 x19))∧(sel (decide (x19<10)) (R (.n (.bool false))) (sel (decide (x19 > 2047)) (R (.n (.bool false))) ((rq (.ptr 14700000 0))∧(rq (aL a0_3))∧(qM_ a0_3)∧(qbw_ a0_0 a0_1 a0_2 a0_3)∧(x14 (IntKind.wrap .i64 (x16+1)))∧(((x15 (IntKind.wrap .i64 (x16+1))):Nat)<(x15 x16)))))))))) (sel a0_0 (sel ((a0_2.length:Int)==(a0_1.length:Int)) (R (.n (.bool ((a0_3.length:Int)==0)))) (R (.n (.bool false)))) (sel ((a0_2.length:Int)==0) (sel (decide ((a0_1.length:Int)≥1)) (R (.n (.bool ((a0_3.length:Int)==(IntKind.wrap .i64 ((a0_1.length:Int)+1)))))) (R (.n (.bool false)))) (R (.n (.bool false)))))))))))))))))))))))))))
def V147e (a0_0:Bool) (a0_1:LD) (a0_2:LD) (a0_3:LD) (R:Mir.AV→Prop):=PLift.up (by delta V147 qL_ qbt_ qbx_ qbw_ qM_ qr_ qbu_ qE_ qp_ qu_ qD_;exact rfl:V147 a0_0 a0_1 a0_2 a0_3 R=_)
theorem vc147 (a0_0:Bool) (a0_1:LD) (a0_2:LD) (a0_3:LD) (R:Mir.AV→Prop):Vc Fs2 c147.body (argsQ c147 [(.agg [(.n (.bool a0_0)),(.o (.sl 1 a0_1)),(.o (.sl 1 a0_2)),(.o (.sl 1 a0_3))])]) [] (endQ c147 R)=V147 a0_0 a0_1 a0_2 a0_3 R:=by kernel_rfl
def V69 (a0:ByteArray) (R:Mir.AV→Prop):Prop:=
 (R (.n (.bool (qA_ a0))))
def V69e (a0:ByteArray) (R:Mir.AV→Prop):=PLift.up (by delta V69 qA_;exact rfl:V69 a0 R=_)
theorem vc69 (a0:ByteArray) (R:Mir.AV→Prop):Vc Fs2 c69.body (argsQ c69 [(.n (.str a0))]) [] (endQ c69 R)=V69 a0 R:=by kernel_rfl
def V127 (a0:ByteArray) (R:Mir.AV→Prop):Prop:=
 (R (.n (.bool (decide ((((ByteArray.size a0):Nat):Int) > 200)))))
theorem vc127 (a0:ByteArray) (R:Mir.AV→Prop):Vc Fs2 c127.body (argsQ c127 [(.n (.str a0))]) [] (endQ c127 R)=V127 a0 R:=by kernel_rfl
def V129 (a0:Int) (R:Mir.AV→Prop):Prop:=
 (sel (decide (a0<10)) (R (.n (.bool true))) (R (.n (.bool (decide (a0≥2048))))))
theorem vc129 (a0:Int) (R:Mir.AV→Prop):Vc Fs2 c129.body (argsQ c129 [(.n (.int .i64 a0))]) [] (endQ c129 R)=V129 a0 R:=by kernel_rfl
def V94 (a0:LD) (a1:ByteArray) (R:Mir.AV→Prop):Prop:=
 (∃x0:Int,((Runs Fs2 130 [(aI (a0.length:Int)),(.fn 131 [(.ptr 9400000 0),(.ptr 9400001 0)])] [(hB 9400000 [(aL a0)]),(hB 9400001 [(aS a1)])] (aI x0) [(hB 9400000 [(aL a0)]),(hB 9400001 [(aS a1)])])∧(R (.n (.int .i64 x0)))))
theorem vc94 (a0:LD) (a1:ByteArray) (R:Mir.AV→Prop):Vc Fs2 c94.body (argsQ c94 [(.o (.sl 1 a0)),(.n (.str a1))]) [] (endQ c94 R)=V94 a0 a1 R:=by kernel_rfl
abbrev qby_ (p0:Mir.D) (p1:LD):=
 ((D.cells p0)[0]?=some (Mir.D.sl 1 p1))
def V133 (a0:LD) (R:Mir.AV→Prop):Prop:=
 (∃x0:(Int→(Int→Prop)),(∃x1:(Int→(Int→Nat)),(((rh [])∧(x0 0 0))∧(∀x2:Int,(∀x3:Int,((x0 x2 x3)→(∀x4:(Nat→Mir.AV),(sel (qL_ x3 a0) ((rn 1)∧((0:Int)≤x3)∧(∃x5:Mir.D,((qp_ a0 x3 x5)∧(∃x6:LD,((qby_ x5 x6)∧(rq (aL a0))∧(rq (aI (a0.length:Int)))∧(rh [])∧(x0 (mmI true x2 (x6.length:Int)) (IntKind.wrap .i64 (x3+1)))∧(((x1 (mmI true x2 (x6.length:Int)) (IntKind.wrap .i64 (x3+1))):Nat)<(x1 x2 x3))))))) (R (.n (.int .i64 x2)))))))))))
def V133e (a0:LD) (R:Mir.AV→Prop):=PLift.up (by delta V133 qp_ qL_ qby_;exact rfl:V133 a0 R=_)
theorem vc133 (a0:LD) (R:Mir.AV→Prop):Vc Fs2 c133.body (argsQ c133 [(.o (.sl 1 a0))]) [] (endQ c133 R)=V133 a0 R:=by kernel_rfl
def V136 (a0:LD) (a1:Int) (R:Mir.AV→Prop):Prop:=
 (sel (qL_ a1 a0) ((rn 1)∧((0:Int)≤a1)∧(∃x0:Mir.D,((qp_ a0 a1 x0)∧(∃x1:Bool,((qS_ x0 x1)∧(R (.n (.bool x1)))))))) (R (.n (.bool false))))
def V136e (a0:LD) (a1:Int) (R:Mir.AV→Prop):=PLift.up (by delta V136 qp_ qL_ qS_;exact rfl:V136 a0 a1 R=_)
theorem vc136 (a0:LD) (a1:Int) (R:Mir.AV→Prop):Vc Fs2 c136.body (argsQ c136 [(.o (.sl 1 a0)),(.n (.int .i64 a1))]) [] (endQ c136 R)=V136 a0 a1 R:=by kernel_rfl
abbrev qbz_ (p0:LD) (p1:ByteArray):=
 (rh [(hB 9400000 [(aL p0)]),(hB 9400001 [(aS p1)])])
abbrev qbA_:=
 (rq (.fn 131 [(.ptr 9400000 0),(.ptr 9400001 0)]))
def V130h (n:Int) (a:LD) (x:ByteArray) (R:Mir.AV→Heap→Prop):Prop:=
 (∃x0:(Int→(Int→Prop)),(∃x1:(Int→(Int→Nat)),(((qbz_ a x)∧(x0 0 n))∧(∀x2:Int,(∀x3:Int,((x0 x2 x3)→(∀x4:(Nat→Mir.AV),(sel (decide (x2<x3)) (((0:Int)≤1)∧(∃x5:Bool,((Runs Fs2 131 [(aI (IntKind.wrap .i64 (Int.fdiv (IntKind.wrap .u64 (IntKind.wrap .i64 (x2+x3))) (2 ^ (Min.min (Int.toNat 1) (Go.IntKind.bits .u64)))))),(.ptr 9400000 0),(.ptr 9400001 0)] [(hB 9400000 [(aL a)]),(hB 9400001 [(aS x)])] (aB x5) [(hB 9400000 [(aL a)]),(hB 9400001 [(aS x)])])∧(sel (Bool.not x5) (qbA_∧(qbz_ a x)∧(x0 (IntKind.wrap .i64 ((IntKind.wrap .i64 (Int.fdiv (IntKind.wrap .u64 (IntKind.wrap .i64 (x2+x3))) (2 ^ (Min.min (Int.toNat 1) (Go.IntKind.bits .u64)))))+1)) x3)∧(((x1 (IntKind.wrap .i64 ((IntKind.wrap .i64 (Int.fdiv (IntKind.wrap .u64 (IntKind.wrap .i64 (x2+x3))) (2 ^ (Min.min (Int.toNat 1) (Go.IntKind.bits .u64)))))+1)) x3):Nat)<(x1 x2 x3))) (qbA_∧(qbz_ a x)∧(x0 x2 (IntKind.wrap .i64 (Int.fdiv (IntKind.wrap .u64 (IntKind.wrap .i64 (x2+x3))) (2 ^ (Min.min (Int.toNat 1) (Go.IntKind.bits .u64))))))∧(((x1 x2 (IntKind.wrap .i64 (Int.fdiv (IntKind.wrap .u64 (IntKind.wrap .i64 (x2+x3))) (2 ^ (Min.min (Int.toNat 1) (Go.IntKind.bits .u64)))))):Nat)<(x1 x2 x3))))))) (R (.n (.int .i64 x2)) [(hB 9400000 [(.o (.sl 1 a))]),(hB 9400001 [(.n (.str x))])])))))))))
def V130he (n:Int) (a:LD) (x:ByteArray) (R:Mir.AV→Heap→Prop):=PLift.up (by delta V130h qbz_ qbA_;exact rfl:V130h n a x R=_)
theorem vc130h (n:Int) (a:LD) (x:ByteArray) (R:Mir.AV→Heap→Prop):Vc Fs2 c130.body (argsQ c130 [.n (.int .i64 n),.fn 131 [.ptr 9400000 0,.ptr 9400001 0]]) [(9400000,.box [.o (.sl 1 a)]),(9400001,.box [.n (.str x)])] (endQH c130 [(9400000,.box [.o (.sl 1 a)]),(9400001,.box [.n (.str x)])] R)=V130h n a x R:=by kernel_rfl
def V131h (i:Int) (a:LD) (x:ByteArray) (R:Mir.AV→Heap→Prop):Prop:=
 ((rn 1)∧((0:Int)≤i)∧(∃x0:Mir.D,((a[Int.toNat i]?=some x0)∧(∃x1:ByteArray,((qr_ x0 x1)∧(R (.n (.bool (Bool.not (qbu_ x1 x)))) [(hB 9400000 [(.o (.sl 1 a))]),(hB 9400001 [(.n (.str x))])]))))))
def V131he (i:Int) (a:LD) (x:ByteArray) (R:Mir.AV→Heap→Prop):=PLift.up (by delta V131h qbu_ qr_;exact rfl:V131h i a x R=_)
theorem vc131h (i:Int) (a:LD) (x:ByteArray) (R:Mir.AV→Heap→Prop):Vc Fs2 c131.body (argsQ c131 [.n (.int .i64 i),.ptr 9400000 0,.ptr 9400001 0]) [(9400000,.box [.o (.sl 1 a)]),(9400001,.box [.n (.str x)])] (endQH c131 [(9400000,.box [.o (.sl 1 a)]),(9400001,.box [.n (.str x)])] R)=V131h i a x R:=by kernel_rfl
abbrev qbB_ (p0:Int):=
 (hB 9700401 [(.n (.int .i64 p0))])
def V135h (a:LD) (i:Int) (R:Mir.AV→Heap→Prop):Prop:=
 (∃x0:Bool,((Runs Fs2 136 [(aL a),(aI i)] [] (aB x0) [])∧(R (.n (.bool (Bool.not x0))) [(qbB_ i)])))
def V135he (a:LD) (i:Int) (R:Mir.AV→Heap→Prop):=PLift.up (by delta V135h qbB_;exact rfl:V135h a i R=_)
theorem vc135h (a:LD) (i:Int) (R:Mir.AV→Heap→Prop):Vc Fs2 c135.body (argsQ c135 [.o (.sl 1 a),.ptr 9700401 0]) [(9700401,.box [.n (.int .i64 i)])] (endQH c135 [(9700401,.box [.n (.int .i64 i)])] R)=V135h a i R:=by kernel_rfl
def V157h (l:LD) (i:Int) (R:Mir.AV→Heap→Prop):Prop:=
 (∃x0:(Int→Prop),(∃x1:(Int→Nat),(((rh [(hB 9700401 [(aI i)])])∧(x0 0))∧(∀x2:Int,((x0 x2)→(∀x3:(Nat→Mir.AV),(sel (qL_ x2 l) ((rn 1)∧((0:Int)≤x2)∧(∃x4:Mir.D,((qp_ l x2 x4)∧(∃x5:LD,((qby_ x4 x5)∧(∃x6:Bool,((Runs Fs2 135 [(aL x5),(.ptr 9700401 0)] [(hB 9700401 [(aI i)])] (aB x6) [(hB 9700401 [(aI i)])])∧(sel x6 (R (.n (.int .i64 x2)) [(qbB_ i)]) ((rq (aL l))∧(rq (.fn 135 [(.ptr 9700401 0)]))∧(rq (aI (l.length:Int)))∧(rh [(hB 9700401 [(aI i)])])∧(x0 (IntKind.wrap .i64 (x2+1)))∧(((x1 (IntKind.wrap .i64 (x2+1))):Nat)<(x1 x2))))))))))) (R (.n (.int .i64 (-1))) [(qbB_ i)]))))))))
def V157he (l:LD) (i:Int) (R:Mir.AV→Heap→Prop):=PLift.up (by delta V157h qbB_ qL_ qby_ qp_;exact rfl:V157h l i R=_)
theorem vc157h (l:LD) (i:Int) (R:Mir.AV→Heap→Prop):Vc Fs2 c157.body (argsQ c157 [.o (.sl 1 l),.fn 135 [.ptr 9700401 0]]) [(9700401,.box [.n (.int .i64 i)])] (endQH c157 [(9700401,.box [.n (.int .i64 i)])] R)=V157h l i R:=by kernel_rfl
def V134h (l:LD) (i:Int) (R:Mir.AV→Heap→Prop):Prop:=
 (∃x0:Int,((Runs Fs2 157 [(aL l),(.fn 135 [(.ptr 9700401 0)])] [(hB 9700401 [(aI i)])] (aI x0) [(hB 9700401 [(aI i)])])∧(R (.n (.bool (decide (x0≥0)))) [(qbB_ i)])))
def V134he (l:LD) (i:Int) (R:Mir.AV→Heap→Prop):=PLift.up (by delta V134h qbB_;exact rfl:V134h l i R=_)
theorem vc134h (l:LD) (i:Int) (R:Mir.AV→Heap→Prop):Vc Fs2 c134.body (argsQ c134 [.o (.sl 1 l),.fn 135 [.ptr 9700401 0]]) [(9700401,.box [.n (.int .i64 i)])] (endQH c134 [(9700401,.box [.n (.int .i64 i)])] R)=V134h l i R:=by kernel_rfl
def V68p (l:LD) (R:Mir.AV→Prop):Prop:=
 (∃x0:Int,((Runs Fs2 98 [(aL l),(.fn 69 [])] [] (aI x0) [])∧(R (.n (.bool (decide (x0≥0)))))))
theorem vc68p (l:LD) (R:Mir.AV→Prop):Vc Fs2 c68.body (argsQ c68 [.o (.sl 1 l),.fn 69 []]) [] (endQ c68 R)=V68p l R:=by kernel_rfl
def V98p (l:LD) (R:Mir.AV→Prop):Prop:=
 (∃x0:(Int→Prop),(∃x1:(Int→Nat),(((rh [])∧(x0 0))∧(∀x2:Int,((x0 x2)→(∀x3:(Nat→Mir.AV),(sel (qL_ x2 l) ((rn 1)∧((0:Int)≤x2)∧(∃x4:Mir.D,((qp_ l x2 x4)∧(∃x5:ByteArray,((qr_ x4 x5)∧(∃x6:Bool,((Runs Fs2 69 [(aS x5)] [] (aB x6) [])∧(sel x6 (R (.n (.int .i64 x2))) ((rq (aL l))∧(rq (.fn 69 []))∧(rq (aI (l.length:Int)))∧(rh [])∧(x0 (IntKind.wrap .i64 (x2+1)))∧(((x1 (IntKind.wrap .i64 (x2+1))):Nat)<(x1 x2))))))))))) (R (.n (.int .i64 (-1)))))))))))
def V98pe (l:LD) (R:Mir.AV→Prop):=PLift.up (by delta V98p qp_ qL_ qr_;exact rfl:V98p l R=_)
theorem vc98p (l:LD) (R:Mir.AV→Prop):Vc Fs2 c98.body (argsQ c98 [.o (.sl 1 l),.fn 69 []]) [] (endQ c98 R)=V98p l R:=by kernel_rfl
def V68q (l:LD) (R:Mir.AV→Prop):Prop:=
 (∃x0:Int,((Runs Fs2 98 [(aL l),(.fn 127 [])] [] (aI x0) [])∧(R (.n (.bool (decide (x0≥0)))))))
theorem vc68q (l:LD) (R:Mir.AV→Prop):Vc Fs2 c68.body (argsQ c68 [.o (.sl 1 l),.fn 127 []]) [] (endQ c68 R)=V68q l R:=by kernel_rfl
def V98q (l:LD) (R:Mir.AV→Prop):Prop:=
 (∃x0:(Int→Prop),(∃x1:(Int→Nat),(((rh [])∧(x0 0))∧(∀x2:Int,((x0 x2)→(∀x3:(Nat→Mir.AV),(sel (qL_ x2 l) ((rn 1)∧((0:Int)≤x2)∧(∃x4:Mir.D,((qp_ l x2 x4)∧(∃x5:ByteArray,((qr_ x4 x5)∧(∃x6:Bool,((Runs Fs2 127 [(aS x5)] [] (aB x6) [])∧(sel x6 (R (.n (.int .i64 x2))) ((rq (aL l))∧(rq (.fn 127 []))∧(rq (aI (l.length:Int)))∧(rh [])∧(x0 (IntKind.wrap .i64 (x2+1)))∧(((x1 (IntKind.wrap .i64 (x2+1))):Nat)<(x1 x2))))))))))) (R (.n (.int .i64 (-1)))))))))))
def V98qe (l:LD) (R:Mir.AV→Prop):=PLift.up (by delta V98q qp_ qL_ qr_;exact rfl:V98q l R=_)
theorem vc98q (l:LD) (R:Mir.AV→Prop):Vc Fs2 c98.body (argsQ c98 [.o (.sl 1 l),.fn 127 []]) [] (endQ c98 R)=V98q l R:=by kernel_rfl
def V128p (l:LD) (R:Mir.AV→Prop):Prop:=
 (∃x0:Int,((Runs Fs2 156 [(aL l),(.fn 129 [])] [] (aI x0) [])∧(R (.n (.bool (decide (x0≥0)))))))
theorem vc128p (l:LD) (R:Mir.AV→Prop):Vc Fs2 c128.body (argsQ c128 [.o (.sl 1 l),.fn 129 []]) [] (endQ c128 R)=V128p l R:=by kernel_rfl
def V156p (l:LD) (R:Mir.AV→Prop):Prop:=
 (∃x0:(Int→Prop),(∃x1:(Int→Nat),(((rh [])∧(x0 0))∧(∀x2:Int,((x0 x2)→(∀x3:(Nat→Mir.AV),(sel (qL_ x2 l) ((rn 1)∧((0:Int)≤x2)∧(∃x4:Mir.D,((qp_ l x2 x4)∧(∃x5:Int,(((D.cells x4)[0]?=some (Mir.D.int .i64 x5))∧(∃x6:Bool,((Runs Fs2 129 [(aI x5)] [] (aB x6) [])∧(sel x6 (R (.n (.int .i64 x2))) ((rq (aL l))∧(rq (.fn 129 []))∧(rq (aI (l.length:Int)))∧(rh [])∧(x0 (IntKind.wrap .i64 (x2+1)))∧(((x1 (IntKind.wrap .i64 (x2+1))):Nat)<(x1 x2))))))))))) (R (.n (.int .i64 (-1)))))))))))
def V156pe (l:LD) (R:Mir.AV→Prop):=PLift.up (by delta V156p qp_ qL_;exact rfl:V156p l R=_)
theorem vc156p (l:LD) (R:Mir.AV→Prop):Vc Fs2 c156.body (argsQ c156 [.o (.sl 1 l),.fn 129 []]) [] (endQ c156 R)=V156p l R:=by kernel_rfl
abbrev qbC_ (p0:ByteArray) (p1 p2:Int):=
 (hB 9100302 [(.n (.str p0)),(.n (.int .i64 p1)),(.n (.int .i64 p2))])
def V125h (s:ByteArray) (n:Int) (e:Int) (k:Int) (R:Mir.AV→Heap→Prop):Prop:=
 (sel (e != 0) (R (.n (.int .i64 0)) [(qbC_ s n e)]) (∃x0:Int,(∃x1:Int,(∃x2:Int,((Runs Fs2 152 [(aS s),(aI n),(aI k)] [] (qw_ x0 x1 x2) [])∧(R (.n (.int .i64 x0)) [(qbC_ s x1 x2)]))))))
def V125he (s:ByteArray) (n:Int) (e:Int) (k:Int) (R:Mir.AV→Heap→Prop):=PLift.up (by delta V125h qbC_ qw_;exact rfl:V125h s n e k R=_)
theorem vc125h (s:ByteArray) (n:Int) (e:Int) (k:Int) (R:Mir.AV→Heap→Prop):Vc Fs2 c125.body (argsQ c125 [.ptr 9100302 0,.n (.int .i64 k)]) [(9100302,.box [.n (.str s),.n (.int .i64 n),.n (.int .i64 e)])] (endQH c125 [(9100302,.box [.n (.str s),.n (.int .i64 n),.n (.int .i64 e)])] R)=V125h s n e k R:=by kernel_rfl
def V126h (s:ByteArray) (n:Int) (e:Int) (R:Mir.AV→Heap→Prop):Prop:=
 (sel (e != 0) (R qe_ [(qbC_ s n e)]) (∃x0:ByteArray,(∃x1:Int,(∃x2:Int,((Runs Fs2 155 [(aS s),(aI n)] [] (.tup [(aS x0),(aI x1),(aI x2)]) [])∧(R (.n (.str x0)) [(qbC_ s x1 x2)]))))))
def V126he (s:ByteArray) (n:Int) (e:Int) (R:Mir.AV→Heap→Prop):=PLift.up (by delta V126h qf_ qbC_ qe_;exact rfl:V126h s n e R=_)
theorem vc126h (s:ByteArray) (n:Int) (e:Int) (R:Mir.AV→Heap→Prop):Vc Fs2 c126.body (argsQ c126 [.ptr 9100302 0]) [(9100302,.box [.n (.str s),.n (.int .i64 n),.n (.int .i64 e)])] (endQH c126 [(9100302,.box [.n (.str s),.n (.int .i64 n),.n (.int .i64 e)])] R)=V126h s n e R:=by kernel_rfl
abbrev qbF_ (p0 p1 p2:LD) (p3 p4:Int):List Mir.AV:=
 [(.o (.sl 1 p0)),(.o (.sl 1 p1)),(.o (.sl 1 p2)),(.n (.int .i64 p3)),(.n (.int .i64 p4)),qe_,(.n (.int .i64 0)),(.n (.int .i64 0)),(.n Mir.D.nil),qe_,(.n (.bool false)),(.n (.bool false))]
abbrev qbD_ (p0:Mir.AV→Heap→Prop) (p1 p2 p3:LD) (p4 p5:Int):=
 (p0 (.tup [qN_,(.n (.bool false))]) [(hB 3800302 (qbF_ p1 p2 p3 p4 p5))])
abbrev qbE_ (p0:ByteArray) (p1 p2:Int) (p3:ByteArray) (p4:Int):=
 (Runs Fs2 90 [(aS p0),(aL [(Mir.D.int .i64 1),(Mir.D.int .i64 2)])] [] (.tup [(.agg [(aI p1),(aI p2),(aS p3)]),(aI p4)]) [])
def V62a (ba:LD) (no:LD) (pa:LD) (ro:Int) (ge:Int) (block:Int) (root:Bool) (R:Mir.AV→Heap→Prop):Prop:=
 (sel (decide (block<10)) (qbD_ R ba no pa ro ge) (sel (qP_ block no) (qbD_ R ba no pa ro ge) ((rn 1)∧((0:Int)≤block)∧(∃x0:Mir.D,((qp_ no block x0)∧(∃x1:Bool,((qS_ x0 x1)∧(sel (Bool.not x1) (qbD_ R ba no pa ro ge) ((rn 1)∧((0:Int)≤block)∧(∃x2:Mir.D,((qp_ pa block x2)∧(∃x3:ByteArray,((qr_ x2 x3)∧(0=0)∧(∃x4:Int,(∃x5:Int,(∃x6:ByteArray,(∃x7:Int,((qbE_ x3 x4 x5 x6 x7)∧(sel (x7 != 0) (qbD_ R ba no pa ro ge) (sel (decide (x5 > ge)) (qbD_ R ba no pa ro ge) (∃x8:Bool,(∃x9:LD,(∃x10:LD,(∃x11:LD,(∃x12:Int,((Runs Fs2 91 [(aI x4),(aS x6)] [] (.tup [(qI_ x8 x9 x10 x11),(aI x12)]) [])∧(sel (x12 != 0) (qbD_ R ba no pa ro ge) (∃x13:Bool,((Runs Fs2 92 [(qJ_ x8 x9 x10 x11),(aB root)] [] (aB x13) [])∧(sel (Bool.not x13) (qbD_ R ba no pa ro ge) (R (.tup [(qO_ x8 x9 x10 x11),(.n (.bool true))]) [(hB 3800302 (qbF_ ba no pa ro ge))])))))))))))))))))))))))))))))))
def V62ae (ba:LD) (no:LD) (pa:LD) (ro:Int) (ge:Int) (block:Int) (root:Bool) (R:Mir.AV→Heap→Prop):=PLift.up (by delta V62a qbF_ qO_ qI_ qbD_ qbE_ qr_ qJ_ qS_ qp_ qP_ qf_ qe_ qN_;exact rfl:V62a ba no pa ro ge block root R=_)
theorem vc62a (ba:LD) (no:LD) (pa:LD) (ro:Int) (ge:Int) (block:Int) (root:Bool) (R:Mir.AV→Heap→Prop):Vc Fs2 c62.body (argsQ c62 [.ptr 3800302 0,.n (.int .i64 block),.n (.bool root)]) [(3800302,.box [.o (.sl 1 ba),.o (.sl 1 no),.o (.sl 1 pa),.n (.int .i64 ro),.n (.int .i64 ge),.n (.str (ByteArray.mk (List.toArray []))),.n (.int .i64 0),.n (.int .i64 0),.n .nil,.n (.str (ByteArray.mk (List.toArray []))),.n (.bool false),.n (.bool false)])] (endQH c62 [(3800302,.box [.o (.sl 1 ba),.o (.sl 1 no),.o (.sl 1 pa),.n (.int .i64 ro),.n (.int .i64 ge),.n (.str (ByteArray.mk (List.toArray []))),.n (.int .i64 0),.n (.int .i64 0),.n .nil,.n (.str (ByteArray.mk (List.toArray []))),.n (.bool false),.n (.bool false)])] R)=V62a ba no pa ro ge block root R:=by kernel_rfl
abbrev qbG_ (p0:Mir.AV→Heap→Prop) (p1 p2 p3:LD) (p4 p5:Int):=
 (p0 (.tup [qN_,(.n (.bool false))]) [(hB 9900302 (qbF_ p1 p2 p3 p4 p5))])
def V62b (ba:LD) (no:LD) (pa:LD) (ro:Int) (ge:Int) (block:Int) (root:Bool) (R:Mir.AV→Heap→Prop):Prop:=
 (sel (decide (block<10)) (qbG_ R ba no pa ro ge) (sel (qP_ block no) (qbG_ R ba no pa ro ge) ((rn 1)∧((0:Int)≤block)∧(∃x0:Mir.D,((qp_ no block x0)∧(∃x1:Bool,((qS_ x0 x1)∧(sel (Bool.not x1) (qbG_ R ba no pa ro ge) ((rn 1)∧((0:Int)≤block)∧(∃x2:Mir.D,((qp_ pa block x2)∧(∃x3:ByteArray,((qr_ x2 x3)∧(0=0)∧(∃x4:Int,(∃x5:Int,(∃x6:ByteArray,(∃x7:Int,((qbE_ x3 x4 x5 x6 x7)∧(sel (x7 != 0) (qbG_ R ba no pa ro ge) (sel (decide (x5 > ge)) (qbG_ R ba no pa ro ge) (∃x8:Bool,(∃x9:LD,(∃x10:LD,(∃x11:LD,(∃x12:Int,((Runs Fs2 91 [(aI x4),(aS x6)] [] (.tup [(qI_ x8 x9 x10 x11),(aI x12)]) [])∧(sel (x12 != 0) (qbG_ R ba no pa ro ge) (∃x13:Bool,((Runs Fs2 92 [(qJ_ x8 x9 x10 x11),(aB root)] [] (aB x13) [])∧(sel (Bool.not x13) (qbG_ R ba no pa ro ge) (R (.tup [(qO_ x8 x9 x10 x11),(.n (.bool true))]) [(hB 9900302 (qbF_ ba no pa ro ge))])))))))))))))))))))))))))))))))
def V62be (ba:LD) (no:LD) (pa:LD) (ro:Int) (ge:Int) (block:Int) (root:Bool) (R:Mir.AV→Heap→Prop):=PLift.up (by delta V62b qbF_ qO_ qI_ qbE_ qS_ qr_ qJ_ qp_ qP_ qbG_ qf_ qe_ qN_;exact rfl:V62b ba no pa ro ge block root R=_)
theorem vc62b (ba:LD) (no:LD) (pa:LD) (ro:Int) (ge:Int) (block:Int) (root:Bool) (R:Mir.AV→Heap→Prop):Vc Fs2 c62.body (argsQ c62 [.ptr 9900302 0,.n (.int .i64 block),.n (.bool root)]) [(9900302,.box [.o (.sl 1 ba),.o (.sl 1 no),.o (.sl 1 pa),.n (.int .i64 ro),.n (.int .i64 ge),.n (.str (ByteArray.mk (List.toArray []))),.n (.int .i64 0),.n (.int .i64 0),.n .nil,.n (.str (ByteArray.mk (List.toArray []))),.n (.bool false),.n (.bool false)])] (endQH c62 [(9900302,.box [.o (.sl 1 ba),.o (.sl 1 no),.o (.sl 1 pa),.n (.int .i64 ro),.n (.int .i64 ge),.n (.str (ByteArray.mk (List.toArray []))),.n (.int .i64 0),.n (.int .i64 0),.n .nil,.n (.str (ByteArray.mk (List.toArray []))),.n (.bool false),.n (.bool false)])] R)=V62b ba no pa ro ge block root R:=by kernel_rfl
end Go.Proofs.YtclgengkohbjjaaGreatDoor.M
