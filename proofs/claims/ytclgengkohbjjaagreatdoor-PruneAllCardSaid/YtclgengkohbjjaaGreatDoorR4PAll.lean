import Derived.Test.YtclgengkohbjjaaGreatDoorR4Kp
import Derived.Test.YtclgengkohbjjaaGreatDoorMirV
import Derived.Test.YtclgengkohbjjaaGreatDoorR4EV
import Derived.Test.YtclgengkohbjjaaGreatDoorR4FunB
import Derived.Test.YtclgengkohbjjaaGreatDoorR4LV
import Derived.Test.YtclgengkohbjjaaGreatDoorR4LW
import Derived.Test.YtclgengkohbjjaaGreatDoorR4E
namespace Go.Proofs.YtclgengkohbjjaaGreatDoor.M
set_option linter.unusedVariables false
set_option linter.unusedSimpArgs false
open Go Go.Mir
set_option linter.unusedVariables false
abbrev qcV_ (p0:LD):=
 (mmI false (p0.length:Int) 12)
abbrev qcW_ (p0:LD):=
 (List.drop 0 (List.take (Int.toNat (qcV_ p0)) p0))
abbrev qcX_ (p0 p1 p2:LD) (p3 p4:Int):=
 (hB 1300000 (qG_ p0 p1 p2 p3 p4))
abbrev qcY_ (p0:LD):=
 (rq (.o (Mir.D.sl 3 (qcW_ p0))))
abbrev qcZ_ (p0:LD):=
 (rq (aI ((qcW_ p0).length:Int)))
abbrev qc0_ (p0 p1 p2:Int) (p3 p4 p5 p6:LD) (p7 p8:Int) (p9 p10 p11:LD) (p12 p13:Int) (p14 p15 p16:LD) (p17 p18:Int) (p19:qcx_) (p20 p21 p22:LD) (p23 p24:Int) (p25:(Int→(Int→(qcx_→Prop)))) (p26 p27:Int) (p28:(Int→(Int→(qcx_→Nat)))) (p29:Int) (p30:qcx_):=
 ((rq (.ptr 1300406 0))∧(rq (aI p0))∧(rq (.ptr 1300506 0))∧(rq (aI p1))∧(rq (.ptr 1300801 0))∧(rq (aI p2))∧(rq (.ptr 1301601 0))∧(qcY_ p3)∧(qcZ_ p3)∧(rh [(qcX_ p4 p5 p6 p7 p8),(hB 1300406 (qG_ p9 p10 p11 p12 p13)),(hB 1300506 (qG_ p14 p15 p16 p17 p18)),(hB 1300801 (qcA_ p19)),(hB 1301601 (qG_ p20 p21 p22 p23 p24))])∧(p25 p26 (IntKind.wrap .i64 (p27+1)) (p20,(p21,(p22,(p23,(p24,()))))))∧(((p28 p26 (IntKind.wrap .i64 (p27+1)) (p20,(p21,(p22,(p23,(p24,())))))):Nat)<(p28 p29 p27 p30)))
def V13a (a0_0:LD) (a0_1:LD) (a0_2:LD) (a0_3:Int) (a0_4:Int) (a1:LD) (a2:LD) (P:Slots→Heap→Prop) (R:Mir.AV→Prop):Prop:=
 (∃x0:Bool,((Runs Fs4 15 [(qC_ a0_0 a0_1 a0_2 a0_3 a0_4)] [] (aB x0) [])∧(sel (Bool.not x0) (∃x1:Bool,((Runs Fs4 16 [] [] (aB x1) [])∧(R (.n (.bool x1))))) ((rn 1)∧((0:Int)≤(qcV_ a1))∧(((qcV_ a1):Int)≤(a1.length:Int))∧(rn 3)∧((0:Int)≤(qcV_ a2))∧(((qcV_ a2):Int)≤(a2.length:Int))∧(∃x2:LD,(∃x3:LD,(∃x4:LD,(∃x5:Int,(∃x6:Int,(∃x7:Int,((Runs Fs4 42 [(qC_ a0_0 a0_1 a0_2 a0_3 a0_4),(aL (qcW_ a1))] [] (qcm_ x2 x3 x4 x5 x6 x7) [])∧(∃x8:LD,(∃x9:LD,(∃x10:LD,(∃x11:Int,(∃x12:Int,(∃x13:Int,((Runs Fs4 41 [(qC_ a0_0 a0_1 a0_2 a0_3 a0_4),(.o (Mir.D.sl 3 (qcW_ a2)))] [] (qcm_ x8 x9 x10 x11 x12 x13) [])∧(∃x14:Bool,((Runs Fs4 18 [(qC_ a0_0 a0_1 a0_2 a0_3 a0_4)] [] (aB x14) [])∧(sel (Bool.not x14) (∃x15:Bool,((Runs Fs4 16 [] [] (aB x15) [])∧(sel x15 (sel (x7==1) (sel (x13==1) (∃x16:Bool,((Runs Fs4 20 [(qC_ x2 x3 x4 x5 x6)] [] (aB x16) [])∧(sel x16 (∃x17:Bool,((Runs Fs4 20 [(qC_ x8 x9 x10 x11 x12)] [] (aB x17) [])∧(R (.n (.bool x17))))) (R (.n (.bool false)))))) (R (.n (.bool false)))) (R (.n (.bool false)))) (R (.n (.bool false)))))) (∃x18:(Int→(Int→(qcx_→Prop))),(∃x19:(Int→(Int→(qcx_→Nat))),(((rh [(qcX_ a0_0 a0_1 a0_2 a0_3 a0_4),(hB 1300406 (qG_ x2 x3 x4 x5 x6)),(hB 1300506 (qG_ x8 x9 x10 x11 x12)),(hB 1300801 (qG_ a0_0 a0_1 a0_2 a0_3 a0_4))])∧(x18 0 0 (a0_0,(a0_1,(a0_2,(a0_3,(a0_4,())))))))∧(∀x20:Int,(∀x21:Int,(∀x22:qcx_,((x18 x20 x21 x22)→(∀x23:(Nat→Mir.AV),(sel (decide (x21<((qcW_ a1).length:Int))) ((rn 1)∧((0:Int)≤x21)∧(∃x24:Mir.D,(((qcW_ a1)[Int.toNat x21]?=some x24)∧(∃x25:ByteArray,((qr_ x24 x25)∧(∃x26:LD,(∃x27:LD,(∃x28:LD,(∃x29:Int,(∃x30:Int,(∃x31:Int,((Runs Fs4 17 [(.agg (qcA_ x22)),(aS x25)] [] (qcm_ x26 x27 x28 x29 x30 x31) [])∧(sel (x20==0) ((qcY_ a2)∧(rq (.ptr 1300000 0))∧(rq (.ptr 1300406 0))∧(rq (aI x7))∧(rq (.ptr 1300506 0))∧(rq (aI x13))∧(rq (.ptr 1300801 0))∧(rq (aL (qcW_ a1)))∧(qcZ_ a1)∧(rh [(qcX_ a0_0 a0_1 a0_2 a0_3 a0_4),(hB 1300406 (qG_ x2 x3 x4 x5 x6)),(hB 1300506 (qG_ x8 x9 x10 x11 x12)),(hB 1300801 (qG_ x26 x27 x28 x29 x30))])∧(x18 x31 (IntKind.wrap .i64 (x21+1)) (x26,(x27,(x28,(x29,(x30,()))))))∧(((x19 x31 (IntKind.wrap .i64 (x21+1)) (x26,(x27,(x28,(x29,(x30,())))))):Nat)<(x19 x20 x21 x22))) ((qcY_ a2)∧(rq (.ptr 1300000 0))∧(rq (.ptr 1300406 0))∧(rq (aI x7))∧(rq (.ptr 1300506 0))∧(rq (aI x13))∧(rq (.ptr 1300801 0))∧(rq (aL (qcW_ a1)))∧(qcZ_ a1)∧(rh [(qcX_ a0_0 a0_1 a0_2 a0_3 a0_4),(hB 1300406 (qG_ x2 x3 x4 x5 x6)),(hB 1300506 (qG_ x8 x9 x10 x11 x12)),(hB 1300801 (qcA_ x22))])∧(x18 x20 (IntKind.wrap .i64 (x21+1)) (x22.1,(x22.2.1,(x22.2.2.1,(x22.2.2.2.1,(x22.2.2.2.2.1,()))))))∧(((x19 x20 (IntKind.wrap .i64 (x21+1)) (x22.1,(x22.2.1,(x22.2.2.1,(x22.2.2.2.1,(x22.2.2.2.2.1,())))))):Nat)<(x19 x20 x21 x22)))))))))))))))) (∃x32:(Int→(Int→(qcx_→Prop))),(∃x33:(Int→(Int→(qcx_→Nat))),(((rh [(qcX_ a0_0 a0_1 a0_2 a0_3 a0_4),(hB 1300406 (qG_ x2 x3 x4 x5 x6)),(hB 1300506 (qG_ x8 x9 x10 x11 x12)),(hB 1300801 (qcA_ x22)),(hB 1301601 (qG_ a0_0 a0_1 a0_2 a0_3 a0_4))])∧(x32 0 0 (a0_0,(a0_1,(a0_2,(a0_3,(a0_4,())))))))∧(∀x34:Int,(∀x35:Int,(∀x36:qcx_,((x32 x34 x35 x36)→(∀x37:(Nat→Mir.AV),(sel (decide (x35<((qcW_ a2).length:Int))) ((rn 3)∧((0:Int)≤x35)∧(∃x38:Mir.D,(((qcW_ a2)[Int.toNat x35]?=some x38)∧(∃x39:ByteArray,(∃x40:ByteArray,(∃x41:Bool,((@Eq LD (List.take 3 (D.cells x38)) [(Mir.D.str x39),(Mir.D.str x40),(Mir.D.bool x41)])∧((3:Nat)≤(List.length (D.cells x38)))∧(sel (x34 != 0) (P (sparse 202 0 [(7,(.ptr 1300406 0)),(8,(aI x7)),(9,(.ptr 1300506 0)),(10,(aI x13)),(11,(.ptr 1300801 0)),(12,(aI x20)),(17,(.ptr 1301601 0)),(18,(aI x34)),(20,(.ptr 1301902 0)),(92,(.o (Mir.D.sl 3 (qcW_ a2)))),(93,(aI ((qcW_ a2).length:Int))),(94,(aI x35)),(98,(aI x34)),(99,(aB true))]) [(qcX_ a0_0 a0_1 a0_2 a0_3 a0_4),(hB 1300406 (qG_ x2 x3 x4 x5 x6)),(hB 1300506 (qG_ x8 x9 x10 x11 x12)),(hB 1300801 (qcA_ x22)),(hB 1301601 (qcA_ x36)),(hB 1301902 [(aS x39),(aS x40),(aB x41)])]) ((0=0)∧(∃x42:LD,(∃x43:LD,(∃x44:LD,(∃x45:Int,(∃x46:Int,(∃x47:Int,((Runs Fs4 41 [(.agg (qcA_ x36)),(.o (Mir.D.sl 3 [(Mir.D.rcd [(Mir.D.str x39),(Mir.D.str x40),(Mir.D.bool x41)])]))] [] (qcm_ x42 x43 x44 x45 x46 x47) [])∧(sel x41 (sel (x47==0) (∃x48:Unit,(∃x49:Nat,(∃x50:Nat,(∃x51:Int,(∃x52:Bool,(∃x53:Nat,(∃x54:LD,(∃x55:Nat,(∃x56:LD,((Runs Fs4 21 [(.agg (qcA_ x36))] [] (.ptr 2100101 0) [(qbH_ x49 x50 x51 x52),(hR 2190001 x53 48 2 x54),(hR 2190002 x55 3 1 x56)])∧(sel (Bool.not x52) (∃x57:ByteArray,(∃x58:Int,((Runs Fs4 38 [(.agg (qcA_ x36)),(aS x39)] [] (.tup [(aS x57),(aI x58)]) [])∧(∃x59:LD,(∃x60:LD,(∃x61:LD,(∃x62:Int,(∃x63:Int,(∃x64:Int,((Runs Fs4 17 [(.agg (qcA_ x36)),(aS x39)] [] (qcm_ x59 x60 x61 x62 x63 x64) [])∧(sel (x58==80) (∃x65:Bool,((Runs Fs4 36 [(qC_ x42 x43 x44 x45 x46),(.agg (qcA_ x36))] [] (aB x65) [])∧(sel (Bool.not x65) (R (.n (.bool false))) (qc0_ x7 x13 x20 a2 a0_0 a0_1 a0_2 a0_3 a0_4 x2 x3 x4 x5 x6 x8 x9 x10 x11 x12 x22 x42 x43 x44 x45 x46 x32 x47 x35 x33 x34 x36)))) (sel (x64 != 0) (R (.n (.bool false))) (∃x66:Bool,((Runs Fs4 36 [(qC_ x42 x43 x44 x45 x46),(qC_ x59 x60 x61 x62 x63)] [] (aB x66) [])∧(sel (Bool.not x66) (R (.n (.bool false))) (qc0_ x7 x13 x20 a2 a0_0 a0_1 a0_2 a0_3 a0_4 x2 x3 x4 x5 x6 x8 x9 x10 x11 x12 x22 x42 x43 x44 x45 x46 x32 x47 x35 x33 x34 x36)))))))))))))))) (qc0_ x7 x13 x20 a2 a0_0 a0_1 a0_2 a0_3 a0_4 x2 x3 x4 x5 x6 x8 x9 x10 x11 x12 x22 x42 x43 x44 x45 x46 x32 x47 x35 x33 x34 x36)))))))))))) (qc0_ x7 x13 x20 a2 a0_0 a0_1 a0_2 a0_3 a0_4 x2 x3 x4 x5 x6 x8 x9 x10 x11 x12 x22 x42 x43 x44 x45 x46 x32 x47 x35 x33 x34 x36)) (qc0_ x7 x13 x20 a2 a0_0 a0_1 a0_2 a0_3 a0_4 x2 x3 x4 x5 x6 x8 x9 x10 x11 x12 x22 x42 x43 x44 x45 x46 x32 x47 x35 x33 x34 x36)))))))))))))))))) (P (sparse 202 0 [(7,(.ptr 1300406 0)),(8,(aI x7)),(9,(.ptr 1300506 0)),(10,(aI x13)),(11,(.ptr 1300801 0)),(12,(aI x20)),(17,(.ptr 1301601 0)),(18,(aI x34)),(92,(.o (Mir.D.sl 3 (qcW_ a2)))),(93,(aI ((qcW_ a2).length:Int))),(94,(aI x35)),(95,(aB false))]) [(qcX_ a0_0 a0_1 a0_2 a0_3 a0_4),(hB 1300406 (qG_ x2 x3 x4 x5 x6)),(hB 1300506 (qG_ x8 x9 x10 x11 x12)),(hB 1300801 (qcA_ x22)),(hB 1301601 (qcA_ x36))]))))))))))))))))))))))))))))))))))))))))
def V13ae (a0_0:LD) (a0_1:LD) (a0_2:LD) (a0_3:Int) (a0_4:Int) (a1:LD) (a2:LD) (P:Slots→Heap→Prop) (R:Mir.AV→Prop):=PLift.up (by delta V13a qcA_ qcm_ qcV_ qr_ qcY_ qC_ qcX_ qbH_ qc0_ qcx_ qcW_ qcZ_ qG_;exact rfl:V13a a0_0 a0_1 a0_2 a0_3 a0_4 a1 a2 P R=_)
theorem vc13a (a0_0:LD) (a0_1:LD) (a0_2:LD) (a0_3:Int) (a0_4:Int) (a1:LD) (a2:LD) (P:Slots→Heap→Prop) (R:Mir.AV→Prop):Vc Fs4 (Cmd.upto 10 c13.body) (argsQ c13 [(.agg [.o (.sl 1 a0_0),.o (.sl 1 a0_1),.o (.sl 1 a0_2),.n (.int .i64 a0_3),.n (.int .i64 a0_4)]),.o (.sl 1 a1),.o (.sl 3 a2)]) [] (thenQ P (endQ c13 R))=V13a a0_0 a0_1 a0_2 a0_3 a0_4 a1 a2 P R:=by kernel_rfl
abbrev qc2_ (p0 p1:Int) (p2 p3 p4:LD) (p5 p6:Int) (p7 p8 p9:LD) (p10 p11:Int) (p12:Mir.AV→Prop):=
 (sel (p0==0) (sel (p1==0) (∃x4:Bool,((Runs Fs4 36 [(qC_ p2 p3 p4 p5 p6),(qC_ p7 p8 p9 p10 p11)] [] (aB x4) [])∧(p12 (.n (.bool x4))))) (p12 (.n (.bool false)))) (p12 (.n (.bool false))))
abbrev qc1_ (p0 p1:Int) (p2 p3 p4:LD) (p5 p6:Int) (p7:Mir.AV→Prop) (p8 p9 p10:LD) (p11 p12:Int):=
 (∃x2:Bool,((Runs Fs4 16 [] [] (aB x2) [])∧(sel x2 (sel (p0 != 0) (sel (p1==p0) (∃x3:Bool,((Runs Fs4 20 [(qC_ p2 p3 p4 p5 p6)] [] (aB x3) [])∧(sel x3 (p7 (.n (.bool true))) (qc2_ p0 p1 p2 p3 p4 p5 p6 p8 p9 p10 p11 p12 p7)))) (qc2_ p0 p1 p2 p3 p4 p5 p6 p8 p9 p10 p11 p12 p7)) (qc2_ p0 p1 p2 p3 p4 p5 p6 p8 p9 p10 p11 p12 p7)) (p7 (.n (.bool false))))))
def V13b (w0:LD) (w1:LD) (w2:LD) (w3:Int) (w4:Int) (h0:LD) (h1:LD) (h2:LD) (h3:Int) (h4:Int) (k0:LD) (k1:LD) (k2:LD) (k3:Int) (k4:Int) (m0:LD) (m1:LD) (m2:LD) (m3:Int) (m4:Int) (n0:LD) (n1:LD) (n2:LD) (n3:Int) (n4:Int) (e:Int) (f:Int) (g:Int) (i:Int) (R:Mir.AV→Prop):Prop:=
 (sel (g != 0) (sel (e != g) (R (.n (.bool false))) (∃x0:Bool,((Runs Fs4 20 [(qC_ h0 h1 h2 h3 h4)] [] (aB x0) [])∧(sel (Bool.not x0) (R (.n (.bool false))) (sel (g==0) (sel (e != 0) (R (.n (.bool false))) (∃x1:Bool,((Runs Fs4 36 [(qC_ h0 h1 h2 h3 h4),(qC_ m0 m1 m2 m3 m4)] [] (aB x1) [])∧(sel (Bool.not x1) (R (.n (.bool false))) (qc1_ i f k0 k1 k2 k3 k4 R n0 n1 n2 n3 n4))))) (qc1_ i f k0 k1 k2 k3 k4 R n0 n1 n2 n3 n4)))))) (sel (g==0) (sel (e != 0) (R (.n (.bool false))) (∃x12:Bool,((Runs Fs4 36 [(qC_ h0 h1 h2 h3 h4),(qC_ m0 m1 m2 m3 m4)] [] (aB x12) [])∧(sel (Bool.not x12) (R (.n (.bool false))) (qc1_ i f k0 k1 k2 k3 k4 R n0 n1 n2 n3 n4))))) (qc1_ i f k0 k1 k2 k3 k4 R n0 n1 n2 n3 n4)))
def V13be (w0:LD) (w1:LD) (w2:LD) (w3:Int) (w4:Int) (h0:LD) (h1:LD) (h2:LD) (h3:Int) (h4:Int) (k0:LD) (k1:LD) (k2:LD) (k3:Int) (k4:Int) (m0:LD) (m1:LD) (m2:LD) (m3:Int) (m4:Int) (n0:LD) (n1:LD) (n2:LD) (n3:Int) (n4:Int) (e:Int) (f:Int) (g:Int) (i:Int) (R:Mir.AV→Prop):=PLift.up (by delta V13b qC_ qc2_ qc1_ qG_;exact rfl:V13b w0 w1 w2 w3 w4 h0 h1 h2 h3 h4 k0 k1 k2 k3 k4 m0 m1 m2 m3 m4 n0 n1 n2 n3 n4 e f g i R=_)
theorem vc13b (w0:LD) (w1:LD) (w2:LD) (w3:Int) (w4:Int) (h0:LD) (h1:LD) (h2:LD) (h3:Int) (h4:Int) (k0:LD) (k1:LD) (k2:LD) (k3:Int) (k4:Int) (m0:LD) (m1:LD) (m2:LD) (m3:Int) (m4:Int) (n0:LD) (n1:LD) (n2:LD) (n3:Int) (n4:Int) (e:Int) (f:Int) (g:Int) (i:Int) (s20:Mir.AV) (s92:Mir.AV) (s93:Mir.AV) (s94:Mir.AV) (s98:Mir.AV) (s99:Mir.AV) (c0:ByteArray) (c1:ByteArray) (c2:Bool) (R:Mir.AV→Prop):Vc Fs4 (Cmd.left 10 c13.body) (sparse 202 0 [(7,.ptr 1300406 0),(8,.n (.int .i64 e)),(9,.ptr 1300506 0),(10,.n (.int .i64 f)),(11,.ptr 1300801 0),(12,.n (.int .i64 g)),(17,.ptr 1301601 0),(18,.n (.int .i64 i)),(20,s20),(92,s92),(93,s93),(94,s94),(98,s98),(99,s99)]) [(1300000,.box [.o (.sl 1 w0),.o (.sl 1 w1),.o (.sl 1 w2),.n (.int .i64 w3),.n (.int .i64 w4)]),(1300406,.box [.o (.sl 1 h0),.o (.sl 1 h1),.o (.sl 1 h2),.n (.int .i64 h3),.n (.int .i64 h4)]),(1300506,.box [.o (.sl 1 k0),.o (.sl 1 k1),.o (.sl 1 k2),.n (.int .i64 k3),.n (.int .i64 k4)]),(1300801,.box [.o (.sl 1 m0),.o (.sl 1 m1),.o (.sl 1 m2),.n (.int .i64 m3),.n (.int .i64 m4)]),(1301601,.box [.o (.sl 1 n0),.o (.sl 1 n1),.o (.sl 1 n2),.n (.int .i64 n3),.n (.int .i64 n4)]),(1301902,.box [.n (.str c0),.n (.str c1),.n (.bool c2)])] (endQ c13 R)=V13b w0 w1 w2 w3 w4 h0 h1 h2 h3 h4 k0 k1 k2 k3 k4 m0 m1 m2 m3 m4 n0 n1 n2 n3 n4 e f g i R:=by kernel_rfl
theorem vc13c (w0:LD) (w1:LD) (w2:LD) (w3:Int) (w4:Int) (h0:LD) (h1:LD) (h2:LD) (h3:Int) (h4:Int) (k0:LD) (k1:LD) (k2:LD) (k3:Int) (k4:Int) (m0:LD) (m1:LD) (m2:LD) (m3:Int) (m4:Int) (n0:LD) (n1:LD) (n2:LD) (n3:Int) (n4:Int) (e:Int) (f:Int) (g:Int) (i:Int) (s92:Mir.AV) (s93:Mir.AV) (s94:Mir.AV) (s95:Mir.AV) (R:Mir.AV→Prop):Vc Fs4 (Cmd.left 10 c13.body) (sparse 202 0 [(7,.ptr 1300406 0),(8,.n (.int .i64 e)),(9,.ptr 1300506 0),(10,.n (.int .i64 f)),(11,.ptr 1300801 0),(12,.n (.int .i64 g)),(17,.ptr 1301601 0),(18,.n (.int .i64 i)),(92,s92),(93,s93),(94,s94),(95,s95)]) [(1300000,.box [.o (.sl 1 w0),.o (.sl 1 w1),.o (.sl 1 w2),.n (.int .i64 w3),.n (.int .i64 w4)]),(1300406,.box [.o (.sl 1 h0),.o (.sl 1 h1),.o (.sl 1 h2),.n (.int .i64 h3),.n (.int .i64 h4)]),(1300506,.box [.o (.sl 1 k0),.o (.sl 1 k1),.o (.sl 1 k2),.n (.int .i64 k3),.n (.int .i64 k4)]),(1300801,.box [.o (.sl 1 m0),.o (.sl 1 m1),.o (.sl 1 m2),.n (.int .i64 m3),.n (.int .i64 m4)]),(1301601,.box [.o (.sl 1 n0),.o (.sl 1 n1),.o (.sl 1 n2),.n (.int .i64 n3),.n (.int .i64 n4)])] (endQ c13 R)=V13b w0 w1 w2 w3 w4 h0 h1 h2 h3 h4 k0 k1 k2 k3 k4 m0 m1 m2 m3 m4 n0 n1 n2 n3 n4 e f g i R:=by kernel_rfl
theorem mm_min (n:Nat) (k:Nat):mmI false (n:Int) (k:Int)=((min n k:Nat):Int):=by
 unfold mmI
 simp only[Bool.false_eq_true,if_false]
 split <;> omega
theorem del_err {w:Wd} {key:ByteArray} (h:(delW w key).2≠0):(delW w key).1=wd0:=by
 unfold delW at h ⊢
 split
 · rfl
 · rename_i hc
   rw[if_neg hc]at h
   split
   · rfl
   · rename_i hr
     rw[if_neg hr]at h
     unfold endE at h ⊢
     split
     · rfl
     · rename_i hb
       rw[if_neg hb]at h
       exact absurd rfl h
theorem del_fits {w:Wd} {key:ByteArray}:WFits (delW w key).1:=by
 by_cases h:(delW w key).2=0
 · exact wr_fits (delW_right h)
 · rw[del_err h];exact wd0_fits
theorem one_run {w:Wd} {c:Chg} (hr:WRight w):(allW chW w [c]).2=(chW w c).2∧((allW chW w [c]).2=0→(allW chW w [c]).1=(chW w c).1∧WRight (chW w c).1)∧((allW chW w [c]).2≠0→(allW chW w [c]).1=wd0):=by
 have e:allW chW w [c]=foldW chW w [c]:=by rw[allW,if_neg (by simpa using hr)]
 rw[e,foldW]
 by_cases h:(chW w c).2=0
 · rw[if_neg (by simpa using h),foldW]
   exact ⟨h.symm,fun _=>⟨rfl,chW_right hr h⟩,fun h=>absurd rfl h⟩
 · rw[if_pos h]
   exact ⟨rfl,fun h'=>absurd h' h,fun _=>rfl⟩
theorem p38' (w:Wd) (hf:WFits w) (key:ByteArray):Runs Fs4 38 [wdV w,.n (.str key)] [] (sduo (GetW w key)) []:=((p38 w hf key).up up3).up up4
set_option maxRecDepth 10000 in
set_option maxHeartbeats 8000000 in
theorem p13 (w:Wd) (hf:WFits w) (ks:List ByteArray) (cs:List Chg):Runs Fs4 13 [wdV w,.o (.sl 1 (sl_ ks)),.o (.sl 3 (cgD cs))] [] (.n (.bool true)) []:=by
 have g15:=p15 w
 have g18:=p18' w hf
 refine vc_cut 10 fs13 rfl ?_
 have m1:mmI false (ks.length:Int) 12=((min ks.length 12:Nat):Int):=mm_min ks.length 12
 have m2:mmI false (cs.length:Int) 12=((min cs.length 12:Nat):Int):=mm_min cs.length 12
 rw[wdV,vc13a,(V13ae _ _ _ _ _ _ _ _ _).down,sl_len ks,cgD_len cs,m1,m2,Int.toNat_natCast,Int.toNat_natCast,sl_cut,cgD_cut]
 generalize hL:ks.take (min ks.length 12)=L
 generalize hM:cs.take (min cs.length 12)=M
 have hlen:L.length≤12:=by rw[←hL,List.length_take];omega
 have hlem:M.length≤12:=by rw[←hM,List.length_take];omega
 rw[sl_len L,cgD_len M]
 have g42:=(p42 w hf L (by omega)).up up4
 have g41:=(p41 w hf M (by omega)).up up4
 refine ⟨_,g15,?_⟩
 by_cases hs:smallW w
 · rw[decide_eq_true hs]
   refine selF ⟨rfl,by omega,by omega,rfl,by omega,by omega,_,_,_,_,_,_,g42,_,_,_,_,_,_,g41,_,g18,?_⟩
   by_cases hr:WRight w
   · rw[decide_eq_true hr]
     have fa:=fold_run (step:=delW) (l:=L) (w:=w)
     have fb:=fold_run (step:=chW) (l:=M) (w:=w)
     have ea:allW delW w L=foldW delW w L:=by rw[allW,if_neg (by simpa using hr)]
     have eb:allW chW w M=foldW chW w M:=by rw[allW,if_neg (by simpa using hr)]
     rw[←ea]at fa
     rw[←eb]at fb
     generalize allW delW w L=A at fa
     generalize allW chW w M=B at fb
     refine selF ⟨fun f i q=>0≤i∧i≤L.length∧∃y,q=wdC y∧WFits y∧runW delW (y,f) (L.drop i.toNat)=runW delW (w,0) L,fun _ i _=>(L.length - i).toNat,⟨rfl,by omega,by omega,w,rfl,hf,rfl⟩,?_⟩
     rintro f i q ⟨h0,h1,y,rfl,hy,hq⟩ _
     refine sel_dec (fun hlt => ?_) (fun hge => ?_)
     · have hi:i.toNat<L.length:=by omega
       rw[drop_at' hi,runW]at hq
       refine ⟨rfl,h0,_,sl_at hi,_,rfl,_,_,_,_,_,_,(p17 y hy L[i.toNat]).up up4,sel_intro (fun hz => ?_) (fun hz => ?_)⟩
       · have hz:f=0:=by simpa using hz
         rw[if_pos hz]at hq
         repeat (refine And.intro rfl ?_)
         rw[i64_in _ (by omega)]
         refine ⟨⟨by omega,by omega,(delW y L[i.toNat]).1,rfl,del_fits,?_⟩,by first|omega|(dsimp only;omega)⟩
         rw[show (i+1).toNat=i.toNat+1 by omega];exact hq
       · have hz:f≠0:=by simpa using hz
         rw[if_neg hz]at hq
         repeat (refine And.intro rfl ?_)
         rw[i64_in _ (by omega)]
         refine ⟨⟨by omega,by omega,y,rfl,hy,?_⟩,by first|omega|(dsimp only;omega)⟩
         rw[show (i+1).toNat=i.toNat+1 by omega];exact hq
     · rw[List.drop_eq_nil_of_le (by omega),runW]at hq
       rw[←hq]at fa
       obtain ⟨a1,a2,a3⟩:=fa
       dsimp only at a1 a2 a3
       refine ⟨fun e j q=>0≤j∧j≤M.length∧∃z,q=wdC z∧WFits z∧((e=0∧WRight z∧runW chW (z,0) (M.drop j.toNat)=runW chW (w,0) M)∨(e≠0∧(runW chW (w,0) M).2=e)),fun _ j _=>(M.length - j).toNat,⟨rfl,by omega,by omega,w,rfl,hf,.inl ⟨rfl,hr,rfl⟩⟩,?_⟩
       rintro e j q ⟨j0,j1,z,rfl,hz,hq2⟩ _
       have fin:∀(hI:(e=0∧runW chW (w,0) M=(z,0))∨(e≠0∧(runW chW (w,0) M).2=e)),(e=0∧B.2=0∧B.1=z)∨(e≠0∧B.2=e∧B.1=wd0):=by
         obtain ⟨b1,b2,b3⟩:=fb
         rintro (⟨h,hR⟩|⟨h,hR⟩)
         · rw[hR]at b1 b2
           exact .inl ⟨h,b1,b2 b1⟩
         · rw[hR]at b1
           exact .inr ⟨h,b1,b3 (by rw[b1];exact h)⟩
       have g36z:=p36 z z hz
       rw[decide_eq_true rfl]at g36z
       have g36y:=p36 y y hy
       rw[decide_eq_true rfl]at g36y
       refine sel_dec (fun hlt => ?_) (fun hge2 => ?_)
       · have hj:j.toNat<M.length:=by omega
         refine ⟨rfl,j0,_,cgD_at hj,_,_,_,rfl,by simp[D.cells],sel_intro (fun he => ?_) (fun he => ?_)⟩
         · have he:e≠0:=by simpa using he
           have hI:(e=0∧runW chW (w,0) M=(z,0))∨(e≠0∧(runW chW (w,0) M).2=e):=by
             rcases hq2 with h|h
             · exact absurd h.1 he
             · exact .inr h
           rcases fin hI with ⟨h,_⟩|⟨_,b1,b2⟩
           · exact absurd h he
           by_cases hf0:f=0
           · have eA:A.1=y:=a2 (by rw[a1];exact hf0)
             have e0:A.2=0:=by rw[a1];exact hf0
             rw[eA,e0,b1,b2]
             rw[vc13b,(V13be _ _ _ _ _ _ _ _ _ _ _ _ _ _ _ _ _ _ _ _ _ _ _ _ _ _ _ _ _ _).down]
             exact sel_nne hf0 (sel_eT hf0 (sel_nne rfl ⟨_,g36y,selF ⟨_,p16,selT (sel_ne he (sel_eT rfl ⟨_,p20t,selT rfl⟩))⟩⟩))
           · have eA:A.1=wd0:=a3 (by rw[a1];exact hf0)
             rw[eA,a1,b1,b2]
             rw[vc13b,(V13be _ _ _ _ _ _ _ _ _ _ _ _ _ _ _ _ _ _ _ _ _ _ _ _ _ _ _ _ _ _).down]
             exact sel_ne hf0 (sel_nne rfl ⟨_,p20t,selF (sel_eF hf0 ⟨_,p16,selT (sel_ne he (sel_eT rfl ⟨_,p20t,selT rfl⟩))⟩)⟩)
         · have he:e=0:=by simpa using he
           obtain ⟨_,hzr,hzq⟩:e=0∧WRight z∧runW chW (z,0) (M.drop j.toNat)=runW chW (w,0) M:=by
             rcases hq2 with h|h
             · exact h
             · exact absurd he h.1
           rw[drop_at' hj,runW,if_pos rfl]at hzq
           have g41z:=(p41 z hz [M[j.toNat]] (by show ((1:Nat):Int)≤_;decide)).up up4
           obtain ⟨o1,o2,o3⟩:=one_run (c:=M[j.toNat]) hzr
           generalize M[j.toNat]=c at hzq g41z o1 o2 o3
           have nxt:0≤j+1∧j+1≤(M.length:Int)∧∃z',wdC (allW chW z [c]).1=wdC z'∧WFits z'∧(((allW chW z [c]).2=0∧WRight z'∧runW chW (z',0) (M.drop (j+1).toNat)=runW chW (w,0) M)∨((allW chW z [c]).2≠0∧(runW chW (w,0) M).2=(allW chW z [c]).2)):=by
             refine ⟨by omega,by omega,_,rfl,?_⟩
             by_cases hb:(allW chW z [c]).2=0
             · obtain ⟨q1,q2⟩:=o2 hb
               rw[q1]
               refine ⟨wr_fits q2,.inl ⟨hb,q2,?_⟩⟩
               rw[show (j+1).toNat=j.toNat+1 by omega,←hzq]
               congr 1
               exact Prod.ext rfl (o1.symm.trans hb).symm
             · rw[o3 hb]
               refine ⟨wd0_fits,.inr ⟨hb,?_⟩⟩
               rw[←hzq,runW_bad (by rw[←o1];exact hb),o1]
           refine ⟨rfl,_,_,_,_,_,_,g41z,?_⟩
           have step:∀ {I:Int→Int→wT→Prop},I=(fun e j q=>0≤j∧j≤(M.length:Int)∧∃z,q=wdC z∧WFits z∧((e=0∧WRight z∧runW chW (z,0) (M.drop j.toNat)=runW chW (w,0) M)∨(e≠0∧(runW chW (w,0) M).2=e)))→I (allW chW z [c]).2 (j+1) (wdC (allW chW z [c]).1):=by
             intro I hI;rw[hI];exact nxt
           refine sel_intro (fun hg=>sel_intro (fun hb => ?_) (fun hb => ?_)) (fun hg => ?_)
           rotate_left
           · repeat (refine And.intro rfl ?_)
             rw[i64_in _ (by omega)]
             exact ⟨nxt,by first|omega|(dsimp only;omega)⟩
           · repeat (refine And.intro rfl ?_)
             rw[i64_in _ (by omega)]
             exact ⟨nxt,by first|omega|(dsimp only;omega)⟩
           have hb:(allW chW z [c]).2=0:=by simpa using hb
           obtain ⟨q1,q2⟩:=o2 hb
           rw[o1]at hb
           obtain ⟨va,vb,gt⟩:=t21 z hz (wr_now hzr)
           refine ⟨(),_,_,_,_,_,_,_,_,gt,?_⟩
           by_cases hbad:(treeW z).bad=true
           · rw[hbad]
             refine selF ?_
             repeat (refine And.intro rfl ?_)
             rw[i64_in _ (by omega)]
             exact ⟨nxt,by first|omega|(dsimp only;omega)⟩
           · have hbad:(treeW z).bad=false:=by simpa using hbad
             obtain ⟨h,P,Bk,ht,eT⟩:=tree_sound hbad
             rw[hbad]
             have hgone:c.gone=true:=hg
             have hkey:isKeyP c.key∧c.val=empS:=by
               rw[chW,if_neg (by rw[hgone];simp)]at hb
               by_cases hk:¬isKeyP c.key∨c.val≠empS
               · rw[if_pos hk]at hb;exact absurd hb (show ¬(1:Int)=0 by decide)
               · exact ⟨Classical.byContradiction fun h=>hk (.inl h),Classical.byContradiction fun h=>hk (.inr h)⟩
             have eC:chW z c=if (delW z c.key).2=80 then (z,0) else delW z c.key:=by
               rw[chW,if_neg (by rw[hgone];simp),if_neg (fun h=>h.elim (fun h=>h hkey.1) (fun h=>h hkey.2))]
             have gget:=p38' z hz c.key
             have eG:GetW z c.key=refGet P c.key:=get_of ⟨hzr,h,Bk,ht⟩ hkey.1.1 hkey.1.2
             have g17:=(p17 z hz c.key).up up4
             rw[eG]at gget
             have same:∀x:Wd,x=(allW chW z [c]).1→Runs Fs4 36 [wdV (allW chW z [c]).1,wdV x] [] (.n (.bool true)) []:=by
               rintro x rfl
               have g:=p36 (allW chW z [c]).1 (allW chW z [c]).1 (by rw[q1];exact wr_fits q2)
               rw[decide_eq_true rfl]at g
               exact g
             rcases delW_tree hzr hkey.1 ht with ⟨hno,ed⟩|⟨⟨p,hp1,hp2⟩,hd⟩
             · rw[refGet_no hno]at gget
               have e1:z=(allW chW z [c]).1:=by rw[q1,eC,ed];rfl
               refine selT ⟨_,_,gget,_,_,_,_,_,_,g17,sel_eT rfl ⟨_,same z e1,selF ?_⟩⟩
               repeat (refine And.intro rfl ?_)
               rw[i64_in _ (by omega)]
               exact ⟨nxt,by first|omega|(dsimp only;omega)⟩
             · have eg:refGet P c.key=(p.2,0):=by rw[←hp2];exact refGet_in (isTree_incP ht) hp1
               rw[eg]at gget
               have hn80:(delW z c.key).2≠80:=by
                 rcases hd with ⟨e,_⟩|⟨x,e,_⟩
                 · rw[e];decide
                 · rw[e];exact (show (0:Int)≠80 by decide)
               rw[if_neg hn80]at eC
               have h0:(delW z c.key).2=0:=by rw[←eC];exact hb
               refine selT ⟨_,_,gget,_,_,_,_,_,_,g17,sel_eF (show (0:Int)≠80 by decide) (sel_nne h0 ⟨_,same _ (by rw[q1,eC]),selF ?_⟩)⟩
               repeat (refine And.intro rfl ?_)
               rw[i64_in _ (by omega)]
               exact ⟨nxt,by first|omega|(dsimp only;omega)⟩
       · have hI:(e=0∧runW chW (w,0) M=(z,0))∨(e≠0∧(runW chW (w,0) M).2=e):=by
           rcases hq2 with ⟨h,_,h2⟩|h
           · rw[List.drop_eq_nil_of_le (by omega),runW]at h2
             exact .inl ⟨h,h2.symm⟩
           · exact .inr h
         by_cases hf0:f=0
         · have eA:A.1=y:=a2 (by rw[a1];exact hf0)
           have e0:A.2=0:=by rw[a1];exact hf0
           rcases fin hI with ⟨he,b1,b2⟩|⟨he,b1,b2⟩
           · rw[eA,e0,b1,b2]
             rw[vc13c,(V13be _ _ _ _ _ _ _ _ _ _ _ _ _ _ _ _ _ _ _ _ _ _ _ _ _ _ _ _ _ _).down]
             exact sel_nne hf0 (sel_eT hf0 (sel_nne rfl ⟨_,g36y,selF ⟨_,p16,selT (sel_nne he (sel_eT he (sel_eT rfl ⟨_,g36z,rfl⟩)))⟩⟩))
           · rw[eA,e0,b1,b2]
             rw[vc13c,(V13be _ _ _ _ _ _ _ _ _ _ _ _ _ _ _ _ _ _ _ _ _ _ _ _ _ _ _ _ _ _).down]
             exact sel_nne hf0 (sel_eT hf0 (sel_nne rfl ⟨_,g36y,selF ⟨_,p16,selT (sel_ne he (sel_eT rfl ⟨_,p20t,selT rfl⟩))⟩⟩))
         · have eA:A.1=wd0:=a3 (by rw[a1];exact hf0)
           rcases fin hI with ⟨he,b1,b2⟩|⟨he,b1,b2⟩
           · rw[eA,a1,b1,b2]
             rw[vc13c,(V13be _ _ _ _ _ _ _ _ _ _ _ _ _ _ _ _ _ _ _ _ _ _ _ _ _ _ _ _ _ _).down]
             exact sel_ne hf0 (sel_nne rfl ⟨_,p20t,selF (sel_eF hf0 ⟨_,p16,selT (sel_nne he (sel_eT he (sel_eT rfl ⟨_,g36z,rfl⟩)))⟩)⟩)
           · rw[eA,a1,b1,b2]
             rw[vc13c,(V13be _ _ _ _ _ _ _ _ _ _ _ _ _ _ _ _ _ _ _ _ _ _ _ _ _ _ _ _ _ _).down]
             exact sel_ne hf0 (sel_nne rfl ⟨_,p20t,selF (sel_eF hf0 ⟨_,p16,selT (sel_ne he (sel_eT rfl ⟨_,p20t,selT rfl⟩))⟩)⟩)
   · rw[decide_eq_false hr]
     have e1:allW delW w L=(wd0,1):=by rw[allW,if_pos hr]
     have e2:allW chW w M=(wd0,1):=by rw[allW,if_pos hr]
     rw[e1,e2]
     exact selT ⟨_,p16,selT (selT (selT ⟨_,p20t,selT ⟨_,p20t,rfl⟩⟩))⟩
 · rw[decide_eq_false hs]
   exact selT ⟨_,p16,rfl⟩
theorem p13x (x:wdT.T) (h:wdT.fit x) (y:ksT.T) (z:cgT.T):Runs Fs4 13 [wdT.av x,ksT.av y,cgT.av z] [] (.n (.bool true)) []:=by
 rw[wd_av,kss_av,cgs_av];exact p13 (toWd x) (wd_fit x h) y (toCgs z)
end Go.Proofs.YtclgengkohbjjaaGreatDoor.M
