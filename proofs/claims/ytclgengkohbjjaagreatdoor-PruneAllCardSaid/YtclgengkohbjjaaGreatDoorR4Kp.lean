import Derived.Test.YtclgengkohbjjaaGreatDoorProg
import Derived.Test.YtclgengkohbjjaaGreatDoorMirI
import Derived.Test.YtclgengkohbjjaaGreatDoorMirL
import Derived.KernelRfl
import Derived.Test.YtclgengkohbjjaaGreatDoorR4Eg
import Derived.Test.YtclgengkohbjjaaGreatDoorR4EV
import Derived.Test.YtclgengkohbjjaaGreatDoorR4FunB
import Derived.Test.YtclgengkohbjjaaGreatDoorR4LV
import Derived.Test.YtclgengkohbjjaaGreatDoorR4E
namespace Go.Proofs.YtclgengkohbjjaaGreatDoor.M
set_option linter.unusedVariables false
set_option linter.unusedSimpArgs false
open Go Go.Mir Go.Proofs
@[irreducible] noncomputable def b15:Cmd:=((Tryz.f15.body).bind (trC Tryz.prog [50,1000021] 15 [] [])).getD .skip
noncomputable def c15:FnC:=⟨15,14,[(.tmp 2)],b15,false,[(.agg [(.slo 1),(.slo 1),(.slo 1),(.int .i64),(.int .i64)])],.val (.one .bool),none,false,[]⟩
theorem is15:IsFn Tryz.prog 15 c15:=⟨⟨_,_,[50,1000021],[],[],Tryz.func15,rfl,(by kernel_rfl),rfl,(by kernel_rfl),(by kernel_rfl)⟩⟩
@[irreducible] noncomputable def b16:Cmd:=((Tryz.f16.body).bind (trC Tryz.prog [50,1000021] 16 [] [])).getD .skip
noncomputable def c16:FnC:=⟨16,10,[(.tmp 0)],b16,false,[],.val (.one .bool),none,false,[]⟩
theorem is16:IsFn Tryz.prog 16 c16:=⟨⟨_,_,[50,1000021],[],[],Tryz.func16,rfl,(by kernel_rfl),rfl,(by kernel_rfl),(by kernel_rfl)⟩⟩
def b20:Cmd:=(.seq (.region [(o 1 (.box 2000000 (T 0))),(o 2 (.mov (.const (.bool false))))]) (.seq (.region [(os 3 (.ld (T 1) (some 5)) (.val (.agg [(.slo 1),(.slo 1),(.slo 1),(.int .i64),(.int .i64)]))),(o 4 (.build [(.n .nil),(.n .nil),(.n .nil),(.n (.int .i64 0)),(.n (.int .i64 0))] [])),(os 5 (.call false 36 [(T 3),(T 4)]) sB),(m 2 5)]) .ret))
noncomputable def c20:FnC:=⟨20,6,[(.tmp 2)],b20,false,[(.agg [(.slo 1),(.slo 1),(.slo 1),(.int .i64),(.int .i64)])],.val (.one .bool),none,false,[]⟩
theorem is20:IsFn Tryz.prog 20 c20:=⟨⟨_,_,[50,1000021],[],[],Tryz.func20,rfl,(by kernel_rfl),rfl,(by kernel_rfl),(by kernel_rfl)⟩⟩
@[irreducible] noncomputable def b36:Cmd:=((Tryz.f36.body).bind (trC Tryz.prog [50,1000021] 36 [] [(4,[.keepF 36,.keep 2,.keep 3,.keep 47,.slot 48 (.one (.int .i64)),.keepO 3600000,.keepO 3600001])])).getD .skip
noncomputable def c36:FnC:=⟨36,63,[(.tmp 4)],b36,false,[(.agg [(.slo 1),(.slo 1),(.slo 1),(.int .i64),(.int .i64)]),(.agg [(.slo 1),(.slo 1),(.slo 1),(.int .i64),(.int .i64)])],.val (.one .bool),none,false,[]⟩
theorem is36:IsFn Tryz.prog 36 c36:=⟨⟨_,_,[50,1000021],[],[(4,[.keepF 36,.keep 2,.keep 3,.keep 47,.slot 48 (.one (.int .i64)),.keepO 3600000,.keepO 3600001])],Tryz.func36,rfl,(by kernel_rfl),rfl,(by kernel_rfl),(by kernel_rfl)⟩⟩
@[irreducible] noncomputable def b47:Cmd:=((Tryz.f47.body).bind (trC Tryz.prog [50,1000021] 47 [] [])).getD .skip
noncomputable def c47:FnC:=⟨47,11,[(.cell 2 (some 5))],b47,false,[(.one (.int .i64))],.val (.agg [(.slo 1),(.slo 1),(.slo 1),(.int .i64),(.int .i64)]),none,false,[]⟩
theorem is47:IsFn Tryz.prog 47 c47:=⟨⟨_,_,[50,1000021],[],[],Tryz.func47,rfl,(by kernel_rfl),rfl,(by kernel_rfl),(by kernel_rfl)⟩⟩
@[irreducible] noncomputable def b61:Cmd:=((Tryz.f61.body).bind (trC Tryz.prog [50,1000021] 61 [] [])).getD .skip
noncomputable def c61:FnC:=⟨61,17,[(.tmp 4)],b61,false,[(.agg [(.slo 1),(.slo 1)]),(.agg [(.slo 1),(.slo 1)])],.val (.one .bool),none,false,[]⟩
theorem is61:IsFn Tryz.prog 61 c61:=⟨⟨_,_,[50,1000021],[],[],Tryz.func61,rfl,(by kernel_rfl),rfl,(by kernel_rfl),(by kernel_rfl)⟩⟩
@[irreducible] noncomputable def b89:Cmd:=((Tryz.f89.body).bind (trC Tryz.prog [50,1000021] 89 [] [(4,[.keepF 89,.keep 0,.keep 1,.keep 12,.slot 13 (.one (.int .i64))])])).getD .skip
noncomputable def c89:FnC:=⟨89,26,[(.tmp 4)],b89,false,[(.one (.slo 1)),(.one (.slo 1))],.val (.one .bool),none,false,[]⟩
theorem is89:IsFn Tryz.prog 89 c89:=⟨⟨_,_,[50,1000021],[],[(4,[.keepF 89,.keep 0,.keep 1,.keep 12,.slot 13 (.one (.int .i64))])],Tryz.func89,rfl,(by kernel_rfl),rfl,(by kernel_rfl),(by kernel_rfl)⟩⟩
@[irreducible] noncomputable def b13:Cmd:=((Tryz.f13.body).bind (trC Tryz.prog [50,1000021] 13 [(9,([1,2,3,7,8,9,10,11,12],[1301206],[],[])),(10,([2,3,7,8,9,10,11,12,74,75,76],[1301206],[],[])),(15,([2,3,7,8,9,10,11,12,74,75,76],[1301206],[],[])),(17,([2,7,8,9,10,11,12,17,18],[1301902,1302102,1302107,1352208,1362208,1372208,1302407],[],[])),(18,([7,8,9,10,11,12,17,18,92,93,94],[1301902,1302102,1302107,1352208,1362208,1372208,1302407],[],[])),(30,([7,8,9,10,11,12,17,18,92,93,94],[1301902,1302102,1302107,1352208,1362208,1372208,1302407],[],[])),(1,([1,2,3],[],[],[])),(2,([],[],[],[])),(3,([1,2,3],[],[],[])),(4,([1,2,3],[],[],[])),(5,([1,2,3,7,8],[],[],[])),(6,([1,2,3,7,8,9,10],[],[],[])),(7,([7,8,9,10],[],[],[])),(8,([1,2,3,7,8,9,10],[],[],[])),(11,([2,3,7,8,9,10,11,12,74,75,76],[],[],[])),(12,([2,3,7,8,9,10,11,12,14,74,75,76],[],[],[])),(13,([2,3,7,8,9,10,11,12,15,16,74,75,76],[],[],[])),(14,([2,3,7,8,9,10,11,15,16,74,75,76],[],[],[])),(16,([2,3,7,8,9,10,11,12],[],[],[])),(19,([7,8,9,10,11,12,17,18,92,93,94],[],[],[])),(20,([7,8,9,10,11,12,17,18,20,92,93,94],[],[],[])),(21,([7,8,9,10,11,12,17,20,92,93,94],[],[],[])),(22,([7,8,9,10,11,12,17,20,21,22,92,93,94],[],[],[])),(23,([7,8,9,10,11,12,17,20,21,22,92,93,94],[],[],[])),(24,([7,8,9,10,11,12,17,20,21,22,24,92,93,94],[],[],[])),(25,([7,8,9,10,11,12,17,21,22,24,25,26,92,93,94],[],[],[])),(26,([7,8,9,10,11,12,17,21,22,25,92,93,94],[],[],[])),(27,([7,8,9,10,11,12,17,21,22,25,26,92,93,94],[],[],[])),(28,([],[],[],[])),(29,([7,8,9,10,11,12,17,21,22,92,93,94],[],[],[])),(31,([7,8,9,10,11,12,17,18],[],[],[])),(32,([],[],[],[])),(33,([9,10,17,18],[],[],[]))] [(10,[.keepF 13,.keep 2,.keep 3,.keep 7,.keep 8,.keep 9,.keep 10,.keep 11,.slot 12 (.one (.int .i64)),.keep 74,.keep 75,.slot 76 (.one (.int .i64)),.keepO 1300000,.keepO 1300406,.keepO 1300506,.box 1300801 [(.slo 1),(.slo 1),(.slo 1),(.int .i64),(.int .i64)]]),(18,[.keepF 13,.keep 7,.keep 8,.keep 9,.keep 10,.keep 11,.keep 12,.keep 17,.slot 18 (.one (.int .i64)),.keep 92,.keep 93,.slot 94 (.one (.int .i64)),.keepO 1300406,.keepO 1300506,.keepO 1300801,.box 1301601 [(.slo 1),(.slo 1),(.slo 1),(.int .i64),(.int .i64)]])])).getD .skip
noncomputable def c13:FnC:=⟨13,202,[(.tmp 6)],b13,false,[(.agg [(.slo 1),(.slo 1),(.slo 1),(.int .i64),(.int .i64)]),(.one (.slo 1)),(.one (.slo 3))],.val (.one .bool),none,false,[]⟩
theorem is13:IsFn Tryz.prog 13 c13:=⟨⟨_,_,[50,1000021],[(9,([1,2,3,7,8,9,10,11,12],[1301206],[],[])),(10,([2,3,7,8,9,10,11,12,74,75,76],[1301206],[],[])),(15,([2,3,7,8,9,10,11,12,74,75,76],[1301206],[],[])),(17,([2,7,8,9,10,11,12,17,18],[1301902,1302102,1302107,1352208,1362208,1372208,1302407],[],[])),(18,([7,8,9,10,11,12,17,18,92,93,94],[1301902,1302102,1302107,1352208,1362208,1372208,1302407],[],[])),(30,([7,8,9,10,11,12,17,18,92,93,94],[1301902,1302102,1302107,1352208,1362208,1372208,1302407],[],[])),(1,([1,2,3],[],[],[])),(2,([],[],[],[])),(3,([1,2,3],[],[],[])),(4,([1,2,3],[],[],[])),(5,([1,2,3,7,8],[],[],[])),(6,([1,2,3,7,8,9,10],[],[],[])),(7,([7,8,9,10],[],[],[])),(8,([1,2,3,7,8,9,10],[],[],[])),(11,([2,3,7,8,9,10,11,12,74,75,76],[],[],[])),(12,([2,3,7,8,9,10,11,12,14,74,75,76],[],[],[])),(13,([2,3,7,8,9,10,11,12,15,16,74,75,76],[],[],[])),(14,([2,3,7,8,9,10,11,15,16,74,75,76],[],[],[])),(16,([2,3,7,8,9,10,11,12],[],[],[])),(19,([7,8,9,10,11,12,17,18,92,93,94],[],[],[])),(20,([7,8,9,10,11,12,17,18,20,92,93,94],[],[],[])),(21,([7,8,9,10,11,12,17,20,92,93,94],[],[],[])),(22,([7,8,9,10,11,12,17,20,21,22,92,93,94],[],[],[])),(23,([7,8,9,10,11,12,17,20,21,22,92,93,94],[],[],[])),(24,([7,8,9,10,11,12,17,20,21,22,24,92,93,94],[],[],[])),(25,([7,8,9,10,11,12,17,21,22,24,25,26,92,93,94],[],[],[])),(26,([7,8,9,10,11,12,17,21,22,25,92,93,94],[],[],[])),(27,([7,8,9,10,11,12,17,21,22,25,26,92,93,94],[],[],[])),(28,([],[],[],[])),(29,([7,8,9,10,11,12,17,21,22,92,93,94],[],[],[])),(31,([7,8,9,10,11,12,17,18],[],[],[])),(32,([],[],[],[])),(33,([9,10,17,18],[],[],[]))],[(10,[.keepF 13,.keep 2,.keep 3,.keep 7,.keep 8,.keep 9,.keep 10,.keep 11,.slot 12 (.one (.int .i64)),.keep 74,.keep 75,.slot 76 (.one (.int .i64)),.keepO 1300000,.keepO 1300406,.keepO 1300506,.box 1300801 [(.slo 1),(.slo 1),(.slo 1),(.int .i64),(.int .i64)]]),(18,[.keepF 13,.keep 7,.keep 8,.keep 9,.keep 10,.keep 11,.keep 12,.keep 17,.slot 18 (.one (.int .i64)),.keep 92,.keep 93,.slot 94 (.one (.int .i64)),.keepO 1300406,.keepO 1300506,.keepO 1300801,.box 1301601 [(.slo 1),(.slo 1),(.slo 1),(.int .i64),(.int .i64)]])],Tryz.func13,rfl,(by kernel_rfl),rfl,(by kernel_rfl),(by kernel_rfl)⟩⟩
noncomputable def own4:List (Nat×Fun):=[(15,.code c15),(16,.code c16),(20,.code c20),(36,.code c36),(47,.code c47),(61,.code c61),(89,.code c89),(13,.code c13)]
noncomputable def funs4:List (Nat×Fun):=own4++funs3
noncomputable def Fs4:Nat→Option Fun:=table funs4
set_option maxRecDepth 100000 in
theorem company4:Company Tryz.prog Fs4:=
 .cons is15 <| .cons is16 <| .cons is20 <| .cons is36 <| .cons is47 <| .cons is61 <| .cons is89 <| .cons is13 <| company3
theorem up4:FsLe Fs3 Fs4:=table_up (by kernel_rfl)
theorem fs15:Fs4 15=some (.code c15):=rfl
theorem fs16:Fs4 16=some (.code c16):=rfl
theorem fs20:Fs4 20=some (.code c20):=rfl
theorem fs36:Fs4 36=some (.code c36):=rfl
theorem fs47:Fs4 47=some (.code c47):=rfl
theorem fs61:Fs4 61=some (.code c61):=rfl
theorem fs89:Fs4 89=some (.code c89):=rfl
theorem fs13:Fs4 13=some (.code c13):=rfl
end Go.Proofs.YtclgengkohbjjaaGreatDoor.M
namespace Go.Proofs.YtclgengkohbjjaaGreatDoor.M
set_option linter.unusedVariables false
set_option linter.unusedSimpArgs false
open Go Go.Mir
set_option linter.unusedVariables false
def V15 (a0_0:LD) (a0_1:LD) (a0_2:LD) (a0_3:Int) (a0_4:Int) (R:Mir.AV→Prop):Prop:=
 (sel (decide ((a0_1.length:Int)≤300)) (R (.n (.bool (decide ((a0_2.length:Int)≤300))))) (R (.n (.bool false))))
theorem vc15 (a0_0:LD) (a0_1:LD) (a0_2:LD) (a0_3:Int) (a0_4:Int) (R:Mir.AV→Prop):Vc Fs4 c15.body (argsQ c15 [(.agg [(.o (.sl 1 a0_0)),(.o (.sl 1 a0_1)),(.o (.sl 1 a0_2)),(.n (.int .i64 a0_3)),(.n (.int .i64 a0_4))])]) [] (endQ c15 R)=V15 a0_0 a0_1 a0_2 a0_3 a0_4 R:=by kernel_rfl
def V16  (R:Mir.AV→Prop):Prop:=
 (∃x0:LD,(∃x1:LD,(∃x2:LD,(∃x3:Int,(∃x4:Int,((Runs Fs4 47 [(aI 24)] [] (qC_ x0 x1 x2 x3 x4) [])∧(∃x5:LD,(∃x6:LD,(∃x7:LD,(∃x8:Int,(∃x9:Int,(∃x10:Int,((Runs Fs4 17 [(qC_ x0 x1 x2 x3 x4),(aS (ByteArray.mk (List.toArray [97])))] [] (qcm_ x5 x6 x7 x8 x9 x10) [])∧(R (.n (.bool (x10==80)))))))))))))))))
def V16e  (R:Mir.AV→Prop):=PLift.up (by delta V16 qcm_ qC_ qG_;exact rfl:V16 R=_)
theorem vc16  (R:Mir.AV→Prop):Vc Fs4 c16.body (argsQ c16 []) [] (endQ c16 R)=V16  R:=by kernel_rfl
def V20 (a0_0:LD) (a0_1:LD) (a0_2:LD) (a0_3:Int) (a0_4:Int) (R:Mir.AV→Prop):Prop:=
 (∃x0:Bool,((Runs Fs4 36 [(qC_ a0_0 a0_1 a0_2 a0_3 a0_4),(.agg [(aL []),(aL []),(aL []),(aI 0),(aI 0)])] [] (aB x0) [])∧(R (.n (.bool x0)))))
def V20e (a0_0:LD) (a0_1:LD) (a0_2:LD) (a0_3:Int) (a0_4:Int) (R:Mir.AV→Prop):=PLift.up (by delta V20 qC_ qG_;exact rfl:V20 a0_0 a0_1 a0_2 a0_3 a0_4 R=_)
theorem vc20 (a0_0:LD) (a0_1:LD) (a0_2:LD) (a0_3:Int) (a0_4:Int) (R:Mir.AV→Prop):Vc Fs4 c20.body (argsQ c20 [(.agg [(.o (.sl 1 a0_0)),(.o (.sl 1 a0_1)),(.o (.sl 1 a0_2)),(.n (.int .i64 a0_3)),(.n (.int .i64 a0_4))])]) [] (endQ c20 R)=V20 a0_0 a0_1 a0_2 a0_3 a0_4 R:=by kernel_rfl
def V36 (a0_0:LD) (a0_1:LD) (a0_2:LD) (a0_3:Int) (a0_4:Int) (a1_0:LD) (a1_1:LD) (a1_2:LD) (a1_3:Int) (a1_4:Int) (R:Mir.AV→Prop):Prop:=
 (sel (a0_3 != a1_3) (R (.n (.bool false))) (sel (a0_4 != a1_4) (R (.n (.bool false))) (sel (qK_ a0_2 a1_2) (R (.n (.bool false))) (∃x0:Bool,((Runs Fs4 61 [(.agg [(aL a0_0),(aL a0_1)]),(.agg [(aL a1_0),(aL a1_1)])] [] (aB x0) [])∧(sel (Bool.not x0) (R (.n (.bool false))) (∃x1:(Int→Prop),(∃x2:(Int→Nat),(((rh [(hB 3600000 (qG_ a0_0 a0_1 a0_2 a0_3 a0_4)),(hB 3600001 (qG_ a1_0 a1_1 a1_2 a1_3 a1_4))])∧(x1 0))∧(∀x3:Int,((x1 x3)→(∀x4:(Nat→Mir.AV),(sel (qL_ x3 a0_2) ((rn 1)∧((0:Int)≤x3)∧(∃x5:Mir.D,((qp_ a0_2 x3 x5)∧(∃x6:ByteArray,((qr_ x5 x6)∧(rn 1)∧((0:Int)≤x3)∧(∃x7:Mir.D,((qp_ a1_2 x3 x7)∧(∃x8:ByteArray,((qr_ x7 x8)∧(sel (Bool.not (qu_ x6 x8)) (R (.n (.bool false))) ((rq (.ptr 3600000 0))∧(rq (.ptr 3600001 0))∧(qM_ a0_2)∧(rh [(hB 3600000 (qG_ a0_0 a0_1 a0_2 a0_3 a0_4)),(hB 3600001 (qG_ a1_0 a1_1 a1_2 a1_3 a1_4))])∧(x1 (IntKind.wrap .i64 (x3+1)))∧(((x2 (IntKind.wrap .i64 (x3+1))):Nat)<(x2 x3))))))))))))) (R (.n (.bool true))))))))))))))))
def V36e (a0_0:LD) (a0_1:LD) (a0_2:LD) (a0_3:Int) (a0_4:Int) (a1_0:LD) (a1_1:LD) (a1_2:LD) (a1_3:Int) (a1_4:Int) (R:Mir.AV→Prop):=PLift.up (by delta V36 qL_ qM_ qr_ qK_ qu_ qp_ qG_;exact rfl:V36 a0_0 a0_1 a0_2 a0_3 a0_4 a1_0 a1_1 a1_2 a1_3 a1_4 R=_)
theorem vc36 (a0_0:LD) (a0_1:LD) (a0_2:LD) (a0_3:Int) (a0_4:Int) (a1_0:LD) (a1_1:LD) (a1_2:LD) (a1_3:Int) (a1_4:Int) (R:Mir.AV→Prop):Vc Fs4 c36.body (argsQ c36 [(.agg [(.o (.sl 1 a0_0)),(.o (.sl 1 a0_1)),(.o (.sl 1 a0_2)),(.n (.int .i64 a0_3)),(.n (.int .i64 a0_4))]),(.agg [(.o (.sl 1 a1_0)),(.o (.sl 1 a1_1)),(.o (.sl 1 a1_2)),(.n (.int .i64 a1_3)),(.n (.int .i64 a1_4))])]) [] (endQ c36 R)=V36 a0_0 a0_1 a0_2 a0_3 a0_4 a1_0 a1_1 a1_2 a1_3 a1_4 R:=by kernel_rfl
abbrev qcU_ (p0:Int):=
 (mmI false (mmI true p0 24) 200)
def V47 (a0:Int) (R:Mir.AV→Prop):Prop:=
 (∃x0:LD,(∃x1:LD,((Runs Fs4 60 [(aI (qcU_ a0))] [] (.agg [(aL x0),(aL x1)]) [])∧((0:Int)≤(qcU_ a0))∧((((Int.toNat (qcU_ a0))*16):Nat)≤140737488355328)∧(0=0)∧(R (.agg [(.o (.sl 1 x0)),(.o (.sl 1 x1)),(.o (.sl 1 (List.replicate (Int.toNat (qcU_ a0)) (Mir.D.str qf_)))),(.n (.int .i64 0)),(.n (.int .i64 1))])))))
def V47e (a0:Int) (R:Mir.AV→Prop):=PLift.up (by delta V47 qf_ qcU_;exact rfl:V47 a0 R=_)
theorem vc47 (a0:Int) (R:Mir.AV→Prop):Vc Fs4 c47.body (argsQ c47 [(.n (.int .i64 a0))]) [] (endQ c47 R)=V47 a0 R:=by kernel_rfl
def V61 (a0_0:LD) (a0_1:LD) (a1_0:LD) (a1_1:LD) (R:Mir.AV→Prop):Prop:=
 (∃x0:Bool,((Runs Fs4 89 [(aL a0_0),(aL a1_0)] [] (aB x0) [])∧(sel x0 (∃x1:Bool,((Runs Fs4 89 [(aL a0_1),(aL a1_1)] [] (aB x1) [])∧(R (.n (.bool x1))))) (R (.n (.bool false))))))
theorem vc61 (a0_0:LD) (a0_1:LD) (a1_0:LD) (a1_1:LD) (R:Mir.AV→Prop):Vc Fs4 c61.body (argsQ c61 [(.agg [(.o (.sl 1 a0_0)),(.o (.sl 1 a0_1))]),(.agg [(.o (.sl 1 a1_0)),(.o (.sl 1 a1_1))])]) [] (endQ c61 R)=V61 a0_0 a0_1 a1_0 a1_1 R:=by kernel_rfl
def V89 (a0:LD) (a1:LD) (R:Mir.AV→Prop):Prop:=
 (sel (qK_ a0 a1) (R (.n (.bool false))) (∃x0:(Int→Prop),(∃x1:(Int→Nat),(((rh [])∧(x0 0))∧(∀x2:Int,((x0 x2)→(∀x3:(Nat→Mir.AV),(sel (qL_ x2 a0) ((rn 1)∧((0:Int)≤x2)∧(∃x4:Mir.D,((qp_ a0 x2 x4)∧(∃x5:Bool,((qS_ x4 x5)∧(rn 1)∧((0:Int)≤x2)∧(∃x6:Mir.D,((qp_ a1 x2 x6)∧(∃x7:Bool,((qS_ x6 x7)∧(sel (Bool.not (x5==x7)) (R (.n (.bool false))) ((rq (aL a0))∧(rq (aL a1))∧(rq (aI (a0.length:Int)))∧(rh [])∧(x0 (IntKind.wrap .i64 (x2+1)))∧(((x1 (IntKind.wrap .i64 (x2+1))):Nat)<(x1 x2))))))))))))) (R (.n (.bool true)))))))))))
def V89e (a0:LD) (a1:LD) (R:Mir.AV→Prop):=PLift.up (by delta V89 qp_ qL_ qK_ qS_;exact rfl:V89 a0 a1 R=_)
theorem vc89 (a0:LD) (a1:LD) (R:Mir.AV→Prop):Vc Fs4 c89.body (argsQ c89 [(.o (.sl 1 a0)),(.o (.sl 1 a1))]) [] (endQ c89 R)=V89 a0 a1 R:=by kernel_rfl
noncomputable instance (a b:Wd):Decidable (a=b):=Classical.propDecidable _
def smallW (w:Wd):Prop:=w.now.length≤300∧w.pages.length≤300
instance (w:Wd):Decidable (smallW w):=by unfold smallW;infer_instance
theorem p15 (w:Wd):Runs Fs4 15 [wdV w] [] (.n (.bool (decide (smallW w)))) []:=by
 refine vc_eq fs15 rfl ?_
 rw[wdV,vc15,V15,blD_len,sl_len]
 refine sel_dec (fun h => ?_) (fun h=>by rw[decide_eq_false (by unfold smallW;omega)])
 congr 2
 rw[decide_eq_decide,smallW]
 omega
theorem p89 (a b:List Bool) (ha:Small a.length):Runs Fs4 89 [.o (.sl 1 (blD a)),.o (.sl 1 (blD b))] [] (.n (.bool (decide (a=b)))) []:=by
 refine vc_eq fs89 rfl ?_
 rw[vc89,(V89e _ _ _).down,blD_len,blD_len]
 refine sel_intro (fun h => ?_) (fun h => ?_)
 · rw[decide_eq_false]
   rintro rfl
   simp at h
 have hl:a.length=b.length:=by
   have:(a.length:Int)=b.length:=by simpa using h
   omega
 refine ⟨fun i=>0≤i∧i≤a.length∧∀j:Nat,(j:Int)<i→a[j]?=b[j]?,fun i=>(a.length - i).toNat,⟨rfl,by omega,by omega,fun j hj=>by omega⟩,?_⟩
 rintro i ⟨h0,h1,hok⟩ _
 refine sel_dec (fun hlt => ?_) (fun hge => ?_)
 · have hi:i.toNat<a.length:=by omega
   have hj:i.toNat<b.length:=by omega
   refine ⟨rfl,h0,_,blD_at hi,_,rfl,rfl,h0,_,blD_at hj,_,rfl,?_⟩
   refine sel_intro (fun hx => ?_) (fun hx => ?_)
   · rw[decide_eq_false]
     rintro rfl
     simp at hx
   · have hx:a[i.toNat]=b[i.toNat]:=by simpa using hx
     repeat (refine And.intro rfl ?_)
     rw[i64_in _ (by omega)]
     refine ⟨⟨by omega,by omega,fun j hji => ?_⟩,by first|omega|(dsimp only;omega)⟩
     by_cases e:(j:Int)<i
     · exact hok j e
     · obtain rfl:j=i.toNat:=by omega
       rw[List.getElem?_eq_getElem hi,List.getElem?_eq_getElem hj,hx]
 · rw[decide_eq_true]
   refine List.ext_getElem? fun j => ?_
   by_cases hj:j<a.length
   · exact hok j (by omega)
   · rw[List.getElem?_eq_none (by omega),List.getElem?_eq_none (by omega)]
theorem p61 (a b c d:List Bool) (ha:Small a.length) (hb:Small b.length):Runs Fs4 61 [alV a b,alV c d] [] (.n (.bool (decide (a=c∧b=d)))) []:=by
 have g1:=p89 a c ha
 have g2:=p89 b d hb
 refine vc_eq fs61 rfl ?_
 rw[alV,alV,vc61,V61]
 refine ⟨_,g1,sel_dec (fun h=>⟨_,g2,?_⟩) (fun h=>by rw[decide_eq_false (fun hh=>h hh.1)])⟩
 congr 2
 rw[decide_eq_decide]
 exact ⟨fun h2=>⟨h,h2⟩,fun h2=>h2.2⟩
theorem wd_ext {a b:Wd} (h1:a.base=b.base) (h2:a.now=b.now) (h3:a.pages=b.pages) (h4:a.root=b.root) (h5:a.gen=b.gen):a=b:=by
 cases a;cases b;simp_all
theorem p36 (a b:Wd) (hf:WFits a):Runs Fs4 36 [wdV a,wdV b] [] (.n (.bool (decide (a=b)))) []:=by
 have g1:=p61 a.base a.now b.base b.now hf.b hf.n
 have no:a≠b→AV.n (D.bool false) = .n (.bool (decide (a=b))):=fun h=>by rw[decide_eq_false h]
 refine vc_eq fs36 rfl ?_
 rw[wdV,wdV,vc36,(V36e _ _ _ _ _ _ _ _ _ _ _).down,sl_len,sl_len]
 refine sel_intro (fun h=>no (by rintro rfl;simp at h)) (fun h1=>sel_intro (fun h=>no (by rintro rfl;simp at h)) (fun h2=>sel_intro (fun h=>no (by rintro rfl;simp at h)) (fun h3=>⟨_,g1,?_⟩)))
 have h1:a.root=b.root:=by simpa using h1
 have h2:a.gen=b.gen:=by simpa using h2
 have hl:a.pages.length=b.pages.length:=by
   have:(a.pages.length:Int)=b.pages.length:=by simpa using h3
   omega
 by_cases hc:a.base=b.base∧a.now=b.now
 · rw[decide_eq_true hc]
   refine sel_intro (fun h=>by cases h) (fun _ => ?_)
   refine ⟨fun i=>0≤i∧i≤a.pages.length∧∀j:Nat,(j:Int)<i→a.pages[j]?=b.pages[j]?,fun i=>(a.pages.length - i).toNat,⟨rfl,by omega,by omega,fun j hj=>by omega⟩,?_⟩
   rintro i ⟨h0,h1',hok⟩ _
   have hs:=hf.p
   refine sel_dec (fun hlt => ?_) (fun hge => ?_)
   · have hi:i.toNat<a.pages.length:=by omega
     have hj:i.toNat<b.pages.length:=by omega
     refine ⟨rfl,h0,_,sl_at hi,_,rfl,rfl,h0,_,sl_at hj,_,rfl,sel_nb (fun hx => ?_) (fun hx => ?_)⟩
     · refine no fun e=>hx ?_
       subst e;rfl
     · repeat (refine And.intro rfl ?_)
       rw[i64_in _ (by omega)]
       refine ⟨⟨by omega,by omega,fun j hji => ?_⟩,by first|omega|(dsimp only;omega)⟩
       by_cases e:(j:Int)<i
       · exact hok j e
       · obtain rfl:j=i.toNat:=by omega
         rw[List.getElem?_eq_getElem hi,List.getElem?_eq_getElem hj,hx]
   · rw[decide_eq_true]
     refine wd_ext hc.1 hc.2 (List.ext_getElem? fun j => ?_) h1 h2
     by_cases hj:j<a.pages.length
     · exact hok j (by omega)
     · rw[List.getElem?_eq_none (by omega),List.getElem?_eq_none (by omega)]
 · rw[decide_eq_false hc]
   exact sel_intro (fun _=>no fun e=>hc ⟨by rw[e],by rw[e]⟩) (fun h=>by cases h)
theorem p20 (w:Wd) (hf:WFits w):Runs Fs4 20 [wdV w] [] (.n (.bool (decide (w=wd0)))) []:=by
 have g:=p36 w wd0 hf
 refine vc_eq fs20 rfl ?_
 rw[wdV,vc20,(V20e _ _ _ _ _ _).down]
 exact ⟨_,g,rfl⟩
def clampN (n:Int):Nat:=(mmI false (mmI true n 24) 200).toNat
theorem clampN_le (n:Int):24≤clampN n∧clampN n≤200:=by
 unfold clampN mmI
 simp only[if_true,Bool.false_eq_true,if_false]
 split <;> split <;> omega
theorem clampN_eq (n:Int):mmI false (mmI true n 24) 200=(clampN n:Int):=by
 unfold clampN mmI
 simp only[if_true,Bool.false_eq_true,if_false]
 split <;> split <;> omega
theorem p47 (n:Int):Runs Fs4 47 [.n (.int .i64 n)] [] (wdV (newW (clampN n))) []:=by
 have hc:=clampN_le n
 have g:=((p60 (clampN n) (by omega)).up up3).up up4
 refine vc_eq fs47 rfl ?_
 rw[vc47,(V47e _ _).down,clampN_eq]
 refine ⟨_,_,g,by omega,by omega,rfl,?_⟩
 rw[Int.toNat_natCast,sl_rep];rfl
theorem newW_fits (n:Nat) (h:n≤2048):WFits (newW n):=⟨by simp[newW,newRow];omega,by simp[newW,newRow];omega,by simp[newW];omega,fun s hs=>by
 rw[List.eq_of_mem_replicate hs];decide⟩
theorem p16:Runs Fs4 16 [] [] (.n (.bool true)) []:=by
 have g:=(p17 (newW 24) (newW_fits 24 (by decide)) (ByteArray.mk (List.toArray [97]))).up up4
 have e:delW (newW 24) (ByteArray.mk (List.toArray [97]))=(wd0,80):=by
  rw[delW,if_neg (fun h=>h ⟨newW_right (by decide) (by decide),by decide⟩),if_pos (show (newW 24).root=0 from rfl)]
 rw[e]at g
 refine vc_eq fs16 rfl ?_
 rw[vc16,(V16e _).down]
 exact ⟨_,_,_,_,_,p47 24,_,_,_,_,_,_,g,rfl⟩
theorem t21 (w:Wd) (hf:WFits w) (hn:w.now.length≤2048):∃va vb,Runs Fs4 21 [wdV w] [] (.ptr 2100101 0) (hT (treeW w) va vb):=by
 obtain ⟨va,vb,g⟩:=p21 w hf hn
 exact ⟨va,vb,(g.up up3).up up4⟩
theorem wd0_fits:WFits wd0:=⟨by decide,by decide,by decide,fun s hs=>by cases hs⟩
theorem p20t:Runs Fs4 20 [wdV wd0] [] (.n (.bool true)) []:=by
 have g:=p20 wd0 wd0_fits
 rw[decide_eq_true rfl]at g
 exact g
theorem p18' (w:Wd) (hf:WFits w):Runs Fs4 18 [wdV w] [] (.n (.bool (decide (WRight w)))) []:=((p18 w hf).up up3).up up4
theorem selT {A B:Prop} (h:A):sel true A B:=h
theorem selF {A B:Prop} (h:B):sel false A B:=h
theorem sel_ne {a b:Int} {A B:Prop} (h:a≠b) (x:A):sel (a != b) A B:=by
 rw[show (a != b)=true by simpa using h];exact x
theorem sel_nne {a b:Int} {A B:Prop} (h:a=b) (x:B):sel (a != b) A B:=by
 rw[show (a != b)=false by simpa using h];exact x
theorem sel_eT {a b:Int} {A B:Prop} (h:a=b) (x:A):sel (a==b) A B:=by
 rw[show (a==b)=true by simpa using h];exact x
theorem sel_eF {a b:Int} {A B:Prop} (h:a≠b) (x:B):sel (a==b) A B:=by
 rw[show (a==b)=false by simpa using h];exact x
theorem sl_cut (l:List ByteArray) (n:Nat):List.drop 0 (List.take n (sl_ l))=sl_ (l.take n):=by simp[sl_,List.map_take]
theorem cgD_cut (l:List Chg) (n:Nat):List.drop 0 (List.take n (cgD l))=cgD (l.take n):=by simp[cgD,List.map_take]
abbrev ksT:Mir.Ty := .sl .str
abbrev cgT:Mir.Ty := .sl (.st [.str,.str,.bool])
def toCgs (x:cgT.T):List Chg:=(show List (ByteArray×ByteArray×Bool×Unit) from x).map fun p=>⟨p.2.2.1,p.1,p.2.1⟩
theorem cgs_av (x:cgT.T):cgT.av x = .o (.sl 3 (cgD (toCgs x))):=by
 unfold toCgs cgD
 rw[List.map_map];rfl
theorem kss_av (x:ksT.T):ksT.av x = .o (.sl 1 (sl_ x)):=rfl
end Go.Proofs.YtclgengkohbjjaaGreatDoor.M
