import Derived.Test.YtclgengkohbjjaaGreatDoorProg
import Derived.Test.YtclgengkohbjjaaGreatDoorMirI
import Derived.Test.YtclgengkohbjjaaGreatDoorMirL
import Derived.KernelRfl
import Derived.Test.YtclgengkohbjjaaGreatDoorR4ScanQ
import Derived.Test.YtclgengkohbjjaaGreatDoorR4EdA
import Derived.Test.YtclgengkohbjjaaGreatDoorMirU
namespace Go.Proofs.YtclgengkohbjjaaGreatDoor.M
set_option linter.unusedVariables false
set_option linter.unusedSimpArgs false
open Go Go.Mir Go.Proofs
@[irreducible] noncomputable def b113:Cmd:=((Tryz.f113.body).bind (trC Tryz.prog [1000070,1000074,1000137,1000158,1000159,2000087,2000088,2000101,2000104,2000075,11300700011300102,50] 113 [(7,([1,19],[11300102],[],[]))] [(2,[.keepF 113,.keep 1,.ptr 5 11300102 0,.box 11300102 [(.int .i64)]])])).getD .skip
noncomputable def c113:FnC:=⟨113,20,[(.tmp 4)],b113,false,[(.one (.int .i64)),(.one (.slo 1))],.val (.one (.int .i64)),none,false,[]⟩
theorem is113:IsFn Tryz.prog 113 c113:=⟨⟨_,_,[1000070,1000074,1000137,1000158,1000159,2000087,2000088,2000101,2000104,2000075,11300700011300102,50],[(7,([1,19],[11300102],[],[]))],[(2,[.keepF 113,.keep 1,.ptr 5 11300102 0,.box 11300102 [(.int .i64)]])],Tryz.func113,rfl,(by kernel_rfl),rfl,(by kernel_rfl),(by kernel_rfl)⟩⟩
def b145:Cmd:=(.seq (.region [(o 3 (.mov (.const (.bool false))))]) (.seq (.region [(m 4 0),(os 5 (.ld (T 1) none) sI),(os 6 (.call false 136 [(T 4),(T 5)]) sB),(m 3 6)]) .ret))
noncomputable def c145:FnC:=⟨145,7,[(.tmp 3)],b145,false,[(.one (.slo 1))],.val (.one .bool),none,false,[]⟩
theorem is145:IsFn Tryz.prog 145 c145:=⟨⟨_,_,[1000070,1000074,1000137,1000158,1000159,2000087,2000088,2000101,2000104,2000075,11300700011300102,50],[],[],Tryz.func145,rfl,(by kernel_rfl),rfl,(by kernel_rfl),(by kernel_rfl)⟩⟩
@[irreducible] noncomputable def b114:Cmd:=((Tryz.f114.body).bind (trC Tryz.prog [1000070,1000074,1000137,1000158,1000159,2000087,2000088,2000101,2000104,2000075,11300700011300102,50] 114 [] [(3,[.keepF 114,.keep 0,.keep 1,.keep 8,.keep 13,.keep 14,.slot 15 (.one (.int .i64)),.row 11450101 4 1 false])])).getD .skip
noncomputable def c114:FnC:=⟨114,33,[(.tmp 6),(.tmp 7)],b114,false,[(.one (.slo 1)),(.one .bool),(.one (.slo 1))],.tup [(.one (.slo 1)),(.one (.int .i64))],none,false,[]⟩
theorem is114:IsFn Tryz.prog 114 c114:=⟨⟨_,_,[1000070,1000074,1000137,1000158,1000159,2000087,2000088,2000101,2000104,2000075,11300700011300102,50],[],[(3,[.keepF 114,.keep 0,.keep 1,.keep 8,.keep 13,.keep 14,.slot 15 (.one (.int .i64)),.row 11450101 4 1 false])],Tryz.func114,rfl,(by kernel_rfl),rfl,(by kernel_rfl),(by kernel_rfl)⟩⟩
@[irreducible] noncomputable def b78:Cmd:=((Tryz.f78.body).bind (trC Tryz.prog [1000070,1000074,1000137,1000158,1000159,2000087,2000088,2000101,2000104,2000075,11300700011300102,50] 78 [] [])).getD .skip
noncomputable def c78:FnC:=⟨78,34,[(.cell 2 (some 2)),(.tmp 3),(.tmp 4)],b78,false,[(.agg [(.slo 1),(.slo 1)])],.tup [(.agg [(.slo 1),(.slo 1)]),(.one (.int .i64)),(.one (.int .i64))],none,false,[]⟩
theorem is78:IsFn Tryz.prog 78 c78:=⟨⟨_,_,[1000070,1000074,1000137,1000158,1000159,2000087,2000088,2000101,2000104,2000075,11300700011300102,50],[],[],Tryz.func78,rfl,(by kernel_rfl),rfl,(by kernel_rfl),(by kernel_rfl)⟩⟩
@[irreducible] noncomputable def b100:Cmd:=((Tryz.f100.body).bind (trC Tryz.prog [1000070,1000074,1000137,1000158,1000159,2000087,2000088,2000101,2000104,2000075,11300700011300102,50] 100 [] [(5,[.keepF 100,.keep 2,.keep 4,.keep 6,.keep 16,.keep 17,.slot 18 (.one (.int .i64)),.keepO 10000000,.box 10000001 [.nil,.nil],.row 10050302 4 1 false])])).getD .skip
noncomputable def c100:FnC:=⟨100,45,[(.cell 4 (some 2)),(.tmp 5)],b100,false,[(.agg [(.slo 1),(.slo 1)]),(.one (.slo 1))],.tup [(.agg [(.slo 1),(.slo 1)]),(.one (.int .i64))],none,false,[]⟩
theorem is100:IsFn Tryz.prog 100 c100:=⟨⟨_,_,[1000070,1000074,1000137,1000158,1000159,2000087,2000088,2000101,2000104,2000075,11300700011300102,50],[],[(5,[.keepF 100,.keep 2,.keep 4,.keep 6,.keep 16,.keep 17,.slot 18 (.one (.int .i64)),.keepO 10000000,.box 10000001 [.nil,.nil],.row 10050302 4 1 false])],Tryz.func100,rfl,(by kernel_rfl),rfl,(by kernel_rfl),(by kernel_rfl)⟩⟩
@[irreducible] noncomputable def b76:Cmd:=((Tryz.f76.body).bind (trC Tryz.prog [1000070,1000074,1000137,1000158,1000159,2000087,2000088,2000101,2000104,2000075,11300700011300102,50] 76 [(13,([1,4,6],[7601702],[],[])),(14,([1,4,6,47,48,49],[7601702],[],[])),(20,([1,4,6,47,48,49],[7601702],[],[]))] [(7,[.keepF 76,.keep 1,.keep 4,.keep 6,.keep 27,.keep 28,.slot 29 (.one (.int .i64)),.keepO 7600000,.box 7600307 [.str]]),(14,[.keepF 76,.keep 1,.keep 4,.keep 6,.keep 47,.keep 48,.slot 49 (.one (.int .i64)),.keepO 7600000,.box 7600307 [.str]])])).getD .skip
noncomputable def c76:FnC:=⟨76,77,[(.tmp 2),(.tmp 3)],b76,false,[(.agg [.bool,(.slo 1),(.slo 1),(.slo 1)])],.tup [(.one .str),(.one (.int .i64))],none,false,[]⟩
theorem is76:IsFn Tryz.prog 76 c76:=⟨⟨_,_,[1000070,1000074,1000137,1000158,1000159,2000087,2000088,2000101,2000104,2000075,11300700011300102,50],[(13,([1,4,6],[7601702],[],[])),(14,([1,4,6,47,48,49],[7601702],[],[])),(20,([1,4,6,47,48,49],[7601702],[],[]))],[(7,[.keepF 76,.keep 1,.keep 4,.keep 6,.keep 27,.keep 28,.slot 29 (.one (.int .i64)),.keepO 7600000,.box 7600307 [.str]]),(14,[.keepF 76,.keep 1,.keep 4,.keep 6,.keep 47,.keep 48,.slot 49 (.one (.int .i64)),.keepO 7600000,.box 7600307 [.str]])],Tryz.func76,rfl,(by kernel_rfl),rfl,(by kernel_rfl),(by kernel_rfl)⟩⟩
def b107:Cmd:=(.seq (.region [(m 6 0),(os 7 (.call false 108 [(T 6)]) (.tup [(.one .str),(.one (.int .i64))])),(m 5 7),(o 8 (.ext (T 5) 0)),(o 9 (.ext (T 5) 1)),(m 3 8),(m 4 9)]) (.region [(os 10 (.ld (T 1) none) sS),(m 11 3),(o 12 (.lit 10700102 9 1 [(T 10),(T 11)])),(os 13 (.call false 109 [(T 12)]) sS),(u (.st (T 1) (T 13) 1))]))
noncomputable def c107:FnC:=⟨107,14,[],b107,false,[(.one .str)],.tup [],none,true,[]⟩
theorem is107:IsFn Tryz.prog 107 c107:=⟨⟨_,_,[1000070,1000074,1000137,1000158,1000159,2000087,2000088,2000101,2000104,2000075,11300700011300102,50],[],[],Tryz.func107,rfl,(by kernel_rfl),rfl,(by kernel_rfl),(by kernel_rfl)⟩⟩
@[irreducible] noncomputable def b118:Cmd:=((Tryz.f118.body).bind (trC Tryz.prog [1000070,1000074,1000137,1000158,1000159,2000087,2000088,2000101,2000104,2000075,11300700011300102,50] 118 [] [])).getD .skip
noncomputable def c118:FnC:=⟨118,74,[(.cell 2 (some 4)),(.tmp 3),(.cell 4 (some 4)),(.tmp 5)],b118,false,[(.agg [.bool,(.slo 1),(.slo 1),(.slo 1)])],.tup [(.agg [.bool,(.slo 1),(.slo 1),(.slo 1)]),(.one .str),(.agg [.bool,(.slo 1),(.slo 1),(.slo 1)]),(.one (.int .i64))],none,false,[]⟩
theorem is118:IsFn Tryz.prog 118 c118:=⟨⟨_,_,[1000070,1000074,1000137,1000158,1000159,2000087,2000088,2000101,2000104,2000075,11300700011300102,50],[],[],Tryz.func118,rfl,(by kernel_rfl),rfl,(by kernel_rfl),(by kernel_rfl)⟩⟩
def b138:Cmd:=(.seq (.region [(o 2 (.mov (.const (.slice none 0 0))))]) (.seq (.region [(m 3 0),(os 4 (.call false 140 [(T 3)]) sL),(m 2 4)]) .ret))
noncomputable def c138:FnC:=⟨138,5,[(.tmp 2)],b138,false,[(.one (.slo 1))],.val (.one (.slo 1)),none,false,[]⟩
theorem is138:IsFn Tryz.prog 138 c138:=⟨⟨_,_,[1000070,1000074,1000137,1000158,1000159,2000087,2000088,2000101,2000104,2000075,11300700011300102,50],[],[],Tryz.func138,rfl,(by kernel_rfl),rfl,(by kernel_rfl),(by kernel_rfl)⟩⟩
def b139:Cmd:=(.seq (.region [(o 2 (.mov (.const (.slice none 0 0))))]) (.seq (.region [(m 3 0),(os 4 (.call false 141 [(T 3)]) sL),(m 2 4)]) .ret))
noncomputable def c139:FnC:=⟨139,5,[(.tmp 2)],b139,false,[(.one (.slo 1))],.val (.one (.slo 1)),none,false,[]⟩
theorem is139:IsFn Tryz.prog 139 c139:=⟨⟨_,_,[1000070,1000074,1000137,1000158,1000159,2000087,2000088,2000101,2000104,2000075,11300700011300102,50],[],[],Tryz.func139,rfl,(by kernel_rfl),rfl,(by kernel_rfl),(by kernel_rfl)⟩⟩
@[irreducible] noncomputable def b140:Cmd:=((Tryz.f140.body).bind (trC Tryz.prog [1000070,1000074,1000137,1000158,1000159,2000087,2000088,2000101,2000104,2000075,11300700011300102,50] 140 [(10,([0,6],[14001302],[],[])),(11,([6,25,26,27],[14001302],[],[])),(14,([6,25,26,27],[14001302],[],[]))] [(3,[.keepF 140,.keep 0,.slot 3 (.one (.int .i64)),.keep 9,.keep 10,.slot 11 (.one (.int .i64))]),(11,[.keepF 140,.rowIn 6 14050901,.keep 25,.keep 26,.slot 27 (.one (.int .i64)),.row 14050901 9 1 false])])).getD .skip
noncomputable def c140:FnC:=⟨140,36,[(.tmp 2)],b140,false,[(.one (.slo 1))],.val (.one (.slo 1)),none,false,[]⟩
theorem is140:IsFn Tryz.prog 140 c140:=⟨⟨_,_,[1000070,1000074,1000137,1000158,1000159,2000087,2000088,2000101,2000104,2000075,11300700011300102,50],[(10,([0,6],[14001302],[],[])),(11,([6,25,26,27],[14001302],[],[])),(14,([6,25,26,27],[14001302],[],[]))],[(3,[.keepF 140,.keep 0,.slot 3 (.one (.int .i64)),.keep 9,.keep 10,.slot 11 (.one (.int .i64))]),(11,[.keepF 140,.rowIn 6 14050901,.keep 25,.keep 26,.slot 27 (.one (.int .i64)),.row 14050901 9 1 false])],Tryz.func140,rfl,(by kernel_rfl),rfl,(by kernel_rfl),(by kernel_rfl)⟩⟩
@[irreducible] noncomputable def b141:Cmd:=((Tryz.f141.body).bind (trC Tryz.prog [1000070,1000074,1000137,1000158,1000159,2000087,2000088,2000101,2000104,2000075,11300700011300102,50] 141 [(10,([0,6],[14101302],[],[])),(11,([6,25,26,27],[14101302],[],[])),(14,([6,25,26,27],[14101302],[],[]))] [(3,[.keepF 141,.keep 0,.slot 3 (.one (.int .i64)),.keep 9,.keep 10,.slot 11 (.one (.int .i64))]),(11,[.keepF 141,.rowIn 6 14150901,.keep 25,.keep 26,.slot 27 (.one (.int .i64)),.row 14150901 3 1 false])])).getD .skip
noncomputable def c141:FnC:=⟨141,36,[(.tmp 2)],b141,false,[(.one (.slo 1))],.val (.one (.slo 1)),none,false,[]⟩
theorem is141:IsFn Tryz.prog 141 c141:=⟨⟨_,_,[1000070,1000074,1000137,1000158,1000159,2000087,2000088,2000101,2000104,2000075,11300700011300102,50],[(10,([0,6],[14101302],[],[])),(11,([6,25,26,27],[14101302],[],[])),(14,([6,25,26,27],[14101302],[],[]))],[(3,[.keepF 141,.keep 0,.slot 3 (.one (.int .i64)),.keep 9,.keep 10,.slot 11 (.one (.int .i64))]),(11,[.keepF 141,.rowIn 6 14150901,.keep 25,.keep 26,.slot 27 (.one (.int .i64)),.row 14150901 3 1 false])],Tryz.func141,rfl,(by kernel_rfl),rfl,(by kernel_rfl),(by kernel_rfl)⟩⟩
@[irreducible] noncomputable def b50:Cmd:=((Tryz.f50.body).bind (trC Tryz.prog [1000070,1000074,1000137,1000158,1000159,2000087,2000088,2000101,2000104,2000075,11300700011300102,50] 50 [] [])).getD .skip
noncomputable def c50:FnC:=⟨50,10,[(.tmp 2)],b50,true,[(.agg [(.slo 1),(.slo 1),(.slo 1),(.int .i64),(.int .i64)])],.val (.one .raw),none,false,[(.val (.one (.ptr 5000202 0)),[.box 5000202 [(.slo 1),(.slo 1),(.row 5050102),(.int .i64),(.int .i64),(.int .i64)],.row 5050102 9 1 false])]⟩
theorem is50:IsFn Tryz.prog 50 c50:=⟨⟨_,_,[1000070,1000074,1000137,1000158,1000159,2000087,2000088,2000101,2000104,2000075,11300700011300102,50],[],[],Tryz.func50,rfl,(by kernel_rfl),rfl,(by kernel_rfl),(by kernel_rfl)⟩⟩
@[irreducible] noncomputable def b71:Cmd:=((Tryz.f71.body).bind (trC Tryz.prog [1000070,1000074,1000137,1000158,1000159,2000087,2000088,2000101,2000104,2000075,11300700011300102,50] 71 [] [])).getD .skip
noncomputable def c71:FnC:=⟨71,37,[(.cell 6 (some 4))],b71,false,[(.one .raw),(.one (.int .i64)),(.one (.int .i64))],.val (.agg [.bool,(.sln 1),(.sln 1),(.sln 1)]),none,true,[]⟩
theorem is71:IsFn Tryz.prog 71 c71:=⟨⟨_,_,[1000070,1000074,1000137,1000158,1000159,2000087,2000088,2000101,2000104,2000075,11300700011300102,50],[],[],Tryz.func71,rfl,(by kernel_rfl),rfl,(by kernel_rfl),(by kernel_rfl)⟩⟩
@[irreducible] noncomputable def b72:Cmd:=((Tryz.f72.body).bind (trC Tryz.prog [1000070,1000074,1000137,1000158,1000159,2000087,2000088,2000101,2000104,2000075,11300700011300102,50] 72 [] [])).getD .skip
noncomputable def c72:FnC:=⟨72,32,[],b72,false,[(.one .raw),(.one (.int .i64))],.tup [],none,true,[]⟩
theorem is72:IsFn Tryz.prog 72 c72:=⟨⟨_,_,[1000070,1000074,1000137,1000158,1000159,2000087,2000088,2000101,2000104,2000075,11300700011300102,50],[],[],Tryz.func72,rfl,(by kernel_rfl),rfl,(by kernel_rfl),(by kernel_rfl)⟩⟩
@[irreducible] noncomputable def b52:Cmd:=((Tryz.f52.body).bind (trC Tryz.prog [1000070,1000074,1000137,1000158,1000159,2000087,2000088,2000101,2000104,2000075,11300700011300102,50] 52 [] [])).getD .skip
noncomputable def c52:FnC:=⟨52,75,[(.tmp 4)],b52,false,[(.one .raw),(.agg [.bool,(.slo 1),(.slo 1),(.slo 1)])],.val (.one (.int .i64)),none,true,[]⟩
theorem is52:IsFn Tryz.prog 52 c52:=⟨⟨_,_,[1000070,1000074,1000137,1000158,1000159,2000087,2000088,2000101,2000104,2000075,11300700011300102,50],[],[],Tryz.func52,rfl,(by kernel_rfl),rfl,(by kernel_rfl),(by kernel_rfl)⟩⟩
@[irreducible] noncomputable def b53:Cmd:=((Tryz.f53.body).bind (trC Tryz.prog [1000070,1000074,1000137,1000158,1000159,2000087,2000088,2000101,2000104,2000075,11300700011300102,50] 53 [] [])).getD .skip
noncomputable def c53:FnC:=⟨53,18,[(.cell 2 (some 5)),(.tmp 3)],b53,false,[(.one .raw)],.tup [(.agg [(.slo 1),(.slo 1),(.slo 1),(.int .i64),(.int .i64)]),(.one (.int .i64))],none,true,[(.val (.one .raw),[.keepO 5050102])]⟩
theorem is53:IsFn Tryz.prog 53 c53:=⟨⟨_,_,[1000070,1000074,1000137,1000158,1000159,2000087,2000088,2000101,2000104,2000075,11300700011300102,50],[],[],Tryz.func53,rfl,(by kernel_rfl),rfl,(by kernel_rfl),(by kernel_rfl)⟩⟩
@[irreducible] noncomputable def b58:Cmd:=((Tryz.f58.body).bind (trC Tryz.prog [1000070,1000074,1000137,1000158,1000159,2000087,2000088,2000101,2000104,2000075,11300700011300102,50] 58 [] [])).getD .skip
noncomputable def c58:FnC:=⟨58,18,[(.tmp 4)],b58,false,[(.one .str),(.one .str)],.val (.one .bool),none,false,[]⟩
theorem is58:IsFn Tryz.prog 58 c58:=⟨⟨_,_,[1000070,1000074,1000137,1000158,1000159,2000087,2000088,2000101,2000104,2000075,11300700011300102,50],[],[],Tryz.func58,rfl,(by kernel_rfl),rfl,(by kernel_rfl),(by kernel_rfl)⟩⟩
@[irreducible] noncomputable def b86:Cmd:=((Tryz.f86.body).bind (trC Tryz.prog [1000070,1000074,1000137,1000158,1000159,2000087,2000088,2000101,2000104,2000075,11300700011300102,50] 86 [] [])).getD .skip
noncomputable def c86:FnC:=⟨86,52,[(.cell 4 (some 4))],b86,false,[(.one .raw),(.agg [.bool,(.slo 1),(.slo 1),(.slo 1)])],.val (.agg [(.int .i64),(.int .i64),.str,.bool]),none,true,[]⟩
theorem is86:IsFn Tryz.prog 86 c86:=⟨⟨_,_,[1000070,1000074,1000137,1000158,1000159,2000087,2000088,2000101,2000104,2000075,11300700011300102,50],[],[],Tryz.func86,rfl,(by kernel_rfl),rfl,(by kernel_rfl),(by kernel_rfl)⟩⟩
@[irreducible] noncomputable def b59:Cmd:=((Tryz.f59.body).bind (trC Tryz.prog [1000070,1000074,1000137,1000158,1000159,2000087,2000088,2000101,2000104,2000075,11300700011300102,50] 59 [] [])).getD .skip
noncomputable def c59:FnC:=⟨59,143,[(.cell 6 (some 4))],b59,false,[(.one .raw),(.one (.int .i64)),(.one (.int .i64))],.val (.agg [(.int .i64),(.int .i64),.str,.bool]),none,true,[]⟩
theorem is59:IsFn Tryz.prog 59 c59:=⟨⟨_,_,[1000070,1000074,1000137,1000158,1000159,2000087,2000088,2000101,2000104,2000075,11300700011300102,50],[],[],Tryz.func59,rfl,(by kernel_rfl),rfl,(by kernel_rfl),(by kernel_rfl)⟩⟩
@[irreducible] noncomputable def b30:Cmd:=((Tryz.f30.body).bind (trC Tryz.prog [1000070,1000074,1000137,1000158,1000159,2000087,2000088,2000101,2000104,2000075,11300700011300102,50] 30 [] [])).getD .skip
noncomputable def c30:FnC:=⟨30,96,[(.cell 6 (some 5)),(.tmp 7)],b30,false,[(.agg [(.slo 1),(.slo 1),(.slo 1),(.int .i64),(.int .i64)]),(.one .str),(.one .str)],.tup [(.agg [(.slo 1),(.slo 1),(.slo 1),(.int .i64),(.int .i64)]),(.one (.int .i64))],none,false,[]⟩
theorem is30:IsFn Tryz.prog 30 c30:=⟨⟨_,_,[1000070,1000074,1000137,1000158,1000159,2000087,2000088,2000101,2000104,2000075,11300700011300102,50],[],[],Tryz.func30,rfl,(by kernel_rfl),rfl,(by kernel_rfl),(by kernel_rfl)⟩⟩
@[irreducible] noncomputable def b35:Cmd:=((Tryz.f35.body).bind (trC Tryz.prog [1000070,1000074,1000137,1000158,1000159,2000087,2000088,2000101,2000104,2000075,11300700011300102,50] 35 [(3,([1,2,4],[3500502,3500609],[],[])),(4,([2,4,14,15,16],[3500502,3500609],[],[])),(10,([2,4,14,15,16],[3500502,3500609],[],[]))] [(4,[.keepF 35,.keep 2,.keep 4,.keep 14,.keep 15,.slot 16 (.one (.int .i64)),.box 3500000 [(.slo 1),(.slo 1),(.slo 1),(.int .i64),(.int .i64)],.box 3500001 [.nil,.nil,.nil,(.int .i64),(.int .i64)]])])).getD .skip
noncomputable def c35:FnC:=⟨35,36,[(.cell 4 (some 5)),(.tmp 5)],b35,false,[(.agg [(.slo 1),(.slo 1),(.slo 1),(.int .i64),(.int .i64)]),(.one (.slo 2))],.tup [(.agg [(.slo 1),(.slo 1),(.slo 1),(.int .i64),(.int .i64)]),(.one (.int .i64))],none,false,[]⟩
theorem is35:IsFn Tryz.prog 35 c35:=⟨⟨_,_,[1000070,1000074,1000137,1000158,1000159,2000087,2000088,2000101,2000104,2000075,11300700011300102,50],[(3,([1,2,4],[3500502,3500609],[],[])),(4,([2,4,14,15,16],[3500502,3500609],[],[])),(10,([2,4,14,15,16],[3500502,3500609],[],[]))],[(4,[.keepF 35,.keep 2,.keep 4,.keep 14,.keep 15,.slot 16 (.one (.int .i64)),.box 3500000 [(.slo 1),(.slo 1),(.slo 1),(.int .i64),(.int .i64)],.box 3500001 [.nil,.nil,.nil,(.int .i64),(.int .i64)]])],Tryz.func35,rfl,(by kernel_rfl),rfl,(by kernel_rfl),(by kernel_rfl)⟩⟩
noncomputable def own3:List (Nat×Fun):=[(113,.code c113),(145,.code c145),(114,.code c114),(78,.code c78),(100,.code c100),(76,.code c76),(107,.code c107),(118,.code c118),(138,.code c138),(139,.code c139),(140,.code c140),(141,.code c141),(50,.code c50),(71,.code c71),(72,.code c72),(52,.code c52),(53,.code c53),(58,.code c58),(86,.code c86),(59,.code c59),(30,.code c30),(35,.code c35),(70,.prim (some (7000001,9,1,false)) (cloneP 7000001 9 1 16)),(74,.prim (some (7400001,3,1,false)) (cloneP 7400001 3 1 8)),(137,.prim (some (13700001,4,1,false)) (cloneP 13700001 4 1 1)),(158,.prim (some (15800001,9,1,false)) (growP 15800001 9 1 16)),(159,.prim (some (15900001,3,1,false)) (growP 15900001 3 1 8)),(87,.prim (some (8700001,9,1,false)) (updP (insL 16) 9)),(88,.prim (some (8800001,3,1,false)) (updP (insL 8) 3))]
noncomputable def funs3:List (Nat×Fun):=own3++funs2
noncomputable def Fs3:Nat→Option Fun:=table funs3
set_option maxRecDepth 100000 in
theorem company3:Company Tryz.prog Fs3:=
 .cons is113 <| .cons is145 <| .cons is114 <| .cons is78 <| .cons is100 <| .cons is76 <| .cons is107 <| .cons is118 <| .cons is138 <| .cons is139 <| .cons is140 <| .cons is141 <| .cons is50 <| .cons is71 <| .cons is72 <| .cons is52 <| .cons is53 <| .cons is58 <| .cons is86 <| .cons is59 <| .cons is30 <| .cons is35 <| .cons (clone_at Tryz.laysSlE041_f70 rfl (by kernel_rfl)) <| .cons (clone_at Tryz.laysSlE041_f74 rfl (by kernel_rfl)) <| .cons (clone_at Tryz.laysSlE041_f137 rfl (by kernel_rfl)) <| .cons (grow_at Tryz.laysGrow_f158 rfl (by kernel_rfl)) <| .cons (grow_at Tryz.laysGrow_f159 rfl (by kernel_rfl)) <| .cons (ins_str Tryz.laysIns_f87 rfl 8700001) <| .cons (ins_int Tryz.laysIns_f88 rfl 8800001) <| company2
theorem up3:FsLe Fs2 Fs3:=table_up (by kernel_rfl)
theorem fs113:Fs3 113=some (.code c113):=rfl
theorem fs145:Fs3 145=some (.code c145):=rfl
theorem fs114:Fs3 114=some (.code c114):=rfl
theorem fs78:Fs3 78=some (.code c78):=rfl
theorem fs100:Fs3 100=some (.code c100):=rfl
theorem fs76:Fs3 76=some (.code c76):=rfl
theorem fs107:Fs3 107=some (.code c107):=rfl
theorem fs118:Fs3 118=some (.code c118):=rfl
theorem fs138:Fs3 138=some (.code c138):=rfl
theorem fs139:Fs3 139=some (.code c139):=rfl
theorem fs140:Fs3 140=some (.code c140):=rfl
theorem fs141:Fs3 141=some (.code c141):=rfl
theorem fs50:Fs3 50=some (.code c50):=rfl
theorem fs71:Fs3 71=some (.code c71):=rfl
theorem fs72:Fs3 72=some (.code c72):=rfl
theorem fs52:Fs3 52=some (.code c52):=rfl
theorem fs53:Fs3 53=some (.code c53):=rfl
theorem fs58:Fs3 58=some (.code c58):=rfl
theorem fs86:Fs3 86=some (.code c86):=rfl
theorem fs59:Fs3 59=some (.code c59):=rfl
theorem fs30:Fs3 30=some (.code c30):=rfl
theorem fs35:Fs3 35=some (.code c35):=rfl
theorem fs70:Fs3 70=some (.prim (some (7000001,9,1,false)) (cloneP 7000001 9 1 16)):=rfl
theorem fs74:Fs3 74=some (.prim (some (7400001,3,1,false)) (cloneP 7400001 3 1 8)):=rfl
theorem fs137:Fs3 137=some (.prim (some (13700001,4,1,false)) (cloneP 13700001 4 1 1)):=rfl
theorem fs158:Fs3 158=some (.prim (some (15800001,9,1,false)) (growP 15800001 9 1 16)):=rfl
theorem fs159:Fs3 159=some (.prim (some (15900001,3,1,false)) (growP 15900001 3 1 8)):=rfl
theorem fs87:Fs3 87=some (.prim (some (8700001,9,1,false)) (updP (insL 16) 9)):=rfl
theorem fs88:Fs3 88=some (.prim (some (8800001,3,1,false)) (updP (insL 8) 3)):=rfl
end Go.Proofs.YtclgengkohbjjaaGreatDoor.M
