import Derived.Test.YtclgengkohbjjaaGreatDoorProg
import Derived.Test.YtclgengkohbjjaaGreatDoorMirI
import Derived.Test.YtclgengkohbjjaaGreatDoorMirL
import Derived.KernelRfl
import Derived.Test.YtclgengkohbjjaaGreatDoorMirM
import Derived.Test.YtclgengkohbjjaaGreatDoorR4Txt
namespace Go.Proofs.YtclgengkohbjjaaGreatDoor.M
set_option linter.unusedVariables false
set_option linter.unusedSimpArgs false
open Go Go.Mir Go.Proofs
@[irreducible] noncomputable def b60:Cmd:=((Tryz.f60.body).bind (trC Tryz.prog [1000021,1000065] 60 [(2,([0,2,3],[6000504,6000604],[(384006464,6000505,4,1),(384006465,6000605,4,1)],[])),(3,([0,2,3,4],[6000504,6000604],[(384006464,6000505,4,1),(384006465,6000605,4,1)],[])),(4,([0,2,3,4],[6000504,6000604],[],[]))] [(3,[.keepF 60,.keep 0,.keep 2,.keep 3,.slot 4 (.one (.int .i64)),.keepO 6000000,.box 6000101 [(.row 6000505),(.row 6000605)],.row 6000505 4 1 true,.row 6000605 4 1 true])])).getD .skip
noncomputable def c60:FnC:=⟨60,26,[(.cell 2 (some 2))],b60,false,[(.one (.int .i64))],.val (.agg [(.slo 1),(.slo 1)]),none,false,[]⟩
theorem is60:IsFn Tryz.prog 60 c60:=⟨⟨_,_,[1000021,1000065],[(2,([0,2,3],[6000504,6000604],[(384006464,6000505,4,1),(384006465,6000605,4,1)],[])),(3,([0,2,3,4],[6000504,6000604],[(384006464,6000505,4,1),(384006465,6000605,4,1)],[])),(4,([0,2,3,4],[6000504,6000604],[],[]))],[(3,[.keepF 60,.keep 0,.keep 2,.keep 3,.slot 4 (.one (.int .i64)),.keepO 6000000,.box 6000101 [(.row 6000505),(.row 6000605)],.row 6000505 4 1 true,.row 6000605 4 1 true])],Tryz.func60,rfl,(by kernel_rfl),rfl,(by kernel_rfl),(by kernel_rfl)⟩⟩
@[irreducible] noncomputable def b45:Cmd:=((Tryz.f45.body).bind (trC Tryz.prog [1000021,1000065] 45 [] [(5,[.keepF 45,.keep 4,.keep 6,.keep 21,.keep 22,.slot 23 (.one (.int .i64)),.box 4500001 [(.int .i64),(.int .i64),(.int .i64)],.keepO 4560101,.row 4550101 4 1 false]),(12,[.keepF 45,.keep 4,.keep 6,.keep 60,.keep 61,.slot 62 (.one (.int .i64)),.box 4500001 [(.int .i64),(.int .i64),(.int .i64)],.keepO 4560101,.keepO 4550101])])).getD .skip
noncomputable def c45:FnC:=⟨45,86,[(.cell 4 (some 3)),(.tmp 5)],b45,false,[(.agg [(.slo 1),(.slo 1),(.slo 1),(.int .i64),(.int .i64)]),(.one (.slo 1))],.tup [(.agg [(.int .i64),(.int .i64),(.int .i64)]),(.one (.int .i64))],none,false,[]⟩
theorem is45:IsFn Tryz.prog 45 c45:=⟨⟨_,_,[1000021,1000065],[],[(5,[.keepF 45,.keep 4,.keep 6,.keep 21,.keep 22,.slot 23 (.one (.int .i64)),.box 4500001 [(.int .i64),(.int .i64),(.int .i64)],.keepO 4560101,.row 4550101 4 1 false]),(12,[.keepF 45,.keep 4,.keep 6,.keep 60,.keep 61,.slot 62 (.one (.int .i64)),.box 4500001 [(.int .i64),(.int .i64),(.int .i64)],.keepO 4560101,.keepO 4550101])],Tryz.func45,rfl,(by kernel_rfl),rfl,(by kernel_rfl),(by kernel_rfl)⟩⟩
@[irreducible] noncomputable def b46:Cmd:=((Tryz.f46.body).bind (trC Tryz.prog [1000021,1000065] 46 [(4,([9],[],[(294419464,4690001,48,2)],[]))] [])).getD .skip
noncomputable def c46:FnC:=⟨46,56,[(.tmp 6),(.tmp 7),(.tmp 8)],b46,false,[(.agg [(.slo 1),(.slo 1),(.slo 1),(.int .i64),(.int .i64)]),(.one .str),(.one (.int .i64))],.tup [(.one (.slo 2)),(.one .str),(.one (.int .i64))],none,false,[]⟩
theorem is46:IsFn Tryz.prog 46 c46:=⟨⟨_,_,[1000021,1000065],[(4,([9],[],[(294419464,4690001,48,2)],[]))],[],Tryz.func46,rfl,(by kernel_rfl),rfl,(by kernel_rfl),(by kernel_rfl)⟩⟩
@[irreducible] noncomputable def b48:Cmd:=((Tryz.f48.body).bind (trC Tryz.prog [1000021,1000065] 48 [] [])).getD .skip
noncomputable def c48:FnC:=⟨48,48,[(.tmp 2)],b48,false,[(.agg [(.slo 1),(.slo 1),(.slo 1),(.int .i64),(.int .i64)])],.val (.one .bool),none,false,[]⟩
theorem is48:IsFn Tryz.prog 48 c48:=⟨⟨_,_,[1000021,1000065],[],[],Tryz.func48,rfl,(by kernel_rfl),rfl,(by kernel_rfl),(by kernel_rfl)⟩⟩
@[irreducible] noncomputable def b66:Cmd:=((Tryz.f66.body).bind (trC Tryz.prog [1000021,1000065] 66 [] [(6,[.keepF 66,.keep 0,.keep 6,.keep 52,.keep 53,.slot 54 (.one (.int .i64)),.box 4600304 [(.slo 1),(.slo 1),(.slo 1),(.int .i64),(.int .i64),.str,(.int .i64),(.int .i64),(.row 4690001),.str,.bool,.bool],.row 4690001 48 2 false,.keepO 6600108]),(11,[.keepF 66,.keep 0,.keep 2,.keep 6,.slot 10 (.one (.int .i64)),.box 4600304 [(.slo 1),(.slo 1),(.slo 1),(.int .i64),(.int .i64),.str,(.int .i64),(.int .i64),(.row 4690001),.str,.bool,.bool],.row 4690001 48 2 false,.keepO 6600108])])).getD .skip
noncomputable def c66:FnC:=⟨66,104,[],b66,false,[(.one .raw),(.one (.int .i64)),(.one (.int .i64))],.tup [],none,true,[]⟩
theorem is66:IsFn Tryz.prog 66 c66:=⟨⟨_,_,[1000021,1000065],[],[(6,[.keepF 66,.keep 0,.keep 6,.keep 52,.keep 53,.slot 54 (.one (.int .i64)),.box 4600304 [(.slo 1),(.slo 1),(.slo 1),(.int .i64),(.int .i64),.str,(.int .i64),(.int .i64),(.row 4690001),.str,.bool,.bool],.row 4690001 48 2 false,.keepO 6600108]),(11,[.keepF 66,.keep 0,.keep 2,.keep 6,.slot 10 (.one (.int .i64)),.box 4600304 [(.slo 1),(.slo 1),(.slo 1),(.int .i64),(.int .i64),.str,(.int .i64),(.int .i64),(.row 4690001),.str,.bool,.bool],.row 4690001 48 2 false,.keepO 6600108])],Tryz.func66,rfl,(by kernel_rfl),rfl,(by kernel_rfl),(by kernel_rfl)⟩⟩
@[irreducible] noncomputable def b62:Cmd:=((Tryz.f62.body).bind (trC Tryz.prog [1000021,1000065] 62 [] [])).getD .skip
noncomputable def c62:FnC:=⟨62,81,[(.cell 6 (some 4)),(.tmp 7)],b62,false,[(.one .raw),(.one (.int .i64)),(.one .bool)],.tup [(.agg [.bool,(.sln 1),(.sln 1),(.sln 1)]),(.one .bool)],none,true,[]⟩
theorem is62:IsFn Tryz.prog 62 c62:=⟨⟨_,_,[1000021,1000065],[],[],Tryz.func62,rfl,(by kernel_rfl),rfl,(by kernel_rfl),(by kernel_rfl)⟩⟩
@[irreducible] noncomputable def b63:Cmd:=((Tryz.f63.body).bind (trC Tryz.prog [1000021,1000065] 63 [] [])).getD .skip
noncomputable def c63:FnC:=⟨63,19,[(.tmp 4)],b63,false,[(.agg [.bool,(.slo 1),(.slo 1),(.slo 1)]),(.one .str)],.val (.one (.int .i64)),none,false,[]⟩
theorem is63:IsFn Tryz.prog 63 c63:=⟨⟨_,_,[1000021,1000065],[],[],Tryz.func63,rfl,(by kernel_rfl),rfl,(by kernel_rfl),(by kernel_rfl)⟩⟩
@[irreducible] noncomputable def b64:Cmd:=((Tryz.f64.body).bind (trC Tryz.prog [1000021,1000065] 64 [] [])).getD .skip
noncomputable def c64:FnC:=⟨64,29,[(.tmp 4),(.tmp 5)],b64,false,[(.agg [.bool,(.slo 1),(.slo 1),(.slo 1)]),(.one .str)],.tup [(.one (.int .i64)),(.one .bool)],none,false,[]⟩
theorem is64:IsFn Tryz.prog 64 c64:=⟨⟨_,_,[1000021,1000065],[],[],Tryz.func64,rfl,(by kernel_rfl),rfl,(by kernel_rfl),(by kernel_rfl)⟩⟩
@[irreducible] noncomputable def b65:Cmd:=((Tryz.f65.body).bind (trC Tryz.prog [1000021,1000065] 65 [(6,([4],[],[],[6500305]))] [])).getD .skip
noncomputable def c65:FnC:=⟨65,28,[(.tmp 2),(.tmp 3)],b65,true,[(.agg [(.slo 1),(.slo 1),(.slo 1),(.int .i64),(.int .i64)])],.tup [(.one .raw),(.one (.int .i64))],none,false,[(.tup [(.one (.ptr 6500307 0)),(.one (.int .i64))],[.box 6500307 [(.slo 1),(.slo 1),(.slo 1),(.int .i64),(.int .i64),(.int .i64),(.int .i64),(.int .i64),(.row 6500305),.bool],.row 6500305 4 1 false]),(.tup [(.one .nilp),(.one (.int .i64))],[])]⟩
theorem is65:IsFn Tryz.prog 65 c65:=⟨⟨_,_,[1000021,1000065],[(6,([4],[],[],[6500305]))],[],Tryz.func65,rfl,(by kernel_rfl),rfl,(by kernel_rfl),(by kernel_rfl)⟩⟩
@[irreducible] noncomputable def b67:Cmd:=((Tryz.f67.body).bind (trC Tryz.prog [1000021,1000065] 67 [] [])).getD .skip
noncomputable def c67:FnC:=⟨67,29,[(.tmp 2)],b67,false,[(.agg [(.slo 1),(.slo 1)])],.val (.one .bool),none,false,[]⟩
theorem is67:IsFn Tryz.prog 67 c67:=⟨⟨_,_,[1000021,1000065],[],[],Tryz.func67,rfl,(by kernel_rfl),rfl,(by kernel_rfl),(by kernel_rfl)⟩⟩
def b68:Cmd:=(.seq (.region [(o 4 (.mov (.const (.bool false))))]) (.seq (.region [(m 5 0),(m 6 1),(os 7 (.call false 98 [(T 5),(T 6)]) sI),(o 8 (.bin .geq (T 7) (N 0))),(m 4 8)]) .ret))
noncomputable def c68:FnC:=⟨68,9,[(.tmp 4)],b68,false,[(.one (.slo 1)),(.one .raw)],.val (.one .bool),none,false,[]⟩
theorem is68:IsFn Tryz.prog 68 c68:=⟨⟨_,_,[1000021,1000065],[],[],Tryz.func68,rfl,(by kernel_rfl),rfl,(by kernel_rfl),(by kernel_rfl)⟩⟩
def b69:Cmd:=(.seq (.region [(o 2 (.mov (.const (.bool false))))]) (.seq (.region [(m 3 0),(os 4 (.slen (T 3)) sI),(o 5 (.bin .gtr (T 4) (N 4096))),(m 2 5)]) .ret))
noncomputable def c69:FnC:=⟨69,6,[(.tmp 2)],b69,false,[(.one .str)],.val (.one .bool),none,false,[]⟩
theorem is69:IsFn Tryz.prog 69 c69:=⟨⟨_,_,[1000021,1000065],[],[],Tryz.func69,rfl,(by kernel_rfl),rfl,(by kernel_rfl),(by kernel_rfl)⟩⟩
@[irreducible] noncomputable def b91:Cmd:=((Tryz.f91.body).bind (trC Tryz.prog [1000021,1000065] 91 [(6,([1,4,6,7,8],[9101004,9101005,9101104,9101105,9101204,9101205,9101304,9101305],[],[])),(7,([1,4,6,7,8,9],[9101004,9101005,9101104,9101105,9101204,9101205,9101304,9101305],[],[])),(8,([1,4,6,7,8,9],[9101004,9101005,9101104,9101105,9101204,9101205,9101304,9101305],[],[])),(5,([1,4,6,7],[],[(582425793,9190001,9,1),(582425794,9190002,9,1),(582425795,9190003,3,1)],[]))] [(7,[.keepF 91,.keep 1,.keep 4,.keep 6,.keep 7,.keep 8,.slot 9 (.one (.int .i64)),.keepO 9100000,.box 9100302 [.str,(.int .i64),(.int .i64)],.box 9100403 [.bool,(.row 9190001),(.row 9190002),(.row 9190003)],.row 9190001 9 1 true,.row 9190002 9 1 true,.row 9190003 3 1 true])])).getD .skip
noncomputable def c91:FnC:=⟨91,103,[(.cell 4 (some 4)),(.tmp 5)],b91,false,[(.one (.int .i64)),(.one .str)],.tup [(.agg [.bool,(.sln 1),(.sln 1),(.sln 1)]),(.one (.int .i64))],none,false,[]⟩
theorem is91:IsFn Tryz.prog 91 c91:=⟨⟨_,_,[1000021,1000065],[(6,([1,4,6,7,8],[9101004,9101005,9101104,9101105,9101204,9101205,9101304,9101305],[],[])),(7,([1,4,6,7,8,9],[9101004,9101005,9101104,9101105,9101204,9101205,9101304,9101305],[],[])),(8,([1,4,6,7,8,9],[9101004,9101005,9101104,9101105,9101204,9101205,9101304,9101305],[],[])),(5,([1,4,6,7],[],[(582425793,9190001,9,1),(582425794,9190002,9,1),(582425795,9190003,3,1)],[]))],[(7,[.keepF 91,.keep 1,.keep 4,.keep 6,.keep 7,.keep 8,.slot 9 (.one (.int .i64)),.keepO 9100000,.box 9100302 [.str,(.int .i64),(.int .i64)],.box 9100403 [.bool,(.row 9190001),(.row 9190002),(.row 9190003)],.row 9190001 9 1 true,.row 9190002 9 1 true,.row 9190003 3 1 true])],Tryz.func91,rfl,(by kernel_rfl),rfl,(by kernel_rfl),(by kernel_rfl)⟩⟩
@[irreducible] noncomputable def b92:Cmd:=((Tryz.f92.body).bind (trC Tryz.prog [1000021,1000065] 92 [] [])).getD .skip
noncomputable def c92:FnC:=⟨92,22,[(.tmp 4)],b92,false,[(.agg [.bool,(.slo 1),(.slo 1),(.slo 1)]),(.one .bool)],.val (.one .bool),none,false,[]⟩
theorem is92:IsFn Tryz.prog 92 c92:=⟨⟨_,_,[1000021,1000065],[],[],Tryz.func92,rfl,(by kernel_rfl),rfl,(by kernel_rfl),(by kernel_rfl)⟩⟩
@[irreducible] noncomputable def b93:Cmd:=((Tryz.f93.body).bind (trC Tryz.prog [1000021,1000065] 93 [] [(5,[.keepF 93,.keep 1,.keep 3,.keep 12,.keep 13,.slot 14 (.one (.int .i64)),.keepO 9300000])])).getD .skip
noncomputable def c93:FnC:=⟨93,83,[(.tmp 2)],b93,false,[(.agg [.bool,(.slo 1),(.slo 1),(.slo 1)])],.val (.one .bool),none,false,[]⟩
theorem is93:IsFn Tryz.prog 93 c93:=⟨⟨_,_,[1000021,1000065],[],[(5,[.keepF 93,.keep 1,.keep 3,.keep 12,.keep 13,.slot 14 (.one (.int .i64)),.keepO 9300000])],Tryz.func93,rfl,(by kernel_rfl),rfl,(by kernel_rfl),(by kernel_rfl)⟩⟩
def b94:Cmd:=(.seq (.region [(o 2 (.box 9400000 (T 0))),(o 3 (.box 9400001 (T 1))),(mN 4 0)]) (.seq (.region [(os 5 (.ld (T 2) none) sL),(os 6 (.len (T 5)) sI),(o 7 (.mkf 131 [(T 2),(T 3)])),(os 8 (.call false 130 [(T 6),(T 7)]) sI),(m 4 8)]) .ret))
noncomputable def c94:FnC:=⟨94,9,[(.tmp 4)],b94,false,[(.one (.slo 1)),(.one .str)],.val (.one (.int .i64)),none,false,[]⟩
theorem is94:IsFn Tryz.prog 94 c94:=⟨⟨_,_,[1000021,1000065],[],[],Tryz.func94,rfl,(by kernel_rfl),rfl,(by kernel_rfl),(by kernel_rfl)⟩⟩
@[irreducible] noncomputable def b95:Cmd:=((Tryz.f95.body).bind (trC Tryz.prog [1000021,1000065] 95 [] [(13,[.keepF 95,.keep 0,.keep 2,.keep 8,.keep 9,.keep 10,.keep 121,.keep 122,.slot 123 (.one (.int .i64)),.box 6500307 [(.slo 1),(.slo 1),(.slo 1),(.int .i64),(.int .i64),(.int .i64),(.int .i64),(.int .i64),(.row 6500305),.bool],.row 6500305 4 1 false,.keepO 9500000,.keepO 9500001,.keepO 9500111])])).getD .skip
noncomputable def c95:FnC:=⟨95,160,[],b95,false,[(.one .raw),(.one (.int .i64)),(.one (.int .i64)),(.one .str),(.one .str)],.tup [],none,true,[]⟩
theorem is95:IsFn Tryz.prog 95 c95:=⟨⟨_,_,[1000021,1000065],[],[(13,[.keepF 95,.keep 0,.keep 2,.keep 8,.keep 9,.keep 10,.keep 121,.keep 122,.slot 123 (.one (.int .i64)),.box 6500307 [(.slo 1),(.slo 1),(.slo 1),(.int .i64),(.int .i64),(.int .i64),(.int .i64),(.int .i64),(.row 6500305),.bool],.row 6500305 4 1 false,.keepO 9500000,.keepO 9500001,.keepO 9500111])],Tryz.func95,rfl,(by kernel_rfl),rfl,(by kernel_rfl),(by kernel_rfl)⟩⟩
@[irreducible] noncomputable def b96:Cmd:=((Tryz.f96.body).bind (trC Tryz.prog [1000021,1000065] 96 [] [])).getD .skip
noncomputable def c96:FnC:=⟨96,71,[],b96,false,[(.one .raw),(.one .str),(.one .str)],.tup [],none,true,[]⟩
theorem is96:IsFn Tryz.prog 96 c96:=⟨⟨_,_,[1000021,1000065],[],[],Tryz.func96,rfl,(by kernel_rfl),rfl,(by kernel_rfl),(by kernel_rfl)⟩⟩
@[irreducible] noncomputable def b97:Cmd:=((Tryz.f97.body).bind (trC Tryz.prog [1000021,1000065] 97 [(2,([0,3],[9700401],[],[])),(3,([0,3,6,7],[9700401],[],[])),(7,([0,3,6,7],[9700401],[],[]))] [(3,[.keepF 97,.keep 0,.slot 3 (.one (.int .i64)),.keep 6,.slot 7 (.one (.int .i64))])])).getD .skip
noncomputable def c97:FnC:=⟨97,18,[(.tmp 2)],b97,false,[(.one (.slo 1))],.val (.one (.int .i64)),none,false,[]⟩
theorem is97:IsFn Tryz.prog 97 c97:=⟨⟨_,_,[1000021,1000065],[(2,([0,3],[9700401],[],[])),(3,([0,3,6,7],[9700401],[],[])),(7,([0,3,6,7],[9700401],[],[]))],[(3,[.keepF 97,.keep 0,.slot 3 (.one (.int .i64)),.keep 6,.slot 7 (.one (.int .i64))])],Tryz.func97,rfl,(by kernel_rfl),rfl,(by kernel_rfl),(by kernel_rfl)⟩⟩
@[irreducible] noncomputable def b98:Cmd:=((Tryz.f98.body).bind (trC Tryz.prog [1000021,1000065] 98 [] [(2,[.keepF 98,.keep 0,.keep 1,.keep 7,.slot 8 (.one (.int .i64))])])).getD .skip
noncomputable def c98:FnC:=⟨98,19,[(.tmp 4)],b98,false,[(.one (.slo 1)),(.one .raw)],.val (.one (.int .i64)),none,false,[]⟩
theorem is98:IsFn Tryz.prog 98 c98:=⟨⟨_,_,[1000021,1000065],[],[(2,[.keepF 98,.keep 0,.keep 1,.keep 7,.slot 8 (.one (.int .i64))])],Tryz.func98,rfl,(by kernel_rfl),rfl,(by kernel_rfl),(by kernel_rfl)⟩⟩
@[irreducible] noncomputable def b99:Cmd:=((Tryz.f99.body).bind (trC Tryz.prog [1000021,1000065] 99 [] [])).getD .skip
noncomputable def c99:FnC:=⟨99,29,[(.cell 6 (some 4)),(.tmp 7)],b99,false,[(.agg [(.slo 1),(.slo 1),(.slo 1),(.int .i64),(.int .i64)]),(.one (.int .i64)),(.one .bool)],.tup [(.agg [.bool,(.sln 1),(.sln 1),(.sln 1)]),(.one (.int .i64))],none,false,[]⟩
theorem is99:IsFn Tryz.prog 99 c99:=⟨⟨_,_,[1000021,1000065],[],[],Tryz.func99,rfl,(by kernel_rfl),rfl,(by kernel_rfl),(by kernel_rfl)⟩⟩
@[irreducible] noncomputable def b125:Cmd:=((Tryz.f125.body).bind (trC Tryz.prog [1000021,1000065] 125 [] [])).getD .skip
noncomputable def c125:FnC:=⟨125,36,[(.tmp 4)],b125,false,[(.one .raw),(.one (.int .i64))],.val (.one (.int .i64)),none,true,[]⟩
theorem is125:IsFn Tryz.prog 125 c125:=⟨⟨_,_,[1000021,1000065],[],[],Tryz.func125,rfl,(by kernel_rfl),rfl,(by kernel_rfl),(by kernel_rfl)⟩⟩
@[irreducible] noncomputable def b126:Cmd:=((Tryz.f126.body).bind (trC Tryz.prog [1000021,1000065] 126 [] [])).getD .skip
noncomputable def c126:FnC:=⟨126,33,[(.tmp 2)],b126,false,[(.one .raw)],.val (.one .str),none,true,[]⟩
theorem is126:IsFn Tryz.prog 126 c126:=⟨⟨_,_,[1000021,1000065],[],[],Tryz.func126,rfl,(by kernel_rfl),rfl,(by kernel_rfl),(by kernel_rfl)⟩⟩
def b127:Cmd:=(.seq (.region [(o 2 (.mov (.const (.bool false))))]) (.seq (.region [(m 3 0),(os 4 (.slen (T 3)) sI),(o 5 (.bin .gtr (T 4) (N 200))),(m 2 5)]) .ret))
noncomputable def c127:FnC:=⟨127,6,[(.tmp 2)],b127,false,[(.one .str)],.val (.one .bool),none,false,[]⟩
theorem is127:IsFn Tryz.prog 127 c127:=⟨⟨_,_,[1000021,1000065],[],[],Tryz.func127,rfl,(by kernel_rfl),rfl,(by kernel_rfl),(by kernel_rfl)⟩⟩
def b128:Cmd:=(.seq (.region [(o 4 (.mov (.const (.bool false))))]) (.seq (.region [(m 5 0),(m 6 1),(os 7 (.call false 156 [(T 5),(T 6)]) sI),(o 8 (.bin .geq (T 7) (N 0))),(m 4 8)]) .ret))
noncomputable def c128:FnC:=⟨128,9,[(.tmp 4)],b128,false,[(.one (.slo 1)),(.one .raw)],.val (.one .bool),none,false,[]⟩
theorem is128:IsFn Tryz.prog 128 c128:=⟨⟨_,_,[1000021,1000065],[],[],Tryz.func128,rfl,(by kernel_rfl),rfl,(by kernel_rfl),(by kernel_rfl)⟩⟩
def b129:Cmd:=(.seq (.region [(o 2 (.mov (.const (.bool false))))]) (.seq (.region [(m 3 0),(o 4 (.bin .lss (T 3) (N 10))),(m 5 4),(gd 6 (.mov (T 0)) 5 false),(gd 7 (.bin .geq (T 6) (N 2048)) 5 false),(o 8 (.pick (T 5) (.const (.bool true)) (T 7))),(m 2 8)]) .ret))
noncomputable def c129:FnC:=⟨129,9,[(.tmp 2)],b129,false,[(.one (.int .i64))],.val (.one .bool),none,false,[]⟩
theorem is129:IsFn Tryz.prog 129 c129:=⟨⟨_,_,[1000021,1000065],[],[],Tryz.func129,rfl,(by kernel_rfl),rfl,(by kernel_rfl),(by kernel_rfl)⟩⟩
@[irreducible] noncomputable def b130:Cmd:=((Tryz.f130.body).bind (trC Tryz.prog [1000021,1000065] 130 [] [(2,[.keepF 130,.keep 1,.slot 5 (.one (.int .i64)),.slot 6 (.one (.int .i64))])])).getD .skip
noncomputable def c130:FnC:=⟨130,26,[(.tmp 4)],b130,false,[(.one (.int .i64)),(.one .raw)],.val (.one (.int .i64)),none,false,[]⟩
theorem is130:IsFn Tryz.prog 130 c130:=⟨⟨_,_,[1000021,1000065],[],[(2,[.keepF 130,.keep 1,.slot 5 (.one (.int .i64)),.slot 6 (.one (.int .i64))])],Tryz.func130,rfl,(by kernel_rfl),rfl,(by kernel_rfl),(by kernel_rfl)⟩⟩
def b131:Cmd:=(.seq (.region [(o 4 (.mov (.const (.bool false))))]) (.seq (.drawn [(os 5 (.ld (T 1) none) sL),(m 6 0),(o 7 (.idxA (T 5) (T 6) 1)),(os 8 (.ld (T 7) none) sS),(os 9 (.ld (T 2) none) sS),(o 10 (.bin .geq (T 8) (T 9))),(m 4 10)] []) .ret))
noncomputable def c131:FnC:=⟨131,11,[(.tmp 4)],b131,false,[(.one (.int .i64))],.val (.one .bool),none,false,[]⟩
theorem is131:IsFn Tryz.prog 131 c131:=⟨⟨_,_,[1000021,1000065],[],[],Tryz.func131,rfl,(by kernel_rfl),rfl,(by kernel_rfl),(by kernel_rfl)⟩⟩
@[irreducible] noncomputable def b132:Cmd:=((Tryz.f132.body).bind (trC Tryz.prog [1000021,1000065] 132 [] [])).getD .skip
noncomputable def c132:FnC:=⟨132,17,[(.tmp 4)],b132,false,[(.one .str)],.val (.one .bool),none,false,[]⟩
theorem is132:IsFn Tryz.prog 132 c132:=⟨⟨_,_,[1000021,1000065],[],[],Tryz.func132,rfl,(by kernel_rfl),rfl,(by kernel_rfl),(by kernel_rfl)⟩⟩
@[irreducible] noncomputable def b133:Cmd:=((Tryz.f133.body).bind (trC Tryz.prog [1000021,1000065] 133 [] [(3,[.keepF 133,.slot 3 (.one (.int .i64)),.keep 6,.keep 7,.slot 8 (.one (.int .i64))])])).getD .skip
noncomputable def c133:FnC:=⟨133,18,[(.tmp 2)],b133,false,[(.one (.slo 1))],.val (.one (.int .i64)),none,false,[]⟩
theorem is133:IsFn Tryz.prog 133 c133:=⟨⟨_,_,[1000021,1000065],[],[(3,[.keepF 133,.slot 3 (.one (.int .i64)),.keep 6,.keep 7,.slot 8 (.one (.int .i64))])],Tryz.func133,rfl,(by kernel_rfl),rfl,(by kernel_rfl),(by kernel_rfl)⟩⟩
def b134:Cmd:=(.seq (.region [(o 4 (.mov (.const (.bool false))))]) (.seq (.region [(m 5 0),(m 6 1),(os 7 (.call false 157 [(T 5),(T 6)]) sI),(o 8 (.bin .geq (T 7) (N 0))),(m 4 8)]) .ret))
noncomputable def c134:FnC:=⟨134,9,[(.tmp 4)],b134,false,[(.one (.slo 1)),(.one .raw)],.val (.one .bool),none,false,[]⟩
theorem is134:IsFn Tryz.prog 134 c134:=⟨⟨_,_,[1000021,1000065],[],[],Tryz.func134,rfl,(by kernel_rfl),rfl,(by kernel_rfl),(by kernel_rfl)⟩⟩
def b135:Cmd:=(.seq (.region [(o 3 (.mov (.const (.bool false))))]) (.seq (.region [(m 4 0),(os 5 (.ld (T 1) none) sI),(os 6 (.call false 136 [(T 4),(T 5)]) sB),(o 7 (.un .not (T 6))),(m 3 7)]) .ret))
noncomputable def c135:FnC:=⟨135,8,[(.tmp 3)],b135,false,[(.one (.slo 1))],.val (.one .bool),none,false,[]⟩
theorem is135:IsFn Tryz.prog 135 c135:=⟨⟨_,_,[1000021,1000065],[],[],Tryz.func135,rfl,(by kernel_rfl),rfl,(by kernel_rfl),(by kernel_rfl)⟩⟩
def b136:Cmd:=(.seq (.region [(o 4 (.mov (.const (.bool false))))]) (.seq (.region [(m 5 1),(m 6 0),(os 7 (.len (T 6)) sI),(o 8 (.bin .lss (T 5) (T 7))),(m 9 8),(gd 10 (.mov (T 0)) 9 true),(gd 11 (.mov (T 1)) 9 true),(gd 12 (.idxA (T 10) (T 11) 1) 9 true),(gs 13 (.ld (T 12) none) 9 true sB),(o 14 (.pick (T 9) (T 13) (.const (.bool false)))),(m 4 14)]) .ret))
noncomputable def c136:FnC:=⟨136,15,[(.tmp 4)],b136,false,[(.one (.slo 1)),(.one (.int .i64))],.val (.one .bool),none,false,[]⟩
theorem is136:IsFn Tryz.prog 136 c136:=⟨⟨_,_,[1000021,1000065],[],[],Tryz.func136,rfl,(by kernel_rfl),rfl,(by kernel_rfl),(by kernel_rfl)⟩⟩
@[irreducible] noncomputable def b156:Cmd:=((Tryz.f156.body).bind (trC Tryz.prog [1000021,1000065] 156 [] [(2,[.keepF 156,.keep 0,.keep 1,.keep 7,.slot 8 (.one (.int .i64))])])).getD .skip
noncomputable def c156:FnC:=⟨156,19,[(.tmp 4)],b156,false,[(.one (.slo 1)),(.one .raw)],.val (.one (.int .i64)),none,false,[]⟩
theorem is156:IsFn Tryz.prog 156 c156:=⟨⟨_,_,[1000021,1000065],[],[(2,[.keepF 156,.keep 0,.keep 1,.keep 7,.slot 8 (.one (.int .i64))])],Tryz.func156,rfl,(by kernel_rfl),rfl,(by kernel_rfl),(by kernel_rfl)⟩⟩
@[irreducible] noncomputable def b157:Cmd:=((Tryz.f157.body).bind (trC Tryz.prog [1000021,1000065] 157 [] [(2,[.keepF 157,.keep 0,.keep 1,.keep 7,.slot 8 (.one (.int .i64))])])).getD .skip
noncomputable def c157:FnC:=⟨157,19,[(.tmp 4)],b157,false,[(.one (.slo 1)),(.one .raw)],.val (.one (.int .i64)),none,false,[]⟩
theorem is157:IsFn Tryz.prog 157 c157:=⟨⟨_,_,[1000021,1000065],[],[(2,[.keepF 157,.keep 0,.keep 1,.keep 7,.slot 8 (.one (.int .i64))])],Tryz.func157,rfl,(by kernel_rfl),rfl,(by kernel_rfl),(by kernel_rfl)⟩⟩
noncomputable def own2:List (Nat×Fun):=[(60,.code c60),(45,.code c45),(46,.code c46),(48,.code c48),(66,.code c66),(62,.code c62),(63,.code c63),(64,.code c64),(65,.code c65),(67,.code c67),(68,.code c68),(69,.code c69),(91,.code c91),(92,.code c92),(93,.code c93),(94,.code c94),(95,.code c95),(96,.code c96),(97,.code c97),(98,.code c98),(99,.code c99),(125,.code c125),(126,.code c126),(127,.code c127),(128,.code c128),(129,.code c129),(130,.code c130),(131,.code c131),(132,.code c132),(133,.code c133),(134,.code c134),(135,.code c135),(136,.code c136),(156,.code c156),(157,.code c157)]
noncomputable def funs2:List (Nat×Fun):=own2++funs
noncomputable def Fs2:Nat→Option Fun:=table funs2
set_option maxRecDepth 100000 in
theorem company2:Company Tryz.prog Fs2:=
 .cons is60 <| .cons is45 <| .cons is46 <| .cons is48 <| .cons is66 <| .cons is62 <| .cons is63 <| .cons is64 <| .cons is65 <| .cons is67 <| .cons is68 <| .cons is69 <| .cons is91 <| .cons is92 <| .cons is93 <| .cons is94 <| .cons is95 <| .cons is96 <| .cons is97 <| .cons is98 <| .cons is99 <| .cons is125 <| .cons is126 <| .cons is127 <| .cons is128 <| .cons is129 <| .cons is130 <| .cons is131 <| .cons is132 <| .cons is133 <| .cons is134 <| .cons is135 <| .cons is136 <| .cons is156 <| .cons is157 <| company
theorem up2:FsLe Fs Fs2:=table_up (by kernel_rfl)
theorem fs60:Fs2 60=some (.code c60):=rfl
theorem fs45:Fs2 45=some (.code c45):=rfl
theorem fs46:Fs2 46=some (.code c46):=rfl
theorem fs48:Fs2 48=some (.code c48):=rfl
theorem fs66:Fs2 66=some (.code c66):=rfl
theorem fs62:Fs2 62=some (.code c62):=rfl
theorem fs63:Fs2 63=some (.code c63):=rfl
theorem fs64:Fs2 64=some (.code c64):=rfl
theorem fs65:Fs2 65=some (.code c65):=rfl
theorem fs67:Fs2 67=some (.code c67):=rfl
theorem fs68:Fs2 68=some (.code c68):=rfl
theorem fs69:Fs2 69=some (.code c69):=rfl
theorem fs91:Fs2 91=some (.code c91):=rfl
theorem fs92:Fs2 92=some (.code c92):=rfl
theorem fs93:Fs2 93=some (.code c93):=rfl
theorem fs94:Fs2 94=some (.code c94):=rfl
theorem fs95:Fs2 95=some (.code c95):=rfl
theorem fs96:Fs2 96=some (.code c96):=rfl
theorem fs97:Fs2 97=some (.code c97):=rfl
theorem fs98:Fs2 98=some (.code c98):=rfl
theorem fs99:Fs2 99=some (.code c99):=rfl
theorem fs125:Fs2 125=some (.code c125):=rfl
theorem fs126:Fs2 126=some (.code c126):=rfl
theorem fs127:Fs2 127=some (.code c127):=rfl
theorem fs128:Fs2 128=some (.code c128):=rfl
theorem fs129:Fs2 129=some (.code c129):=rfl
theorem fs130:Fs2 130=some (.code c130):=rfl
theorem fs131:Fs2 131=some (.code c131):=rfl
theorem fs132:Fs2 132=some (.code c132):=rfl
theorem fs133:Fs2 133=some (.code c133):=rfl
theorem fs134:Fs2 134=some (.code c134):=rfl
theorem fs135:Fs2 135=some (.code c135):=rfl
theorem fs136:Fs2 136=some (.code c136):=rfl
theorem fs156:Fs2 156=some (.code c156):=rfl
theorem fs157:Fs2 157=some (.code c157):=rfl
end Go.Proofs.YtclgengkohbjjaaGreatDoor.M
