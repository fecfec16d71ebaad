import Derived.Test.YtegndijbpiccgaaGreatDoorProg
import Derived.Test.YtegndijbpiccgaaGreatDoorMirI
import Derived.Test.YtegndijbpiccgaaGreatDoorMirL
import Derived.KernelRfl
import Derived.Test.YtegndijbpiccgaaGreatDoorMirT
import Derived.Test.YtegndijbpiccgaaGreatDoorMirR
import Derived.Test.YtegndijbpiccgaaGreatDoorR5Shelf
namespace Go.Proofs.YtegndijbpiccgaaGreatDoor.M
set_option linter.unusedVariables false
set_option linter.unusedSimpArgs false
open Go Go.Mir Go.Proofs
abbrev s0:Sh := .val (.one .raw)
@[irreducible] noncomputable def b13:Cmd:=((Tryz.f13.body).bind (trC Tryz.prog [119,100] 13 [] [(4,[.keepF 13,.keep 2,.keep 3,.keep 25,.slot 26 (.one (.int .i64)),.keepO 1300000,.keepO 1300001]),(10,[.keepF 13,.keep 2,.keep 3,.keep 43,.slot 44 (.one (.int .i64)),.keepO 1300000,.keepO 1300001])])).getD .skip
noncomputable def c13:FnC:=⟨13,59,[(.tmp 4)],b13,false,[(.agg [(.slo 1),(.slo 2)]),(.agg [(.slo 1),(.slo 2)])],.val (.one .bool),none,false,[]⟩
theorem is13:IsFn Tryz.prog 13 c13:=⟨⟨_,_,[119,100],[],[(4,[.keepF 13,.keep 2,.keep 3,.keep 25,.slot 26 (.one (.int .i64)),.keepO 1300000,.keepO 1300001]),(10,[.keepF 13,.keep 2,.keep 3,.keep 43,.slot 44 (.one (.int .i64)),.keepO 1300000,.keepO 1300001])],Tryz.func13,rfl,(by kernel_rfl),rfl,(by kernel_rfl),(by kernel_rfl)⟩⟩
@[irreducible] noncomputable def b22:Cmd:=((Tryz.f22.body).bind (trC Tryz.prog [119,100] 22 [(10,([1,3],[2201202],[],[])),(11,([3,35,36,37],[2201202],[],[])),(15,([3,35,36,37],[2201202],[],[]))] [(5,[.keepF 22,.keep 1,.keep 3,.keep 24,.keep 25,.slot 26 (.one (.int .i64)),.keepO 2200000]),(11,[.keepF 22,.keep 3,.keep 35,.keep 36,.slot 37 (.one (.int .i64))])])).getD .skip
noncomputable def c22:FnC:=⟨22,57,[(.tmp 2)],b22,false,[(.agg [(.slo 1),(.slo 2)])],.val (.one .bool),none,false,[]⟩
theorem is22:IsFn Tryz.prog 22 c22:=⟨⟨_,_,[119,100],[(10,([1,3],[2201202],[],[])),(11,([3,35,36,37],[2201202],[],[])),(15,([3,35,36,37],[2201202],[],[]))],[(5,[.keepF 22,.keep 1,.keep 3,.keep 24,.keep 25,.slot 26 (.one (.int .i64)),.keepO 2200000]),(11,[.keepF 22,.keep 3,.keep 35,.keep 36,.slot 37 (.one (.int .i64))])],Tryz.func22,rfl,(by kernel_rfl),rfl,(by kernel_rfl),(by kernel_rfl)⟩⟩
@[irreducible] noncomputable def b36:Cmd:=((Tryz.f36.body).bind (trC Tryz.prog [119,100] 36 [] [])).getD .skip
noncomputable def c36:FnC:=⟨36,38,[(.tmp 2),(.tmp 3)],b36,false,[(.agg [(.int .i64),(.int .i64),.str])],.tup [(.one .str),(.one (.int .i64))],none,false,[]⟩
theorem is36:IsFn Tryz.prog 36 c36:=⟨⟨_,_,[119,100],[],[],Tryz.func36,rfl,(by kernel_rfl),rfl,(by kernel_rfl),(by kernel_rfl)⟩⟩
@[irreducible] noncomputable def b38:Cmd:=((Tryz.f38.body).bind (trC Tryz.prog [119,100] 38 [] [])).getD .skip
noncomputable def c38:FnC:=⟨38,42,[(.tmp 2),(.tmp 3)],b38,false,[(.agg [(.int .i64),(.int .i64),(.int .i64),(.int .i64)])],.tup [(.one .str),(.one (.int .i64))],none,false,[]⟩
theorem is38:IsFn Tryz.prog 38 c38:=⟨⟨_,_,[119,100],[],[],Tryz.func38,rfl,(by kernel_rfl),rfl,(by kernel_rfl),(by kernel_rfl)⟩⟩
@[irreducible] noncomputable def b39:Cmd:=((Tryz.f39.body).bind (trC Tryz.prog [119,100] 39 [] [])).getD .skip
noncomputable def c39:FnC:=⟨39,35,[(.tmp 2)],b39,false,[(.agg [(.int .i64),(.int .i64),(.int .i64),(.int .i64)])],.val (.one .str),none,false,[]⟩
theorem is39:IsFn Tryz.prog 39 c39:=⟨⟨_,_,[119,100],[],[],Tryz.func39,rfl,(by kernel_rfl),rfl,(by kernel_rfl),(by kernel_rfl)⟩⟩
@[irreducible] noncomputable def b41:Cmd:=((Tryz.f41.body).bind (trC Tryz.prog [119,100] 41 [] [(5,[.keepF 41,.keep 1,.keep 3,.keep 22,.keep 23,.slot 24 (.one (.int .i64)),.keepO 4100000,.keepO 4100103])])).getD .skip
noncomputable def c41:FnC:=⟨41,37,[(.tmp 2)],b41,false,[(.agg [(.slo 1),(.slo 2)])],.val (.one .bool),none,false,[]⟩
theorem is41:IsFn Tryz.prog 41 c41:=⟨⟨_,_,[119,100],[],[(5,[.keepF 41,.keep 1,.keep 3,.keep 22,.keep 23,.slot 24 (.one (.int .i64)),.keepO 4100000,.keepO 4100103])],Tryz.func41,rfl,(by kernel_rfl),rfl,(by kernel_rfl),(by kernel_rfl)⟩⟩
@[irreducible] noncomputable def b42:Cmd:=((Tryz.f42.body).bind (trC Tryz.prog [119,100] 42 [(2,([0,2,5,6],[4200505],[],[])),(3,([2,5,6,12,13,14],[4200505],[],[])),(8,([2,5,6,12,13,14],[4200505],[],[]))] [(3,[.keepF 42,.keep 2,.keep 5,.slot 6 (.one (.int .i64)),.keep 12,.keep 13,.slot 14 (.one (.int .i64)),.keepO 4200000,.box 4200101 [(.int .i64),(.int .i64),(.int .i64),(.int .i64)]])])).getD .skip
noncomputable def c42:FnC:=⟨42,41,[(.cell 2 (some 4)),(.tmp 3),(.tmp 4)],b42,false,[(.one (.slo 1))],.tup [(.agg [(.int .i64),(.int .i64),(.int .i64),(.int .i64)]),(.one (.int .i64)),(.one (.int .i64))],none,false,[]⟩
theorem is42:IsFn Tryz.prog 42 c42:=⟨⟨_,_,[119,100],[(2,([0,2,5,6],[4200505],[],[])),(3,([2,5,6,12,13,14],[4200505],[],[])),(8,([2,5,6,12,13,14],[4200505],[],[]))],[(3,[.keepF 42,.keep 2,.keep 5,.slot 6 (.one (.int .i64)),.keep 12,.keep 13,.slot 14 (.one (.int .i64)),.keepO 4200000,.box 4200101 [(.int .i64),(.int .i64),(.int .i64),(.int .i64)]])],Tryz.func42,rfl,(by kernel_rfl),rfl,(by kernel_rfl),(by kernel_rfl)⟩⟩
@[irreducible] noncomputable def b45:Cmd:=((Tryz.f45.body).bind (trC Tryz.prog [119,100] 45 [(2,([0,1,5],[4500802],[(5,4500803,9,1)],[])),(3,([0,5,11,12,13],[4500802],[(5,4500803,9,1)],[])),(9,([0,5,11,12,13],[4500802],[],[]))] [(3,[.keepF 45,.keep 0,.rowIn 5 4500803,.keep 11,.keep 12,.slot 13 (.one (.int .i64)),.row 4500803 9 1 true])])).getD .skip
noncomputable def c45:FnC:=⟨45,37,[(.tmp 4)],b45,false,[(.one (.int .i64)),(.one (.slo 1))],.val (.one (.slo 1)),none,false,[]⟩
theorem is45:IsFn Tryz.prog 45 c45:=⟨⟨_,_,[119,100],[(2,([0,1,5],[4500802],[(5,4500803,9,1)],[])),(3,([0,5,11,12,13],[4500802],[(5,4500803,9,1)],[])),(9,([0,5,11,12,13],[4500802],[],[]))],[(3,[.keepF 45,.keep 0,.rowIn 5 4500803,.keep 11,.keep 12,.slot 13 (.one (.int .i64)),.row 4500803 9 1 true])],Tryz.func45,rfl,(by kernel_rfl),rfl,(by kernel_rfl),(by kernel_rfl)⟩⟩
@[irreducible] noncomputable def b50:Cmd:=((Tryz.f50.body).bind (trC Tryz.prog [119,100] 50 [] [(4,[.keepF 50,.keep 0,.keep 1,.keep 12,.slot 13 (.one (.int .i64))])])).getD .skip
noncomputable def c50:FnC:=⟨50,26,[(.tmp 4)],b50,false,[(.one (.slo 1)),(.one (.slo 1))],.val (.one .bool),none,false,[]⟩
theorem is50:IsFn Tryz.prog 50 c50:=⟨⟨_,_,[119,100],[],[(4,[.keepF 50,.keep 0,.keep 1,.keep 12,.slot 13 (.one (.int .i64))])],Tryz.func50,rfl,(by kernel_rfl),rfl,(by kernel_rfl),(by kernel_rfl)⟩⟩
@[irreducible] noncomputable def b53:Cmd:=((Tryz.f53.body).bind (trC Tryz.prog [119,100] 53 [] [])).getD .skip
noncomputable def c53:FnC:=⟨53,37,[(.cell 6 (some 2)),(.tmp 7)],b53,false,[(.agg [(.slo 1),(.slo 2)]),(.one (.int .i64)),(.one .str)],.tup [(.agg [(.slo 1),(.slo 2)]),(.one (.int .i64))],none,false,[]⟩
theorem is53:IsFn Tryz.prog 53 c53:=⟨⟨_,_,[119,100],[],[],Tryz.func53,rfl,(by kernel_rfl),rfl,(by kernel_rfl),(by kernel_rfl)⟩⟩
@[irreducible] noncomputable def b54:Cmd:=((Tryz.f54.body).bind (trC Tryz.prog [119,100] 54 [] [])).getD .skip
noncomputable def c54:FnC:=⟨54,10,[(.cell 2 (some 2)),(.tmp 3)],b54,false,[(.agg [(.slo 1),(.slo 2)])],.tup [(.agg [(.slo 1),(.slo 2)]),(.one (.int .i64))],none,false,[]⟩
theorem is54:IsFn Tryz.prog 54 c54:=⟨⟨_,_,[119,100],[],[],Tryz.func54,rfl,(by kernel_rfl),rfl,(by kernel_rfl),(by kernel_rfl)⟩⟩
@[irreducible] noncomputable def b55:Cmd:=((Tryz.f55.body).bind (trC Tryz.prog [119,100] 55 [] [])).getD .skip
noncomputable def c55:FnC:=⟨55,19,[(.tmp 2)],b55,false,[(.one .str)],.val (.one .bool),none,false,[]⟩
theorem is55:IsFn Tryz.prog 55 c55:=⟨⟨_,_,[119,100],[],[],Tryz.func55,rfl,(by kernel_rfl),rfl,(by kernel_rfl),(by kernel_rfl)⟩⟩
@[irreducible] noncomputable def b56:Cmd:=((Tryz.f56.body).bind (trC Tryz.prog [119,100] 56 [(2,([1,2,3,6,7],[5600503],[(358406464,5600504,9,1)],[])),(3,([1,2,3,6,7,15,16,17],[5600503],[(358406464,5600504,9,1)],[])),(6,([1,2,3,6,7,15,16,17],[5600503],[],[])),(7,([1,2,3,6,7],[5600903],[(358406464,5600504,9,1)],[])),(8,([1,2,6,7,29,30,31],[5600903],[(358406464,5600504,9,1)],[])),(16,([1,2,6,7,29,30,31],[5600903],[],[]))] [(3,[.keepF 56,.keep 1,.keep 2,.keep 3,.keep 6,.keep 7,.keep 15,.keep 16,.slot 17 (.one (.int .i64)),.keepO 5600000,.keepO 5600001,.box 5600101 [(.row 5600504),.nil],.row 5600504 9 1 true]),(8,[.keepF 56,.keep 1,.keep 2,.keep 6,.keep 7,.keep 29,.keep 30,.slot 31 (.one (.int .i64)),.keepO 5600001,.box 5600101 [(.row 5600504),.nil],.row 5600504 9 1 true])])).getD .skip
noncomputable def c56:FnC:=⟨56,62,[(.cell 6 (some 2))],b56,false,[(.agg [(.slo 1),(.slo 2)]),(.one .bool),(.one (.slo 1))],.val (.agg [(.slo 1),(.slo 2)]),none,false,[]⟩
theorem is56:IsFn Tryz.prog 56 c56:=⟨⟨_,_,[119,100],[(2,([1,2,3,6,7],[5600503],[(358406464,5600504,9,1)],[])),(3,([1,2,3,6,7,15,16,17],[5600503],[(358406464,5600504,9,1)],[])),(6,([1,2,3,6,7,15,16,17],[5600503],[],[])),(7,([1,2,3,6,7],[5600903],[(358406464,5600504,9,1)],[])),(8,([1,2,6,7,29,30,31],[5600903],[(358406464,5600504,9,1)],[])),(16,([1,2,6,7,29,30,31],[5600903],[],[]))],[(3,[.keepF 56,.keep 1,.keep 2,.keep 3,.keep 6,.keep 7,.keep 15,.keep 16,.slot 17 (.one (.int .i64)),.keepO 5600000,.keepO 5600001,.box 5600101 [(.row 5600504),.nil],.row 5600504 9 1 true]),(8,[.keepF 56,.keep 1,.keep 2,.keep 6,.keep 7,.keep 29,.keep 30,.slot 31 (.one (.int .i64)),.keepO 5600001,.box 5600101 [(.row 5600504),.nil],.row 5600504 9 1 true])],Tryz.func56,rfl,(by kernel_rfl),rfl,(by kernel_rfl),(by kernel_rfl)⟩⟩
@[irreducible] noncomputable def b57:Cmd:=((Tryz.f57.body).bind (trC Tryz.prog [119,100] 57 [(2,([1,2,3,6,7],[5700402,5700503],[(364806593,5700504,88,2)],[])),(3,([1,2,6,7,14,15,16],[5700402,5700503],[(364806593,5700504,88,2)],[])),(6,([1,2,6,7,14,15,16],[5700402,5700503],[],[]))] [(3,[.keepF 57,.keep 1,.keep 2,.keep 6,.keep 7,.keep 14,.keep 15,.slot 16 (.one (.int .i64)),.keepO 5700001,.box 5700103 [(.slo 1),(.row 5700504)],.row 5700504 88 2 true])])).getD .skip
noncomputable def c57:FnC:=⟨57,37,[(.cell 6 (some 2))],b57,false,[(.agg [(.slo 1),(.slo 2)]),(.one (.int .i64)),(.one .str)],.val (.agg [(.slo 1),(.slo 2)]),none,false,[]⟩
theorem is57:IsFn Tryz.prog 57 c57:=⟨⟨_,_,[119,100],[(2,([1,2,3,6,7],[5700402,5700503],[(364806593,5700504,88,2)],[])),(3,([1,2,6,7,14,15,16],[5700402,5700503],[(364806593,5700504,88,2)],[])),(6,([1,2,6,7,14,15,16],[5700402,5700503],[],[]))],[(3,[.keepF 57,.keep 1,.keep 2,.keep 6,.keep 7,.keep 14,.keep 15,.slot 16 (.one (.int .i64)),.keepO 5700001,.box 5700103 [(.slo 1),(.row 5700504)],.row 5700504 88 2 true])],Tryz.func57,rfl,(by kernel_rfl),rfl,(by kernel_rfl),(by kernel_rfl)⟩⟩
@[irreducible] noncomputable def b66:Cmd:=((Tryz.f66.body).bind (trC Tryz.prog [119,100] 66 [] [])).getD .skip
noncomputable def c66:FnC:=⟨66,47,[(.tmp 2)],b66,false,[(.agg [(.int .i64),(.int .i64),(.int .i64),(.int .i64)])],.val (.one .bool),none,false,[]⟩
theorem is66:IsFn Tryz.prog 66 c66:=⟨⟨_,_,[119,100],[],[],Tryz.func66,rfl,(by kernel_rfl),rfl,(by kernel_rfl),(by kernel_rfl)⟩⟩
@[irreducible] noncomputable def b68:Cmd:=((Tryz.f68.body).bind (trC Tryz.prog [119,100] 68 [] [])).getD .skip
noncomputable def c68:FnC:=⟨68,53,[(.tmp 2)],b68,false,[(.agg [(.int .i64),(.int .i64),(.int .i64),(.int .i64)])],.val (.one .bool),none,false,[]⟩
theorem is68:IsFn Tryz.prog 68 c68:=⟨⟨_,_,[119,100],[],[],Tryz.func68,rfl,(by kernel_rfl),rfl,(by kernel_rfl),(by kernel_rfl)⟩⟩
@[irreducible] noncomputable def b72:Cmd:=((Tryz.f72.body).bind (trC Tryz.prog [119,100] 72 [(2,([1,2,4,5],[7200403],[],[])),(3,([1,4,5,13,14,15],[7200403],[],[])),(6,([1,4,5,13,14,15],[7200403],[],[]))] [(3,[.keepF 72,.keep 1,.keep 4,.keep 5,.keep 13,.keep 14,.slot 15 (.one (.int .i64)),.keepO 7200001,.keepO 7200104,.row 11900001 9 1 false])])).getD .skip
noncomputable def c72:FnC:=⟨72,39,[(.cell 4 (some 2))],b72,false,[(.agg [(.slo 1),(.slo 2)]),(.one .raw)],.val (.agg [(.slo 1),(.slo 2)]),none,false,[]⟩
theorem is72:IsFn Tryz.prog 72 c72:=⟨⟨_,_,[119,100],[(2,([1,2,4,5],[7200403],[],[])),(3,([1,4,5,13,14,15],[7200403],[],[])),(6,([1,4,5,13,14,15],[7200403],[],[]))],[(3,[.keepF 72,.keep 1,.keep 4,.keep 5,.keep 13,.keep 14,.slot 15 (.one (.int .i64)),.keepO 7200001,.keepO 7200104,.row 11900001 9 1 false])],Tryz.func72,rfl,(by kernel_rfl),rfl,(by kernel_rfl),(by kernel_rfl)⟩⟩
@[irreducible] noncomputable def b78:Cmd:=((Tryz.f78.body).bind (trC Tryz.prog [119,100] 78 [] [])).getD .skip
noncomputable def c78:FnC:=⟨78,27,[(.tmp 2)],b78,false,[(.agg [(.int .i64),(.int .i64),.str])],.val (.one .bool),none,false,[]⟩
theorem is78:IsFn Tryz.prog 78 c78:=⟨⟨_,_,[119,100],[],[],Tryz.func78,rfl,(by kernel_rfl),rfl,(by kernel_rfl),(by kernel_rfl)⟩⟩
@[irreducible] noncomputable def b79:Cmd:=((Tryz.f79.body).bind (trC Tryz.prog [119,100] 79 [] [(5,[.slot 0 (.one (.int .i64)),.slot 1 (.one (.int .i64)),.rowIn 6 7900301,.slot 28 (.one (.int .i64)),.slot 29 (.one (.int .i64)),.row 7900301 5 1 true])])).getD .skip
noncomputable def c79:FnC:=⟨79,46,[(.tmp 4),(.tmp 5)],b79,false,[(.one (.int .i64)),(.one (.int .i64))],.tup [(.one .str),(.one (.int .i64))],none,false,[]⟩
theorem is79:IsFn Tryz.prog 79 c79:=⟨⟨_,_,[119,100],[],[(5,[.slot 0 (.one (.int .i64)),.slot 1 (.one (.int .i64)),.rowIn 6 7900301,.slot 28 (.one (.int .i64)),.slot 29 (.one (.int .i64)),.row 7900301 5 1 true])],Tryz.func79,rfl,(by kernel_rfl),rfl,(by kernel_rfl),(by kernel_rfl)⟩⟩
@[irreducible] noncomputable def b80:Cmd:=((Tryz.f80.body).bind (trC Tryz.prog [119,100] 80 [] [])).getD .skip
noncomputable def c80:FnC:=⟨80,20,[(.tmp 2),(.tmp 3)],b80,false,[(.one .str)],.tup [(.one .str),(.one (.int .i64))],none,false,[]⟩
theorem is80:IsFn Tryz.prog 80 c80:=⟨⟨_,_,[119,100],[],[],Tryz.func80,rfl,(by kernel_rfl),rfl,(by kernel_rfl),(by kernel_rfl)⟩⟩
def b81:Cmd:=(.seq (.region [(o 2 (.mov (.const (.string ⟨#[]⟩))))]) (.seq (.region [(m 3 0),(os 4 (.call false 126 [(T 3),(.const (.string ⟨#[0]⟩))]) sS),(m 2 4)]) .ret))
noncomputable def c81:FnC:=⟨81,5,[(.tmp 2)],b81,false,[(.one .str)],.val (.one .str),none,false,[]⟩
theorem is81:IsFn Tryz.prog 81 c81:=⟨⟨_,_,[119,100],[],[],Tryz.func81,rfl,(by kernel_rfl),rfl,(by kernel_rfl),(by kernel_rfl)⟩⟩
@[irreducible] noncomputable def b82:Cmd:=((Tryz.f82.body).bind (trC Tryz.prog [119,100] 82 [] [])).getD .skip
noncomputable def c82:FnC:=⟨82,23,[(.tmp 2)],b82,false,[(.one .str)],.val (.one .str),none,false,[]⟩
theorem is82:IsFn Tryz.prog 82 c82:=⟨⟨_,_,[119,100],[],[],Tryz.func82,rfl,(by kernel_rfl),rfl,(by kernel_rfl),(by kernel_rfl)⟩⟩
def b83:Cmd:=(.seq (.region [(o 2 (.mov (.const (.string ⟨#[]⟩))))]) (.seq (.region [(m 3 0),(os 4 (.call false 128 [(T 3),(.const (.string ⟨#[]⟩))]) sS),(m 2 4)]) .ret))
noncomputable def c83:FnC:=⟨83,5,[(.tmp 2)],b83,false,[(.one (.slo 1))],.val (.one .str),none,false,[]⟩
theorem is83:IsFn Tryz.prog 83 c83:=⟨⟨_,_,[119,100],[],[],Tryz.func83,rfl,(by kernel_rfl),rfl,(by kernel_rfl),(by kernel_rfl)⟩⟩
@[irreducible] noncomputable def b84:Cmd:=((Tryz.f84.body).bind (trC Tryz.prog [119,100] 84 [] [])).getD .skip
noncomputable def c84:FnC:=⟨84,34,[(.tmp 2)],b84,false,[(.agg [(.int .i64),(.int .i64),.str])],.val (.one .str),none,false,[]⟩
theorem is84:IsFn Tryz.prog 84 c84:=⟨⟨_,_,[119,100],[],[],Tryz.func84,rfl,(by kernel_rfl),rfl,(by kernel_rfl),(by kernel_rfl)⟩⟩
def b86:Cmd:=(.seq (.region [(o 2 (.mov (.const (.bool false))))]) (.seq (.region [(m 3 0),(os 4 (.slen (T 3)) sI),(o 5 (.bin .leq (T 4) (N 4096))),(m 6 5),(gd 7 (.mov (T 0)) 6 true),(gs 8 (.call false 81 [(T 7)]) 6 true sS),(gd 9 (.mov (T 0)) 6 true),(gd 10 (.bin .eql (T 8) (T 9)) 6 true),(o 11 (.pick (T 6) (T 10) (.const (.bool false)))),(m 2 11)]) .ret))
noncomputable def c86:FnC:=⟨86,12,[(.tmp 2)],b86,false,[(.one .str)],.val (.one .bool),none,false,[]⟩
theorem is86:IsFn Tryz.prog 86 c86:=⟨⟨_,_,[119,100],[],[],Tryz.func86,rfl,(by kernel_rfl),rfl,(by kernel_rfl),(by kernel_rfl)⟩⟩
def b87:Cmd:=(.seq (.region [(o 4 (.mov (.const (.bool false))))]) (.seq (.region [(m 5 0),(m 6 1),(os 7 (.call false 133 [(T 5),(T 6)]) sI),(o 8 (.bin .geq (T 7) (N 0))),(m 4 8)]) .ret))
noncomputable def c87:FnC:=⟨87,9,[(.tmp 4)],b87,false,[(.one (.slo 2)),(.one .raw)],.val (.one .bool),none,false,[]⟩
theorem is87:IsFn Tryz.prog 87 c87:=⟨⟨_,_,[119,100],[],[],Tryz.func87,rfl,(by kernel_rfl),rfl,(by kernel_rfl),(by kernel_rfl)⟩⟩
@[irreducible] noncomputable def b88:Cmd:=((Tryz.f88.body).bind (trC Tryz.prog [119,100] 88 [] [])).getD .skip
noncomputable def c88:FnC:=⟨88,19,[(.tmp 3)],b88,false,[(.agg [(.int .i64),.str])],.val (.one .bool),none,false,[]⟩
theorem is88:IsFn Tryz.prog 88 c88:=⟨⟨_,_,[119,100],[],[],Tryz.func88,rfl,(by kernel_rfl),rfl,(by kernel_rfl),(by kernel_rfl)⟩⟩
@[irreducible] noncomputable def b89:Cmd:=((Tryz.f89.body).bind (trC Tryz.prog [119,100] 89 [] [(7,[.keepF 89,.keep 2,.keep 4,.keep 6,.slot 7 (.one (.int .i64)),.keep 26,.slot 27 (.one (.int .i64)),.box 8900000 [(.int .i64),(.int .i64),(.int .i64),(.int .i64)],.box 8900106 [(.int .i64),(.int .i64),.str],.box 8900403 [(.int .i64),(.int .i64),(.int .i64),(.int .i64)]])])).getD .skip
noncomputable def c89:FnC:=⟨89,56,[(.cell 2 (some 4)),(.tmp 3)],b89,false,[(.one .str)],.tup [(.agg [(.int .i64),(.int .i64),(.int .i64),(.int .i64)]),(.one (.int .i64))],none,false,[]⟩
theorem is89:IsFn Tryz.prog 89 c89:=⟨⟨_,_,[119,100],[],[(7,[.keepF 89,.keep 2,.keep 4,.keep 6,.slot 7 (.one (.int .i64)),.keep 26,.slot 27 (.one (.int .i64)),.box 8900000 [(.int .i64),(.int .i64),(.int .i64),(.int .i64)],.box 8900106 [(.int .i64),(.int .i64),.str],.box 8900403 [(.int .i64),(.int .i64),(.int .i64),(.int .i64)]])],Tryz.func89,rfl,(by kernel_rfl),rfl,(by kernel_rfl),(by kernel_rfl)⟩⟩
@[irreducible] noncomputable def b90:Cmd:=((Tryz.f90.body).bind (trC Tryz.prog [119,100] 90 [] [])).getD .skip
noncomputable def c90:FnC:=⟨90,26,[(.cell 4 (some 3)),(.tmp 5)],b90,false,[(.one .str),(.one (.slo 1))],.tup [(.agg [(.int .i64),(.int .i64),.str]),(.one (.int .i64))],none,false,[]⟩
theorem is90:IsFn Tryz.prog 90 c90:=⟨⟨_,_,[119,100],[],[],Tryz.func90,rfl,(by kernel_rfl),rfl,(by kernel_rfl),(by kernel_rfl)⟩⟩
@[irreducible] noncomputable def b93:Cmd:=((Tryz.f93.body).bind (trC Tryz.prog [119,100] 93 [] [])).getD .skip
noncomputable def c93:FnC:=⟨93,52,[(.tmp 4),(.tmp 5),(.tmp 6)],b93,false,[(.one .str),(.one (.int .i64))],.tup [(.one (.int .i64)),(.one .str),(.one (.int .i64))],none,false,[]⟩
theorem is93:IsFn Tryz.prog 93 c93:=⟨⟨_,_,[119,100],[],[],Tryz.func93,rfl,(by kernel_rfl),rfl,(by kernel_rfl),(by kernel_rfl)⟩⟩
@[irreducible] noncomputable def b95:Cmd:=((Tryz.f95.body).bind (trC Tryz.prog [119,100] 95 [] [])).getD .skip
noncomputable def c95:FnC:=⟨95,79,[(.cell 2 (some 3)),(.tmp 3)],b95,false,[(.one .str)],.tup [(.agg [(.int .i64),(.int .i64),.str]),(.one (.int .i64))],none,false,[]⟩
theorem is95:IsFn Tryz.prog 95 c95:=⟨⟨_,_,[119,100],[],[],Tryz.func95,rfl,(by kernel_rfl),rfl,(by kernel_rfl),(by kernel_rfl)⟩⟩
@[irreducible] noncomputable def b99:Cmd:=((Tryz.f99.body).bind (trC Tryz.prog [119,100] 99 [] [])).getD .skip
noncomputable def c99:FnC:=⟨99,19,[(.tmp 4)],b99,false,[(.agg [(.slo 1),(.slo 2)]),(.one (.int .i64))],.val (.one (.int .i64)),none,false,[]⟩
theorem is99:IsFn Tryz.prog 99 c99:=⟨⟨_,_,[119,100],[],[],Tryz.func99,rfl,(by kernel_rfl),rfl,(by kernel_rfl),(by kernel_rfl)⟩⟩
def b101:Cmd:=(.seq (.region [(mN 2 0)]) (.seq (.region [(mN 2 255)]) .ret))
noncomputable def c101:FnC:=⟨101,3,[(.tmp 2)],b101,false,[(.one (.int .i64))],.val (.one (.int .i64)),none,false,[]⟩
theorem is101:IsFn Tryz.prog 101 c101:=⟨⟨_,_,[119,100],[],[],Tryz.func101,rfl,(by kernel_rfl),rfl,(by kernel_rfl),(by kernel_rfl)⟩⟩
@[irreducible] noncomputable def b102:Cmd:=((Tryz.f102.body).bind (trC Tryz.prog [119,100] 102 [(2,([0,1,2,7],[10200604,10200605,10200704,10200705],[],[])),(3,([0,1,2,7,8],[10200604,10200605,10200704,10200705],[],[])),(4,([0,1,2,7,8],[10200604,10200605,10200704,10200705],[],[]))] [(3,[.keepF 102,.keep 0,.keep 1,.keep 2,.rowIn 7 10200100,.slot 8 (.one (.int .i64)),.row 10200100 5 1 true])])).getD .skip
noncomputable def c102:FnC:=⟨102,36,[(.tmp 6)],b102,false,[(.one .str),(.one .str),(.one (.int .i64))],.val (.one .str),none,false,[]⟩
theorem is102:IsFn Tryz.prog 102 c102:=⟨⟨_,_,[119,100],[(2,([0,1,2,7],[10200604,10200605,10200704,10200705],[],[])),(3,([0,1,2,7,8],[10200604,10200605,10200704,10200705],[],[])),(4,([0,1,2,7,8],[10200604,10200605,10200704,10200705],[],[]))],[(3,[.keepF 102,.keep 0,.keep 1,.keep 2,.rowIn 7 10200100,.slot 8 (.one (.int .i64)),.row 10200100 5 1 true])],Tryz.func102,rfl,(by kernel_rfl),rfl,(by kernel_rfl),(by kernel_rfl)⟩⟩
@[irreducible] noncomputable def b103:Cmd:=((Tryz.f103.body).bind (trC Tryz.prog [119,100] 103 [] [(2,[.slot 0 (.one .str),.slot 3 (.one (.int .i64))])])).getD .skip
noncomputable def c103:FnC:=⟨103,20,[(.tmp 2)],b103,false,[(.one .str)],.val (.one .str),none,false,[]⟩
theorem is103:IsFn Tryz.prog 103 c103:=⟨⟨_,_,[119,100],[],[(2,[.slot 0 (.one .str),.slot 3 (.one (.int .i64))])],Tryz.func103,rfl,(by kernel_rfl),rfl,(by kernel_rfl),(by kernel_rfl)⟩⟩
@[irreducible] noncomputable def b109:Cmd:=((Tryz.f109.body).bind (trC Tryz.prog [119,100] 109 [(2,([1,2,5],[10900402],[],[])),(3,([1,5,14,15,16],[10900402],[],[])),(7,([1,5,14,15,16],[10900402],[],[]))] [(3,[.keepF 109,.keep 1,.slot 5 (.one .str),.keep 14,.keep 15,.slot 16 (.one (.int .i64))])])).getD .skip
noncomputable def c109:FnC:=⟨109,28,[(.tmp 4)],b109,false,[(.agg [(.slo 1),(.slo 2)]),(.one (.int .i64))],.val (.one .str),none,false,[]⟩
theorem is109:IsFn Tryz.prog 109 c109:=⟨⟨_,_,[119,100],[(2,([1,2,5],[10900402],[],[])),(3,([1,5,14,15,16],[10900402],[],[])),(7,([1,5,14,15,16],[10900402],[],[]))],[(3,[.keepF 109,.keep 1,.slot 5 (.one .str),.keep 14,.keep 15,.slot 16 (.one (.int .i64))])],Tryz.func109,rfl,(by kernel_rfl),rfl,(by kernel_rfl),(by kernel_rfl)⟩⟩
def b110:Cmd:=(.seq (.region [(o 3 (.mov (.const (.bool false))))]) (.seq (.region [(m 4 0),(o 5 (.bin .geq (T 4) (N 10))),(m 6 5),(gd 7 (.mov (T 0)) 6 true),(gd 8 (.fadr (T 1) 3) 6 true),(gs 9 (.ld (T 8) none) 6 true sI),(gd 10 (.bin .lss (T 7) (T 9)) 6 true),(o 11 (.pick (T 6) (T 10) (.const (.bool false)))),(m 3 11)]) .ret))
noncomputable def c110:FnC:=⟨110,12,[(.tmp 3)],b110,false,[(.one (.int .i64))],.val (.one .bool),none,false,[]⟩
theorem is110:IsFn Tryz.prog 110 c110:=⟨⟨_,_,[119,100],[],[],Tryz.func110,rfl,(by kernel_rfl),rfl,(by kernel_rfl),(by kernel_rfl)⟩⟩
@[irreducible] noncomputable def b120:Cmd:=((Tryz.f120.body).bind (trC Tryz.prog [119,100] 120 [(2,([0,1,2,7],[],[(7,12000902,5,1)],[])),(3,([0,1,2,7,12],[],[(7,12000902,5,1)],[]))] [(3,[.keepF 120,.keep 0,.keep 1,.keep 2,.rowIn 7 12000902,.slot 12 (.one (.int .i64)),.row 12000902 5 1 true])])).getD .skip
noncomputable def c120:FnC:=⟨120,38,[(.tmp 6)],b120,false,[(.one .str),(.one .str),(.one (.int .i64))],.val (.one .str),none,false,[]⟩
theorem is120:IsFn Tryz.prog 120 c120:=⟨⟨_,_,[119,100],[(2,([0,1,2,7],[],[(7,12000902,5,1)],[])),(3,([0,1,2,7,12],[],[(7,12000902,5,1)],[]))],[(3,[.keepF 120,.keep 0,.keep 1,.keep 2,.rowIn 7 12000902,.slot 12 (.one (.int .i64)),.row 12000902 5 1 true])],Tryz.func120,rfl,(by kernel_rfl),rfl,(by kernel_rfl),(by kernel_rfl)⟩⟩
@[irreducible] noncomputable def b127:Cmd:=((Tryz.f127.body).bind (trC Tryz.prog [119,100] 127 [] [(3,[.slot 3 (.one (.int .u32)),.slot 6 (.one (.slo 1)),.slot 7 (.one (.int .i64)),.slot 8 (.one (.int .i64))])])).getD .skip
noncomputable def c127:FnC:=⟨127,17,[(.tmp 2)],b127,false,[(.one (.slo 1))],.val (.one (.int .u32)),none,false,[]⟩
theorem is127:IsFn Tryz.prog 127 c127:=⟨⟨_,_,[119,100],[],[(3,[.slot 3 (.one (.int .u32)),.slot 6 (.one (.slo 1)),.slot 7 (.one (.int .i64)),.slot 8 (.one (.int .i64))])],Tryz.func127,rfl,(by kernel_rfl),rfl,(by kernel_rfl),(by kernel_rfl)⟩⟩
@[irreducible] noncomputable def b129:Cmd:=((Tryz.f129.body).bind (trC Tryz.prog [119,100] 129 [(4,([0,1,6],[12900707,12900708],[],[])),(5,([0,6,7],[12900707,12900708],[],[])),(6,([0,6,7],[12900707,12900708],[],[]))] [(5,[.slot 0 (.one (.int .i64)),.rowIn 6 12900300,.slot 7 (.one (.int .i64)),.row 12900300 5 1 true])])).getD .skip
noncomputable def c129:FnC:=⟨129,42,[(.tmp 4),(.tmp 5)],b129,false,[(.one (.int .i64)),(.one (.int .i64))],.tup [(.one .str),(.one (.int .i64))],none,false,[]⟩
theorem is129:IsFn Tryz.prog 129 c129:=⟨⟨_,_,[119,100],[(4,([0,1,6],[12900707,12900708],[],[])),(5,([0,6,7],[12900707,12900708],[],[])),(6,([0,6,7],[12900707,12900708],[],[]))],[(5,[.slot 0 (.one (.int .i64)),.rowIn 6 12900300,.slot 7 (.one (.int .i64)),.row 12900300 5 1 true])],Tryz.func129,rfl,(by kernel_rfl),rfl,(by kernel_rfl),(by kernel_rfl)⟩⟩
@[irreducible] noncomputable def b130:Cmd:=((Tryz.f130.body).bind (trC Tryz.prog [119,100] 130 [] [])).getD .skip
noncomputable def c130:FnC:=⟨130,21,[(.tmp 2),(.tmp 3)],b130,false,[(.one .str)],.tup [(.one .str),(.one (.int .i64))],none,false,[]⟩
theorem is130:IsFn Tryz.prog 130 c130:=⟨⟨_,_,[119,100],[],[],Tryz.func130,rfl,(by kernel_rfl),rfl,(by kernel_rfl),(by kernel_rfl)⟩⟩
@[irreducible] noncomputable def b131:Cmd:=((Tryz.f131.body).bind (trC Tryz.prog [119,100] 131 [] [])).getD .skip
noncomputable def c131:FnC:=⟨131,26,[(.tmp 2)],b131,false,[(.one .str)],.val (.one .str),none,false,[]⟩
theorem is131:IsFn Tryz.prog 131 c131:=⟨⟨_,_,[119,100],[],[],Tryz.func131,rfl,(by kernel_rfl),rfl,(by kernel_rfl),(by kernel_rfl)⟩⟩
@[irreducible] noncomputable def b133:Cmd:=((Tryz.f133.body).bind (trC Tryz.prog [119,100] 133 [] [(2,[.keepF 133,.keep 0,.keep 1,.keep 7,.slot 8 (.one (.int .i64))])])).getD .skip
noncomputable def c133:FnC:=⟨133,19,[(.tmp 4)],b133,false,[(.one (.slo 2)),(.one .raw)],.val (.one (.int .i64)),none,false,[]⟩
theorem is133:IsFn Tryz.prog 133 c133:=⟨⟨_,_,[119,100],[],[(2,[.keepF 133,.keep 0,.keep 1,.keep 7,.slot 8 (.one (.int .i64))])],Tryz.func133,rfl,(by kernel_rfl),rfl,(by kernel_rfl),(by kernel_rfl)⟩⟩
@[irreducible] noncomputable def b134:Cmd:=((Tryz.f134.body).bind (trC Tryz.prog [119,100] 134 [] [(7,[.slot 1 (.one (.int .i64)),.slot 2 (.one (.int .i64)),.slot 9 (.one (.int .i64)),.slot 42 (.one (.sln 1)),.slot 43 (.one (.int .i64)),.slot 44 (.one (.int .i64))])])).getD .skip
noncomputable def c134:FnC:=⟨134,58,[(.tmp 6),(.tmp 7),(.tmp 8)],b134,false,[(.one .str),(.one (.int .i64)),(.one (.int .i64))],.tup [(.one (.int .i64)),(.one (.int .i64)),(.one (.int .i64))],none,false,[]⟩
theorem is134:IsFn Tryz.prog 134 c134:=⟨⟨_,_,[119,100],[],[(7,[.slot 1 (.one (.int .i64)),.slot 2 (.one (.int .i64)),.slot 9 (.one (.int .i64)),.slot 42 (.one (.sln 1)),.slot 43 (.one (.int .i64)),.slot 44 (.one (.int .i64))])],Tryz.func134,rfl,(by kernel_rfl),rfl,(by kernel_rfl),(by kernel_rfl)⟩⟩
@[irreducible] noncomputable def b135:Cmd:=((Tryz.f135.body).bind (trC Tryz.prog [119,100] 135 [] [])).getD .skip
noncomputable def c135:FnC:=⟨135,88,[(.cell 2 (some 3)),(.tmp 3)],b135,false,[(.one .str)],.tup [(.agg [(.int .i64),(.int .i64),.str]),(.one (.int .i64))],none,false,[]⟩
theorem is135:IsFn Tryz.prog 135 c135:=⟨⟨_,_,[119,100],[],[],Tryz.func135,rfl,(by kernel_rfl),rfl,(by kernel_rfl),(by kernel_rfl)⟩⟩
def b136:Cmd:=(.seq (.region [(o 4 (.mov (.const (.bool false))))]) (.seq (.region [(m 5 0),(m 6 1),(os 7 (.call false 170 [(T 5),(T 6)]) sI),(o 8 (.bin .geq (T 7) (N 0))),(m 4 8)]) .ret))
noncomputable def c136:FnC:=⟨136,9,[(.tmp 4)],b136,false,[(.one (.slo 1)),(.one (.int .i64))],.val (.one .bool),none,false,[]⟩
theorem is136:IsFn Tryz.prog 136 c136:=⟨⟨_,_,[119,100],[],[],Tryz.func136,rfl,(by kernel_rfl),rfl,(by kernel_rfl),(by kernel_rfl)⟩⟩
@[irreducible] noncomputable def b138:Cmd:=((Tryz.f138.body).bind (trC Tryz.prog [119,100] 138 [] [])).getD .skip
noncomputable def c138:FnC:=⟨138,26,[(.tmp 4),(.tmp 5)],b138,false,[(.one .str),(.one (.int .i64))],.tup [(.one .str),(.one (.int .i64))],none,false,[]⟩
theorem is138:IsFn Tryz.prog 138 c138:=⟨⟨_,_,[119,100],[],[],Tryz.func138,rfl,(by kernel_rfl),rfl,(by kernel_rfl),(by kernel_rfl)⟩⟩
@[irreducible] noncomputable def b139:Cmd:=((Tryz.f139.body).bind (trC Tryz.prog [119,100] 139 [] [(7,[.slot 0 (.one .str),.slot 1 (.one (.int .i64)),.slot 2 (.one (.int .i64)),.slot 9 (.one (.int .i64)),.slot 10 (.one (.int .i64))])])).getD .skip
noncomputable def c139:FnC:=⟨139,51,[(.tmp 6),(.tmp 7),(.tmp 8)],b139,false,[(.one .str),(.one (.int .i64)),(.one (.int .i64))],.tup [(.one (.int .i64)),(.one (.int .i64)),(.one (.int .i64))],none,false,[]⟩
theorem is139:IsFn Tryz.prog 139 c139:=⟨⟨_,_,[119,100],[],[(7,[.slot 0 (.one .str),.slot 1 (.one (.int .i64)),.slot 2 (.one (.int .i64)),.slot 9 (.one (.int .i64)),.slot 10 (.one (.int .i64))])],Tryz.func139,rfl,(by kernel_rfl),rfl,(by kernel_rfl),(by kernel_rfl)⟩⟩
@[irreducible] noncomputable def b140:Cmd:=((Tryz.f140.body).bind (trC Tryz.prog [119,100] 140 [] [])).getD .skip
noncomputable def c140:FnC:=⟨140,27,[(.tmp 2)],b140,false,[(.agg [(.int .i64),(.int .i64),.str])],.val (.one .bool),none,false,[]⟩
theorem is140:IsFn Tryz.prog 140 c140:=⟨⟨_,_,[119,100],[],[],Tryz.func140,rfl,(by kernel_rfl),rfl,(by kernel_rfl),(by kernel_rfl)⟩⟩
def b142:Cmd:=(.seq (.region [(o 4 (.mov (.const (.int .u8 0))))]) (.seq (.seq (.region [(m 5 1),(m 6 0),(os 7 (.slen (T 6)) sI),(o 8 (.bin .lss (T 5) (T 7)))]) (.cond (T 8) (.seq (.region [(m 9 0),(m 10 1),(o 11 (.idx (T 9) (T 10))),(m 4 11)]) .ret) .skip)) (.seq (.region [(o 4 (.mov (.const (.int .u8 0))))]) .ret)))
noncomputable def c142:FnC:=⟨142,12,[(.tmp 4)],b142,false,[(.one .str),(.one (.int .i64))],.val (.one (.int .u8)),none,false,[]⟩
theorem is142:IsFn Tryz.prog 142 c142:=⟨⟨_,_,[119,100],[],[],Tryz.func142,rfl,(by kernel_rfl),rfl,(by kernel_rfl),(by kernel_rfl)⟩⟩
@[irreducible] noncomputable def b155:Cmd:=((Tryz.f155.body).bind (trC Tryz.prog [119,100] 155 [] [])).getD .skip
noncomputable def c155:FnC:=⟨155,16,[(.tmp 4)],b155,false,[(.one .str),(.one (.int .i64))],.val (.one .str),none,false,[]⟩
theorem is155:IsFn Tryz.prog 155 c155:=⟨⟨_,_,[119,100],[],[],Tryz.func155,rfl,(by kernel_rfl),rfl,(by kernel_rfl),(by kernel_rfl)⟩⟩
@[irreducible] noncomputable def b156:Cmd:=((Tryz.f156.body).bind (trC Tryz.prog [119,100] 156 [] [])).getD .skip
noncomputable def c156:FnC:=⟨156,26,[(.tmp 4),(.tmp 5)],b156,false,[(.one .str),(.one (.int .i64))],.tup [(.one .str),(.one (.int .i64))],none,false,[]⟩
theorem is156:IsFn Tryz.prog 156 c156:=⟨⟨_,_,[119,100],[],[],Tryz.func156,rfl,(by kernel_rfl),rfl,(by kernel_rfl),(by kernel_rfl)⟩⟩
@[irreducible] noncomputable def b163:Cmd:=((Tryz.f163.body).bind (trC Tryz.prog [119,100] 163 [] [(3,[.slot 5 (.one (.int .u32)),.slot 11 (.one (.sln 1)),.slot 12 (.one (.int .i64)),.slot 13 (.one (.int .i64))]),(7,[.slot 5 (.one (.int .u32)),.slot 11 (.one (.sln 1)),.slot 12 (.one (.int .i64)),.slot 13 (.one (.int .i64)),.slot 21 (.one (.int .i64))])])).getD .skip
noncomputable def c163:FnC:=⟨163,34,[(.tmp 4)],b163,false,[(.one (.int .u32)),(.one .str)],.val (.one (.int .u32)),none,false,[]⟩
theorem is163:IsFn Tryz.prog 163 c163:=⟨⟨_,_,[119,100],[],[(3,[.slot 5 (.one (.int .u32)),.slot 11 (.one (.sln 1)),.slot 12 (.one (.int .i64)),.slot 13 (.one (.int .i64))]),(7,[.slot 5 (.one (.int .u32)),.slot 11 (.one (.sln 1)),.slot 12 (.one (.int .i64)),.slot 13 (.one (.int .i64)),.slot 21 (.one (.int .i64))])],Tryz.func163,rfl,(by kernel_rfl),rfl,(by kernel_rfl),(by kernel_rfl)⟩⟩
@[irreducible] noncomputable def b167:Cmd:=((Tryz.f167.body).bind (trC Tryz.prog [119,100] 167 [] [(3,[.slot 0 (.one (.int .i64)),.slot 3 (.one (.int .i64)),.slot 4 (.one (.int .i64))])])).getD .skip
noncomputable def c167:FnC:=⟨167,13,[(.tmp 2)],b167,false,[(.one (.int .i64))],.val (.one (.int .i64)),none,false,[]⟩
theorem is167:IsFn Tryz.prog 167 c167:=⟨⟨_,_,[119,100],[],[(3,[.slot 0 (.one (.int .i64)),.slot 3 (.one (.int .i64)),.slot 4 (.one (.int .i64))])],Tryz.func167,rfl,(by kernel_rfl),rfl,(by kernel_rfl),(by kernel_rfl)⟩⟩
def b168:Cmd:=(.seq (.region [(o 2 (.mov (.const (.int .u32 0))))]) (.seq (.region [(m 3 0),(os 4 (.call false 193 [(.const (.int .u32 0)),(T 3)]) (.val (.one (.int .u32)))),(m 2 4)]) .ret))
noncomputable def c168:FnC:=⟨168,5,[(.tmp 2)],b168,false,[(.one .str)],.val (.one (.int .u32)),none,false,[]⟩
theorem is168:IsFn Tryz.prog 168 c168:=⟨⟨_,_,[119,100],[],[],Tryz.func168,rfl,(by kernel_rfl),rfl,(by kernel_rfl),(by kernel_rfl)⟩⟩
@[irreducible] noncomputable def b169:Cmd:=((Tryz.f169.body).bind (trC Tryz.prog [119,100] 169 [] [])).getD .skip
noncomputable def c169:FnC:=⟨169,19,[(.tmp 2),(.tmp 3)],b169,false,[(.one .str)],.tup [(.one .str),(.one (.int .i64))],none,false,[]⟩
theorem is169:IsFn Tryz.prog 169 c169:=⟨⟨_,_,[119,100],[],[],Tryz.func169,rfl,(by kernel_rfl),rfl,(by kernel_rfl),(by kernel_rfl)⟩⟩
@[irreducible] noncomputable def b170:Cmd:=((Tryz.f170.body).bind (trC Tryz.prog [119,100] 170 [] [(2,[.slot 0 (.one (.slo 1)),.slot 1 (.one (.int .i64)),.slot 7 (.one (.int .i64)),.slot 8 (.one (.int .i64))])])).getD .skip
noncomputable def c170:FnC:=⟨170,19,[(.tmp 4)],b170,false,[(.one (.slo 1)),(.one (.int .i64))],.val (.one (.int .i64)),none,false,[]⟩
theorem is170:IsFn Tryz.prog 170 c170:=⟨⟨_,_,[119,100],[],[(2,[.slot 0 (.one (.slo 1)),.slot 1 (.one (.int .i64)),.slot 7 (.one (.int .i64)),.slot 8 (.one (.int .i64))])],Tryz.func170,rfl,(by kernel_rfl),rfl,(by kernel_rfl),(by kernel_rfl)⟩⟩
@[irreducible] noncomputable def b184:Cmd:=((Tryz.f184.body).bind (trC Tryz.prog [119,100] 184 [] [])).getD .skip
noncomputable def c184:FnC:=⟨184,35,[(.tmp 4),(.tmp 5),(.tmp 6)],b184,false,[(.one .str),(.one (.int .i64))],.tup [(.one .str),(.one (.int .i64)),(.one (.int .i64))],none,false,[]⟩
theorem is184:IsFn Tryz.prog 184 c184:=⟨⟨_,_,[119,100],[],[],Tryz.func184,rfl,(by kernel_rfl),rfl,(by kernel_rfl),(by kernel_rfl)⟩⟩
@[irreducible] noncomputable def b186:Cmd:=((Tryz.f186.body).bind (trC Tryz.prog [119,100] 186 [] [])).getD .skip
noncomputable def c186:FnC:=⟨186,24,[(.tmp 4)],b186,false,[(.one (.slo 1)),(.one (.int .i64))],.val (.one .str),none,false,[]⟩
theorem is186:IsFn Tryz.prog 186 c186:=⟨⟨_,_,[119,100],[],[],Tryz.func186,rfl,(by kernel_rfl),rfl,(by kernel_rfl),(by kernel_rfl)⟩⟩
@[irreducible] noncomputable def b193:Cmd:=((Tryz.f193.body).bind (trC Tryz.prog [119,100] 193 [] [(3,[.slot 1 (.one .str),.slot 5 (.one (.int .u32)),.slot 6 (.one (.int .i64))]),(6,[.slot 1 (.one .str),.slot 5 (.one (.int .u32)),.slot 6 (.one (.int .i64)),.slot 7 (.one (.int .i64))])])).getD .skip
noncomputable def c193:FnC:=⟨193,41,[(.tmp 4)],b193,false,[(.one (.int .u32)),(.one .str)],.val (.one (.int .u32)),none,false,[]⟩
theorem is193:IsFn Tryz.prog 193 c193:=⟨⟨_,_,[119,100],[],[(3,[.slot 1 (.one .str),.slot 5 (.one (.int .u32)),.slot 6 (.one (.int .i64))]),(6,[.slot 1 (.one .str),.slot 5 (.one (.int .u32)),.slot 6 (.one (.int .i64)),.slot 7 (.one (.int .i64))])],Tryz.func193,rfl,(by kernel_rfl),rfl,(by kernel_rfl),(by kernel_rfl)⟩⟩
@[irreducible] noncomputable def b245:Cmd:=((Tryz.f245.body).bind (trC Tryz.prog [119,100] 245 [] [])).getD .skip
noncomputable def c245:FnC:=⟨245,36,[(.tmp 4),(.tmp 5),(.tmp 6)],b245,false,[(.one .str),(.one (.int .i64))],.tup [(.one .str),(.one (.int .i64)),(.one (.int .i64))],none,false,[]⟩
theorem is245:IsFn Tryz.prog 245 c245:=⟨⟨_,_,[119,100],[],[],Tryz.func245,rfl,(by kernel_rfl),rfl,(by kernel_rfl),(by kernel_rfl)⟩⟩
noncomputable def funs:List (Nat×Fun):=[(13,.code c13),(22,.code c22),(36,.code c36),(38,.code c38),(39,.code c39),(41,.code c41),(42,.code c42),(45,.code c45),(50,.code c50),(53,.code c53),(54,.code c54),(55,.code c55),(56,.code c56),(57,.code c57),(66,.code c66),(68,.code c68),(72,.code c72),(78,.code c78),(79,.code c79),(80,.code c80),(81,.code c81),(82,.code c82),(83,.code c83),(84,.code c84),(86,.code c86),(87,.code c87),(88,.code c88),(89,.code c89),(90,.code c90),(93,.code c93),(95,.code c95),(99,.code c99),(101,.code c101),(102,.code c102),(103,.code c103),(109,.code c109),(110,.code c110),(120,.code c120),(127,.code c127),(129,.code c129),(130,.code c130),(131,.code c131),(133,.code c133),(134,.code c134),(135,.code c135),(136,.code c136),(138,.code c138),(139,.code c139),(140,.code c140),(142,.code c142),(155,.code c155),(156,.code c156),(163,.code c163),(167,.code c167),(168,.code c168),(169,.code c169),(170,.code c170),(184,.code c184),(186,.code c186),(193,.code c193),(245,.code c245),(128,.prim none joinP),(126,.prim none trimP),(187,.prim none repeatP),(119,.prim (some (11900001,9,1,false)) (cloneP 11900001 9 1 16)),(100,.prim (some (10000001,88,2,false)) (cloneP 10000001 88 2 24))]
noncomputable def Fs:Nat→Option Fun:=table funs
set_option maxRecDepth 100000 in
theorem company:Company Tryz.prog Fs:=
 .cons is13 <| .cons is22 <| .cons is36 <| .cons is38 <| .cons is39 <| .cons is41 <| .cons is42 <| .cons is45 <| .cons is50 <| .cons is53 <| .cons is54 <| .cons is55 <| .cons is56 <| .cons is57 <| .cons is66 <| .cons is68 <| .cons is72 <| .cons is78 <| .cons is79 <| .cons is80 <| .cons is81 <| .cons is82 <| .cons is83 <| .cons is84 <| .cons is86 <| .cons is87 <| .cons is88 <| .cons is89 <| .cons is90 <| .cons is93 <| .cons is95 <| .cons is99 <| .cons is101 <| .cons is102 <| .cons is103 <| .cons is109 <| .cons is110 <| .cons is120 <| .cons is127 <| .cons is129 <| .cons is130 <| .cons is131 <| .cons is133 <| .cons is134 <| .cons is135 <| .cons is136 <| .cons is138 <| .cons is139 <| .cons is140 <| .cons is142 <| .cons is155 <| .cons is156 <| .cons is163 <| .cons is167 <| .cons is168 <| .cons is169 <| .cons is170 <| .cons is184 <| .cons is186 <| .cons is193 <| .cons is245 <| .cons (join_ok Tryz.lays156 Tryz.Builder_Extra_156) <| .cons (trim_ok Tryz.lays162) <| .cons (repeat_ok Tryz.lays105 Tryz.Builder_Extra_105) <| .cons (clone_at Tryz.laysSlE041_f119 rfl (by kernel_rfl)) <| .cons (clone_at Tryz.laysClone_f100 rfl (by kernel_rfl)) <| .nil
theorem fs13:Fs 13=some (.code c13):=rfl
theorem fs22:Fs 22=some (.code c22):=rfl
theorem fs36:Fs 36=some (.code c36):=rfl
theorem fs38:Fs 38=some (.code c38):=rfl
theorem fs39:Fs 39=some (.code c39):=rfl
theorem fs41:Fs 41=some (.code c41):=rfl
theorem fs42:Fs 42=some (.code c42):=rfl
theorem fs45:Fs 45=some (.code c45):=rfl
theorem fs50:Fs 50=some (.code c50):=rfl
theorem fs53:Fs 53=some (.code c53):=rfl
theorem fs54:Fs 54=some (.code c54):=rfl
theorem fs55:Fs 55=some (.code c55):=rfl
theorem fs56:Fs 56=some (.code c56):=rfl
theorem fs57:Fs 57=some (.code c57):=rfl
theorem fs66:Fs 66=some (.code c66):=rfl
theorem fs68:Fs 68=some (.code c68):=rfl
theorem fs72:Fs 72=some (.code c72):=rfl
theorem fs78:Fs 78=some (.code c78):=rfl
theorem fs79:Fs 79=some (.code c79):=rfl
theorem fs80:Fs 80=some (.code c80):=rfl
theorem fs81:Fs 81=some (.code c81):=rfl
theorem fs82:Fs 82=some (.code c82):=rfl
theorem fs83:Fs 83=some (.code c83):=rfl
theorem fs84:Fs 84=some (.code c84):=rfl
theorem fs86:Fs 86=some (.code c86):=rfl
theorem fs87:Fs 87=some (.code c87):=rfl
theorem fs88:Fs 88=some (.code c88):=rfl
theorem fs89:Fs 89=some (.code c89):=rfl
theorem fs90:Fs 90=some (.code c90):=rfl
theorem fs93:Fs 93=some (.code c93):=rfl
theorem fs95:Fs 95=some (.code c95):=rfl
theorem fs99:Fs 99=some (.code c99):=rfl
theorem fs101:Fs 101=some (.code c101):=rfl
theorem fs102:Fs 102=some (.code c102):=rfl
theorem fs103:Fs 103=some (.code c103):=rfl
theorem fs109:Fs 109=some (.code c109):=rfl
theorem fs110:Fs 110=some (.code c110):=rfl
theorem fs120:Fs 120=some (.code c120):=rfl
theorem fs127:Fs 127=some (.code c127):=rfl
theorem fs129:Fs 129=some (.code c129):=rfl
theorem fs130:Fs 130=some (.code c130):=rfl
theorem fs131:Fs 131=some (.code c131):=rfl
theorem fs133:Fs 133=some (.code c133):=rfl
theorem fs134:Fs 134=some (.code c134):=rfl
theorem fs135:Fs 135=some (.code c135):=rfl
theorem fs136:Fs 136=some (.code c136):=rfl
theorem fs138:Fs 138=some (.code c138):=rfl
theorem fs139:Fs 139=some (.code c139):=rfl
theorem fs140:Fs 140=some (.code c140):=rfl
theorem fs142:Fs 142=some (.code c142):=rfl
theorem fs155:Fs 155=some (.code c155):=rfl
theorem fs156:Fs 156=some (.code c156):=rfl
theorem fs163:Fs 163=some (.code c163):=rfl
theorem fs167:Fs 167=some (.code c167):=rfl
theorem fs168:Fs 168=some (.code c168):=rfl
theorem fs169:Fs 169=some (.code c169):=rfl
theorem fs170:Fs 170=some (.code c170):=rfl
theorem fs184:Fs 184=some (.code c184):=rfl
theorem fs186:Fs 186=some (.code c186):=rfl
theorem fs193:Fs 193=some (.code c193):=rfl
theorem fs245:Fs 245=some (.code c245):=rfl
theorem fs128:Fs 128=some (.prim none joinP):=rfl
theorem fs126:Fs 126=some (.prim none trimP):=rfl
theorem fs187:Fs 187=some (.prim none repeatP):=rfl
theorem fs119:Fs 119=some (.prim (some (11900001,9,1,false)) (cloneP 11900001 9 1 16)):=rfl
theorem fs100:Fs 100=some (.prim (some (10000001,88,2,false)) (cloneP 10000001 88 2 24)):=rfl
end Go.Proofs.YtegndijbpiccgaaGreatDoor.M
