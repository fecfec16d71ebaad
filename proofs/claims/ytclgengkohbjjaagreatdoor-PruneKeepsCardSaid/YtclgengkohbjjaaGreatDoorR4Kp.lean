import Derived.Test.YtclgengkohbjjaaGreatDoorProg
import Derived.Test.YtclgengkohbjjaaGreatDoorMirI
import Derived.Test.YtclgengkohbjjaaGreatDoorMirL
import Derived.KernelRfl
import Derived.Test.YtclgengkohbjjaaGreatDoorR4Eg
import Derived.Test.YtclgengkohbjjaaGreatDoorR4EV
import Derived.Test.YtclgengkohbjjaaGreatDoorR4FunB
import Derived.Test.YtclgengkohbjjaaGreatDoorR4Ord
import Derived.Test.YtclgengkohbjjaaGreatDoorR4LW
import Derived.Test.YtclgengkohbjjaaGreatDoorR4ScanA
namespace Go.Proofs.YtclgengkohbjjaaGreatDoor.M
set_option linter.unusedVariables false
set_option linter.unusedSimpArgs false
open Go Go.Mir Go.Proofs
@[irreducible] noncomputable def b15:Cmd:=((Tryz.f15.body).bind (trC Tryz.prog [50,1000021] 15 [] [])).getD .skip
noncomputable def c15:FnC:=⟨15,14,[(.tmp 2)],b15,false,[(.agg [(.slo 1),(.slo 1),(.slo 1),(.int .i64),(.int .i64)])],.val (.one .bool),none,false,[]⟩
theorem is15:IsFn Tryz.prog 15 c15:=⟨⟨_,_,[50,1000021],[],[],Tryz.func15,rfl,(by kernel_rfl),rfl,(by kernel_rfl),(by kernel_rfl)⟩⟩
@[irreducible] noncomputable def b16:Cmd:=((Tryz.f16.body).bind (trC Tryz.prog [50,1000021] 16 [] [])).getD .skip
noncomputable def c16:FnC:=⟨16,10,[(.tmp 0)],b16,false,[],.val (.one .bool),none,false,[]⟩
theorem is16:IsFn Tryz.prog 16 c16:=⟨⟨_,_,[50,1000021],[],[],Tryz.func16,rfl,(by kernel_rfl),rfl,(by kernel_rfl),(by kernel_rfl)⟩⟩
def b20:Cmd:=(.seq (.region [(o 1 (.box 2000000 (T 0))),(o 2 (.mov (.const (.bool false))))]) (.seq (.region [(os 3 (.ld (T 1) (some 5)) (.val (.agg [(.slo 1),(.slo 1),(.slo 1),(.int .i64),(.int .i64)]))),(o 4 (.build [(.n .nil),(.n .nil),(.n .nil),(.n (.int .i64 0)),(.n (.int .i64 0))] [])),(os 5 (.call false 36 [(T 3),(T 4)]) sB),(m 2 5)]) .ret))
noncomputable def c20:FnC:=⟨20,6,[(.tmp 2)],b20,false,[(.agg [(.slo 1),(.slo 1),(.slo 1),(.int .i64),(.int .i64)])],.val (.one .bool),none,false,[]⟩
theorem is20:IsFn Tryz.prog 20 c20:=⟨⟨_,_,[50,1000021],[],[],Tryz.func20,rfl,(by kernel_rfl),rfl,(by kernel_rfl),(by kernel_rfl)⟩⟩
@[irreducible] noncomputable def b23:Cmd:=((Tryz.f23.body).bind (trC Tryz.prog [50,1000021] 23 [] [(5,[.keepF 23,.keep 1,.slot 3 (.one (.int .i64)),.keep 10,.slot 11 (.one (.int .i64)),.keepO 2300000])])).getD .skip
noncomputable def c23:FnC:=⟨23,21,[(.tmp 2)],b23,false,[(.agg [(.slo 1),(.slo 1)])],.val (.one (.int .i64)),none,false,[]⟩
theorem is23:IsFn Tryz.prog 23 c23:=⟨⟨_,_,[50,1000021],[],[(5,[.keepF 23,.keep 1,.slot 3 (.one (.int .i64)),.keep 10,.slot 11 (.one (.int .i64)),.keepO 2300000])],Tryz.func23,rfl,(by kernel_rfl),rfl,(by kernel_rfl),(by kernel_rfl)⟩⟩
@[irreducible] noncomputable def b26:Cmd:=((Tryz.f26.body).bind (trC Tryz.prog [50,1000021] 26 [(2,([0,1,5],[2600402,2600602,2600603],[],[])),(3,([1,5,9,10,11],[2600402,2600602,2600603],[],[])),(7,([1,5,9,10,11],[2600402,2600602,2600603],[],[]))] [(3,[.keepF 26,.keep 1,.rowIn 5 2600100,.keep 9,.keep 10,.slot 11 (.one (.int .i64)),.row 2600100 48 2 true])])).getD .skip
noncomputable def c26:FnC:=⟨26,25,[(.tmp 4)],b26,false,[(.one (.slo 2)),(.one .str)],.val (.one (.slo 2)),none,false,[]⟩
theorem is26:IsFn Tryz.prog 26 c26:=⟨⟨_,_,[50,1000021],[(2,([0,1,5],[2600402,2600602,2600603],[],[])),(3,([1,5,9,10,11],[2600402,2600602,2600603],[],[])),(7,([1,5,9,10,11],[2600402,2600602,2600603],[],[]))],[(3,[.keepF 26,.keep 1,.rowIn 5 2600100,.keep 9,.keep 10,.slot 11 (.one (.int .i64)),.row 2600100 48 2 true])],Tryz.func26,rfl,(by kernel_rfl),rfl,(by kernel_rfl),(by kernel_rfl)⟩⟩
@[irreducible] noncomputable def b33:Cmd:=((Tryz.f33.body).bind (trC Tryz.prog [50,1000021] 33 [(3,([0,1,2,7,8],[3300502,3300704,3300705,3301002,3301003],[],[])),(4,([1,2,7,8,12,13,14],[3300502,3300704,3300705,3301002,3301003],[],[])),(11,([1,2,7,8,12,13,14],[3300502,3300704,3300705,3301002,3301003],[],[]))] [(4,[.keepF 33,.keep 1,.keep 2,.rowIn 7 3300100,.slot 8 (.one .bool),.keep 12,.keep 13,.slot 14 (.one (.int .i64)),.row 3300100 48 2 true])])).getD .skip
noncomputable def c33:FnC:=⟨33,50,[(.tmp 6)],b33,false,[(.one (.slo 2)),(.one .str),(.one .str)],.val (.one (.slo 2)),none,false,[]⟩
theorem is33:IsFn Tryz.prog 33 c33:=⟨⟨_,_,[50,1000021],[(3,([0,1,2,7,8],[3300502,3300704,3300705,3301002,3301003],[],[])),(4,([1,2,7,8,12,13,14],[3300502,3300704,3300705,3301002,3301003],[],[])),(11,([1,2,7,8,12,13,14],[3300502,3300704,3300705,3301002,3301003],[],[]))],[(4,[.keepF 33,.keep 1,.keep 2,.rowIn 7 3300100,.slot 8 (.one .bool),.keep 12,.keep 13,.slot 14 (.one (.int .i64)),.row 3300100 48 2 true])],Tryz.func33,rfl,(by kernel_rfl),rfl,(by kernel_rfl),(by kernel_rfl)⟩⟩
@[irreducible] noncomputable def b36:Cmd:=((Tryz.f36.body).bind (trC Tryz.prog [50,1000021] 36 [] [(4,[.keepF 36,.keep 2,.keep 3,.keep 47,.slot 48 (.one (.int .i64)),.keepO 3600000,.keepO 3600001])])).getD .skip
noncomputable def c36:FnC:=⟨36,63,[(.tmp 4)],b36,false,[(.agg [(.slo 1),(.slo 1),(.slo 1),(.int .i64),(.int .i64)]),(.agg [(.slo 1),(.slo 1),(.slo 1),(.int .i64),(.int .i64)])],.val (.one .bool),none,false,[]⟩
theorem is36:IsFn Tryz.prog 36 c36:=⟨⟨_,_,[50,1000021],[],[(4,[.keepF 36,.keep 2,.keep 3,.keep 47,.slot 48 (.one (.int .i64)),.keepO 3600000,.keepO 3600001])],Tryz.func36,rfl,(by kernel_rfl),rfl,(by kernel_rfl),(by kernel_rfl)⟩⟩
@[irreducible] noncomputable def b39:Cmd:=((Tryz.f39.body).bind (trC Tryz.prog [50,1000021] 39 [] [])).getD .skip
noncomputable def c39:FnC:=⟨39,29,[(.tmp 2)],b39,false,[(.agg [.str,.str,.bool])],.val (.one .bool),none,false,[]⟩
theorem is39:IsFn Tryz.prog 39 c39:=⟨⟨_,_,[50,1000021],[],[],Tryz.func39,rfl,(by kernel_rfl),rfl,(by kernel_rfl),(by kernel_rfl)⟩⟩
@[irreducible] noncomputable def b40:Cmd:=((Tryz.f40.body).bind (trC Tryz.prog [50,1000021] 40 [] [])).getD .skip
noncomputable def c40:FnC:=⟨40,17,[(.tmp 4)],b40,false,[(.one (.slo 2)),(.agg [.str,.str,.bool])],.val (.one (.slo 2)),none,false,[]⟩
theorem is40:IsFn Tryz.prog 40 c40:=⟨⟨_,_,[50,1000021],[],[],Tryz.func40,rfl,(by kernel_rfl),rfl,(by kernel_rfl),(by kernel_rfl)⟩⟩
@[irreducible] noncomputable def b47:Cmd:=((Tryz.f47.body).bind (trC Tryz.prog [50,1000021] 47 [] [])).getD .skip
noncomputable def c47:FnC:=⟨47,11,[(.cell 2 (some 5))],b47,false,[(.one (.int .i64))],.val (.agg [(.slo 1),(.slo 1),(.slo 1),(.int .i64),(.int .i64)]),none,false,[]⟩
theorem is47:IsFn Tryz.prog 47 c47:=⟨⟨_,_,[50,1000021],[],[],Tryz.func47,rfl,(by kernel_rfl),rfl,(by kernel_rfl),(by kernel_rfl)⟩⟩
@[irreducible] noncomputable def b56:Cmd:=((Tryz.f56.body).bind (trC Tryz.prog [50,1000021] 56 [] [])).getD .skip
noncomputable def c56:FnC:=⟨56,30,[(.tmp 4)],b56,false,[(.agg [(.slo 1),(.slo 1)]),(.one (.int .i64))],.val (.one .bool),none,false,[]⟩
theorem is56:IsFn Tryz.prog 56 c56:=⟨⟨_,_,[50,1000021],[],[],Tryz.func56,rfl,(by kernel_rfl),rfl,(by kernel_rfl),(by kernel_rfl)⟩⟩
@[irreducible] noncomputable def b61:Cmd:=((Tryz.f61.body).bind (trC Tryz.prog [50,1000021] 61 [] [])).getD .skip
noncomputable def c61:FnC:=⟨61,17,[(.tmp 4)],b61,false,[(.agg [(.slo 1),(.slo 1)]),(.agg [(.slo 1),(.slo 1)])],.val (.one .bool),none,false,[]⟩
theorem is61:IsFn Tryz.prog 61 c61:=⟨⟨_,_,[50,1000021],[],[],Tryz.func61,rfl,(by kernel_rfl),rfl,(by kernel_rfl),(by kernel_rfl)⟩⟩
@[irreducible] noncomputable def b89:Cmd:=((Tryz.f89.body).bind (trC Tryz.prog [50,1000021] 89 [] [(4,[.keepF 89,.keep 0,.keep 1,.keep 12,.slot 13 (.one (.int .i64))])])).getD .skip
noncomputable def c89:FnC:=⟨89,26,[(.tmp 4)],b89,false,[(.one (.slo 1)),(.one (.slo 1))],.val (.one .bool),none,false,[]⟩
theorem is89:IsFn Tryz.prog 89 c89:=⟨⟨_,_,[50,1000021],[],[(4,[.keepF 89,.keep 0,.keep 1,.keep 12,.slot 13 (.one (.int .i64))])],Tryz.func89,rfl,(by kernel_rfl),rfl,(by kernel_rfl),(by kernel_rfl)⟩⟩
@[irreducible] noncomputable def b4:Cmd:=((Tryz.f4.body).bind (trC Tryz.prog [50,1000021] 4 [(6,([1,2,5,6,7],[401310,401700,401704,401709],[],[6])),(7,([1,2,5,6,7,8],[401310,401700,401704,401709],[],[])),(8,([1,2,5,6,7,8],[401310,401700,401704,401709],[],[6]))] [(7,[.keepF 4,.keep 1,.keep 2,.keep 5,.slot 6 (.one (.slo 2)),.keep 7,.slot 8 (.one (.int .i64)),.keepO 400000,.keepO 450301,.keepO 460301,.keepO 470301,.box 400501 [(.slo 1),(.slo 1),(.slo 1),(.int .i64),(.int .i64)]]),(21,[.keepF 4,.keep 2,.keep 5,.keep 7,.keep 113,.slot 114 (.one (.int .i64)),.keepO 400000,.keepO 450301,.keepO 460301,.keepO 470301,.keepO 400501])])).getD .skip
noncomputable def c4:FnC:=⟨4,141,[(.tmp 4)],b4,false,[(.agg [(.slo 1),(.slo 1),(.slo 1),(.int .i64),(.int .i64)]),(.one (.slo 1))],.val (.one .bool),none,false,[]⟩
theorem is4:IsFn Tryz.prog 4 c4:=⟨⟨_,_,[50,1000021],[(6,([1,2,5,6,7],[401310,401700,401704,401709],[],[6])),(7,([1,2,5,6,7,8],[401310,401700,401704,401709],[],[])),(8,([1,2,5,6,7,8],[401310,401700,401704,401709],[],[6]))],[(7,[.keepF 4,.keep 1,.keep 2,.keep 5,.slot 6 (.one (.slo 2)),.keep 7,.slot 8 (.one (.int .i64)),.keepO 400000,.keepO 450301,.keepO 460301,.keepO 470301,.box 400501 [(.slo 1),(.slo 1),(.slo 1),(.int .i64),(.int .i64)]]),(21,[.keepF 4,.keep 2,.keep 5,.keep 7,.keep 113,.slot 114 (.one (.int .i64)),.keepO 400000,.keepO 450301,.keepO 460301,.keepO 470301,.keepO 400501])],Tryz.func4,rfl,(by kernel_rfl),rfl,(by kernel_rfl),(by kernel_rfl)⟩⟩
@[irreducible] noncomputable def b11:Cmd:=((Tryz.f11.body).bind (trC Tryz.prog [50,1000021] 11 [(6,([1,2,5,6],[1100802],[],[5])),(7,([1,2,5,6,38,39,40],[1100802],[],[])),(11,([1,2,5,6,38,39,40],[1100802],[],[]))] [(7,[.keepF 11,.keep 1,.keep 2,.slot 5 (.one (.slo 2)),.slot 6 (.one .bool),.keep 38,.keep 39,.slot 40 (.one (.int .i64)),.keepO 1100000])])).getD .skip
noncomputable def c11:FnC:=⟨11,99,[(.tmp 4)],b11,false,[(.agg [(.slo 1),(.slo 1),(.slo 1),(.int .i64),(.int .i64)]),(.one (.slo 3))],.val (.one .bool),none,false,[]⟩
theorem is11:IsFn Tryz.prog 11 c11:=⟨⟨_,_,[50,1000021],[(6,([1,2,5,6],[1100802],[],[5])),(7,([1,2,5,6,38,39,40],[1100802],[],[])),(11,([1,2,5,6,38,39,40],[1100802],[],[]))],[(7,[.keepF 11,.keep 1,.keep 2,.slot 5 (.one (.slo 2)),.slot 6 (.one .bool),.keep 38,.keep 39,.slot 40 (.one (.int .i64)),.keepO 1100000])],Tryz.func11,rfl,(by kernel_rfl),rfl,(by kernel_rfl),(by kernel_rfl)⟩⟩
@[irreducible] noncomputable def b12:Cmd:=((Tryz.f12.body).bind (trC Tryz.prog [50,1000021] 12 [(4,([1,2],[],[],[10076800000])),(6,([1,2,5,6,7,8],[1200803,1201002,1201007],[],[])),(7,([2,5,6,7,8,45,46,47],[1200803,1201002,1201007],[],[])),(13,([2,5,6,7,8,45,46,47],[1200803,1201002,1201007],[],[]))] [(7,[.keepF 12,.keep 2,.keep 5,.keep 6,.keep 7,.keep 8,.keep 45,.keep 46,.slot 47 (.one (.int .i64)),.keepO 1200000,.keepO 1200300,.keepO 1250406,.keepO 1260406,.keepO 1270406,.box 1200501 [(.slo 1),(.slo 1),(.slo 1),(.int .i64),(.int .i64)]])])).getD .skip
noncomputable def c12:FnC:=⟨12,101,[(.tmp 4)],b12,false,[(.agg [(.slo 1),(.slo 1),(.slo 1),(.int .i64),(.int .i64)]),(.one (.slo 3))],.val (.one .bool),none,false,[]⟩
theorem is12:IsFn Tryz.prog 12 c12:=⟨⟨_,_,[50,1000021],[(4,([1,2],[],[],[10076800000])),(6,([1,2,5,6,7,8],[1200803,1201002,1201007],[],[])),(7,([2,5,6,7,8,45,46,47],[1200803,1201002,1201007],[],[])),(13,([2,5,6,7,8,45,46,47],[1200803,1201002,1201007],[],[]))],[(7,[.keepF 12,.keep 2,.keep 5,.keep 6,.keep 7,.keep 8,.keep 45,.keep 46,.slot 47 (.one (.int .i64)),.keepO 1200000,.keepO 1200300,.keepO 1250406,.keepO 1260406,.keepO 1270406,.box 1200501 [(.slo 1),(.slo 1),(.slo 1),(.int .i64),(.int .i64)]])],Tryz.func12,rfl,(by kernel_rfl),rfl,(by kernel_rfl),(by kernel_rfl)⟩⟩
noncomputable def own4:List (Nat×Fun):=[(15,.code c15),(16,.code c16),(20,.code c20),(23,.code c23),(26,.code c26),(33,.code c33),(36,.code c36),(39,.code c39),(40,.code c40),(47,.code c47),(56,.code c56),(61,.code c61),(89,.code c89),(4,.code c4),(11,.code c11),(12,.code c12)]
noncomputable def funs4:List (Nat×Fun):=own4++funs3
noncomputable def Fs4:Nat→Option Fun:=table funs4
set_option maxRecDepth 100000 in
theorem company4:Company Tryz.prog Fs4:=
 .cons is15 <| .cons is16 <| .cons is20 <| .cons is23 <| .cons is26 <| .cons is33 <| .cons is36 <| .cons is39 <| .cons is40 <| .cons is47 <| .cons is56 <| .cons is61 <| .cons is89 <| .cons is4 <| .cons is11 <| .cons is12 <| company3
theorem up4:FsLe Fs3 Fs4:=table_up (by kernel_rfl)
theorem fs15:Fs4 15=some (.code c15):=rfl
theorem fs16:Fs4 16=some (.code c16):=rfl
theorem fs20:Fs4 20=some (.code c20):=rfl
theorem fs23:Fs4 23=some (.code c23):=rfl
theorem fs26:Fs4 26=some (.code c26):=rfl
theorem fs33:Fs4 33=some (.code c33):=rfl
theorem fs36:Fs4 36=some (.code c36):=rfl
theorem fs39:Fs4 39=some (.code c39):=rfl
theorem fs40:Fs4 40=some (.code c40):=rfl
theorem fs47:Fs4 47=some (.code c47):=rfl
theorem fs56:Fs4 56=some (.code c56):=rfl
theorem fs61:Fs4 61=some (.code c61):=rfl
theorem fs89:Fs4 89=some (.code c89):=rfl
theorem fs4:Fs4 4=some (.code c4):=rfl
theorem fs11:Fs4 11=some (.code c11):=rfl
theorem fs12:Fs4 12=some (.code c12):=rfl
end Go.Proofs.YtclgengkohbjjaaGreatDoor.M
namespace Go.Proofs.YtclgengkohbjjaaGreatDoor.M
set_option linter.unusedVariables false
set_option linter.unusedSimpArgs false
open Go Go.Mir
set_option linter.unusedVariables false
def V15 (a0_0:LD) (a0_1:LD) (a0_2:LD) (a0_3:Int) (a0_4:Int) (R:Mir.AV→Prop):Prop:=
 (sel (decide ((a0_1.length:Int)≤300)) (R (.n (.bool (decide ((a0_2.length:Int)≤300))))) (R (.n (.bool false))))
theorem vc15 (a0_0:LD) (a0_1:LD) (a0_2:LD) (a0_3:Int) (a0_4:Int) (R:Mir.AV→Prop):Vc Fs4 c15.body (argsQ c15 [(.agg [(.o (.sl 1 a0_0)),(.o (.sl 1 a0_1)),(.o (.sl 1 a0_2)),(.n (.int .i64 a0_3)),(.n (.int .i64 a0_4))])]) [] (endQ c15 R)=V15 a0_0 a0_1 a0_2 a0_3 a0_4 R:=by kernel_rfl
def V16  (R:Mir.AV→Prop):Prop:=
 (∃x0:LD,(∃x1:LD,(∃x2:LD,(∃x3:Int,(∃x4:Int,((Runs Fs4 47 [(aI 24)] [] (qG_ x0 x1 x2 x3 x4) [])∧(∃x5:LD,(∃x6:LD,(∃x7:LD,(∃x8:Int,(∃x9:Int,(∃x10:Int,((Runs Fs4 17 [(qG_ x0 x1 x2 x3 x4),(aS (ByteArray.mk (List.toArray [97])))] [] (qco_ x5 x6 x7 x8 x9 x10) [])∧(R (.n (.bool (x10==80)))))))))))))))))
def V16e  (R:Mir.AV→Prop):=PLift.up (by delta V16 qD_ qG_ qco_;exact rfl:V16 R=_)
theorem vc16  (R:Mir.AV→Prop):Vc Fs4 c16.body (argsQ c16 []) [] (endQ c16 R)=V16  R:=by kernel_rfl
def V20 (a0_0:LD) (a0_1:LD) (a0_2:LD) (a0_3:Int) (a0_4:Int) (R:Mir.AV→Prop):Prop:=
 (∃x0:Bool,((Runs Fs4 36 [(qG_ a0_0 a0_1 a0_2 a0_3 a0_4),(.agg [(aL []),(aL []),(aL []),(aI 0),(aI 0)])] [] (aB x0) [])∧(R (.n (.bool x0)))))
def V20e (a0_0:LD) (a0_1:LD) (a0_2:LD) (a0_3:Int) (a0_4:Int) (R:Mir.AV→Prop):=PLift.up (by delta V20 qD_ qG_;exact rfl:V20 a0_0 a0_1 a0_2 a0_3 a0_4 R=_)
theorem vc20 (a0_0:LD) (a0_1:LD) (a0_2:LD) (a0_3:Int) (a0_4:Int) (R:Mir.AV→Prop):Vc Fs4 c20.body (argsQ c20 [(.agg [(.o (.sl 1 a0_0)),(.o (.sl 1 a0_1)),(.o (.sl 1 a0_2)),(.n (.int .i64 a0_3)),(.n (.int .i64 a0_4))])]) [] (endQ c20 R)=V20 a0_0 a0_1 a0_2 a0_3 a0_4 R:=by kernel_rfl
abbrev qcW_ (p0 p1:LD):=
 (rh [(hB 2300000 [(aL p0),(aL p1)])])
def V23 (a0_0:LD) (a0_1:LD) (R:Mir.AV→Prop):Prop:=
 (∃x0:Bool,((Runs Fs4 54 [(.agg [(aL a0_0),(aL a0_1)])] [] (aB x0) [])∧(sel (Bool.not x0) (R (.n (.int .i64 0))) (∃x1:(Int→(Int→Prop)),(∃x2:(Int→(Int→Nat)),(((qcW_ a0_0 a0_1)∧(x1 0 0))∧(∀x3:Int,(∀x4:Int,((x1 x3 x4)→(∀x5:(Nat→Mir.AV),(sel (qE_ x4 a0_1) (∃x6:Bool,((Runs Fs4 56 [(.agg [(aL a0_0),(aL a0_1)]),(aI x4)] [] (aB x6) [])∧(sel x6 ((rq (.ptr 2300000 0))∧(qF_ a0_1)∧(qcW_ a0_0 a0_1)∧(x1 (IntKind.wrap .i64 (x3+1)) (IntKind.wrap .i64 (x4+1)))∧(((x2 (IntKind.wrap .i64 (x3+1)) (IntKind.wrap .i64 (x4+1))):Nat)<(x2 x3 x4))) ((rq (.ptr 2300000 0))∧(qF_ a0_1)∧(qcW_ a0_0 a0_1)∧(x1 x3 (IntKind.wrap .i64 (x4+1)))∧(((x2 x3 (IntKind.wrap .i64 (x4+1))):Nat)<(x2 x3 x4)))))) (R (.n (.int .i64 x3))))))))))))))
def V23e (a0_0:LD) (a0_1:LD) (R:Mir.AV→Prop):=PLift.up (by delta V23 qE_ qcW_ qF_;exact rfl:V23 a0_0 a0_1 R=_)
theorem vc23 (a0_0:LD) (a0_1:LD) (R:Mir.AV→Prop):Vc Fs4 c23.body (argsQ c23 [(.agg [(.o (.sl 1 a0_0)),(.o (.sl 1 a0_1))])]) [] (endQ c23 R)=V23 a0_0 a0_1 R:=by kernel_rfl
def V26 (a0:LD) (a1:ByteArray) (R:Mir.AV→Prop):Prop:=
 (∃x0:qcf_,(∃x1:qcg_,(((rh [(2600100,(.row false true 0 48 2 []))])∧(x0 0 0 (0,[])))∧(∀x2:Nat,(∀x3:Int,(∀x4:(Nat×LD),((x0 x2 x3 x4)→(∀x5:(Nat→Mir.AV),(sel (qE_ x3 a0) ((rn 2)∧((0:Int)≤x3)∧(∃x6:Mir.D,((qp_ a0 x3 x6)∧(∃x7:ByteArray,(∃x8:ByteArray,((qbT_ x6 x7 x8)∧(qbU_ x6)∧(sel (Bool.not (qu_ x7 a1)) ((rn 0)∧(qbJ_ x7 x8)∧(((qc_ x4 x2)∧(rn 48))∧(rn 2))∧(qbK_ x4 x7 x8)∧(rq (aS a1))∧(rq (.o (Mir.D.sl 2 a0)))∧(rq (aI (a0.length:Int)))∧(rh [(2600100,(.row false true (x2+1) 48 2 (qbL_ x4 x7 x8)))])∧(x0 (x2+1) (IntKind.wrap .i64 (x3+1)) ((x2+1),(qbL_ x4 x7 x8)))∧(((x1 (x2+1) (IntKind.wrap .i64 (x3+1)) ((x2+1),(qbL_ x4 x7 x8))):Nat)<(x1 x2 x3 x4))) ((rq (aS a1))∧(rq (.o (Mir.D.sl 2 a0)))∧(rq (aI (a0.length:Int)))∧(rh [(2600100,(.row false true (Prod.fst x4) 48 2 (Prod.snd x4)))])∧(x0 x2 (IntKind.wrap .i64 (x3+1)) ((Prod.fst x4),(Prod.snd x4)))∧(((x1 x2 (IntKind.wrap .i64 (x3+1)) ((Prod.fst x4),(Prod.snd x4))):Nat)<(x1 x2 x3 x4)))))))))) (((Prod.fst x4)=x2)∧(R (.o (Mir.D.sl 2 (Prod.snd x4))))))))))))))
def V26e (a0:LD) (a1:ByteArray) (R:Mir.AV→Prop):=PLift.up (by delta V26 qcf_ qc_ qbJ_ qbL_ qbR_ qbU_ qE_ qcg_ q5_ qbK_ qu_ qbT_ qp_;exact rfl:V26 a0 a1 R=_)
theorem vc26 (a0:LD) (a1:ByteArray) (R:Mir.AV→Prop):Vc Fs4 c26.body (argsQ c26 [(.o (.sl 2 a0)),(.n (.str a1))]) [] (endQ c26 R)=V26 a0 a1 R:=by kernel_rfl
abbrev qcX_ (p0 p1 p2:ByteArray) (p3:(Nat×LD)) (p4:Nat) (p5:ByteArray) (p6:LD) (p7:(Nat→(Bool→(Int→((Nat×LD)→Prop))))) (p8:Bool) (p9:Int) (p10:(Nat→(Bool→(Int→((Nat×LD)→Nat))))):=
 (sel (Bool.not (qu_ p0 p1)) ((rn 0)∧(qbJ_ p0 p2)∧(((qc_ p3 p4)∧(rn 48))∧(rn 2))∧(qbK_ p3 p0 p2)∧(rq (aS p1))∧(rq (aS p5))∧(rq (.o (Mir.D.sl 2 p6)))∧(rq (aI (p6.length:Int)))∧(rh [(3300100,(.row false true (p4+1) 48 2 (qbL_ p3 p0 p2)))])∧(p7 (p4+1) p8 (IntKind.wrap .i64 (p9+1)) ((p4+1),(qbL_ p3 p0 p2)))∧(((p10 (p4+1) p8 (IntKind.wrap .i64 (p9+1)) ((p4+1),(qbL_ p3 p0 p2))):Nat)<(p10 p4 p8 p9 p3))) ((rq (aS p1))∧(rq (aS p5))∧(rq (.o (Mir.D.sl 2 p6)))∧(rq (aI (p6.length:Int)))∧(rh [(3300100,(.row false true (Prod.fst p3) 48 2 (Prod.snd p3)))])∧(p7 p4 p8 (IntKind.wrap .i64 (p9+1)) ((Prod.fst p3),(Prod.snd p3)))∧(((p10 p4 p8 (IntKind.wrap .i64 (p9+1)) ((Prod.fst p3),(Prod.snd p3))):Nat)<(p10 p4 p8 p9 p3))))
def V33 (a0:LD) (a1:ByteArray) (a2:ByteArray) (R:Mir.AV→Prop):Prop:=
 (∃x0:(Nat→(Bool→(Int→((Nat×LD)→Prop)))),(∃x1:(Nat→(Bool→(Int→((Nat×LD)→Nat)))),(((rh [(3300100,(.row false true 0 48 2 []))])∧(x0 0 false 0 (0,[])))∧(∀x2:Nat,(∀x3:Bool,(∀x4:Int,(∀x5:(Nat×LD),((x0 x2 x3 x4 x5)→(∀x6:(Nat→Mir.AV),(sel (qE_ x4 a0) ((rn 2)∧((0:Int)≤x4)∧(∃x7:Mir.D,((qp_ a0 x4 x7)∧(∃x8:ByteArray,(∃x9:ByteArray,((qbT_ x7 x8 x9)∧(qbU_ x7)∧(sel (Bool.not x3) (sel (Bool.not (qbq_ x8 a1)) ((rn 0)∧(qbJ_ a1 a2)∧(((qc_ x5 x2)∧(rn 48))∧(rn 2))∧(qbK_ x5 a1 a2)∧(sel (Bool.not (qu_ x8 a1)) ((rn 0)∧(qbJ_ x8 x9)∧(((rn (x2+1))∧(rn 48))∧(rn 2))∧(((((List.length (qbL_ x5 a1 a2))+(List.length [(qbR_ x8 x9)]))*32):Nat)≤140737488355328)∧(rq (aS a1))∧(rq (aS a2))∧(rq (.o (Mir.D.sl 2 a0)))∧(rq (aI (a0.length:Int)))∧(rh [(3300100,(.row false true ((x2+1)+1) 48 2 ((qbL_ x5 a1 a2)++[(qbR_ x8 x9)])))])∧(x0 ((x2+1)+1) true (IntKind.wrap .i64 (x4+1)) (((x2+1)+1),((qbL_ x5 a1 a2)++[(qbR_ x8 x9)])))∧(((x1 ((x2+1)+1) true (IntKind.wrap .i64 (x4+1)) (((x2+1)+1),((qbL_ x5 a1 a2)++[(qbR_ x8 x9)]))):Nat)<(x1 x2 x3 x4 x5))) ((rq (aS a1))∧(rq (aS a2))∧(rq (.o (Mir.D.sl 2 a0)))∧(rq (aI (a0.length:Int)))∧(rh [(3300100,(.row false true (x2+1) 48 2 (qbL_ x5 a1 a2)))])∧(x0 (x2+1) true (IntKind.wrap .i64 (x4+1)) ((x2+1),(qbL_ x5 a1 a2)))∧(((x1 (x2+1) true (IntKind.wrap .i64 (x4+1)) ((x2+1),(qbL_ x5 a1 a2))):Nat)<(x1 x2 x3 x4 x5))))) (qcX_ x8 a1 x9 x5 x2 a2 a0 x0 x3 x4 x1)) (qcX_ x8 a1 x9 x5 x2 a2 a0 x0 x3 x4 x1)))))))) (sel (Bool.not x3) ((rn 0)∧(qbJ_ a1 a2)∧(((qc_ x5 x2)∧(rn 48))∧(rn 2))∧(qbK_ x5 a1 a2)∧((x2+1)=(x2+1))∧(R (.o (Mir.D.sl 2 (qbL_ x5 a1 a2))))) (((Prod.fst x5)=x2)∧(R (.o (Mir.D.sl 2 (Prod.snd x5))))))))))))))))
def V33e (a0:LD) (a1:ByteArray) (a2:ByteArray) (R:Mir.AV→Prop):=PLift.up (by delta V33 qc_ qbJ_ qbL_ qcX_ qbR_ qbU_ qE_ q5_ qbK_ qu_ qbT_ qp_ qbq_;exact rfl:V33 a0 a1 a2 R=_)
theorem vc33 (a0:LD) (a1:ByteArray) (a2:ByteArray) (R:Mir.AV→Prop):Vc Fs4 c33.body (argsQ c33 [(.o (.sl 2 a0)),(.n (.str a1)),(.n (.str a2))]) [] (endQ c33 R)=V33 a0 a1 a2 R:=by kernel_rfl
def V36 (a0_0:LD) (a0_1:LD) (a0_2:LD) (a0_3:Int) (a0_4:Int) (a1_0:LD) (a1_1:LD) (a1_2:LD) (a1_3:Int) (a1_4:Int) (R:Mir.AV→Prop):Prop:=
 (sel (a0_3 != a1_3) (R (.n (.bool false))) (sel (a0_4 != a1_4) (R (.n (.bool false))) (sel (qC_ a0_2 a1_2) (R (.n (.bool false))) (∃x0:Bool,((Runs Fs4 61 [(.agg [(aL a0_0),(aL a0_1)]),(.agg [(aL a1_0),(aL a1_1)])] [] (aB x0) [])∧(sel (Bool.not x0) (R (.n (.bool false))) (∃x1:(Int→Prop),(∃x2:(Int→Nat),(((rh [(hB 3600000 (qD_ a0_0 a0_1 a0_2 a0_3 a0_4)),(hB 3600001 (qD_ a1_0 a1_1 a1_2 a1_3 a1_4))])∧(x1 0))∧(∀x3:Int,((x1 x3)→(∀x4:(Nat→Mir.AV),(sel (qE_ x3 a0_2) ((rn 1)∧((0:Int)≤x3)∧(∃x5:Mir.D,((qp_ a0_2 x3 x5)∧(∃x6:ByteArray,((qr_ x5 x6)∧(rn 1)∧((0:Int)≤x3)∧(∃x7:Mir.D,((qp_ a1_2 x3 x7)∧(∃x8:ByteArray,((qr_ x7 x8)∧(sel (Bool.not (qu_ x6 x8)) (R (.n (.bool false))) ((rq (.ptr 3600000 0))∧(rq (.ptr 3600001 0))∧(qF_ a0_2)∧(rh [(hB 3600000 (qD_ a0_0 a0_1 a0_2 a0_3 a0_4)),(hB 3600001 (qD_ a1_0 a1_1 a1_2 a1_3 a1_4))])∧(x1 (IntKind.wrap .i64 (x3+1)))∧(((x2 (IntKind.wrap .i64 (x3+1))):Nat)<(x2 x3))))))))))))) (R (.n (.bool true))))))))))))))))
def V36e (a0_0:LD) (a0_1:LD) (a0_2:LD) (a0_3:Int) (a0_4:Int) (a1_0:LD) (a1_1:LD) (a1_2:LD) (a1_3:Int) (a1_4:Int) (R:Mir.AV→Prop):=PLift.up (by delta V36 qu_ qr_ qE_ qC_ qD_ qF_ qp_;exact rfl:V36 a0_0 a0_1 a0_2 a0_3 a0_4 a1_0 a1_1 a1_2 a1_3 a1_4 R=_)
theorem vc36 (a0_0:LD) (a0_1:LD) (a0_2:LD) (a0_3:Int) (a0_4:Int) (a1_0:LD) (a1_1:LD) (a1_2:LD) (a1_3:Int) (a1_4:Int) (R:Mir.AV→Prop):Vc Fs4 c36.body (argsQ c36 [(.agg [(.o (.sl 1 a0_0)),(.o (.sl 1 a0_1)),(.o (.sl 1 a0_2)),(.n (.int .i64 a0_3)),(.n (.int .i64 a0_4))]),(.agg [(.o (.sl 1 a1_0)),(.o (.sl 1 a1_1)),(.o (.sl 1 a1_2)),(.n (.int .i64 a1_3)),(.n (.int .i64 a1_4))])]) [] (endQ c36 R)=V36 a0_0 a0_1 a0_2 a0_3 a0_4 a1_0 a1_1 a1_2 a1_3 a1_4 R:=by kernel_rfl
def V39 (a0_0:ByteArray) (a0_1:ByteArray) (a0_2:Bool) (R:Mir.AV→Prop):Prop:=
 (sel (qch_ a0_0) (sel (qci_ a0_0) (sel (decide ((((ByteArray.size a0_1):Nat):Int)≤200)) (sel (Bool.not a0_2) (R (.n (.bool true))) (R (.n (.bool (qz_ a0_1))))) (R (.n (.bool false)))) (R (.n (.bool false)))) (R (.n (.bool false))))
def V39e (a0_0:ByteArray) (a0_1:ByteArray) (a0_2:Bool) (R:Mir.AV→Prop):=PLift.up (by delta V39 qz_ qch_ qci_ qf_;exact rfl:V39 a0_0 a0_1 a0_2 R=_)
theorem vc39 (a0_0:ByteArray) (a0_1:ByteArray) (a0_2:Bool) (R:Mir.AV→Prop):Vc Fs4 c39.body (argsQ c39 [(.agg [(.n (.str a0_0)),(.n (.str a0_1)),(.n (.bool a0_2))])]) [] (endQ c39 R)=V39 a0_0 a0_1 a0_2 R:=by kernel_rfl
def V40 (a0:LD) (a1_0:ByteArray) (a1_1:ByteArray) (a1_2:Bool) (R:Mir.AV→Prop):Prop:=
 (sel a1_2 (∃x0:LD,((Runs Fs4 26 [(.o (Mir.D.sl 2 a0)),(aS a1_0)] [] (.o (Mir.D.sl 2 x0)) [])∧(R (.o (Mir.D.sl 2 x0))))) (∃x1:LD,((Runs Fs4 33 [(.o (Mir.D.sl 2 a0)),(aS a1_0),(aS a1_1)] [] (.o (Mir.D.sl 2 x1)) [])∧(R (.o (Mir.D.sl 2 x1))))))
theorem vc40 (a0:LD) (a1_0:ByteArray) (a1_1:ByteArray) (a1_2:Bool) (R:Mir.AV→Prop):Vc Fs4 c40.body (argsQ c40 [(.o (.sl 2 a0)),(.agg [(.n (.str a1_0)),(.n (.str a1_1)),(.n (.bool a1_2))])]) [] (endQ c40 R)=V40 a0 a1_0 a1_1 a1_2 R:=by kernel_rfl
abbrev qcY_ (p0:Int):=
 (mmI false (mmI true p0 24) 200)
def V47 (a0:Int) (R:Mir.AV→Prop):Prop:=
 (∃x0:LD,(∃x1:LD,((Runs Fs4 60 [(aI (qcY_ a0))] [] (.agg [(aL x0),(aL x1)]) [])∧((0:Int)≤(qcY_ a0))∧((((Int.toNat (qcY_ a0))*16):Nat)≤140737488355328)∧(0=0)∧(R (.agg [(.o (.sl 1 x0)),(.o (.sl 1 x1)),(.o (.sl 1 (List.replicate (Int.toNat (qcY_ a0)) (Mir.D.str qf_)))),(.n (.int .i64 0)),(.n (.int .i64 1))])))))
def V47e (a0:Int) (R:Mir.AV→Prop):=PLift.up (by delta V47 qcY_ qf_;exact rfl:V47 a0 R=_)
theorem vc47 (a0:Int) (R:Mir.AV→Prop):Vc Fs4 c47.body (argsQ c47 [(.n (.int .i64 a0))]) [] (endQ c47 R)=V47 a0 R:=by kernel_rfl
def V56 (a0_0:LD) (a0_1:LD) (a1:Int) (R:Mir.AV→Prop):Prop:=
 (sel (decide (a1≥0)) (sel (qE_ a1 a0_1) ((rn 1)∧((0:Int)≤a1)∧(∃x0:Mir.D,((qp_ a0_1 a1 x0)∧(∃x1:Bool,((qN_ x0 x1)∧(sel (Bool.not x1) ((rn 1)∧((0:Int)≤a1)∧(∃x2:Mir.D,((qp_ a0_0 a1 x2)∧(∃x3:Bool,((qN_ x2 x3)∧(R (.n (.bool (Bool.not x3))))))))) (R (.n (.bool false))))))))) (R (.n (.bool false)))) (R (.n (.bool false))))
def V56e (a0_0:LD) (a0_1:LD) (a1:Int) (R:Mir.AV→Prop):=PLift.up (by delta V56 qN_ qE_ qp_;exact rfl:V56 a0_0 a0_1 a1 R=_)
theorem vc56 (a0_0:LD) (a0_1:LD) (a1:Int) (R:Mir.AV→Prop):Vc Fs4 c56.body (argsQ c56 [(.agg [(.o (.sl 1 a0_0)),(.o (.sl 1 a0_1))]),(.n (.int .i64 a1))]) [] (endQ c56 R)=V56 a0_0 a0_1 a1 R:=by kernel_rfl
def V61 (a0_0:LD) (a0_1:LD) (a1_0:LD) (a1_1:LD) (R:Mir.AV→Prop):Prop:=
 (∃x0:Bool,((Runs Fs4 89 [(aL a0_0),(aL a1_0)] [] (aB x0) [])∧(sel x0 (∃x1:Bool,((Runs Fs4 89 [(aL a0_1),(aL a1_1)] [] (aB x1) [])∧(R (.n (.bool x1))))) (R (.n (.bool false))))))
theorem vc61 (a0_0:LD) (a0_1:LD) (a1_0:LD) (a1_1:LD) (R:Mir.AV→Prop):Vc Fs4 c61.body (argsQ c61 [(.agg [(.o (.sl 1 a0_0)),(.o (.sl 1 a0_1))]),(.agg [(.o (.sl 1 a1_0)),(.o (.sl 1 a1_1))])]) [] (endQ c61 R)=V61 a0_0 a0_1 a1_0 a1_1 R:=by kernel_rfl
def V89 (a0:LD) (a1:LD) (R:Mir.AV→Prop):Prop:=
 (sel (qC_ a0 a1) (R (.n (.bool false))) (∃x0:(Int→Prop),(∃x1:(Int→Nat),(((rh [])∧(x0 0))∧(∀x2:Int,((x0 x2)→(∀x3:(Nat→Mir.AV),(sel (qE_ x2 a0) ((rn 1)∧((0:Int)≤x2)∧(∃x4:Mir.D,((qp_ a0 x2 x4)∧(∃x5:Bool,((qN_ x4 x5)∧(rn 1)∧((0:Int)≤x2)∧(∃x6:Mir.D,((qp_ a1 x2 x6)∧(∃x7:Bool,((qN_ x6 x7)∧(sel (Bool.not (x5==x7)) (R (.n (.bool false))) ((rq (aL a0))∧(rq (aL a1))∧(rq (aI (a0.length:Int)))∧(rh [])∧(x0 (IntKind.wrap .i64 (x2+1)))∧(((x1 (IntKind.wrap .i64 (x2+1))):Nat)<(x1 x2))))))))))))) (R (.n (.bool true)))))))))))
def V89e (a0:LD) (a1:LD) (R:Mir.AV→Prop):=PLift.up (by delta V89 qN_ qE_ qC_ qp_;exact rfl:V89 a0 a1 R=_)
theorem vc89 (a0:LD) (a1:LD) (R:Mir.AV→Prop):Vc Fs4 c89.body (argsQ c89 [(.o (.sl 1 a0)),(.o (.sl 1 a1))]) [] (endQ c89 R)=V89 a0 a1 R:=by kernel_rfl
noncomputable instance (a b:Wd):Decidable (a=b):=Classical.propDecidable _
def smallW (w:Wd):Prop:=w.now.length≤300∧w.pages.length≤300
instance (w:Wd):Decidable (smallW w):=by unfold smallW;infer_instance
theorem p15 (w:Wd):Runs Fs4 15 [wdV w] [] (.n (.bool (decide (smallW w)))) []:=by
 refine vc_eq fs15 rfl ?_
 rw[wdV,vc15,V15,blD_len,sl_len]
 refine sel_dec (fun h => ?_) (fun h=>by rw[decide_eq_false (by unfold smallW;omega)])
 congr 2
 rw[decide_eq_decide,smallW]
 omega
theorem p39 (c:Chg):Runs Fs4 39 [.agg [.n (.str c.key),.n (.str c.val),.n (.bool c.gone)]] [] (.n (.bool (decide c.ok))) []:=by
 refine vc_eq fs39 rfl ?_
 rw[vc39,(V39e _ _ _ _).down]
 have no:¬c.ok→AV.n (D.bool false) = .n (.bool (decide c.ok)):=fun h=>by rw[decide_eq_false h]
 refine sel_dec (fun h1=>sel_dec (fun h2=>sel_dec (fun h3=>sel_intro (fun hg => ?_) (fun hg => ?_)) (fun h=>no (by unfold Chg.ok;omega))) (fun h=>no (by unfold Chg.ok;omega))) (fun h=>no (by unfold Chg.ok;omega))
 · have hg:c.gone=false:=by simpa using hg
   rw[decide_eq_true]
   exact ⟨by omega,by omega,by omega,fun h=>by rw[hg]at h;cases h⟩
 · have hg:c.gone=true:=by simpa using hg
   have ev:(c.val.toList==(ByteArray.mk (List.toArray [])).toList)=decide (c.val=empS):=beq_dec c.val empS
   rw[ev]
   congr 2
   rw[decide_eq_decide]
   exact ⟨fun h=>⟨by omega,by omega,by omega,fun _=>h⟩,fun h=>h.2.2.2 hg⟩
theorem p89 (a b:List Bool) (ha:Small a.length):Runs Fs4 89 [.o (.sl 1 (blD a)),.o (.sl 1 (blD b))] [] (.n (.bool (decide (a=b)))) []:=by
 refine vc_eq fs89 rfl ?_
 rw[vc89,(V89e _ _ _).down,blD_len,blD_len]
 refine sel_intro (fun h => ?_) (fun h => ?_)
 · rw[decide_eq_false]
   rintro rfl
   simp at h
 have hl:a.length=b.length:=by
   have:(a.length:Int)=b.length:=by simpa using h
   omega
 refine ⟨fun i=>0≤i∧i≤a.length∧∀j:Nat,(j:Int)<i→a[j]?=b[j]?,fun i=>(a.length - i).toNat,⟨rfl,by omega,by omega,fun j hj=>by omega⟩,?_⟩
 rintro i ⟨h0,h1,hok⟩ _
 refine sel_dec (fun hlt => ?_) (fun hge => ?_)
 · have hi:i.toNat<a.length:=by omega
   have hj:i.toNat<b.length:=by omega
   refine ⟨rfl,h0,_,blD_at hi,_,rfl,rfl,h0,_,blD_at hj,_,rfl,?_⟩
   refine sel_intro (fun hx => ?_) (fun hx => ?_)
   · rw[decide_eq_false]
     rintro rfl
     simp at hx
   · have hx:a[i.toNat]=b[i.toNat]:=by simpa using hx
     repeat (refine And.intro rfl ?_)
     rw[i64_in _ (by omega)]
     refine ⟨⟨by omega,by omega,fun j hji => ?_⟩,by first|omega|(dsimp only;omega)⟩
     by_cases e:(j:Int)<i
     · exact hok j e
     · obtain rfl:j=i.toNat:=by omega
       rw[List.getElem?_eq_getElem hi,List.getElem?_eq_getElem hj,hx]
 · rw[decide_eq_true]
   refine List.ext_getElem? fun j => ?_
   by_cases hj:j<a.length
   · exact hok j (by omega)
   · rw[List.getElem?_eq_none (by omega),List.getElem?_eq_none (by omega)]
theorem p61 (a b c d:List Bool) (ha:Small a.length) (hb:Small b.length):Runs Fs4 61 [alV a b,alV c d] [] (.n (.bool (decide (a=c∧b=d)))) []:=by
 have g1:=p89 a c ha
 have g2:=p89 b d hb
 refine vc_eq fs61 rfl ?_
 rw[alV,alV,vc61,V61]
 refine ⟨_,g1,sel_dec (fun h=>⟨_,g2,?_⟩) (fun h=>by rw[decide_eq_false (fun hh=>h hh.1)])⟩
 congr 2
 rw[decide_eq_decide]
 exact ⟨fun h2=>⟨h,h2⟩,fun h2=>h2.2⟩
theorem wd_ext {a b:Wd} (h1:a.base=b.base) (h2:a.now=b.now) (h3:a.pages=b.pages) (h4:a.root=b.root) (h5:a.gen=b.gen):a=b:=by
 cases a;cases b;simp_all
theorem p36 (a b:Wd) (hf:WFits a):Runs Fs4 36 [wdV a,wdV b] [] (.n (.bool (decide (a=b)))) []:=by
 have g1:=p61 a.base a.now b.base b.now hf.b hf.n
 have no:a≠b→AV.n (D.bool false) = .n (.bool (decide (a=b))):=fun h=>by rw[decide_eq_false h]
 refine vc_eq fs36 rfl ?_
 rw[wdV,wdV,vc36,(V36e _ _ _ _ _ _ _ _ _ _ _).down,sl_len,sl_len]
 refine sel_intro (fun h=>no (by rintro rfl;simp at h)) (fun h1=>sel_intro (fun h=>no (by rintro rfl;simp at h)) (fun h2=>sel_intro (fun h=>no (by rintro rfl;simp at h)) (fun h3=>⟨_,g1,?_⟩)))
 have h1:a.root=b.root:=by simpa using h1
 have h2:a.gen=b.gen:=by simpa using h2
 have hl:a.pages.length=b.pages.length:=by
   have:(a.pages.length:Int)=b.pages.length:=by simpa using h3
   omega
 by_cases hc:a.base=b.base∧a.now=b.now
 · rw[decide_eq_true hc]
   refine sel_intro (fun h=>by cases h) (fun _ => ?_)
   refine ⟨fun i=>0≤i∧i≤a.pages.length∧∀j:Nat,(j:Int)<i→a.pages[j]?=b.pages[j]?,fun i=>(a.pages.length - i).toNat,⟨rfl,by omega,by omega,fun j hj=>by omega⟩,?_⟩
   rintro i ⟨h0,h1',hok⟩ _
   have hs:=hf.p
   refine sel_dec (fun hlt => ?_) (fun hge => ?_)
   · have hi:i.toNat<a.pages.length:=by omega
     have hj:i.toNat<b.pages.length:=by omega
     refine ⟨rfl,h0,_,sl_at hi,_,rfl,rfl,h0,_,sl_at hj,_,rfl,sel_nb (fun hx => ?_) (fun hx => ?_)⟩
     · refine no fun e=>hx ?_
       subst e;rfl
     · repeat (refine And.intro rfl ?_)
       rw[i64_in _ (by omega)]
       refine ⟨⟨by omega,by omega,fun j hji => ?_⟩,by first|omega|(dsimp only;omega)⟩
       by_cases e:(j:Int)<i
       · exact hok j e
       · obtain rfl:j=i.toNat:=by omega
         rw[List.getElem?_eq_getElem hi,List.getElem?_eq_getElem hj,hx]
   · rw[decide_eq_true]
     refine wd_ext hc.1 hc.2 (List.ext_getElem? fun j => ?_) h1 h2
     by_cases hj:j<a.pages.length
     · exact hok j (by omega)
     · rw[List.getElem?_eq_none (by omega),List.getElem?_eq_none (by omega)]
 · rw[decide_eq_false hc]
   exact sel_intro (fun _=>no fun e=>hc ⟨by rw[e],by rw[e]⟩) (fun h=>by cases h)
theorem p20 (w:Wd) (hf:WFits w):Runs Fs4 20 [wdV w] [] (.n (.bool (decide (w=wd0)))) []:=by
 have g:=p36 w wd0 hf
 refine vc_eq fs20 rfl ?_
 rw[wdV,vc20,(V20e _ _ _ _ _ _).down]
 exact ⟨_,g,rfl⟩
theorem p56 (w:Wd) (hl:w.base.length=w.now.length) (i:Int) (h0:0≤i) (hi:i<w.now.length):Runs Fs4 56 [alV w.base w.now,.n (.int .i64 i)] [] (.n (.bool (freeAt w i.toNat))) []:=by
 refine vc_eq fs56 rfl ?_
 rw[alV,vc56,(V56e _ _ _ _).down,blD_len]
 have ib:i.toNat<w.base.length:=by omega
 have ia:i.toNat<w.now.length:=by omega
 refine sel_dec (fun _=>sel_dec (fun _=>⟨rfl,h0,_,blD_at ia,_,rfl,sel_intro (fun h=>⟨rfl,h0,_,blD_at ib,_,rfl,?_⟩) (fun h => ?_)⟩) (fun h=>absurd hi h)) (fun h=>absurd h0 h)
 · have h:w.now[i.toNat]=false:=by simpa using h
   rw[freeAt,tr_at ia,tr_at ib,h];simp
 · have h:w.now[i.toNat]=true:=by simpa using h
   rw[freeAt,tr_at ia,h];simp
theorem cntUp_le (w:Wd):∀n,cntUp w n≤n
 | 0=>Nat.le_refl 0
 | n+1=>by
   have:=cntUp_le w n
   unfold cntUp
   split <;> omega
theorem p23 (w:Wd) (hr:ARight w.base w.now):Runs Fs4 23 [alV w.base w.now] [] (.n (.int .i64 (cnt w))) []:=by
 obtain ⟨hl,h24,h2048,_⟩:=id hr
 have g:=((p54 w.base w.now (by omega) (by omega)).up up3).up up4
 refine vc_eq fs23 rfl ?_
 rw[alV,vc23,(V23e _ _ _).down,blD_len]
 rw[decide_eq_true hr]at g
 refine ⟨_,g,sel_intro (fun h=>by cases h) (fun _ => ?_)⟩
 refine ⟨fun n i=>0≤i∧i≤w.now.length∧n=cntUp w i.toNat,fun n i=>(w.now.length - i).toNat,⟨rfl,by omega,by omega,rfl⟩,?_⟩
 rintro n i ⟨h0,h1,rfl⟩ _
 have hle:=cntUp_le w i.toNat
 refine sel_dec (fun hlt=>⟨_,p56 w hl i h0 hlt,sel_intro (fun hf => ?_) (fun hf => ?_)⟩) (fun hge => ?_)
 · repeat (refine And.intro rfl ?_)
   rw[i64_in _ (by omega),i64_in _ (by omega)]
   refine ⟨⟨by omega,by omega,?_⟩,by first|omega|(dsimp only;omega)⟩
   rw[show (i+1).toNat=i.toNat+1 by omega,cntUp,if_pos hf];omega
 · repeat (refine And.intro rfl ?_)
   rw[i64_in (i+1) (by omega)]
   refine ⟨⟨by omega,by omega,?_⟩,by first|omega|(dsimp only;omega)⟩
   rw[show (i+1).toNat=i.toNat+1 by omega,cntUp,if_neg (by rw[hf];simp)];omega
 · rw[show i.toNat=w.now.length by omega];rfl
theorem p26 (P:List Pr) (hP:P.length≤1000000) (key:ByteArray):Runs Fs4 26 [.o (.sl 2 (psD P)),.n (.str key)] [] (.o (.sl 2 (psD (P.filter fun p=>decide (p.1≠key))))) []:=by
 refine vc_eq fs26 rfl ?_
 rw[vc26,(V26e _ _ _).down,psD_len]
 refine ⟨fun v i r=>0≤i∧i≤P.length∧r.1=v∧∃A:List Pr,r.2=psD A∧A.length≤i.toNat∧A++(P.drop i.toNat).filter (fun p=>decide (p.1≠key))=P.filter fun p=>decide (p.1≠key),fun _ i _=>(P.length - i).toNat,⟨rfl,by omega,by omega,rfl,[],rfl,by simp,by simp⟩,?_⟩
 rintro v i ⟨_,_⟩ ⟨h0,h1,rfl,A,rfl,hA,hq⟩ _
 refine sel_dec (fun hlt => ?_) (fun hge => ?_)
 · have hi:i.toNat<P.length:=by omega
   rw[drop_at' hi,List.filter_cons]at hq
   refine ⟨rfl,h0,_,psD_at hi,_,_,rfl,Nat.le_refl 2,sel_nb (fun hx => ?_) (fun hx => ?_)⟩
   · rw[if_pos (by simpa using hx)]at hq
     refine ⟨rfl,.inl rfl,⟨⟨rfl,rfl⟩,rfl⟩,by simp only[psD_len,List.length_singleton];omega,?_⟩
     repeat (refine And.intro rfl ?_)
     rw[i64_in _ (by omega),psD_snoc]
     refine ⟨⟨by omega,by omega,rfl,_,rfl,by simp only[List.length_append,List.length_singleton];omega,?_⟩,by first|omega|(dsimp only;omega)⟩
     rw[show (i+1).toNat=i.toNat+1 by omega,List.append_assoc];exact hq
   · rw[if_neg (by simpa using hx)]at hq
     repeat (refine And.intro rfl ?_)
     rw[i64_in _ (by omega)]
     refine ⟨⟨by omega,by omega,rfl,A,rfl,by omega,?_⟩,by first|omega|(dsimp only;omega)⟩
     rw[show (i+1).toNat=i.toNat+1 by omega];exact hq
 · rw[List.drop_eq_nil_of_le (by omega)]at hq
   simp only[List.filter_nil,List.append_nil]at hq
   rw[←hq];exact ⟨rfl,rfl⟩
theorem p33 (P:List Pr) (hP:P.length≤1000000) (key val:ByteArray):Runs Fs4 33 [.o (.sl 2 (psD P)),.n (.str key),.n (.str val)] [] (.o (.sl 2 (psD (withR key val false P)))) []:=by
 refine vc_eq fs33 rfl ?_
 rw[vc33,(V33e _ _ _ _).down,psD_len]
 refine ⟨fun v put i r=>0≤i∧i≤P.length∧r.1=v∧∃A:List Pr,r.2=psD A∧A.length≤i.toNat+1∧A++withR key val put (P.drop i.toNat)=withR key val false P∧(put=false→A.length≤i.toNat),fun _ _ i _=>(P.length - i).toNat,⟨rfl,by omega,by omega,rfl,[],rfl,by simp,by simp,by simp⟩,?_⟩
 rintro v put i ⟨_,_⟩ ⟨h0,h1,rfl,A,rfl,hA,hq,hpt⟩ _
 have go:∀ {A':List Pr} {put':Bool},i.toNat<P.length→A'.length≤i.toNat+2→A'++withR key val put' (P.drop (i.toNat+1))=withR key val false P→(put'=false→A'.length≤i.toNat+1)→0≤i+1∧i+1≤(P.length:Int)∧∃B:List Pr,psD A'=psD B∧B.length≤(i+1).toNat+1∧B++withR key val put' (P.drop (i+1).toNat)=withR key val false P∧(put'=false→B.length≤(i+1).toNat):=fun {A' put'} hi g1 g2 g3=>by
   refine ⟨by omega,by omega,A',rfl,by omega,?_,fun h=>by have:=g3 h;omega⟩
   rw[show (i+1).toNat=i.toNat+1 by omega];exact g2
 refine sel_dec (fun hlt => ?_) (fun hge => ?_)
 · have hi:i.toNat<P.length:=by omega
   rw[drop_at' hi,withR]at hq
   refine ⟨rfl,h0,_,psD_at hi,_,_,rfl,Nat.le_refl 2,?_⟩
   have lb:∀(B:List Pr) (p:Pr),B.length≤i.toNat+1→(List.length (psD B)+List.length [D.rcd [.str p.1,.str p.2]])*32≤140737488355328:=fun B p h=>by
     rw[psD_len,List.length_singleton];omega
   have plain:∀ {put':Bool},(put'=put)→A++((if P[i.toNat].1=key then [] else [P[i.toNat]])++withR key val put (P.drop (i.toNat+1)))=withR key val false P→put'=put:=fun h _=>h
   by_cases hput:put=true
   · subst hput
     have e:A++((if P[i.toNat].1=key then [] else [P[i.toNat]])++withR key val true (P.drop (i.toNat+1)))=withR key val false P:=by
       rw[←hq];simp
     refine sel_intro (fun h=>by cases h) (fun _=>sel_nb (fun hx => ?_) (fun hx => ?_))
     · rw[if_neg hx]at e
       refine ⟨rfl,.inl rfl,⟨⟨rfl,rfl⟩,rfl⟩,lb A P[i.toNat] (by omega),?_⟩
       repeat (refine And.intro rfl ?_)
       rw[i64_in _ (by omega),psD_snoc]
       obtain ⟨q1,q2,B,q3,q4,q5,q6⟩:=go (A':=A++[P[i.toNat]]) (put':=true) hi (by simp only[List.length_append,List.length_singleton];omega) (by rw[List.append_assoc];exact e) (fun h=>by cases h)
       exact ⟨⟨q1,q2,rfl,B,q3,q4,q5,q6⟩,by first|omega|(dsimp only;omega)⟩
     · rw[if_pos hx]at e
       repeat (refine And.intro rfl ?_)
       rw[i64_in _ (by omega)]
       obtain ⟨q1,q2,B,q3,q4,q5,q6⟩:=go (A':=A) (put':=true) hi (by omega) e (fun h=>by cases h)
       exact ⟨⟨q1,q2,rfl,B,q3,q4,q5,q6⟩,by first|omega|(dsimp only;omega)⟩
   · obtain rfl:put=false:=by simpa using hput
     have hA':=hpt rfl
     refine sel_intro (fun _=>sel_intro (fun hl => ?_) (fun hl => ?_)) (fun h=>by cases h)
     · have hl:lt P[i.toNat].1 key=false:=by simpa[lt] using hl
       have e:A++([(key,val)]++((if P[i.toNat].1=key then [] else [P[i.toNat]])++withR key val true (P.drop (i.toNat+1))))=withR key val false P:=by
         rw[←hq,hl];simp
       refine ⟨rfl,.inl rfl,⟨⟨rfl,rfl⟩,rfl⟩,lb A (key,val) (by omega),?_⟩
       rw[psD_snoc]
       refine sel_nb (fun hx => ?_) (fun hx => ?_)
       · rw[if_neg hx]at e
         refine ⟨rfl,.inl rfl,⟨⟨rfl,rfl⟩,rfl⟩,lb (A++[(key,val)]) P[i.toNat] (by simp only[List.length_append,List.length_singleton];omega),?_⟩
         repeat (refine And.intro rfl ?_)
         rw[i64_in _ (by omega),psD_snoc]
         obtain ⟨q1,q2,B,q3,q4,q5,q6⟩:=go (A':=A++[(key,val)]++[P[i.toNat]]) (put':=true) hi (by simp only[List.length_append,List.length_singleton];omega) (by rw[List.append_assoc,List.append_assoc];exact e) (fun h=>by cases h)
         exact ⟨⟨q1,q2,rfl,B,q3,q4,q5,q6⟩,by first|omega|(dsimp only;omega)⟩
       · rw[if_pos hx]at e
         repeat (refine And.intro rfl ?_)
         rw[i64_in _ (by omega)]
         obtain ⟨q1,q2,B,q3,q4,q5,q6⟩:=go (A':=A++[(key,val)]) (put':=true) hi (by simp only[List.length_append,List.length_singleton];omega) (by rw[List.append_assoc];exact e) (fun h=>by cases h)
         exact ⟨⟨q1,q2,rfl,B,q3,q4,q5,q6⟩,by first|omega|(dsimp only;omega)⟩
     · have hl:lt P[i.toNat].1 key=true:=by simpa[lt] using hl
       have e:A++((if P[i.toNat].1=key then [] else [P[i.toNat]])++withR key val false (P.drop (i.toNat+1)))=withR key val false P:=by
         rw[←hq,hl];simp
       refine sel_nb (fun hx => ?_) (fun hx => ?_)
       · rw[if_neg hx]at e
         refine ⟨rfl,.inl rfl,⟨⟨rfl,rfl⟩,rfl⟩,lb A P[i.toNat] (by omega),?_⟩
         repeat (refine And.intro rfl ?_)
         rw[i64_in _ (by omega),psD_snoc]
         obtain ⟨q1,q2,B,q3,q4,q5,q6⟩:=go (A':=A++[P[i.toNat]]) (put':=false) hi (by simp only[List.length_append,List.length_singleton];omega) (by rw[List.append_assoc];exact e) (fun h=>by simp only[List.length_append,List.length_singleton];omega)
         exact ⟨⟨q1,q2,rfl,B,q3,q4,q5,q6⟩,by first|omega|(dsimp only;omega)⟩
       · rw[if_pos hx]at e
         repeat (refine And.intro rfl ?_)
         rw[i64_in _ (by omega)]
         obtain ⟨q1,q2,B,q3,q4,q5,q6⟩:=go (A':=A) (put':=false) hi (by omega) e (fun h=>by omega)
         exact ⟨⟨q1,q2,rfl,B,q3,q4,q5,q6⟩,by first|omega|(dsimp only;omega)⟩
 · rw[List.drop_eq_nil_of_le (by omega),withR]at hq
   cases put with
   | true=>
     refine sel_intro (fun h=>by cases h) (fun _=>⟨rfl,?_⟩)
     rw[if_pos rfl,List.append_nil]at hq
     rw[hq]
   | false=>
     refine sel_intro (fun _=>⟨rfl,.inl rfl,⟨⟨rfl,rfl⟩,rfl⟩,by simp only[psD_len,List.length_singleton];omega,rfl,?_⟩) (fun h=>by cases h)
     rw[psD_snoc]
     rw[if_neg (by simp)]at hq
     rw[hq]
def chgR (P:List Pr) (c:Chg):List Pr:=if c.gone then P.filter (fun p=>decide (p.1≠c.key)) else withR c.key c.val false P
theorem chgR_ok {P:List Pr} {c:Chg} (h:Inc P):chgR P c=chP P c:=by
 unfold chgR chP
 rw[wioR_ok h,withR_ok h]
theorem p40 (P:List Pr) (hP:P.length≤1000000) (c:Chg):Runs Fs4 40 [.o (.sl 2 (psD P)),.agg [.n (.str c.key),.n (.str c.val),.n (.bool c.gone)]] [] (.o (.sl 2 (psD (chgR P c)))) []:=by
 refine vc_eq fs40 rfl ?_
 rw[vc40,V40]
 refine sel_intro (fun h => ?_) (fun h => ?_)
 · exact ⟨_,p26 P hP c.key,by rw[chgR,if_pos h]⟩
 · exact ⟨_,p33 P hP c.key c.val,by rw[chgR,if_neg (by rw[h];simp)]⟩
def clampN (n:Int):Nat:=(mmI false (mmI true n 24) 200).toNat
theorem clampN_le (n:Int):24≤clampN n∧clampN n≤200:=by
 unfold clampN mmI
 simp only[if_true,Bool.false_eq_true,if_false]
 split <;> split <;> omega
theorem clampN_eq (n:Int):mmI false (mmI true n 24) 200=(clampN n:Int):=by
 unfold clampN mmI
 simp only[if_true,Bool.false_eq_true,if_false]
 split <;> split <;> omega
theorem p47 (n:Int):Runs Fs4 47 [.n (.int .i64 n)] [] (wdV (newW (clampN n))) []:=by
 have hc:=clampN_le n
 have g:=((p60 (clampN n) (by omega)).up up3).up up4
 refine vc_eq fs47 rfl ?_
 rw[vc47,(V47e _ _).down,clampN_eq]
 refine ⟨_,_,g,by omega,by omega,rfl,?_⟩
 rw[Int.toNat_natCast,sl_rep];rfl
theorem newW_fits (n:Nat) (h:n≤2048):WFits (newW n):=⟨by simp[newW,newRow];omega,by simp[newW,newRow];omega,by simp[newW];omega,fun s hs=>by
 rw[List.eq_of_mem_replicate hs];decide⟩
theorem p16:Runs Fs4 16 [] [] (.n (.bool true)) []:=by
 have g:=(p17 (newW 24) (newW_fits 24 (by decide)) (ByteArray.mk (List.toArray [97]))).up up4
 have e:delW (newW 24) (ByteArray.mk (List.toArray [97]))=(wd0,80):=by
  rw[delW,if_neg (fun h=>h ⟨newW_right (by decide) (by decide),by decide⟩),if_pos (show (newW 24).root=0 from rfl)]
 rw[e]at g
 refine vc_eq fs16 rfl ?_
 rw[vc16,(V16e _).down]
 exact ⟨_,_,_,_,_,p47 24,_,_,_,_,_,_,g,rfl⟩
theorem p27' (l:List Int) (hl:Small l.length) (b:Int):Runs Fs4 27 [.o (.sl 1 (il l)),.n (.int .i64 b)] [] (.n (.bool (decide (b∈l)))) []:=((p27 l hl b).up up3).up up4
theorem t21 (w:Wd) (hf:WFits w) (hn:w.now.length≤2048):∃va vb,Runs Fs4 21 [wdV w] [] (.ptr 2100101 0) (hT (treeW w) va vb):=by
 obtain ⟨va,vb,g⟩:=p21 w hf hn
 exact ⟨va,vb,(g.up up3).up up4⟩
theorem wd0_fits:WFits wd0:=⟨by decide,by decide,by decide,fun s hs=>by cases hs⟩
theorem p20t:Runs Fs4 20 [wdV wd0] [] (.n (.bool true)) []:=by
 have g:=p20 wd0 wd0_fits
 rw[decide_eq_true rfl]at g
 exact g
theorem p18' (w:Wd) (hf:WFits w):Runs Fs4 18 [wdV w] [] (.n (.bool (decide (WRight w)))) []:=((p18 w hf).up up3).up up4
theorem p25t (a b:List Pr) (e:a=b) (ha:Small a.length):Runs Fs4 25 [.o (.sl 2 (psD a)),.o (.sl 2 (psD b))] [] (.n (.bool true)) []:=by
 subst e
 have g:=((p25 a a ha ha).up up3).up up4
 rw[decide_eq_true rfl]at g
 exact g
theorem selT {A B:Prop} (h:A):sel true A B:=h
theorem selF {A B:Prop} (h:B):sel false A B:=h
theorem treeP_small {w:Wd} {h:Nat} {P:List Pr} {B:List Int} (hr:WRight w) (ht:IsTree w h P B):P.length≤100000∧B.length≤2048:=by
 have i:=treeW_inv (wr_now hr)
 rw[tree_full ht]at i
 have h1:=i.ps
 have h2:=i.len
 dsimp only at h1 h2
 exact ⟨by omega,by omega⟩
theorem sel_ne {a b:Int} {A B:Prop} (h:a≠b) (x:A):sel (a != b) A B:=by
 rw[show (a != b)=true by simpa using h];exact x
theorem sel_nne {a b:Int} {A B:Prop} (h:a=b) (x:B):sel (a != b) A B:=by
 rw[show (a != b)=false by simpa using h];exact x
theorem sel_eT {a b:Int} {A B:Prop} (h:a=b) (x:A):sel (a==b) A B:=by
 rw[show (a==b)=true by simpa using h];exact x
theorem sel_eF {a b:Int} {A B:Prop} (h:a≠b) (x:B):sel (a==b) A B:=by
 rw[show (a==b)=false by simpa using h];exact x
theorem cgD_cut (l:List Chg) (n:Nat):List.drop 0 (List.take n (cgD l))=cgD (l.take n):=by simp[cgD,List.map_take]
abbrev cgT:Mir.Ty := .sl (.st [.str,.str,.bool])
def toCgs (x:cgT.T):List Chg:=(show List (ByteArray×ByteArray×Bool×Unit) from x).map fun p=>⟨p.2.2.1,p.1,p.2.1⟩
theorem cgs_av (x:cgT.T):cgT.av x = .o (.sl 3 (cgD (toCgs x))):=by
 unfold toCgs cgD
 rw[List.map_map];rfl
theorem cgs_small (x:cgT.T) (h:cgT.fit x):Small (toCgs x).length:=by
 have h1:(show List (ByteArray×ByteArray×Bool×Unit) from x).length≤maxLen:=h.1
 have e:(toCgs x).length=(show List (ByteArray×ByteArray×Bool×Unit) from x).length:=by unfold toCgs;rw[List.length_map]
 unfold maxLen at h1
 unfold Small
 rw[e];omega
theorem base_right {w:Wd} {g:Int} (hr:WRight w) (h1:1≤g) (h2:g≤1099511627776):WRight ⟨w.now,w.now,w.pages,w.root,g⟩:=
 ⟨⟨rfl,hr.1.2.1,hr.1.2.2.1,fun j hj=>⟨(hr.1.2.2.2 j hj).2,(hr.1.2.2.2 j hj).2⟩⟩,hr.2.1,h1,h2,hr.2.2.2.2.1,hr.2.2.2.2.2⟩
theorem chg_keep {w0 w:Wd} {B0:List Int} {P:List Pr} {c:Chg} (h:From w0 B0 w P) (hb:(allW chW w [c]).2=0):∃P',From w0 B0 (allW chW w [c]).1 P':=by
 have ea:allW chW w [c]=foldW chW w [c]:=by rw[allW,if_neg (by simpa using h.1)]
 rw[ea]at hb ⊢
 rcases changes_from (l:=[c]) h with (e|⟨e,_⟩)|⟨e,_,hF⟩
 · rw[e]at hb;exact absurd hb (by decide)
 · rw[e]at hb;exact absurd hb (by decide)
 · exact ⟨_,hF⟩
theorem old_runs {w z:Wd} {g:Int} {h:Nat} {P P':List Pr} {B:List Int} (hr:WRight w) (hg:w.gen≤g) (hg2:g≤1099511627776) (ht:IsTree w h P B) (hF:From ⟨w.now,w.now,w.pages,w.root,g⟩ B z P'):
  ∃va vb,Runs Fs4 21 [wdV ⟨w.now,w.now,z.pages,w.root,z.gen⟩] [] (.ptr 2100101 0) (hT ⟨P,B,h,false⟩ va vb):=by
 have h1:1≤w.gen:=hr.2.2.1
 have hW:=base_right hr (show 1≤g by omega) hg2
 have ht2:IsTree ⟨w.now,w.now,w.pages,w.root,g⟩ h P B:=isTree_gen hg ht
 obtain ⟨hz,h',B',ht',hn⟩:=hF
 have ho:IsTree ⟨w.now,w.now,z.pages,w.root,z.gen⟩ h P B:=old_tree (w:=⟨w.now,w.now,w.pages,w.root,g⟩) hW rfl ht2 hn
 have hfw:=wr_fits hr
 have hfz:=wr_fits hz
 obtain ⟨va,vb,gt⟩:=t21 ⟨w.now,w.now,z.pages,w.root,z.gen⟩ ⟨hfw.n,hfw.n,hfz.p,hfz.s⟩ (show w.now.length≤2048 from wr_now hr)
 rw[tree_full ho]at gt
 exact ⟨va,vb,gt⟩
theorem base_runs {w:Wd} {h:Nat} {P:List Pr} {B:List Int} (hr:WRight w) (ht:IsTree w h P B):∃va vb,Runs Fs4 21 [wdV ⟨w.now,w.now,w.pages,w.root,w.gen⟩] [] (.ptr 2100101 0) (hT ⟨P,B,h,false⟩ va vb):=by
 have ht2:IsTree ⟨w.now,w.now,w.pages,w.root,w.gen⟩ h P B:=isTree_gen (Int.le_refl _) ht
 have hfw:=wr_fits hr
 obtain ⟨va,vb,gt⟩:=t21 ⟨w.now,w.now,w.pages,w.root,w.gen⟩ ⟨hfw.n,hfw.n,hfw.p,hfw.s⟩ (show w.now.length≤2048 from wr_now hr)
 rw[tree_full ht2]at gt
 exact ⟨va,vb,gt⟩
end Go.Proofs.YtclgengkohbjjaaGreatDoor.M
