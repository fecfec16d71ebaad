import Derived.Test.YtclgengkohbjjaaGreatDoorProg
import Derived.Test.YtclgengkohbjjaaGreatDoorMirI
import Derived.Test.YtclgengkohbjjaaGreatDoorMirL
import Derived.KernelRfl
import Derived.Test.YtclgengkohbjjaaGreatDoorMirT
import Derived.Test.YtclgengkohbjjaaGreatDoorMirR
import Derived.Test.YtclgengkohbjjaaGreatDoorR4Shelf
namespace Go.Proofs.YtclgengkohbjjaaGreatDoor.M
set_option linter.unusedVariables false
set_option linter.unusedSimpArgs false
open Go Go.Mir Go.Proofs
@[irreducible] noncomputable def b90:Cmd:=((Tryz.f90.body).bind (trC Tryz.prog [] 90 [] [])).getD .skip
noncomputable def c90:FnC:=⟨90,26,[(.cell 4 (some 3)),(.tmp 5)],b90,false,[(.one .str),(.one (.slo 1))],.tup [(.agg [(.int .i64),(.int .i64),.str]),(.one (.int .i64))],none,false,[]⟩
theorem is90:IsFn Tryz.prog 90 c90:=⟨⟨_,_,[],[],[],Tryz.func90,rfl,(by kernel_rfl),rfl,(by kernel_rfl),(by kernel_rfl)⟩⟩
@[irreducible] noncomputable def b57:Cmd:=((Tryz.f57.body).bind (trC Tryz.prog [] 57 [] [])).getD .skip
noncomputable def c57:FnC:=⟨57,79,[(.cell 2 (some 3)),(.tmp 3)],b57,false,[(.one .str)],.tup [(.agg [(.int .i64),(.int .i64),.str]),(.one (.int .i64))],none,false,[]⟩
theorem is57:IsFn Tryz.prog 57 c57:=⟨⟨_,_,[],[],[],Tryz.func57,rfl,(by kernel_rfl),rfl,(by kernel_rfl),(by kernel_rfl)⟩⟩
@[irreducible] noncomputable def b123:Cmd:=((Tryz.f123.body).bind (trC Tryz.prog [] 123 [] [])).getD .skip
noncomputable def c123:FnC:=⟨123,88,[(.cell 2 (some 3)),(.tmp 3)],b123,false,[(.one .str)],.tup [(.agg [(.int .i64),(.int .i64),.str]),(.one (.int .i64))],none,false,[]⟩
theorem is123:IsFn Tryz.prog 123 c123:=⟨⟨_,_,[],[],[],Tryz.func123,rfl,(by kernel_rfl),rfl,(by kernel_rfl),(by kernel_rfl)⟩⟩
def b124:Cmd:=(.seq (.region [(o 4 (.mov (.const (.bool false))))]) (.seq (.region [(m 5 0),(m 6 1),(os 7 (.call false 154 [(T 5),(T 6)]) sI),(o 8 (.bin .geq (T 7) (N 0))),(m 4 8)]) .ret))
noncomputable def c124:FnC:=⟨124,9,[(.tmp 4)],b124,false,[(.one (.slo 1)),(.one (.int .i64))],.val (.one .bool),none,false,[]⟩
theorem is124:IsFn Tryz.prog 124 c124:=⟨⟨_,_,[],[],[],Tryz.func124,rfl,(by kernel_rfl),rfl,(by kernel_rfl),(by kernel_rfl)⟩⟩
@[irreducible] noncomputable def b81:Cmd:=((Tryz.f81.body).bind (trC Tryz.prog [] 81 [] [])).getD .skip
noncomputable def c81:FnC:=⟨81,26,[(.tmp 4),(.tmp 5)],b81,false,[(.one .str),(.one (.int .i64))],.tup [(.one .str),(.one (.int .i64))],none,false,[]⟩
theorem is81:IsFn Tryz.prog 81 c81:=⟨⟨_,_,[],[],[],Tryz.func81,rfl,(by kernel_rfl),rfl,(by kernel_rfl),(by kernel_rfl)⟩⟩
@[irreducible] noncomputable def b82:Cmd:=((Tryz.f82.body).bind (trC Tryz.prog [] 82 [] [])).getD .skip
noncomputable def c82:FnC:=⟨82,26,[(.tmp 2)],b82,false,[(.one .str)],.val (.one .str),none,false,[]⟩
theorem is82:IsFn Tryz.prog 82 c82:=⟨⟨_,_,[],[],[],Tryz.func82,rfl,(by kernel_rfl),rfl,(by kernel_rfl),(by kernel_rfl)⟩⟩
@[irreducible] noncomputable def b83:Cmd:=((Tryz.f83.body).bind (trC Tryz.prog [] 83 [] [(7,[.slot 0 (.one .str),.slot 1 (.one (.int .i64)),.slot 2 (.one (.int .i64)),.slot 9 (.one (.int .i64)),.slot 10 (.one (.int .i64))])])).getD .skip
noncomputable def c83:FnC:=⟨83,51,[(.tmp 6),(.tmp 7),(.tmp 8)],b83,false,[(.one .str),(.one (.int .i64)),(.one (.int .i64))],.tup [(.one (.int .i64)),(.one (.int .i64)),(.one (.int .i64))],none,false,[]⟩
theorem is83:IsFn Tryz.prog 83 c83:=⟨⟨_,_,[],[],[(7,[.slot 0 (.one .str),.slot 1 (.one (.int .i64)),.slot 2 (.one (.int .i64)),.slot 9 (.one (.int .i64)),.slot 10 (.one (.int .i64))])],Tryz.func83,rfl,(by kernel_rfl),rfl,(by kernel_rfl),(by kernel_rfl)⟩⟩
@[irreducible] noncomputable def b84:Cmd:=((Tryz.f84.body).bind (trC Tryz.prog [] 84 [] [])).getD .skip
noncomputable def c84:FnC:=⟨84,27,[(.tmp 2)],b84,false,[(.agg [(.int .i64),(.int .i64),.str])],.val (.one .bool),none,false,[]⟩
theorem is84:IsFn Tryz.prog 84 c84:=⟨⟨_,_,[],[],[],Tryz.func84,rfl,(by kernel_rfl),rfl,(by kernel_rfl),(by kernel_rfl)⟩⟩
@[irreducible] noncomputable def b85:Cmd:=((Tryz.f85.body).bind (trC Tryz.prog [] 85 [] [(2,[.slot 0 (.one .str),.slot 3 (.one (.int .i64))])])).getD .skip
noncomputable def c85:FnC:=⟨85,20,[(.tmp 2)],b85,false,[(.one .str)],.val (.one .str),none,false,[]⟩
theorem is85:IsFn Tryz.prog 85 c85:=⟨⟨_,_,[],[],[(2,[.slot 0 (.one .str),.slot 3 (.one (.int .i64))])],Tryz.func85,rfl,(by kernel_rfl),rfl,(by kernel_rfl),(by kernel_rfl)⟩⟩
@[irreducible] noncomputable def b146:Cmd:=((Tryz.f146.body).bind (trC Tryz.prog [] 146 [] [])).getD .skip
noncomputable def c146:FnC:=⟨146,35,[(.tmp 4),(.tmp 5),(.tmp 6)],b146,false,[(.one .str),(.one (.int .i64))],.tup [(.one .str),(.one (.int .i64)),(.one (.int .i64))],none,false,[]⟩
theorem is146:IsFn Tryz.prog 146 c146:=⟨⟨_,_,[],[],[],Tryz.func146,rfl,(by kernel_rfl),rfl,(by kernel_rfl),(by kernel_rfl)⟩⟩
@[irreducible] noncomputable def b151:Cmd:=((Tryz.f151.body).bind (trC Tryz.prog [] 151 [] [])).getD .skip
noncomputable def c151:FnC:=⟨151,26,[(.tmp 4),(.tmp 5)],b151,false,[(.one .str),(.one (.int .i64))],.tup [(.one .str),(.one (.int .i64))],none,false,[]⟩
theorem is151:IsFn Tryz.prog 151 c151:=⟨⟨_,_,[],[],[],Tryz.func151,rfl,(by kernel_rfl),rfl,(by kernel_rfl),(by kernel_rfl)⟩⟩
@[irreducible] noncomputable def b152:Cmd:=((Tryz.f152.body).bind (trC Tryz.prog [] 152 [] [(7,[.slot 1 (.one (.int .i64)),.slot 2 (.one (.int .i64)),.slot 9 (.one (.int .i64)),.slot 42 (.one (.sln 1)),.slot 43 (.one (.int .i64)),.slot 44 (.one (.int .i64))])])).getD .skip
noncomputable def c152:FnC:=⟨152,58,[(.tmp 6),(.tmp 7),(.tmp 8)],b152,false,[(.one .str),(.one (.int .i64)),(.one (.int .i64))],.tup [(.one (.int .i64)),(.one (.int .i64)),(.one (.int .i64))],none,false,[]⟩
theorem is152:IsFn Tryz.prog 152 c152:=⟨⟨_,_,[],[],[(7,[.slot 1 (.one (.int .i64)),.slot 2 (.one (.int .i64)),.slot 9 (.one (.int .i64)),.slot 42 (.one (.sln 1)),.slot 43 (.one (.int .i64)),.slot 44 (.one (.int .i64))])],Tryz.func152,rfl,(by kernel_rfl),rfl,(by kernel_rfl),(by kernel_rfl)⟩⟩
@[irreducible] noncomputable def b153:Cmd:=((Tryz.f153.body).bind (trC Tryz.prog [] 153 [] [])).getD .skip
noncomputable def c153:FnC:=⟨153,19,[(.tmp 2),(.tmp 3)],b153,false,[(.one .str)],.tup [(.one .str),(.one (.int .i64))],none,false,[]⟩
theorem is153:IsFn Tryz.prog 153 c153:=⟨⟨_,_,[],[],[],Tryz.func153,rfl,(by kernel_rfl),rfl,(by kernel_rfl),(by kernel_rfl)⟩⟩
@[irreducible] noncomputable def b110:Cmd:=((Tryz.f110.body).bind (trC Tryz.prog [] 110 [] [])).getD .skip
noncomputable def c110:FnC:=⟨110,27,[(.tmp 2)],b110,false,[(.agg [(.int .i64),(.int .i64),.str])],.val (.one .bool),none,false,[]⟩
theorem is110:IsFn Tryz.prog 110 c110:=⟨⟨_,_,[],[],[],Tryz.func110,rfl,(by kernel_rfl),rfl,(by kernel_rfl),(by kernel_rfl)⟩⟩
def b111:Cmd:=(.seq (.region [(o 2 (.mov (.const (.string ⟨#[]⟩))))]) (.seq (.region [(m 3 0),(os 4 (.call false 143 [(T 3),(.const (.string ⟨#[0]⟩))]) sS),(m 2 4)]) .ret))
noncomputable def c111:FnC:=⟨111,5,[(.tmp 2)],b111,false,[(.one .str)],.val (.one .str),none,false,[]⟩
theorem is111:IsFn Tryz.prog 111 c111:=⟨⟨_,_,[],[],[],Tryz.func111,rfl,(by kernel_rfl),rfl,(by kernel_rfl),(by kernel_rfl)⟩⟩
@[irreducible] noncomputable def b154:Cmd:=((Tryz.f154.body).bind (trC Tryz.prog [] 154 [] [(2,[.slot 0 (.one (.slo 1)),.slot 1 (.one (.int .i64)),.slot 7 (.one (.int .i64)),.slot 8 (.one (.int .i64))])])).getD .skip
noncomputable def c154:FnC:=⟨154,19,[(.tmp 4)],b154,false,[(.one (.slo 1)),(.one (.int .i64))],.val (.one (.int .i64)),none,false,[]⟩
theorem is154:IsFn Tryz.prog 154 c154:=⟨⟨_,_,[],[],[(2,[.slot 0 (.one (.slo 1)),.slot 1 (.one (.int .i64)),.slot 7 (.one (.int .i64)),.slot 8 (.one (.int .i64))])],Tryz.func154,rfl,(by kernel_rfl),rfl,(by kernel_rfl),(by kernel_rfl)⟩⟩
@[irreducible] noncomputable def b155:Cmd:=((Tryz.f155.body).bind (trC Tryz.prog [] 155 [] [])).getD .skip
noncomputable def c155:FnC:=⟨155,36,[(.tmp 4),(.tmp 5),(.tmp 6)],b155,false,[(.one .str),(.one (.int .i64))],.tup [(.one .str),(.one (.int .i64)),(.one (.int .i64))],none,false,[]⟩
theorem is155:IsFn Tryz.prog 155 c155:=⟨⟨_,_,[],[],[],Tryz.func155,rfl,(by kernel_rfl),rfl,(by kernel_rfl),(by kernel_rfl)⟩⟩
def b117:Cmd:=(.seq (.region [(o 2 (.mov (.const (.int .u32 0))))]) (.seq (.region [(m 3 0),(os 4 (.call false 148 [(.const (.int .u32 0)),(T 3)]) (.val (.one (.int .u32)))),(m 2 4)]) .ret))
noncomputable def c117:FnC:=⟨117,5,[(.tmp 2)],b117,false,[(.one .str)],.val (.one (.int .u32)),none,false,[]⟩
theorem is117:IsFn Tryz.prog 117 c117:=⟨⟨_,_,[],[],[],Tryz.func117,rfl,(by kernel_rfl),rfl,(by kernel_rfl),(by kernel_rfl)⟩⟩
def b109:Cmd:=(.seq (.region [(o 2 (.mov (.const (.string ⟨#[]⟩))))]) (.seq (.region [(m 3 0),(os 4 (.call false 142 [(T 3),(.const (.string ⟨#[]⟩))]) sS),(m 2 4)]) .ret))
noncomputable def c109:FnC:=⟨109,5,[(.tmp 2)],b109,false,[(.one (.slo 1))],.val (.one .str),none,false,[]⟩
theorem is109:IsFn Tryz.prog 109 c109:=⟨⟨_,_,[],[],[],Tryz.func109,rfl,(by kernel_rfl),rfl,(by kernel_rfl),(by kernel_rfl)⟩⟩
@[irreducible] noncomputable def b112:Cmd:=((Tryz.f112.body).bind (trC Tryz.prog [] 112 [] [])).getD .skip
noncomputable def c112:FnC:=⟨112,23,[(.tmp 2)],b112,false,[(.one .str)],.val (.one .str),none,false,[]⟩
theorem is112:IsFn Tryz.prog 112 c112:=⟨⟨_,_,[],[],[],Tryz.func112,rfl,(by kernel_rfl),rfl,(by kernel_rfl),(by kernel_rfl)⟩⟩
@[irreducible] noncomputable def b148:Cmd:=((Tryz.f148.body).bind (trC Tryz.prog [] 148 [] [(3,[.slot 1 (.one .str),.slot 5 (.one (.int .u32)),.slot 6 (.one (.int .i64))]),(6,[.slot 1 (.one .str),.slot 5 (.one (.int .u32)),.slot 6 (.one (.int .i64)),.slot 7 (.one (.int .i64))])])).getD .skip
noncomputable def c148:FnC:=⟨148,41,[(.tmp 4)],b148,false,[(.one (.int .u32)),(.one .str)],.val (.one (.int .u32)),none,false,[]⟩
theorem is148:IsFn Tryz.prog 148 c148:=⟨⟨_,_,[],[],[(3,[.slot 1 (.one .str),.slot 5 (.one (.int .u32)),.slot 6 (.one (.int .i64))]),(6,[.slot 1 (.one .str),.slot 5 (.one (.int .u32)),.slot 6 (.one (.int .i64)),.slot 7 (.one (.int .i64))])],Tryz.func148,rfl,(by kernel_rfl),rfl,(by kernel_rfl),(by kernel_rfl)⟩⟩
@[irreducible] noncomputable def b144:Cmd:=((Tryz.f144.body).bind (trC Tryz.prog [] 144 [] [(3,[.slot 3 (.one (.int .u32)),.slot 6 (.one (.slo 1)),.slot 7 (.one (.int .i64)),.slot 8 (.one (.int .i64))])])).getD .skip
noncomputable def c144:FnC:=⟨144,17,[(.tmp 2)],b144,false,[(.one (.slo 1))],.val (.one (.int .u32)),none,false,[]⟩
theorem is144:IsFn Tryz.prog 144 c144:=⟨⟨_,_,[],[],[(3,[.slot 3 (.one (.int .u32)),.slot 6 (.one (.slo 1)),.slot 7 (.one (.int .i64)),.slot 8 (.one (.int .i64))])],Tryz.func144,rfl,(by kernel_rfl),rfl,(by kernel_rfl),(by kernel_rfl)⟩⟩
@[irreducible] noncomputable def b167:Cmd:=((Tryz.f167.body).bind (trC Tryz.prog [] 167 [] [(3,[.slot 5 (.one (.int .u32)),.slot 11 (.one (.sln 1)),.slot 12 (.one (.int .i64)),.slot 13 (.one (.int .i64))]),(7,[.slot 5 (.one (.int .u32)),.slot 11 (.one (.sln 1)),.slot 12 (.one (.int .i64)),.slot 13 (.one (.int .i64)),.slot 21 (.one (.int .i64))])])).getD .skip
noncomputable def c167:FnC:=⟨167,34,[(.tmp 4)],b167,false,[(.one (.int .u32)),(.one .str)],.val (.one (.int .u32)),none,false,[]⟩
theorem is167:IsFn Tryz.prog 167 c167:=⟨⟨_,_,[],[],[(3,[.slot 5 (.one (.int .u32)),.slot 11 (.one (.sln 1)),.slot 12 (.one (.int .i64)),.slot 13 (.one (.int .i64))]),(7,[.slot 5 (.one (.int .u32)),.slot 11 (.one (.sln 1)),.slot 12 (.one (.int .i64)),.slot 13 (.one (.int .i64)),.slot 21 (.one (.int .i64))])],Tryz.func167,rfl,(by kernel_rfl),rfl,(by kernel_rfl),(by kernel_rfl)⟩⟩
@[irreducible] noncomputable def b106:Cmd:=((Tryz.f106.body).bind (trC Tryz.prog [] 106 [] [(5,[.slot 0 (.one (.int .i64)),.slot 1 (.one (.int .i64)),.rowIn 6 10600301,.slot 28 (.one (.int .i64)),.slot 29 (.one (.int .i64)),.row 10600301 5 1 true])])).getD .skip
noncomputable def c106:FnC:=⟨106,46,[(.tmp 4),(.tmp 5)],b106,false,[(.one (.int .i64)),(.one (.int .i64))],.tup [(.one .str),(.one (.int .i64))],none,false,[]⟩
theorem is106:IsFn Tryz.prog 106 c106:=⟨⟨_,_,[],[],[(5,[.slot 0 (.one (.int .i64)),.slot 1 (.one (.int .i64)),.rowIn 6 10600301,.slot 28 (.one (.int .i64)),.slot 29 (.one (.int .i64)),.row 10600301 5 1 true])],Tryz.func106,rfl,(by kernel_rfl),rfl,(by kernel_rfl),(by kernel_rfl)⟩⟩
@[irreducible] noncomputable def b77:Cmd:=((Tryz.f77.body).bind (trC Tryz.prog [] 77 [] [])).getD .skip
noncomputable def c77:FnC:=⟨77,38,[(.tmp 2),(.tmp 3)],b77,false,[(.agg [(.int .i64),(.int .i64),.str])],.tup [(.one .str),(.one (.int .i64))],none,false,[]⟩
theorem is77:IsFn Tryz.prog 77 c77:=⟨⟨_,_,[],[],[],Tryz.func77,rfl,(by kernel_rfl),rfl,(by kernel_rfl),(by kernel_rfl)⟩⟩
@[irreducible] noncomputable def b108:Cmd:=((Tryz.f108.body).bind (trC Tryz.prog [] 108 [] [])).getD .skip
noncomputable def c108:FnC:=⟨108,20,[(.tmp 2),(.tmp 3)],b108,false,[(.one .str)],.tup [(.one .str),(.one (.int .i64))],none,false,[]⟩
theorem is108:IsFn Tryz.prog 108 c108:=⟨⟨_,_,[],[],[],Tryz.func108,rfl,(by kernel_rfl),rfl,(by kernel_rfl),(by kernel_rfl)⟩⟩
noncomputable def funs:List (Nat×Fun):=[(90,.code c90),(57,.code c57),(123,.code c123),(124,.code c124),(81,.code c81),(82,.code c82),(83,.code c83),(84,.code c84),(85,.code c85),(146,.code c146),(151,.code c151),(152,.code c152),(153,.code c153),(110,.code c110),(111,.code c111),(154,.code c154),(155,.code c155),(117,.code c117),(109,.code c109),(112,.code c112),(148,.code c148),(144,.code c144),(167,.code c167),(106,.code c106),(77,.code c77),(108,.code c108),(142,.prim none joinP),(143,.prim none trimP),(170,.prim none repeatP)]
noncomputable def Fs:Nat→Option Fun:=table funs
set_option maxRecDepth 100000 in
theorem company:Company Tryz.prog Fs:=
 .cons is90 <| .cons is57 <| .cons is123 <| .cons is124 <| .cons is81 <| .cons is82 <| .cons is83 <| .cons is84 <| .cons is85 <| .cons is146 <| .cons is151 <| .cons is152 <| .cons is153 <| .cons is110 <| .cons is111 <| .cons is154 <| .cons is155 <| .cons is117 <| .cons is109 <| .cons is112 <| .cons is148 <| .cons is144 <| .cons is167 <| .cons is106 <| .cons is77 <| .cons is108 <| .cons (join_ok Tryz.lays156 Tryz.Builder_Extra_156) <| .cons (trim_ok Tryz.lays162) <| .cons (repeat_ok Tryz.lays105 Tryz.Builder_Extra_105) <| .nil
theorem fs90:Fs 90=some (.code c90):=rfl
theorem fs57:Fs 57=some (.code c57):=rfl
theorem fs123:Fs 123=some (.code c123):=rfl
theorem fs124:Fs 124=some (.code c124):=rfl
theorem fs81:Fs 81=some (.code c81):=rfl
theorem fs82:Fs 82=some (.code c82):=rfl
theorem fs83:Fs 83=some (.code c83):=rfl
theorem fs84:Fs 84=some (.code c84):=rfl
theorem fs85:Fs 85=some (.code c85):=rfl
theorem fs146:Fs 146=some (.code c146):=rfl
theorem fs151:Fs 151=some (.code c151):=rfl
theorem fs152:Fs 152=some (.code c152):=rfl
theorem fs153:Fs 153=some (.code c153):=rfl
theorem fs110:Fs 110=some (.code c110):=rfl
theorem fs111:Fs 111=some (.code c111):=rfl
theorem fs154:Fs 154=some (.code c154):=rfl
theorem fs155:Fs 155=some (.code c155):=rfl
theorem fs117:Fs 117=some (.code c117):=rfl
theorem fs109:Fs 109=some (.code c109):=rfl
theorem fs112:Fs 112=some (.code c112):=rfl
theorem fs148:Fs 148=some (.code c148):=rfl
theorem fs144:Fs 144=some (.code c144):=rfl
theorem fs167:Fs 167=some (.code c167):=rfl
theorem fs106:Fs 106=some (.code c106):=rfl
theorem fs77:Fs 77=some (.code c77):=rfl
theorem fs108:Fs 108=some (.code c108):=rfl
theorem fs142:Fs 142=some (.prim none joinP):=rfl
theorem fs143:Fs 143=some (.prim none trimP):=rfl
theorem fs170:Fs 170=some (.prim none repeatP):=rfl
end Go.Proofs.YtclgengkohbjjaaGreatDoor.M
namespace Go.Proofs.YtclgengkohbjjaaGreatDoor.M
set_option linter.unusedVariables false
set_option linter.unusedSimpArgs false
open Go Go.Mir
set_option linter.unusedVariables false
abbrev qf_:=
 (ByteArray.mk (List.toArray []))
abbrev qe_:Mir.AV:=
 (.n (.str qf_))
abbrev qb_ (p0:Mir.AV→Prop):=
 (p0 (.tup [qe_,(.n (.int .i64 1))]))
abbrev qc_ (p0:(Nat×LD)) (p1:Nat):=
 ((((Prod.fst p0):Nat)=p1)∧(rn 1))
abbrev qd_ (p0:Nat) (p1:(Nat×LD)):=
 (((((p0:Nat)=(Prod.fst p1))∧(rn 0))∧(rn 1))∧(rn 1))
def V106 (a0:Int) (a1:Int) (R:Mir.AV→Prop):Prop:=
 (sel (decide (a1<1)) (qb_ R) (sel (decide (a1 > 6)) (qb_ R) (sel (decide (a0<0)) (qb_ R) (((0:Int)≤(IntKind.wrap .i64 (8*a1)))∧(sel ((Int.fdiv a0 (2 ^ (Min.min (Int.toNat (IntKind.wrap .i64 (8*a1))) (Go.IntKind.bits .i64)))) != 0) (qb_ R) (((0:Int)≤a1)∧((((Int.toNat a1)*1):Nat)≤140737488355328)∧(rn 0)∧(∃x0:(Int→(Int→(Nat→(Int→(Int→((Nat×LD)→Prop)))))),(∃x1:(Int→(Int→(Nat→(Int→(Int→((Nat×LD)→Nat)))))),(((rh [(10600301,(.row false true 0 5 1 (List.replicate (Int.toNat a1) (Mir.D.int .u8 0))))])∧(x0 a0 a1 0 ((List.replicate (Int.toNat a1) (Mir.D.int .u8 0)).length:Int) 0 (0,(List.replicate (Int.toNat a1) (Mir.D.int .u8 0)))))∧(∀x2:Int,(∀x3:Int,(∀x4:Nat,(∀x5:Int,(∀x6:Int,(∀x7:(Nat×LD),((x0 x2 x3 x4 x5 x6 x7)→(∀x8:(Nat→Mir.AV),(sel (decide (x6<x5)) (((0:Int)≤(IntKind.wrap .i64 (8*x6)))∧(qc_ x7 x4)∧((0:Int)≤(IntKind.wrap .i64 ((IntKind.wrap .i64 (x3 - 1)) - x6)))∧(((IntKind.wrap .i64 ((IntKind.wrap .i64 (x3 - 1)) - x6)):Int)<((Prod.snd x7).length:Int))∧(qd_ x4 x7)∧(((Int.toNat (IntKind.wrap .i64 ((IntKind.wrap .i64 (x3 - 1)) - x6))):Nat)<(List.length (Prod.snd x7)))∧(rh [(10600301,(.row false true (Prod.fst x7) 5 1 (List.set (Prod.snd x7) (Int.toNat (IntKind.wrap .i64 ((IntKind.wrap .i64 (x3 - 1)) - x6))) (Mir.D.int .u8 (IntKind.wrap .u8 (Int.fdiv x2 (2 ^ (Min.min (Int.toNat (IntKind.wrap .i64 (8*x6))) (Go.IntKind.bits .i64)))))))))])∧(x0 x2 x3 x4 x5 (IntKind.wrap .i64 (x6+1)) ((Prod.fst x7),(List.set (Prod.snd x7) (Int.toNat (IntKind.wrap .i64 ((IntKind.wrap .i64 (x3 - 1)) - x6))) (Mir.D.int .u8 (IntKind.wrap .u8 (Int.fdiv x2 (2 ^ (Min.min (Int.toNat (IntKind.wrap .i64 (8*x6))) (Go.IntKind.bits .i64)))))))))∧(((x1 x2 x3 x4 x5 (IntKind.wrap .i64 (x6+1)) ((Prod.fst x7),(List.set (Prod.snd x7) (Int.toNat (IntKind.wrap .i64 ((IntKind.wrap .i64 (x3 - 1)) - x6))) (Mir.D.int .u8 (IntKind.wrap .u8 (Int.fdiv x2 (2 ^ (Min.min (Int.toNat (IntKind.wrap .i64 (8*x6))) (Go.IntKind.bits .i64))))))))):Nat)<(x1 x2 x3 x4 x5 x6 x7))) ((((Prod.fst x7):Nat)=x4)∧((rn 1)∨(@Eq LD (Prod.snd x7) []))∧(((List.all (Prod.snd x7) Go.Mir.D.isU8):Bool)=true)∧(R (.tup [(.n (.str (ByteArray.mk (List.toArray (List.map Go.Mir.byteOf (Prod.snd x7)))))),(.n (.int .i64 0))])))))))))))))))))))))
def V106e (a0:Int) (a1:Int) (R:Mir.AV→Prop):=PLift.up (by delta V106 qd_ qb_ qf_ qe_ qc_;exact rfl:V106 a0 a1 R=_)
theorem vc106 (a0:Int) (a1:Int) (R:Mir.AV→Prop):Vc Fs c106.body (argsQ c106 [(.n (.int .i64 a0)),(.n (.int .i64 a1))]) [] (endQ c106 R)=V106 a0 a1 R:=by kernel_rfl
def V109 (a0:LD) (R:Mir.AV→Prop):Prop:=
 (∃x0:ByteArray,((Runs Fs 142 [(aL a0),(aS qf_)] [] (aS x0) [])∧(R (.n (.str x0)))))
def V109e (a0:LD) (R:Mir.AV→Prop):=PLift.up (by delta V109 qf_;exact rfl:V109 a0 R=_)
theorem vc109 (a0:LD) (R:Mir.AV→Prop):Vc Fs c109.body (argsQ c109 [(.o (.sl 1 a0))]) [] (endQ c109 R)=V109 a0 R:=by kernel_rfl
abbrev qg_ (p0:Mir.AV→Prop):=
 (p0 (.tup [qe_,(.n (.int .i64 2))]))
def V108 (a0:ByteArray) (R:Mir.AV→Prop):Prop:=
 (sel (decide ((((ByteArray.size a0):Nat):Int) > 65535)) (qg_ R) (∃x0:ByteArray,(∃x1:Int,((Runs Fs 106 [(aI (((ByteArray.size a0):Nat):Int)),(aI 2)] [] (.tup [(aS x0),(aI x1)]) [])∧(0=0)∧(∃x2:ByteArray,((Runs Fs 109 [(aL [(Mir.D.str x0),(Mir.D.str a0)])] [] (aS x2) [])∧(R (.tup [(.n (.str x2)),(.n (.int .i64 x1))]))))))))
def V108e (a0:ByteArray) (R:Mir.AV→Prop):=PLift.up (by delta V108 qf_ qg_ qe_;exact rfl:V108 a0 R=_)
theorem vc108 (a0:ByteArray) (R:Mir.AV→Prop):Vc Fs c108.body (argsQ c108 [(.n (.str a0))]) [] (endQ c108 R)=V108 a0 R:=by kernel_rfl
abbrev qh_:=
 (aS (ByteArray.mk (List.toArray [0])))
def V111 (a0:ByteArray) (R:Mir.AV→Prop):Prop:=
 (∃x0:ByteArray,((Runs Fs 143 [(aS a0),qh_] [] (aS x0) [])∧(R (.n (.str x0)))))
def V111e (a0:ByteArray) (R:Mir.AV→Prop):=PLift.up (by delta V111 qh_;exact rfl:V111 a0 R=_)
theorem vc111 (a0:ByteArray) (R:Mir.AV→Prop):Vc Fs c111.body (argsQ c111 [(.n (.str a0))]) [] (endQ c111 R)=V111 a0 R:=by kernel_rfl
abbrev qi_ (p0:ByteArray):=
 (Array.toList (ByteArray.data p0))
abbrev qj_ (p0:Int) (p1:ByteArray) (p2:Mir.AV→Prop):=
 (((0:Int)≤p0)∧((p0:Int)≤(((ByteArray.size p1):Nat):Int))∧(p2 (.n (.str (ByteArray.extract p1 0 (Int.toNat p0))))))
def V85 (a0:ByteArray) (R:Mir.AV→Prop):Prop:=
 (∃x0:(ByteArray→(Int→Prop)),(∃x1:(ByteArray→(Int→Nat)),(((rh [])∧(x0 a0 (((ByteArray.size a0):Nat):Int)))∧(∀x2:ByteArray,(∀x3:Int,((x0 x2 x3)→(∀x4:(Nat→Mir.AV),(sel (decide (x3 > 0)) (((0:Int)≤(IntKind.wrap .i64 (x3 - 1)))∧(∃x5:UInt8,((((GetElem?.getElem? (qi_ x2) (Int.toNat (IntKind.wrap .i64 (x3 - 1)))):(Option UInt8))=(some x5))∧(sel ((((UInt8.toNat x5):Nat):Int)==0) ((rh [])∧(x0 x2 (IntKind.wrap .i64 (x3 - 1)))∧(((x1 x2 (IntKind.wrap .i64 (x3 - 1))):Nat)<(x1 x2 x3))) (qj_ x3 x2 R))))) (qj_ x3 x2 R)))))))))
def V85e (a0:ByteArray) (R:Mir.AV→Prop):=PLift.up (by delta V85 qi_ qj_;exact rfl:V85 a0 R=_)
theorem vc85 (a0:ByteArray) (R:Mir.AV→Prop):Vc Fs c85.body (argsQ c85 [(.n (.str a0))]) [] (endQ c85 R)=V85 a0 R:=by kernel_rfl
abbrev qk_ (p0:Int) (p1:ByteArray):=
 (p0 - (((ByteArray.size p1):Nat):Int))
def V151 (a0:ByteArray) (a1:Int) (R:Mir.AV→Prop):Prop:=
 (sel (decide (a1<0)) (qb_ R) (sel (decide (a1 > 4096)) (qb_ R) (sel (decide ((((ByteArray.size a0):Nat):Int) > a1)) (qg_ R) (∃x0:ByteArray,((Runs Fs 170 [qh_,(aI (IntKind.wrap .i64 (qk_ a1 a0)))] [] (aS x0) [])∧(0=0)∧(∃x1:ByteArray,((Runs Fs 109 [(aL [(Mir.D.str a0),(Mir.D.str x0)])] [] (aS x1) [])∧(R (.tup [(.n (.str x1)),(.n (.int .i64 0))])))))))))
def V151e (a0:ByteArray) (a1:Int) (R:Mir.AV→Prop):=PLift.up (by delta V151 qk_ qb_ qh_ qg_ qf_ qe_;exact rfl:V151 a0 a1 R=_)
theorem vc151 (a0:ByteArray) (a1:Int) (R:Mir.AV→Prop):Vc Fs c151.body (argsQ c151 [(.n (.str a0)),(.n (.int .i64 a1))]) [] (endQ c151 R)=V151 a0 a1 R:=by kernel_rfl
def V81 (a0:ByteArray) (a1:Int) (R:Mir.AV→Prop):Prop:=
 (sel (decide (a1<0)) (qb_ R) (sel (decide (a1 > 4096)) (qb_ R) (sel (decide ((((ByteArray.size a0):Nat):Int) > a1)) (qg_ R) (((0:Int)≤(IntKind.wrap .i64 (qk_ a1 a0)))∧((((Int.toNat (IntKind.wrap .i64 (qk_ a1 a0)))*1):Nat)≤140737488355328)∧(rn 0)∧((rn 1)∨(@Eq LD (List.replicate (Int.toNat (IntKind.wrap .i64 (qk_ a1 a0))) (Mir.D.int .u8 0)) []))∧(((List.all (List.replicate (Int.toNat (IntKind.wrap .i64 (qk_ a1 a0))) (Mir.D.int .u8 0)) Go.Mir.D.isU8):Bool)=true)∧((((((ByteArray.size a0)+(ByteArray.size (ByteArray.mk (List.toArray (List.map Go.Mir.byteOf (List.replicate (Int.toNat (IntKind.wrap .i64 (qk_ a1 a0))) (Mir.D.int .u8 0))))))):Nat):Int):Int)≤9223372036854775807)∧(R (.tup [(.n (.str (a0++(ByteArray.mk (List.toArray (List.map Go.Mir.byteOf (List.replicate (Int.toNat (IntKind.wrap .i64 (qk_ a1 a0))) (Mir.D.int .u8 0)))))))),(.n (.int .i64 0))]))))))
def V81e (a0:ByteArray) (a1:Int) (R:Mir.AV→Prop):=PLift.up (by delta V81 qk_ qb_ qg_ qf_ qe_;exact rfl:V81 a0 a1 R=_)
theorem vc81 (a0:ByteArray) (a1:Int) (R:Mir.AV→Prop):Vc Fs c81.body (argsQ c81 [(.n (.str a0)),(.n (.int .i64 a1))]) [] (endQ c81 R)=V81 a0 a1 R:=by kernel_rfl
abbrev ql_ (p0:Mir.AV→Prop):=
 (p0 (.tup [(.n (.int .i64 0)),(.n (.int .i64 0)),(.n (.int .i64 1))]))
abbrev qm_ (p0:Mir.AV→Prop):=
 (p0 (.tup [(.n (.int .i64 0)),(.n (.int .i64 0)),(.n (.int .i64 3))]))
abbrev qn_:=
 (Int→(LD→(Int→(Int→Prop))))
abbrev qo_:=
 (Int→(LD→(Int→(Int→Nat))))
abbrev qp_ (p0:LD) (p1:Int) (p2:Mir.D):=
 (p0[Int.toNat p1]?=some p2)
def V152 (a0:ByteArray) (a1:Int) (a2:Int) (R:Mir.AV→Prop):Prop:=
 (sel (decide (a2<1)) (ql_ R) (sel (decide (a2 > 6)) (ql_ R) (sel (decide (a1<0)) (ql_ R) (sel (decide (a1 > (((ByteArray.size a0):Nat):Int))) (ql_ R) (sel (decide ((IntKind.wrap .i64 ((((ByteArray.size a0):Nat):Int) - a1))<a2)) (qm_ R) (((0:Int)≤(IntKind.wrap .i64 (a1+a2)))∧(((IntKind.wrap .i64 (a1+a2)):Int)≤(((ByteArray.size a0):Nat):Int))∧((0:Int)≤a1)∧((a1:Int)≤(((Int.toNat (IntKind.wrap .i64 (a1+a2))):Nat):Int))∧(∃x0:(Int→(Int→qn_)),(∃x1:(Int→(Int→qo_)),(((rh [])∧(x0 a1 a2 0 (Go.Mir.bytesD (ByteArray.extract a0 (Int.toNat a1) (Int.toNat (IntKind.wrap .i64 (a1+a2))))) ((Go.Mir.bytesD (ByteArray.extract a0 (Int.toNat a1) (Int.toNat (IntKind.wrap .i64 (a1+a2))))).length:Int) 0))∧(∀x2:Int,(∀x3:Int,(∀x4:Int,(∀x5:LD,(∀x6:Int,(∀x7:Int,((x0 x2 x3 x4 x5 x6 x7)→(∀x8:(Nat→Mir.AV),(sel (decide (x7<x6)) ((rn 1)∧((0:Int)≤x7)∧(∃x9:Mir.D,((qp_ x5 x7 x9)∧(∃x10:Int,(((D.cells x9)[0]?=some (Mir.D.int .u8 x10))∧((0:Int)≤8)∧(rh [])∧(x0 x2 x3 (IntKind.wrap .i64 (((BitVec.toNat (HOr.hOr (BitVec.ofInt (Go.IntKind.bits .i64) (IntKind.wrap .i64 (x4*(2 ^ (Min.min (Int.toNat 8) (Go.IntKind.bits .i64)))))) (BitVec.ofInt (Go.IntKind.bits .i64) (IntKind.wrap .i64 x10)))):Nat):Int)) x5 x6 (IntKind.wrap .i64 (x7+1)))∧(((x1 x2 x3 (IntKind.wrap .i64 (((BitVec.toNat (HOr.hOr (BitVec.ofInt (Go.IntKind.bits .i64) (IntKind.wrap .i64 (x4*(2 ^ (Min.min (Int.toNat 8) (Go.IntKind.bits .i64)))))) (BitVec.ofInt (Go.IntKind.bits .i64) (IntKind.wrap .i64 x10)))):Nat):Int)) x5 x6 (IntKind.wrap .i64 (x7+1))):Nat)<(x1 x2 x3 x4 x5 x6 x7))))))) (R (.tup [(.n (.int .i64 x4)),(.n (.int .i64 (IntKind.wrap .i64 (x2+x3)))),(.n (.int .i64 0))]))))))))))))))))))))
def V152e (a0:ByteArray) (a1:Int) (a2:Int) (R:Mir.AV→Prop):=PLift.up (by delta V152 qo_ ql_ qn_ qp_ qm_;exact rfl:V152 a0 a1 a2 R=_)
theorem vc152 (a0:ByteArray) (a1:Int) (a2:Int) (R:Mir.AV→Prop):Vc Fs c152.body (argsQ c152 [(.n (.str a0)),(.n (.int .i64 a1)),(.n (.int .i64 a2))]) [] (endQ c152 R)=V152 a0 a1 a2 R:=by kernel_rfl
abbrev qq_:=
 (Int→(Int→(Int→Prop)))
def V83 (a0:ByteArray) (a1:Int) (a2:Int) (R:Mir.AV→Prop):Prop:=
 (sel (decide (a2<1)) (ql_ R) (sel (decide (a2 > 6)) (ql_ R) (sel (decide (a1<0)) (ql_ R) (sel (decide (a1 > (((ByteArray.size a0):Nat):Int))) (ql_ R) (sel (decide ((IntKind.wrap .i64 ((((ByteArray.size a0):Nat):Int) - a1))<a2)) (qm_ R) (∃x0:(ByteArray→(Int→qq_)),(∃x1:(ByteArray→(Int→(Int→(Int→(Int→Nat))))),(((rh [])∧(x0 a0 a1 a2 0 0))∧(∀x2:ByteArray,(∀x3:Int,(∀x4:Int,(∀x5:Int,(∀x6:Int,((x0 x2 x3 x4 x5 x6)→(∀x7:(Nat→Mir.AV),(sel (decide (x6<x4)) (((0:Int)≤(IntKind.wrap .i64 (x3+x6)))∧(∃x8:UInt8,((((GetElem?.getElem? (qi_ x2) (Int.toNat (IntKind.wrap .i64 (x3+x6)))):(Option UInt8))=(some x8))∧(rh [])∧(x0 x2 x3 x4 (IntKind.wrap .i64 ((IntKind.wrap .i64 (x5*256))+(IntKind.wrap .i64 (((UInt8.toNat x8):Nat):Int)))) (IntKind.wrap .i64 (x6+1)))∧(((x1 x2 x3 x4 (IntKind.wrap .i64 ((IntKind.wrap .i64 (x5*256))+(IntKind.wrap .i64 (((UInt8.toNat x8):Nat):Int)))) (IntKind.wrap .i64 (x6+1))):Nat)<(x1 x2 x3 x4 x5 x6))))) (R (.tup [(.n (.int .i64 x5)),(.n (.int .i64 (IntKind.wrap .i64 (x3+x4)))),(.n (.int .i64 0))]))))))))))))))))))
def V83e (a0:ByteArray) (a1:Int) (a2:Int) (R:Mir.AV→Prop):=PLift.up (by delta V83 qm_ qq_ qi_ ql_;exact rfl:V83 a0 a1 a2 R=_)
theorem vc83 (a0:ByteArray) (a1:Int) (a2:Int) (R:Mir.AV→Prop):Vc Fs c83.body (argsQ c83 [(.n (.str a0)),(.n (.int .i64 a1)),(.n (.int .i64 a2))]) [] (endQ c83 R)=V83 a0 a1 a2 R:=by kernel_rfl
def V167 (a0:Int) (a1:ByteArray) (R:Mir.AV→Prop):Prop:=
 (∃x0:qn_,(∃x1:qo_,(((rh [])∧(x0 (IntKind.wrap .u32 (((BitVec.toNat (HXor.hXor (BitVec.ofInt (Go.IntKind.bits .u32) (Go.IntKind.max .u32)) (BitVec.ofInt (Go.IntKind.bits .u32) a0))):Nat):Int)) (Go.Mir.bytesD a1) ((Go.Mir.bytesD a1).length:Int) 0))∧(∀x2:Int,(∀x3:LD,(∀x4:Int,(∀x5:Int,((x0 x2 x3 x4 x5)→(∀x6:(Nat→Mir.AV),(sel (decide (x5<x4)) ((rn 1)∧((0:Int)≤x5)∧(∃x7:Mir.D,((qp_ x3 x5 x7)∧(∃x8:Int,(((D.cells x7)[0]?=some (Mir.D.int .u8 x8))∧(∃x9:(Int→(LD→qq_)),(∃x10:(Int→(LD→(Int→(Int→(Int→Nat))))),(((rh [])∧(x9 (IntKind.wrap .u32 (((BitVec.toNat (HXor.hXor (BitVec.ofInt (Go.IntKind.bits .u32) x2) (BitVec.ofInt (Go.IntKind.bits .u32) (IntKind.wrap .u32 x8)))):Nat):Int)) x3 x4 x5 0))∧(∀x11:Int,(∀x12:LD,(∀x13:Int,(∀x14:Int,(∀x15:Int,((x9 x11 x12 x13 x14 x15)→(∀x16:(Nat→Mir.AV),(sel (decide (x15<8)) (((0:Int)≤1)∧(rh [])∧(x9 (IntKind.wrap .u32 (((BitVec.toNat (HXor.hXor (BitVec.ofInt (Go.IntKind.bits .u32) (Int.fdiv x11 (2 ^ (Min.min (Int.toNat 1) (Go.IntKind.bits .u32))))) (BitVec.ofInt (Go.IntKind.bits .u32) (IntKind.wrap .u32 (((BitVec.toNat (HAnd.hAnd (BitVec.ofInt (Go.IntKind.bits .u32) 2197175160) (BitVec.ofInt (Go.IntKind.bits .u32) (IntKind.wrap .u32 (0 - (IntKind.wrap .u32 (((BitVec.toNat (HAnd.hAnd (BitVec.ofInt (Go.IntKind.bits .u32) x11) (BitVec.ofInt (Go.IntKind.bits .u32) 1))):Nat):Int))))))):Nat):Int))))):Nat):Int)) x12 x13 x14 (IntKind.wrap .i64 (x15+1)))∧(((x10 (IntKind.wrap .u32 (((BitVec.toNat (HXor.hXor (BitVec.ofInt (Go.IntKind.bits .u32) (Int.fdiv x11 (2 ^ (Min.min (Int.toNat 1) (Go.IntKind.bits .u32))))) (BitVec.ofInt (Go.IntKind.bits .u32) (IntKind.wrap .u32 (((BitVec.toNat (HAnd.hAnd (BitVec.ofInt (Go.IntKind.bits .u32) 2197175160) (BitVec.ofInt (Go.IntKind.bits .u32) (IntKind.wrap .u32 (0 - (IntKind.wrap .u32 (((BitVec.toNat (HAnd.hAnd (BitVec.ofInt (Go.IntKind.bits .u32) x11) (BitVec.ofInt (Go.IntKind.bits .u32) 1))):Nat):Int))))))):Nat):Int))))):Nat):Int)) x12 x13 x14 (IntKind.wrap .i64 (x15+1))):Nat)<(x10 x11 x12 x13 x14 x15))) ((rh [])∧(x0 x11 x12 x13 (IntKind.wrap .i64 (x14+1)))∧(((x1 x11 x12 x13 (IntKind.wrap .i64 (x14+1))):Nat)<(x1 x2 x3 x4 x5))))))))))))))))))) (R (.n (Mir.D.int .u32 (IntKind.wrap .u32 (((BitVec.toNat (HXor.hXor (BitVec.ofInt (Go.IntKind.bits .u32) (Go.IntKind.max .u32)) (BitVec.ofInt (Go.IntKind.bits .u32) x2))):Nat):Int)))))))))))))))
def V167e (a0:Int) (a1:ByteArray) (R:Mir.AV→Prop):=PLift.up (by delta V167 qp_ qo_ qq_ qn_;exact rfl:V167 a0 a1 R=_)
theorem vc167 (a0:Int) (a1:ByteArray) (R:Mir.AV→Prop):Vc Fs c167.body (argsQ c167 [(.n (.int .u32 a0)),(.n (.str a1))]) [] (endQ c167 R)=V167 a0 a1 R:=by kernel_rfl
def V148 (a0:Int) (a1:ByteArray) (R:Mir.AV→Prop):Prop:=
 (∃x0:(ByteArray→(Int→(Int→Prop))),(∃x1:(ByteArray→(Int→(Int→Nat))),(((rh [])∧(x0 a1 (IntKind.wrap .u32 (4294967295 - a0)) 0))∧(∀x2:ByteArray,(∀x3:Int,(∀x4:Int,((x0 x2 x3 x4)→(∀x5:(Nat→Mir.AV),(sel (decide (x4<(((ByteArray.size x2):Nat):Int))) (∃x6:(ByteArray→qq_),(∃x7:(ByteArray→(Int→(Int→(Int→Nat)))),(((rh [])∧(x6 x2 x3 x4 0))∧(∀x8:ByteArray,(∀x9:Int,(∀x10:Int,(∀x11:Int,((x6 x8 x9 x10 x11)→(∀x12:(Nat→Mir.AV),(sel (decide (x11<8)) (((0:Int)≤x10)∧(∃x13:UInt8,((((GetElem?.getElem? (qi_ x8) (Int.toNat x10)):(Option UInt8))=(some x13))∧((0:Int)≤(IntKind.wrap .u64 x11))∧((2:Int)≠0)∧((2:Int)≠0)∧((2:Int)≠0)∧(sel ((Int.tmod x9 2) != (Int.tmod (Int.fdiv (IntKind.wrap .u32 (((UInt8.toNat x13):Nat):Int)) (2 ^ (Min.min (Int.toNat (IntKind.wrap .u64 x11)) (Go.IntKind.bits .u32)))) 2)) ((rh [])∧(x6 x8 (IntKind.wrap .u32 (((BitVec.toNat (HXor.hXor (BitVec.ofInt (Go.IntKind.bits .u32) (IntKind.wrap .u32 (Int.tdiv x9 2))) (BitVec.ofInt (Go.IntKind.bits .u32) 2197175160))):Nat):Int)) x10 (IntKind.wrap .i64 (x11+1)))∧(((x7 x8 (IntKind.wrap .u32 (((BitVec.toNat (HXor.hXor (BitVec.ofInt (Go.IntKind.bits .u32) (IntKind.wrap .u32 (Int.tdiv x9 2))) (BitVec.ofInt (Go.IntKind.bits .u32) 2197175160))):Nat):Int)) x10 (IntKind.wrap .i64 (x11+1))):Nat)<(x7 x8 x9 x10 x11))) ((rh [])∧(x6 x8 (IntKind.wrap .u32 (Int.tdiv x9 2)) x10 (IntKind.wrap .i64 (x11+1)))∧(((x7 x8 (IntKind.wrap .u32 (Int.tdiv x9 2)) x10 (IntKind.wrap .i64 (x11+1))):Nat)<(x7 x8 x9 x10 x11))))))) ((rh [])∧(x0 x8 x9 (IntKind.wrap .i64 (x10+1)))∧(((x1 x8 x9 (IntKind.wrap .i64 (x10+1))):Nat)<(x1 x2 x3 x4))))))))))))) (R (.n (Mir.D.int .u32 (IntKind.wrap .u32 (4294967295 - x3))))))))))))))
def V148e (a0:Int) (a1:ByteArray) (R:Mir.AV→Prop):=PLift.up (by delta V148 qq_ qi_;exact rfl:V148 a0 a1 R=_)
theorem vc148 (a0:Int) (a1:ByteArray) (R:Mir.AV→Prop):Vc Fs c148.body (argsQ c148 [(.n (.int .u32 a0)),(.n (.str a1))]) [] (endQ c148 R)=V148 a0 a1 R:=by kernel_rfl
abbrev qr_ (p0:Mir.D) (p1:ByteArray):=
 ((D.cells p0)[0]?=some (Mir.D.str p1))
def V144 (a0:LD) (R:Mir.AV→Prop):Prop:=
 (∃x0:qn_,(∃x1:qo_,(((rh [])∧(x0 0 a0 (a0.length:Int) 0))∧(∀x2:Int,(∀x3:LD,(∀x4:Int,(∀x5:Int,((x0 x2 x3 x4 x5)→(∀x6:(Nat→Mir.AV),(sel (decide (x5<x4)) ((rn 1)∧((0:Int)≤x5)∧(∃x7:Mir.D,((qp_ x3 x5 x7)∧(∃x8:ByteArray,((qr_ x7 x8)∧(∃x9:Int,((Runs Fs 167 [(.n (Mir.D.int .u32 x2)),(aS x8)] [] (.n (Mir.D.int .u32 x9)) [])∧(rh [])∧(x0 x9 x3 x4 (IntKind.wrap .i64 (x5+1)))∧(((x1 x9 x3 x4 (IntKind.wrap .i64 (x5+1))):Nat)<(x1 x2 x3 x4 x5))))))))) (R (.n (Mir.D.int .u32 x2)))))))))))))
def V144e (a0:LD) (R:Mir.AV→Prop):=PLift.up (by delta V144 qp_ qo_ qn_ qr_;exact rfl:V144 a0 R=_)
theorem vc144 (a0:LD) (R:Mir.AV→Prop):Vc Fs c144.body (argsQ c144 [(.o (.sl 1 a0))]) [] (endQ c144 R)=V144 a0 R:=by kernel_rfl
def V117 (a0:ByteArray) (R:Mir.AV→Prop):Prop:=
 (∃x0:Int,((Runs Fs 148 [(.n (Mir.D.int .u32 0)),(aS a0)] [] (.n (Mir.D.int .u32 x0)) [])∧(R (.n (Mir.D.int .u32 x0)))))
theorem vc117 (a0:ByteArray) (R:Mir.AV→Prop):Vc Fs c117.body (argsQ c117 [(.n (.str a0))]) [] (endQ c117 R)=V117 a0 R:=by kernel_rfl
def V112 (a0:ByteArray) (R:Mir.AV→Prop):Prop:=
 ((0=0)∧(∃x0:Int,((Runs Fs 144 [(aL [(Mir.D.str a0)])] [] (.n (Mir.D.int .u32 x0)) [])∧((0:Int)≤8)∧((0:Int)≤16)∧((0:Int)≤24)∧(rn 0)∧((rn 1)∨(@Eq LD [(Mir.D.int .u8 (IntKind.wrap .u8 x0)),(Mir.D.int .u8 (IntKind.wrap .u8 (Int.fdiv x0 (2 ^ (Min.min (Int.toNat 8) (Go.IntKind.bits .u32)))))),(Mir.D.int .u8 (IntKind.wrap .u8 (Int.fdiv x0 (2 ^ (Min.min (Int.toNat 16) (Go.IntKind.bits .u32)))))),(Mir.D.int .u8 (IntKind.wrap .u8 (Int.fdiv x0 (2 ^ (Min.min (Int.toNat 24) (Go.IntKind.bits .u32))))))] []))∧(((List.all [(Mir.D.int .u8 (IntKind.wrap .u8 x0)),(Mir.D.int .u8 (IntKind.wrap .u8 (Int.fdiv x0 (2 ^ (Min.min (Int.toNat 8) (Go.IntKind.bits .u32)))))),(Mir.D.int .u8 (IntKind.wrap .u8 (Int.fdiv x0 (2 ^ (Min.min (Int.toNat 16) (Go.IntKind.bits .u32)))))),(Mir.D.int .u8 (IntKind.wrap .u8 (Int.fdiv x0 (2 ^ (Min.min (Int.toNat 24) (Go.IntKind.bits .u32))))))] Go.Mir.D.isU8):Bool)=true)∧(0=0)∧(∃x1:ByteArray,((Runs Fs 109 [(aL [(Mir.D.str a0),(Mir.D.str (ByteArray.mk (List.toArray (List.map Go.Mir.byteOf [(Mir.D.int .u8 (IntKind.wrap .u8 x0)),(Mir.D.int .u8 (IntKind.wrap .u8 (Int.fdiv x0 (2 ^ (Min.min (Int.toNat 8) (Go.IntKind.bits .u32)))))),(Mir.D.int .u8 (IntKind.wrap .u8 (Int.fdiv x0 (2 ^ (Min.min (Int.toNat 16) (Go.IntKind.bits .u32)))))),(Mir.D.int .u8 (IntKind.wrap .u8 (Int.fdiv x0 (2 ^ (Min.min (Int.toNat 24) (Go.IntKind.bits .u32))))))]))))])] [] (aS x1) [])∧(R (.n (.str x1))))))))
theorem vc112 (a0:ByteArray) (R:Mir.AV→Prop):Vc Fs c112.body (argsQ c112 [(.n (.str a0))]) [] (endQ c112 R)=V112 a0 R:=by kernel_rfl
def V82 (a0:ByteArray) (R:Mir.AV→Prop):Prop:=
 (∃x0:Int,((Runs Fs 117 [(aS a0)] [] (.n (Mir.D.int .u32 x0)) [])∧((256:Int)≠0)∧((256:Int)≠0)∧((256:Int)≠0)∧((65536:Int)≠0)∧((256:Int)≠0)∧((16777216:Int)≠0)∧(rn 0)∧((rn 1)∨(@Eq LD [(Mir.D.int .u8 (IntKind.wrap .u8 (Int.tmod x0 256))),(Mir.D.int .u8 (IntKind.wrap .u8 (Int.tmod (IntKind.wrap .u32 (Int.tdiv x0 256)) 256))),(Mir.D.int .u8 (IntKind.wrap .u8 (Int.tmod (IntKind.wrap .u32 (Int.tdiv x0 65536)) 256))),(Mir.D.int .u8 (IntKind.wrap .u8 (IntKind.wrap .u32 (Int.tdiv x0 16777216))))] []))∧(((List.all [(Mir.D.int .u8 (IntKind.wrap .u8 (Int.tmod x0 256))),(Mir.D.int .u8 (IntKind.wrap .u8 (Int.tmod (IntKind.wrap .u32 (Int.tdiv x0 256)) 256))),(Mir.D.int .u8 (IntKind.wrap .u8 (Int.tmod (IntKind.wrap .u32 (Int.tdiv x0 65536)) 256))),(Mir.D.int .u8 (IntKind.wrap .u8 (IntKind.wrap .u32 (Int.tdiv x0 16777216))))] Go.Mir.D.isU8):Bool)=true)∧((((((ByteArray.size a0)+(ByteArray.size (ByteArray.mk (List.toArray (List.map Go.Mir.byteOf [(Mir.D.int .u8 (IntKind.wrap .u8 (Int.tmod x0 256))),(Mir.D.int .u8 (IntKind.wrap .u8 (Int.tmod (IntKind.wrap .u32 (Int.tdiv x0 256)) 256))),(Mir.D.int .u8 (IntKind.wrap .u8 (Int.tmod (IntKind.wrap .u32 (Int.tdiv x0 65536)) 256))),(Mir.D.int .u8 (IntKind.wrap .u8 (IntKind.wrap .u32 (Int.tdiv x0 16777216))))]))))):Nat):Int):Int)≤9223372036854775807)∧(R (.n (.str (a0++(ByteArray.mk (List.toArray (List.map Go.Mir.byteOf [(Mir.D.int .u8 (IntKind.wrap .u8 (Int.tmod x0 256))),(Mir.D.int .u8 (IntKind.wrap .u8 (Int.tmod (IntKind.wrap .u32 (Int.tdiv x0 256)) 256))),(Mir.D.int .u8 (IntKind.wrap .u8 (Int.tmod (IntKind.wrap .u32 (Int.tdiv x0 65536)) 256))),(Mir.D.int .u8 (IntKind.wrap .u8 (IntKind.wrap .u32 (Int.tdiv x0 16777216))))])))))))))
theorem vc82 (a0:ByteArray) (R:Mir.AV→Prop):Vc Fs c82.body (argsQ c82 [(.n (.str a0))]) [] (endQ c82 R)=V82 a0 R:=by kernel_rfl
abbrev qs_ (p0 p1:Int) (p2:Mir.AV→Prop) (p3:ByteArray):=
 (sel (decide (p0≥1)) (sel (decide (p0≤5)) (sel (decide (p1≥0)) (sel (decide (p1≤1099511627776)) (p2 (.n (.bool (decide ((((ByteArray.size p3):Nat):Int)≤4000))))) (p2 (.n (.bool false)))) (p2 (.n (.bool false)))) (p2 (.n (.bool false)))) (p2 (.n (.bool false))))
def V110 (a0_0:Int) (a0_1:Int) (a0_2:ByteArray) (R:Mir.AV→Prop):Prop:=
 (qs_ a0_0 a0_1 R a0_2)
def V110e (a0_0:Int) (a0_1:Int) (a0_2:ByteArray) (R:Mir.AV→Prop):=PLift.up (by delta V110 qs_;exact rfl:V110 a0_0 a0_1 a0_2 R=_)
theorem vc110 (a0_0:Int) (a0_1:Int) (a0_2:ByteArray) (R:Mir.AV→Prop):Vc Fs c110.body (argsQ c110 [(.agg [(.n (.int .i64 a0_0)),(.n (.int .i64 a0_1)),(.n (.str a0_2))])]) [] (endQ c110 R)=V110 a0_0 a0_1 a0_2 R:=by kernel_rfl
def V84 (a0_0:Int) (a0_1:Int) (a0_2:ByteArray) (R:Mir.AV→Prop):Prop:=
 (qs_ a0_0 a0_1 R a0_2)
def V84e (a0_0:Int) (a0_1:Int) (a0_2:ByteArray) (R:Mir.AV→Prop):=PLift.up (by delta V84 qs_;exact rfl:V84 a0_0 a0_1 a0_2 R=_)
theorem vc84 (a0_0:Int) (a0_1:Int) (a0_2:ByteArray) (R:Mir.AV→Prop):Vc Fs c84.body (argsQ c84 [(.agg [(.n (.int .i64 a0_0)),(.n (.int .i64 a0_1)),(.n (.str a0_2))])]) [] (endQ c84 R)=V84 a0_0 a0_1 a0_2 R:=by kernel_rfl
def V77 (a0_0:Int) (a0_1:Int) (a0_2:ByteArray) (R:Mir.AV→Prop):Prop:=
 (∃x0:Bool,((Runs Fs 110 [(.agg [(aI a0_0),(aI a0_1),(aS a0_2)])] [] (aB x0) [])∧(sel (Bool.not x0) (qb_ R) (∃x1:ByteArray,(∃x2:Int,((Runs Fs 106 [(aI a0_0),(aI 1)] [] (.tup [(aS x1),(aI x2)]) [])∧(∃x3:ByteArray,(∃x4:Int,((Runs Fs 106 [(aI a0_1),(aI 6)] [] (.tup [(aS x3),(aI x4)]) [])∧(∃x5:ByteArray,(∃x6:Int,((Runs Fs 108 [(aS a0_2)] [] (.tup [(aS x5),(aI x6)]) [])∧(0=0)∧(∃x7:ByteArray,((Runs Fs 109 [(aL [(Mir.D.str x1),(Mir.D.str x3),(Mir.D.str x5)])] [] (aS x7) [])∧(∃x8:ByteArray,((Runs Fs 112 [(aS x7)] [] (aS x8) [])∧(∃x9:ByteArray,((Runs Fs 111 [(aS x8)] [] (aS x9) [])∧(R (.tup [(.n (.str x9)),(.n (.int .i64 0))]))))))))))))))))))))
def V77e (a0_0:Int) (a0_1:Int) (a0_2:ByteArray) (R:Mir.AV→Prop):=PLift.up (by delta V77 qf_ qe_ qb_;exact rfl:V77 a0_0 a0_1 a0_2 R=_)
theorem vc77 (a0_0:Int) (a0_1:Int) (a0_2:ByteArray) (R:Mir.AV→Prop):Vc Fs c77.body (argsQ c77 [(.agg [(.n (.int .i64 a0_0)),(.n (.int .i64 a0_1)),(.n (.str a0_2))])]) [] (endQ c77 R)=V77 a0_0 a0_1 a0_2 R:=by kernel_rfl
abbrev qt_ (p0:ByteArray):=
 ((((ByteArray.size p0):Nat):Int) - 4)
abbrev qu_ (p0 p1:ByteArray):=
 ((ByteArray.toList p0)==(ByteArray.toList p1))
def V153 (a0:ByteArray) (R:Mir.AV→Prop):Prop:=
 (sel (decide ((IntKind.wrap .i64 (qt_ a0))<0)) (R (.tup [qe_,(.n (.int .i64 3))])) (((0:Int)≤(IntKind.wrap .i64 (qt_ a0)))∧(((IntKind.wrap .i64 (qt_ a0)):Int)≤(((ByteArray.size a0):Nat):Int))∧(∃x0:ByteArray,((Runs Fs 112 [(aS (ByteArray.extract a0 0 (Int.toNat (IntKind.wrap .i64 (qt_ a0)))))] [] (aS x0) [])∧(sel (Bool.not (qu_ x0 a0)) (R (.tup [qe_,(.n (.int .i64 41))])) (((0:Int)≤(IntKind.wrap .i64 (qt_ a0)))∧(((IntKind.wrap .i64 (qt_ a0)):Int)≤(((ByteArray.size a0):Nat):Int))∧(R (.tup [(.n (.str (ByteArray.extract a0 0 (Int.toNat (IntKind.wrap .i64 (qt_ a0)))))),(.n (.int .i64 0))]))))))))
def V153e (a0:ByteArray) (R:Mir.AV→Prop):=PLift.up (by delta V153 qu_ qf_ qe_ qt_;exact rfl:V153 a0 R=_)
theorem vc153 (a0:ByteArray) (R:Mir.AV→Prop):Vc Fs c153.body (argsQ c153 [(.n (.str a0))]) [] (endQ c153 R)=V153 a0 R:=by kernel_rfl
abbrev qv_:Mir.AV:=
 (.agg [(.n (.int .i64 0)),(.n (.int .i64 0)),qe_])
abbrev qw_ (p0 p1 p2:Int):Mir.AV:=
 (.tup [(aI p0),(aI p1),(aI p2)])
abbrev qx_ (p0:Mir.AV→Prop):=
 (p0 (.tup [qv_,(.n (.int .i64 4))]))
abbrev qy_ (p0:Mir.AV→Prop):=
 (p0 (.tup [qv_,(.n (.int .i64 40))]))
abbrev qz_ (p0:ByteArray):=
 (Bool.not ((ByteArray.toList p0)==(ByteArray.toList qf_)))
def V123 (a0:ByteArray) (R:Mir.AV→Prop):Prop:=
 (∃x0:ByteArray,(∃x1:Int,((Runs Fs 151 [(aS a0),(aI 4096)] [] (.tup [(aS x0),(aI x1)]) [])∧(sel (x1 != 0) (R (.tup [qv_,(.n (.int .i64 1))])) (∃x2:Int,(∃x3:Int,(∃x4:Int,((Runs Fs 152 [(aS x0),(aI 7),(aI 2)] [] (qw_ x2 x3 x4) [])∧(sel (decide (x2 > 4000)) (qx_ R) (((0:Int)≤(IntKind.wrap .i64 ((IntKind.wrap .i64 (9+x2))+4)))∧(((IntKind.wrap .i64 ((IntKind.wrap .i64 (9+x2))+4)):Int)≤(((ByteArray.size x0):Nat):Int))∧(∃x5:ByteArray,(∃x6:Int,((Runs Fs 153 [(aS (ByteArray.extract x0 0 (Int.toNat (IntKind.wrap .i64 ((IntKind.wrap .i64 (9+x2))+4)))))] [] (.tup [(aS x5),(aI x6)]) [])∧(sel (x6 != 0) (R (.tup [qv_,(.n (.int .i64 x6))])) (∃x7:Int,(∃x8:Int,(∃x9:Int,((Runs Fs 152 [(aS x5),(aI 0),(aI 1)] [] (qw_ x7 x8 x9) [])∧(∃x10:Int,(∃x11:Int,(∃x12:Int,((Runs Fs 152 [(aS x5),(aI x8),(aI 6)] [] (qw_ x10 x11 x12) [])∧((0:Int)≤9)∧((9:Int)≤(((ByteArray.size x5):Nat):Int))∧(sel (decide (x7<1)) (qy_ R) (sel (decide (x7 > 5)) (qy_ R) (∃x13:Bool,((Runs Fs 110 [(.agg [(aI x7),(aI x10),(aS (ByteArray.extract x5 (Int.toNat 9) (ByteArray.size x5)))])] [] (aB x13) [])∧(sel (Bool.not x13) (qx_ R) (((0:Int)≤(IntKind.wrap .i64 ((IntKind.wrap .i64 (9+x2))+4)))∧(((IntKind.wrap .i64 ((IntKind.wrap .i64 (9+x2))+4)):Int)≤(((ByteArray.size x0):Nat):Int))∧(∃x14:ByteArray,((Runs Fs 111 [(aS (ByteArray.extract x0 (Int.toNat (IntKind.wrap .i64 ((IntKind.wrap .i64 (9+x2))+4))) (ByteArray.size x0)))] [] (aS x14) [])∧(sel (qz_ x14) (qx_ R) (R (.tup [(.agg [(.n (.int .i64 x7)),(.n (.int .i64 x10)),(.n (.str (ByteArray.extract x5 (Int.toNat 9) (ByteArray.size x5))))]),(.n (.int .i64 0))])))))))))))))))))))))))))))))))))
def V123e (a0:ByteArray) (R:Mir.AV→Prop):=PLift.up (by delta V123 qy_ qx_ qz_ qf_ qv_ qe_ qw_;exact rfl:V123 a0 R=_)
theorem vc123 (a0:ByteArray) (R:Mir.AV→Prop):Vc Fs c123.body (argsQ c123 [(.n (.str a0))]) [] (endQ c123 R)=V123 a0 R:=by kernel_rfl
abbrev qA_ (p0:ByteArray):=
 (decide ((((ByteArray.size p0):Nat):Int) > 4096))
def V57 (a0:ByteArray) (R:Mir.AV→Prop):Prop:=
 (sel (qA_ a0) (R (.tup [qv_,(.n (.int .i64 1))])) (∃x0:ByteArray,(∃x1:Int,((Runs Fs 81 [(aS a0),(aI 4096)] [] (.tup [(aS x0),(aI x1)]) [])∧((0:Int)≤7)∧(∃x2:UInt8,((((GetElem?.getElem? (qi_ x0) (Int.toNat 7)):(Option UInt8))=(some x2))∧((0:Int)≤8)∧(∃x3:UInt8,((((GetElem?.getElem? (qi_ x0) (Int.toNat 8)):(Option UInt8))=(some x3))∧(sel (decide ((IntKind.wrap .i64 ((IntKind.wrap .i64 (256*(IntKind.wrap .i64 (((UInt8.toNat x2):Nat):Int))))+(IntKind.wrap .i64 (((UInt8.toNat x3):Nat):Int)))) > 4000)) (qx_ R) (((0:Int)≤(IntKind.wrap .i64 (9+(IntKind.wrap .i64 ((IntKind.wrap .i64 (256*(IntKind.wrap .i64 (((UInt8.toNat x2):Nat):Int))))+(IntKind.wrap .i64 (((UInt8.toNat x3):Nat):Int)))))))∧(((IntKind.wrap .i64 (9+(IntKind.wrap .i64 ((IntKind.wrap .i64 (256*(IntKind.wrap .i64 (((UInt8.toNat x2):Nat):Int))))+(IntKind.wrap .i64 (((UInt8.toNat x3):Nat):Int)))))):Int)≤(((ByteArray.size x0):Nat):Int))∧(∃x4:ByteArray,((Runs Fs 82 [(aS (ByteArray.extract x0 0 (Int.toNat (IntKind.wrap .i64 (9+(IntKind.wrap .i64 ((IntKind.wrap .i64 (256*(IntKind.wrap .i64 (((UInt8.toNat x2):Nat):Int))))+(IntKind.wrap .i64 (((UInt8.toNat x3):Nat):Int)))))))))] [] (aS x4) [])∧((0:Int)≤(IntKind.wrap .i64 (13+(IntKind.wrap .i64 ((IntKind.wrap .i64 (256*(IntKind.wrap .i64 (((UInt8.toNat x2):Nat):Int))))+(IntKind.wrap .i64 (((UInt8.toNat x3):Nat):Int)))))))∧(((IntKind.wrap .i64 (13+(IntKind.wrap .i64 ((IntKind.wrap .i64 (256*(IntKind.wrap .i64 (((UInt8.toNat x2):Nat):Int))))+(IntKind.wrap .i64 (((UInt8.toNat x3):Nat):Int)))))):Int)≤(((ByteArray.size x0):Nat):Int))∧(sel (Bool.not ((ByteArray.toList x4)==(ByteArray.toList (ByteArray.extract x0 0 (Int.toNat (IntKind.wrap .i64 (13+(IntKind.wrap .i64 ((IntKind.wrap .i64 (256*(IntKind.wrap .i64 (((UInt8.toNat x2):Nat):Int))))+(IntKind.wrap .i64 (((UInt8.toNat x3):Nat):Int))))))))))) (R (.tup [qv_,(.n (.int .i64 41))])) (∃x5:Int,(∃x6:Int,(∃x7:Int,((Runs Fs 83 [(aS x0),(aI 1),(aI 6)] [] (qw_ x5 x6 x7) [])∧((0:Int)≤0)∧(∃x8:UInt8,((((GetElem?.getElem? (qi_ x0) (Int.toNat 0)):(Option UInt8))=(some x8))∧((0:Int)≤(IntKind.wrap .i64 (9+(IntKind.wrap .i64 ((IntKind.wrap .i64 (256*(IntKind.wrap .i64 (((UInt8.toNat x2):Nat):Int))))+(IntKind.wrap .i64 (((UInt8.toNat x3):Nat):Int)))))))∧(((IntKind.wrap .i64 (9+(IntKind.wrap .i64 ((IntKind.wrap .i64 (256*(IntKind.wrap .i64 (((UInt8.toNat x2):Nat):Int))))+(IntKind.wrap .i64 (((UInt8.toNat x3):Nat):Int)))))):Int)≤(((ByteArray.size x0):Nat):Int))∧((0:Int)≤9)∧((9:Int)≤(((Int.toNat (IntKind.wrap .i64 (9+(IntKind.wrap .i64 ((IntKind.wrap .i64 (256*(IntKind.wrap .i64 (((UInt8.toNat x2):Nat):Int))))+(IntKind.wrap .i64 (((UInt8.toNat x3):Nat):Int))))))):Nat):Int))∧(sel (decide ((IntKind.wrap .i64 (((UInt8.toNat x8):Nat):Int))<1)) (qy_ R) (sel (decide ((IntKind.wrap .i64 (((UInt8.toNat x8):Nat):Int)) > 5)) (qy_ R) (∃x9:Bool,((Runs Fs 84 [(.agg [(aI (IntKind.wrap .i64 (((UInt8.toNat x8):Nat):Int))),(aI x5),(aS (ByteArray.extract x0 (Int.toNat 9) (Int.toNat (IntKind.wrap .i64 (9+(IntKind.wrap .i64 ((IntKind.wrap .i64 (256*(IntKind.wrap .i64 (((UInt8.toNat x2):Nat):Int))))+(IntKind.wrap .i64 (((UInt8.toNat x3):Nat):Int)))))))))])] [] (aB x9) [])∧(sel (Bool.not x9) (qx_ R) (((0:Int)≤(IntKind.wrap .i64 (13+(IntKind.wrap .i64 ((IntKind.wrap .i64 (256*(IntKind.wrap .i64 (((UInt8.toNat x2):Nat):Int))))+(IntKind.wrap .i64 (((UInt8.toNat x3):Nat):Int)))))))∧(((IntKind.wrap .i64 (13+(IntKind.wrap .i64 ((IntKind.wrap .i64 (256*(IntKind.wrap .i64 (((UInt8.toNat x2):Nat):Int))))+(IntKind.wrap .i64 (((UInt8.toNat x3):Nat):Int)))))):Int)≤(((ByteArray.size x0):Nat):Int))∧(∃x10:ByteArray,((Runs Fs 85 [(aS (ByteArray.extract x0 (Int.toNat (IntKind.wrap .i64 (13+(IntKind.wrap .i64 ((IntKind.wrap .i64 (256*(IntKind.wrap .i64 (((UInt8.toNat x2):Nat):Int))))+(IntKind.wrap .i64 (((UInt8.toNat x3):Nat):Int))))))) (ByteArray.size x0)))] [] (aS x10) [])∧(sel (qz_ x10) (qx_ R) (R (.tup [(.agg [(.n (.int .i64 (IntKind.wrap .i64 (((UInt8.toNat x8):Nat):Int)))),(.n (.int .i64 x5)),(.n (.str (ByteArray.extract x0 (Int.toNat 9) (Int.toNat (IntKind.wrap .i64 (9+(IntKind.wrap .i64 ((IntKind.wrap .i64 (256*(IntKind.wrap .i64 (((UInt8.toNat x2):Nat):Int))))+(IntKind.wrap .i64 (((UInt8.toNat x3):Nat):Int))))))))))]),(.n (.int .i64 0))]))))))))))))))))))))))))))))))
def V57e (a0:ByteArray) (R:Mir.AV→Prop):=PLift.up (by delta V57 qA_ qy_ qx_ qz_ qf_ qi_ qv_ qe_ qw_;exact rfl:V57 a0 R=_)
theorem vc57 (a0:ByteArray) (R:Mir.AV→Prop):Vc Fs c57.body (argsQ c57 [(.n (.str a0))]) [] (endQ c57 R)=V57 a0 R:=by kernel_rfl
def V154 (a0:LD) (a1:Int) (R:Mir.AV→Prop):Prop:=
 (∃x0:(LD→qq_),(∃x1:(LD→(Int→(Int→(Int→Nat)))),(((rh [])∧(x0 a0 a1 (a0.length:Int) 0))∧(∀x2:LD,(∀x3:Int,(∀x4:Int,(∀x5:Int,((x0 x2 x3 x4 x5)→(∀x6:(Nat→Mir.AV),(sel (decide (x5<x4)) ((rn 1)∧((0:Int)≤x5)∧(∃x7:Mir.D,((qp_ x2 x5 x7)∧(∃x8:Int,(((D.cells x7)[0]?=some (Mir.D.int .i64 x8))∧(sel (x3==x8) (R (.n (.int .i64 x5))) ((rh [])∧(x0 x2 x3 x4 (IntKind.wrap .i64 (x5+1)))∧(((x1 x2 x3 x4 (IntKind.wrap .i64 (x5+1))):Nat)<(x1 x2 x3 x4 x5))))))))) (R (.n (.int .i64 (-1))))))))))))))
def V154e (a0:LD) (a1:Int) (R:Mir.AV→Prop):=PLift.up (by delta V154 qp_ qq_;exact rfl:V154 a0 a1 R=_)
theorem vc154 (a0:LD) (a1:Int) (R:Mir.AV→Prop):Vc Fs c154.body (argsQ c154 [(.o (.sl 1 a0)),(.n (.int .i64 a1))]) [] (endQ c154 R)=V154 a0 a1 R:=by kernel_rfl
def V124 (a0:LD) (a1:Int) (R:Mir.AV→Prop):Prop:=
 (∃x0:Int,((Runs Fs 154 [(aL a0),(aI a1)] [] (aI x0) [])∧(R (.n (.bool (decide (x0≥0)))))))
theorem vc124 (a0:LD) (a1:Int) (R:Mir.AV→Prop):Vc Fs c124.body (argsQ c124 [(.o (.sl 1 a0)),(.n (.int .i64 a1))]) [] (endQ c124 R)=V124 a0 a1 R:=by kernel_rfl
def V90 (a0:ByteArray) (a1:LD) (R:Mir.AV→Prop):Prop:=
 (∃x0:Int,(∃x1:Int,(∃x2:ByteArray,(∃x3:Int,((Runs Fs 123 [(aS a0)] [] (.tup [(.agg [(aI x0),(aI x1),(aS x2)]),(aI x3)]) [])∧(sel (x3 != 0) (R (.tup [qv_,(.n (.int .i64 x3))])) (∃x4:Bool,((Runs Fs 124 [(aL a1),(aI x0)] [] (aB x4) [])∧(sel (Bool.not x4) (qy_ R) (R (.tup [(.agg [(.n (.int .i64 x0)),(.n (.int .i64 x1)),(.n (.str x2))]),(.n (.int .i64 0))])))))))))))
def V90e (a0:ByteArray) (a1:LD) (R:Mir.AV→Prop):=PLift.up (by delta V90 qf_ qv_ qy_ qe_;exact rfl:V90 a0 a1 R=_)
theorem vc90 (a0:ByteArray) (a1:LD) (R:Mir.AV→Prop):Vc Fs c90.body (argsQ c90 [(.n (.str a0)),(.o (.sl 1 a1))]) [] (endQ c90 R)=V90 a0 a1 R:=by kernel_rfl
abbrev qB_ (p0:Int) (p1:Mir.AV→Prop) (p2:ByteArray) (p3 p4:Int):=
 (sel (p0 != 0) (p1 (.tup [qe_,(.n (.int .i64 0)),(.n (.int .i64 p0))])) (sel (decide ((IntKind.wrap .i64 ((((ByteArray.size p2):Nat):Int) - p3))<p4)) (p1 (.tup [qe_,(.n (.int .i64 0)),(.n (.int .i64 3))])) (((0:Int)≤(IntKind.wrap .i64 (p3+p4)))∧(((IntKind.wrap .i64 (p3+p4)):Int)≤(((ByteArray.size p2):Nat):Int))∧((0:Int)≤p3)∧((p3:Int)≤(((Int.toNat (IntKind.wrap .i64 (p3+p4))):Nat):Int))∧(p1 (.tup [(.n (.str (ByteArray.extract p2 (Int.toNat p3) (Int.toNat (IntKind.wrap .i64 (p3+p4)))))),(.n (.int .i64 (IntKind.wrap .i64 (p3+p4)))),(.n (.int .i64 0))])))))
def V155 (a0:ByteArray) (a1:Int) (R:Mir.AV→Prop):Prop:=
 (∃x0:Int,(∃x1:Int,(∃x2:Int,((Runs Fs 152 [(aS a0),(aI a1),(aI 2)] [] (qw_ x0 x1 x2) [])∧(qB_ x2 R a0 x1 x0)))))
def V155e (a0:ByteArray) (a1:Int) (R:Mir.AV→Prop):=PLift.up (by delta V155 qf_ qw_ qe_ qB_;exact rfl:V155 a0 a1 R=_)
theorem vc155 (a0:ByteArray) (a1:Int) (R:Mir.AV→Prop):Vc Fs c155.body (argsQ c155 [(.n (.str a0)),(.n (.int .i64 a1))]) [] (endQ c155 R)=V155 a0 a1 R:=by kernel_rfl
def V146 (a0:ByteArray) (a1:Int) (R:Mir.AV→Prop):Prop:=
 (∃x0:Int,(∃x1:Int,(∃x2:Int,((Runs Fs 83 [(aS a0),(aI a1),(aI 2)] [] (qw_ x0 x1 x2) [])∧(qB_ x2 R a0 x1 x0)))))
def V146e (a0:ByteArray) (a1:Int) (R:Mir.AV→Prop):=PLift.up (by delta V146 qf_ qw_ qe_ qB_;exact rfl:V146 a0 a1 R=_)
theorem vc146 (a0:ByteArray) (a1:Int) (R:Mir.AV→Prop):Vc Fs c146.body (argsQ c146 [(.n (.str a0)),(.n (.int .i64 a1))]) [] (endQ c146 R)=V146 a0 a1 R:=by kernel_rfl
end Go.Proofs.YtclgengkohbjjaaGreatDoor.M
