import Derived.Test.YtegndijbpiccgaaGreatDoorProg
import Derived.Test.YtegndijbpiccgaaGreatDoorMirI
import Derived.Test.YtegndijbpiccgaaGreatDoorMirL
import Derived.KernelRfl
import Derived.Test.YtegndijbpiccgaaGreatDoorMirM
import Derived.Test.YtegndijbpiccgaaGreatDoorR5Txt
namespace Go.Proofs.YtegndijbpiccgaaGreatDoor.M
set_option linter.unusedVariables false
set_option linter.unusedSimpArgs false
open Go Go.Mir Go.Proofs
def IM:List Nat:=[1000031,1000092]
noncomputable def b31:=bO Tryz.prog Tryz.f31.body IM 31 [(2,[1,3],[],[(198406464,3190001,129,2),(198406465,3190002,3,1)],[]),(4,[3],[],[],[3190001,3190002])] []
noncomputable def c31:FnC:=⟨31,15,[.tmp 2],b31,true,[.agg [.slo 1,.slo 1,.slo 1,.int .i64,.int .i64]],.val (.one .raw),none,false,[(.val (.one (.ptr 3100101 0)),[.box 3100101 [.row 3190001,.row 3190002,.int .i64,.bool],.row 3190001 129 2 false,.row 3190002 3 1 false])]⟩
theorem AGd:IsFn Tryz.prog 31 c31:=A0 Tryz.func31 rfl rfl
noncomputable def b30:=bO Tryz.prog Tryz.f30.body IM 30 [] [(4,[.keepF 30,.keep 0,.keep 1,.keep 12,.slot 13 (.one (.int .i64))])]
noncomputable def c30:FnC:=⟨30,26,[.tmp 4],b30,false,[.one (.slo 2),.one (.slo 2)],.val (.one .bool),none,false,[]⟩
theorem ADu:IsFn Tryz.prog 30 c30:=A0 Tryz.func30 rfl rfl
noncomputable def b44:=bO Tryz.prog Tryz.f44.body IM 44 [] [(5,[.keepF 44,.keep 4,.keep 6,.keep 21,.keep 22,.slot 23 (.one (.int .i64)),.box 4400001 [.int .i64,.int .i64,.int .i64],.keepO 4460101,.row 4450101 4 1 false]),(12,[.keepF 44,.keep 4,.keep 6,.keep 60,.keep 61,.slot 62 (.one (.int .i64)),.box 4400001 [.int .i64,.int .i64,.int .i64],.keepO 4460101,.keepO 4450101])]
noncomputable def c44:FnC:=⟨44,86,[.cell 4 (some 3),.tmp 5],b44,false,[.agg [.slo 1,.slo 1,.slo 1,.int .i64,.int .i64],.one (.slo 1)],.tup [.agg [.int .i64,.int .i64,.int .i64],.one (.int .i64)],none,false,[]⟩
theorem AC7:IsFn Tryz.prog 44 c44:=A0 Tryz.func44 rfl rfl
noncomputable def b67:=bO Tryz.prog Tryz.f67.body IM 67 [] []
noncomputable def c67:FnC:=⟨67,48,[.tmp 2],b67,false,[.agg [.slo 1,.slo 1,.slo 1,.int .i64,.int .i64]],.val (.one .bool),none,false,[]⟩
theorem AFM:IsFn Tryz.prog 67 c67:=A0 Tryz.func67 rfl rfl
noncomputable def b71:=bO Tryz.prog Tryz.f71.body IM 71 [(11,[0,3,4,5,7,14],[7101712,7101713],[],[]),(12,[0,3,4,5,7,14,82,83,84],[7101712,7101713],[],[]),(18,[0,3,4,5,7,14,82,83,84],[7101712,7101713],[],[])] [(2,[.keepF 71,.keep 0,.keep 2,.keep 3,.keep 4,.keep 5,.keep 7,.keep 25,.keep 26,.slot 27 (.one (.int .i64)),.box 3100101 [.row 3190001,.row 3190002,.int .i64,.bool],.keepO 3190001,.keepO 3190002,.keepO 7100000]),(12,[.keepF 71,.keep 0,.keep 3,.keep 4,.keep 5,.keep 7,.keep 14,.keep 82,.keep 83,.slot 84 (.one (.int .i64)),.box 3100101 [.row 3190001,.row 3190002,.int .i64,.bool],.row 3190001 129 2 false,.keepO 3190002,.keepO 7100000,.keepO 7100708]),(24,[.keepF 71,.keep 0,.keep 3,.keep 4,.keep 5,.keep 7,.keep 14,.keep 139,.keep 140,.slot 141 (.one (.int .i64)),.box 3100101 [.row 3190001,.row 3190002,.int .i64,.bool],.row 3190001 129 2 false,.row 3190002 3 1 false,.keepO 7100000,.keepO 7100708])]
noncomputable def c71:FnC:=⟨71,180,[],b71,false,[.one .raw,.agg [.slo 1,.slo 1,.slo 1,.int .i64,.int .i64],.one (.int .i64),.one (.int .i64),.one .str,.one .str],.tup [],none,true,[]⟩
theorem AFc:IsFn Tryz.prog 71 c71:=A0 Tryz.func71 rfl rfl
noncomputable def AFb:=bO Tryz.prog Tryz.f194.body IM 194 [] []
noncomputable def c194:FnC:=⟨194,81,[.cell 6 (some 4),.tmp 7],AFb,false,[.one .raw,.one (.int .i64),.one .bool],.tup [.agg [.bool,.sln 1,.sln 1,.sln 1],.one .bool],none,true,[]⟩
theorem ABa:IsFn Tryz.prog 194 c194:=A0 Tryz.func194 rfl rfl
noncomputable def AFF:=bO Tryz.prog Tryz.f179.body IM 179 [] []
noncomputable def c179:FnC:=⟨179,19,[.tmp 4],AFF,false,[.agg [.bool,.slo 1,.slo 1,.slo 1],.one .str],.val (.one (.int .i64)),none,false,[]⟩
theorem uR:IsFn Tryz.prog 179 c179:=A0 Tryz.func179 rfl rfl
noncomputable def AHg:=bO Tryz.prog Tryz.f176.body IM 176 [] []
noncomputable def c176:FnC:=⟨176,29,[.tmp 4,.tmp 5],AHg,false,[.agg [.bool,.slo 1,.slo 1,.slo 1],.one .str],.tup [.one (.int .i64),.one .bool],none,false,[]⟩
theorem ABk:IsFn Tryz.prog 176 c176:=A0 Tryz.func176 rfl rfl
noncomputable def b92:=bO Tryz.prog Tryz.f92.body IM 92 [(6,[4],[],[],[9200305])] []
noncomputable def c92:FnC:=⟨92,28,[.tmp 2,.tmp 3],b92,true,[.agg [.slo 1,.slo 1,.slo 1,.int .i64,.int .i64]],.tup [.one .raw,.one (.int .i64)],none,false,[(.tup [.one (.ptr 9200307 0),.one (.int .i64)],[.box 9200307 [.slo 1,.slo 1,.slo 1,.int .i64,.int .i64,.int .i64,.int .i64,.int .i64,.row 9200305,.bool],.row 9200305 4 1 false]),(.tup [.one .nilp,.one (.int .i64)],[])]⟩
theorem ACw:IsFn Tryz.prog 92 c92:=A0 Tryz.func92 rfl rfl
noncomputable def b75:=bO Tryz.prog Tryz.f75.body IM 75 [] []
noncomputable def c75:FnC:=⟨75,29,[.tmp 2],b75,false,[.agg [.slo 1,.slo 1]],.val (.one .bool),none,false,[]⟩
theorem ADX:IsFn Tryz.prog 75 c75:=A0 Tryz.func75 rfl rfl
def AE0:Cmd:=.seq (.region [o 4 (.mov (.const (.bool false)))]) (.seq (.region [m 5 0,m 6 1,os 7 (.call false 146 [T 5,T 6]) sI,o 8 (.bin .geq (T 7) (N 0)),m 4 8]) .ret)
noncomputable def c111:FnC:=⟨111,9,[.tmp 4],AE0,false,[.one (.slo 1),.one .raw],.val (.one .bool),none,false,[]⟩
theorem zM:IsFn Tryz.prog 111 c111:=Ki [1000031,1000092] [] [] Tryz.func111 rfl
def AED:Cmd:=.seq (.region [o 2 (.mov (.const (.bool false)))]) (.seq (.region [m 3 0,os 4 (.slen (T 3)) sI,o 5 (.bin .gtr (T 4) (N 4096)),m 2 5]) .ret)
noncomputable def c112:FnC:=⟨112,6,[.tmp 2],AED,false,[.one .str],.val (.one .bool),none,false,[]⟩
theorem AAK:IsFn Tryz.prog 112 c112:=Ki [1000031,1000092] [] [] Tryz.func112 rfl
noncomputable def AFA:=bO Tryz.prog Tryz.f117.body IM 117 [] []
noncomputable def c117:FnC:=⟨117,76,[.cell 6 (some 4),.tmp 7],AFA,false,[.agg [.slo 1,.slo 1,.slo 1,.int .i64,.int .i64],.one (.int .i64),.one .bool],.tup [.agg [.bool,.slo 1,.slo 1,.slo 1],.one .bool],none,false,[]⟩
theorem xI:IsFn Tryz.prog 117 c117:=A0 Tryz.func117 rfl rfl
noncomputable def AFe:=bO Tryz.prog Tryz.f118.body IM 118 [] []
noncomputable def c118:FnC:=⟨118,19,[.tmp 6],AFe,false,[.one .str,.one .str,.one .str],.val (.one .bool),none,false,[]⟩
theorem ACk:IsFn Tryz.prog 118 c118:=A0 Tryz.func118 rfl rfl
noncomputable def AFN:=bO Tryz.prog Tryz.f217.body IM 217 [(6,[1,4,6,7,8],[21701004,21701005,21701104,21701105,21701204,21701205,21701304,21701305],[],[]),(7,[1,4,6,7,8,9],[21701004,21701005,21701104,21701105,21701204,21701205,21701304,21701305],[],[]),(8,[1,4,6,7,8,9],[21701004,21701005,21701104,21701105,21701204,21701205,21701304,21701305],[],[]),(5,[1,4,6,7],[],[(1388825793,21790001,9,1),(1388825794,21790002,9,1),(1388825795,21790003,3,1)],[])] [(7,[.keepF 217,.keep 1,.keep 4,.keep 6,.keep 7,.keep 8,.slot 9 (.one (.int .i64)),.keepO 21700000,.box 21700302 [.str,.int .i64,.int .i64],.box 21700403 [.bool,.row 21790001,.row 21790002,.row 21790003],.row 21790001 9 1 true,.row 21790002 9 1 true,.row 21790003 3 1 true])]
noncomputable def c217:FnC:=⟨217,103,[.cell 4 (some 4),.tmp 5],AFN,false,[.one (.int .i64),.one .str],.tup [.agg [.bool,.sln 1,.sln 1,.sln 1],.one (.int .i64)],none,false,[]⟩
theorem wW:IsFn Tryz.prog 217 c217:=A0 Tryz.func217 rfl rfl
noncomputable def ADV:=bO Tryz.prog Tryz.f195.body IM 195 [] []
noncomputable def c195:FnC:=⟨195,22,[.tmp 4],ADV,false,[.agg [.bool,.slo 1,.slo 1,.slo 1],.one .bool],.val (.one .bool),none,false,[]⟩
theorem zD:IsFn Tryz.prog 195 c195:=A0 Tryz.func195 rfl rfl
noncomputable def ADW:=bO Tryz.prog Tryz.f197.body IM 197 [] [(5,[.keepF 197,.keep 1,.keep 3,.keep 12,.keep 13,.slot 14 (.one (.int .i64)),.keepO 19700000])]
noncomputable def c197:FnC:=⟨197,83,[.tmp 2],ADW,false,[.agg [.bool,.slo 1,.slo 1,.slo 1]],.val (.one .bool),none,false,[]⟩
theorem zY:IsFn Tryz.prog 197 c197:=A0 Tryz.func197 rfl rfl
def AE3:Cmd:=.seq (.region [o 2 (.box 19800000 (T 0)),o 3 (.box 19800001 (T 1)),mN 4 0]) (.seq (.region [os 5 (.ld (T 2) none) sL,os 6 (.len (T 5)) sI,o 7 (.mkf 222 [T 2,T 3]),os 8 (.call false 221 [T 6,T 7]) sI,m 4 8]) .ret)
noncomputable def c198:FnC:=⟨198,9,[.tmp 4],AE3,false,[.one (.slo 1),.one .str],.val (.one (.int .i64)),none,false,[]⟩
theorem AAW:IsFn Tryz.prog 198 c198:=Ki [1000031,1000092] [] [] Tryz.func198 rfl
noncomputable def ACY:=bO Tryz.prog Tryz.f137.body IM 137 [] [(13,[.keepF 137,.keep 0,.keep 2,.keep 8,.keep 9,.keep 10,.keep 121,.keep 122,.slot 123 (.one (.int .i64)),.box 9200307 [.slo 1,.slo 1,.slo 1,.int .i64,.int .i64,.int .i64,.int .i64,.int .i64,.row 9200305,.bool],.row 9200305 4 1 false,.keepO 13700000,.keepO 13700001,.keepO 13700111])]
noncomputable def c137:FnC:=⟨137,160,[],ACY,false,[.one .raw,.one (.int .i64),.one (.int .i64),.one .str,.one .str],.tup [],none,true,[]⟩
theorem zV:IsFn Tryz.prog 137 c137:=A0 Tryz.func137 rfl rfl
noncomputable def AGC:=bO Tryz.prog Tryz.f121.body IM 121 [(2,[0,3],[12100401],[],[]),(3,[0,3,6,7],[12100401],[],[]),(7,[0,3,6,7],[12100401],[],[])] [(3,[.keepF 121,.keep 0,.slot 3 (.one (.int .i64)),.keep 6,.slot 7 (.one (.int .i64))])]
noncomputable def c121:FnC:=⟨121,18,[.tmp 2],AGC,false,[.one (.slo 1)],.val (.one (.int .i64)),none,false,[]⟩
theorem AAG:IsFn Tryz.prog 121 c121:=A0 Tryz.func121 rfl rfl
noncomputable def AEN:=bO Tryz.prog Tryz.f146.body IM 146 [] [(2,[.keepF 146,.keep 0,.keep 1,.keep 7,.slot 8 (.one (.int .i64))])]
noncomputable def c146:FnC:=⟨146,19,[.tmp 4],AEN,false,[.one (.slo 1),.one .raw],.val (.one (.int .i64)),none,false,[]⟩
theorem xW:IsFn Tryz.prog 146 c146:=A0 Tryz.func146 rfl rfl
noncomputable def AEV:=bO Tryz.prog Tryz.f171.body IM 171 [] []
noncomputable def c171:FnC:=⟨171,29,[.cell 6 (some 4),.tmp 7],AEV,false,[.agg [.slo 1,.slo 1,.slo 1,.int .i64,.int .i64],.one (.int .i64),.one .bool],.tup [.agg [.bool,.sln 1,.sln 1,.sln 1],.one (.int .i64)],none,false,[]⟩
theorem ACb:IsFn Tryz.prog 171 c171:=A0 Tryz.func171 rfl rfl
noncomputable def AFg:=bO Tryz.prog Tryz.f153.body IM 153 [(5,[0,1,4,6,7,8,9],[15301203,15301703,15302303],[(979219393,15301704,9,1),(979219394,15302304,9,1),(979219395,15301204,3,1)],[]),(6,[0,1,4,6,7,8,9,10],[15301203,15301703,15302303],[(979219393,15301704,9,1),(979219394,15302304,9,1),(979219395,15301204,3,1)],[]),(7,[0,1,4,6,7,8,9,10],[15301203,15301703,15302303],[],[])] [(6,[.keepF 153,.keep 0,.keep 1,.keep 4,.keep 6,.keep 7,.slot 8 (.one (.int .i64)),.keep 9,.slot 10 (.one (.int .i64)),.box 15300000 [.bool,.nil,.nil,.nil],.box 15300303 [.bool,.row 15301704,.row 15302304,.row 15301204],.row 15301704 9 1 true,.row 15302304 9 1 true,.row 15301204 3 1 true])]
noncomputable def c153:FnC:=⟨153,142,[.cell 4 (some 4),.tmp 5],AFg,false,[.one (.int .i64),.one .str],.tup [.agg [.bool,.slo 1,.slo 1,.slo 1],.one (.int .i64)],none,false,[]⟩
theorem xA:IsFn Tryz.prog 153 c153:=A0 Tryz.func153 rfl rfl
noncomputable def ADx:=bO Tryz.prog Tryz.f154.body IM 154 [] []
noncomputable def c154:FnC:=⟨154,22,[.tmp 4],ADx,false,[.agg [.bool,.slo 1,.slo 1,.slo 1],.one .bool],.val (.one .bool),none,false,[]⟩
theorem zA:IsFn Tryz.prog 154 c154:=A0 Tryz.func154 rfl rfl
noncomputable def ADC:=bO Tryz.prog Tryz.f237.body IM 237 [] []
noncomputable def c237:FnC:=⟨237,36,[.tmp 4],ADC,false,[.one .raw,.one (.int .i64)],.val (.one (.int .i64)),none,true,[]⟩
theorem zE:IsFn Tryz.prog 237 c237:=A0 Tryz.func237 rfl rfl
noncomputable def AGa:=bO Tryz.prog Tryz.f238.body IM 238 [] []
noncomputable def c238:FnC:=⟨238,33,[.tmp 2],AGa,false,[.one .raw],.val (.one .str),none,true,[]⟩
theorem zZ:IsFn Tryz.prog 238 c238:=A0 Tryz.func238 rfl rfl
def AG7:Cmd:=.seq (.region [o 2 (.mov (.const (.bool false)))]) (.seq (.region [m 3 0,os 4 (.slen (T 3)) sI,o 5 (.bin .gtr (T 4) (N 200)),m 2 5]) .ret)
noncomputable def c218:FnC:=⟨218,6,[.tmp 2],AG7,false,[.one .str],.val (.one .bool),none,false,[]⟩
theorem AAe:IsFn Tryz.prog 218 c218:=Ki [1000031,1000092] [] [] Tryz.func218 rfl
def ADD:Cmd:=.seq (.region [o 4 (.mov (.const (.bool false)))]) (.seq (.region [m 5 0,m 6 1,os 7 (.call false 239 [T 5,T 6]) sI,o 8 (.bin .geq (T 7) (N 0)),m 4 8]) .ret)
noncomputable def c219:FnC:=⟨219,9,[.tmp 4],ADD,false,[.one (.slo 1),.one .raw],.val (.one .bool),none,false,[]⟩
theorem AAV:IsFn Tryz.prog 219 c219:=Ki [1000031,1000092] [] [] Tryz.func219 rfl
def AEF:Cmd:=.seq (.region [o 2 (.mov (.const (.bool false)))]) (.seq (.region [m 3 0,o 4 (.bin .lss (T 3) (N 10)),m 5 4,gd 6 (.mov (T 0)) 5 false,gd 7 (.bin .geq (T 6) (N 2048)) 5 false,o 8 (.pick (T 5) (.const (.bool true)) (T 7)),m 2 8]) .ret)
noncomputable def c220:FnC:=⟨220,9,[.tmp 2],AEF,false,[.one (.int .i64)],.val (.one .bool),none,false,[]⟩
theorem vI:IsFn Tryz.prog 220 c220:=Ki [1000031,1000092] [] [] Tryz.func220 rfl
noncomputable def ACU:=bO Tryz.prog Tryz.f221.body IM 221 [] [(2,[.keepF 221,.keep 1,.slot 5 (.one (.int .i64)),.slot 6 (.one (.int .i64))])]
noncomputable def c221:FnC:=⟨221,26,[.tmp 4],ACU,false,[.one (.int .i64),.one .raw],.val (.one (.int .i64)),none,false,[]⟩
theorem zK:IsFn Tryz.prog 221 c221:=A0 Tryz.func221 rfl rfl
def AG3:Cmd:=.seq (.region [o 4 (.mov (.const (.bool false)))]) (.seq (.drawn [os 5 (.ld (T 1) none) sL,m 6 0,o 7 (.idxA (T 5) (T 6) 1),os 8 (.ld (T 7) none) sS,os 9 (.ld (T 2) none) sS,o 10 (.bin .geq (T 8) (T 9)),m 4 10] []) .ret)
noncomputable def c222:FnC:=⟨222,11,[.tmp 4],AG3,false,[.one (.int .i64)],.val (.one .bool),none,false,[]⟩
theorem uY:IsFn Tryz.prog 222 c222:=Ki [1000031,1000092] [] [] Tryz.func222 rfl
noncomputable def ACR:=bO Tryz.prog Tryz.f172.body IM 172 [] []
noncomputable def c172:FnC:=⟨172,17,[.tmp 4],ACR,false,[.one .str],.val (.one .bool),none,false,[]⟩
theorem AAh:IsFn Tryz.prog 172 c172:=A0 Tryz.func172 rfl rfl
noncomputable def ADb:=bO Tryz.prog Tryz.f122.body IM 122 [] [(3,[.keepF 122,.slot 3 (.one (.int .i64)),.keep 6,.keep 7,.slot 8 (.one (.int .i64))])]
noncomputable def c122:FnC:=⟨122,18,[.tmp 2],ADb,false,[.one (.slo 1)],.val (.one (.int .i64)),none,false,[]⟩
theorem ACc:IsFn Tryz.prog 122 c122:=A0 Tryz.func122 rfl rfl
def AHd:Cmd:=.seq (.region [o 4 (.mov (.const (.bool false)))]) (.seq (.region [m 5 0,m 6 1,os 7 (.call false 158 [T 5,T 6]) sI,o 8 (.bin .geq (T 7) (N 0)),m 4 8]) .ret)
noncomputable def c123:FnC:=⟨123,9,[.tmp 4],AHd,false,[.one (.slo 1),.one .raw],.val (.one .bool),none,false,[]⟩
theorem ABc:IsFn Tryz.prog 123 c123:=Ki [1000031,1000092] [] [] Tryz.func123 rfl
def AFz:Cmd:=.seq (.region [o 3 (.mov (.const (.bool false)))]) (.seq (.region [m 4 0,os 5 (.ld (T 1) none) sI,os 6 (.call false 125 [T 4,T 5]) sB,o 7 (.un .not (T 6)),m 3 7]) .ret)
noncomputable def c157:FnC:=⟨157,8,[.tmp 3],AFz,false,[.one (.slo 1)],.val (.one .bool),none,false,[]⟩
theorem xU:IsFn Tryz.prog 157 c157:=Ki [1000031,1000092] [] [] Tryz.func157 rfl
def AD9:Cmd:=.seq (.region [o 4 (.mov (.const (.bool false)))]) (.seq (.region [m 5 1,m 6 0,os 7 (.len (T 6)) sI,o 8 (.bin .lss (T 5) (T 7)),m 9 8,gd 10 (.mov (T 0)) 9 true,gd 11 (.mov (T 1)) 9 true,gd 12 (.idxA (T 10) (T 11) 1) 9 true,gs 13 (.ld (T 12) none) 9 true sB,o 14 (.pick (T 9) (T 13) (.const (.bool false))),m 4 14]) .ret)
noncomputable def c125:FnC:=⟨125,15,[.tmp 4],AD9,false,[.one (.slo 1),.one (.int .i64)],.val (.one .bool),none,false,[]⟩
theorem zF:IsFn Tryz.prog 125 c125:=Ki [1000031,1000092] [] [] Tryz.func125 rfl
noncomputable def AGX:=bO Tryz.prog Tryz.f185.body IM 185 [] [(4,[.keepF 185,.keep 1,.keep 14,.keep 15,.slot 16 (.one (.int .i64)),.keepO 18500000]),(10,[.keepF 185,.keep 1,.keep 45,.keep 46,.slot 47 (.one (.int .i64)),.keepO 18500000]),(16,[.keepF 185,.keep 1,.keep 56,.keep 57,.slot 58 (.one (.int .i64)),.keepO 18500000])]
noncomputable def c185:FnC:=⟨185,104,[.tmp 2],AGX,false,[.agg [.bool,.slo 1,.slo 1,.slo 1]],.val (.one .bool),none,false,[]⟩
theorem ABd:IsFn Tryz.prog 185 c185:=A0 Tryz.func185 rfl rfl
noncomputable def AGB:=bO Tryz.prog Tryz.f239.body IM 239 [] [(2,[.keepF 239,.keep 0,.keep 1,.keep 7,.slot 8 (.one (.int .i64))])]
noncomputable def c239:FnC:=⟨239,19,[.tmp 4],AGB,false,[.one (.slo 1),.one .raw],.val (.one (.int .i64)),none,false,[]⟩
theorem vE:IsFn Tryz.prog 239 c239:=A0 Tryz.func239 rfl rfl
noncomputable def AE7:=bO Tryz.prog Tryz.f158.body IM 158 [] [(2,[.keepF 158,.keep 0,.keep 1,.keep 7,.slot 8 (.one (.int .i64))])]
noncomputable def c158:FnC:=⟨158,19,[.tmp 4],AE7,false,[.one (.slo 1),.one .raw],.val (.one (.int .i64)),none,false,[]⟩
theorem AAJ:IsFn Tryz.prog 158 c158:=A0 Tryz.func158 rfl rfl
noncomputable def own2:List (Nat×Fun):=[(31,.code c31),(30,.code c30),(44,.code c44),(67,.code c67),(71,.code c71),(194,.code c194),(179,.code c179),(176,.code c176),(92,.code c92),(75,.code c75),(111,.code c111),(112,.code c112),(117,.code c117),(118,.code c118),(217,.code c217),(195,.code c195),(197,.code c197),(198,.code c198),(137,.code c137),(121,.code c121),(146,.code c146),(171,.code c171),(153,.code c153),(154,.code c154),(237,.code c237),(238,.code c238),(218,.code c218),(219,.code c219),(220,.code c220),(221,.code c221),(222,.code c222),(172,.code c172),(122,.code c122),(123,.code c123),(157,.code c157),(125,.code c125),(185,.code c185),(239,.code c239),(158,.code c158)]
noncomputable def gR:List (Nat×Fun):=own2++xF
noncomputable def AD:Nat->Option Fun:=D3 gR
set_option maxRecDepth 100000 in
theorem QR:Company Tryz.prog AD:=
 .cons AGd<|.cons ADu<|.cons AC7<|.cons AFM<|.cons AFc<|.cons ABa<|.cons uR<|.cons ABk<|.cons ACw<|.cons ADX<|.cons zM<|.cons AAK<|.cons xI<|.cons ACk<|.cons wW<|.cons zD<|.cons zY<|.cons AAW<|.cons zV<|.cons AAG<|.cons xW<|.cons ACb<|.cons xA<|.cons zA<|.cons zE<|.cons zZ<|.cons AAe<|.cons AAV<|.cons vI<|.cons zK<|.cons uY<|.cons AAh<|.cons ACc<|.cons ABc<|.cons xU<|.cons zF<|.cons ABd<|.cons vE<|.cons AAJ<|T0
theorem E4:PL Fs AD:=II (by kernel_rfl)
theorem ADy:AD 71=some (.code c71):=rfl
theorem AEr:AD 92=some (.code c92):=rfl
theorem ACm:AD 137=some (.code c137):=rfl
theorem Ys:AD 146=some (.code c146):=rfl
theorem uT:AD 237=some (.code c237):=rfl
theorem ABJ:AD 238=some (.code c238):=rfl
theorem uN:AD 221=some (.code c221):=rfl
theorem ABR:AD 158=some (.code c158):=rfl
end Go.Proofs.YtegndijbpiccgaaGreatDoor.M
