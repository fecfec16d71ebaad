import Derived.Test.YtegndijbpiccgaaGreatDoorProg
import Derived.Test.YtegndijbpiccgaaGreatDoorMirI
import Derived.Test.YtegndijbpiccgaaGreatDoorMirL
import Derived.KernelRfl
import Derived.Test.YtegndijbpiccgaaGreatDoorMirT
import Derived.Test.YtegndijbpiccgaaGreatDoorMirR
import Derived.Test.YtegndijbpiccgaaGreatDoorR5Shelf
namespace Go.Proofs.YtegndijbpiccgaaGreatDoor.M
set_option linter.unusedVariables false
set_option linter.unusedSimpArgs false
open Go Go.Mir Go.Proofs
abbrev s0:Sh := .val (.one .raw)
@[irreducible] noncomputable def bO (P:Program)(c:Option Code)(k:List Nat)(n:Nat)(h:Hints)(l:Loops):Cmd:=(c.bind (trC P k n h l)).getD .skip
theorem Ki {P:Program} {f:Nat} {c:FnC} {fn:Func} {b:Code} (k:List Nat) (h:Hints) (l:Loops) (h1:P.funcs[f]?=some fn) (h2:fn.body=some b) (h3:(fn.name=="runtime.NumGoroutine")=false:=by kernel_rfl) (h4:fn.ntmps=c.ntmps:=by rfl) (h5:trR P fn.results.toList=some c.results:=by kernel_rfl) (h6:trC P k c.fn h l b=some c.body:=by kernel_rfl):IsFn P f c:=⟨⟨fn,b,k,h,l,h1,h2,h3,h4,h5,h6⟩⟩
theorem A0 {P:Program} {f:Nat} {c:FnC} {fn:Func} {b:Code} {x:Option Code} {k:List Nat} {n:Nat} {h:Hints} {l:Loops} (h1:P.funcs[f]?=some fn) (h2:fn.body=some b) (_:c.body=bO P x k n h l) (h3:(fn.name=="runtime.NumGoroutine")=false:=by kernel_rfl) (h4:fn.ntmps=c.ntmps:=by rfl) (h5:trR P fn.results.toList=some c.results:=by kernel_rfl) (h6:trC P k c.fn h l b=some c.body:=by kernel_rfl):IsFn P f c:=⟨⟨fn,b,k,h,l,h1,h2,h3,h4,h5,h6⟩⟩
def FP:List Nat:=[119,100]
noncomputable def b13:=bO Tryz.prog Tryz.f13.body FP 13 [] [(4,[.keepF 13,.keep 2,.keep 3,.keep 25,.slot 26 (.one (.int .i64)),.keepO 1300000,.keepO 1300001]),(10,[.keepF 13,.keep 2,.keep 3,.keep 43,.slot 44 (.one (.int .i64)),.keepO 1300000,.keepO 1300001])]
noncomputable def c13:FnC:=⟨13,59,[.tmp 4],b13,false,[.agg [.slo 1,.slo 2],.agg [.slo 1,.slo 2]],.val (.one .bool),none,false,[]⟩
theorem ADk:IsFn Tryz.prog 13 c13:=A0 Tryz.func13 rfl rfl
noncomputable def b32:=bO Tryz.prog Tryz.f32.body FP 32 [] []
noncomputable def c32:FnC:=⟨32,13,[.cell 4 (some 2),.tmp 5],b32,false,[.agg [.slo 1,.slo 2],.one (.slo 1)],.tup [.agg [.slo 1,.slo 2],.one (.int .i64)],none,false,[]⟩
theorem AG4:IsFn Tryz.prog 32 c32:=A0 Tryz.func32 rfl rfl
noncomputable def b36:=bO Tryz.prog Tryz.f36.body FP 36 [] []
noncomputable def c36:FnC:=⟨36,38,[.tmp 2,.tmp 3],b36,false,[.agg [.int .i64,.int .i64,.str]],.tup [.one .str,.one (.int .i64)],none,false,[]⟩
theorem ACI:IsFn Tryz.prog 36 c36:=A0 Tryz.func36 rfl rfl
noncomputable def b38:=bO Tryz.prog Tryz.f38.body FP 38 [] []
noncomputable def c38:FnC:=⟨38,42,[.tmp 2,.tmp 3],b38,false,[.agg [.int .i64,.int .i64,.int .i64,.int .i64]],.tup [.one .str,.one (.int .i64)],none,false,[]⟩
theorem ACA:IsFn Tryz.prog 38 c38:=A0 Tryz.func38 rfl rfl
noncomputable def b41:=bO Tryz.prog Tryz.f41.body FP 41 [] [(5,[.keepF 41,.keep 1,.keep 3,.keep 22,.keep 23,.slot 24 (.one (.int .i64)),.keepO 4100000,.keepO 4100103])]
noncomputable def c41:FnC:=⟨41,37,[.tmp 2],b41,false,[.agg [.slo 1,.slo 2]],.val (.one .bool),none,false,[]⟩
theorem AGS:IsFn Tryz.prog 41 c41:=A0 Tryz.func41 rfl rfl
noncomputable def b42:=bO Tryz.prog Tryz.f42.body FP 42 [(2,[0,2,5,6],[4200505],[],[]),(3,[2,5,6,12,13,14],[4200505],[],[]),(8,[2,5,6,12,13,14],[4200505],[],[])] [(3,[.keepF 42,.keep 2,.keep 5,.slot 6 (.one (.int .i64)),.keep 12,.keep 13,.slot 14 (.one (.int .i64)),.keepO 4200000,.box 4200101 [.int .i64,.int .i64,.int .i64,.int .i64]])]
noncomputable def c42:FnC:=⟨42,41,[.cell 2 (some 4),.tmp 3,.tmp 4],b42,false,[.one (.slo 1)],.tup [.agg [.int .i64,.int .i64,.int .i64,.int .i64],.one (.int .i64),.one (.int .i64)],none,false,[]⟩
theorem AF0:IsFn Tryz.prog 42 c42:=A0 Tryz.func42 rfl rfl
noncomputable def b45:=bO Tryz.prog Tryz.f45.body FP 45 [(2,[0,1,5],[4500802],[(5,4500803,9,1)],[]),(3,[0,5,11,12,13],[4500802],[(5,4500803,9,1)],[]),(9,[0,5,11,12,13],[4500802],[],[])] [(3,[.keepF 45,.keep 0,.rowIn 5 4500803,.keep 11,.keep 12,.slot 13 (.one (.int .i64)),.row 4500803 9 1 true])]
noncomputable def c45:FnC:=⟨45,37,[.tmp 4],b45,false,[.one (.int .i64),.one (.slo 1)],.val (.one (.slo 1)),none,false,[]⟩
theorem AG8:IsFn Tryz.prog 45 c45:=A0 Tryz.func45 rfl rfl
noncomputable def b50:=bO Tryz.prog Tryz.f50.body FP 50 [] [(4,[.keepF 50,.keep 0,.keep 1,.keep 12,.slot 13 (.one (.int .i64))])]
noncomputable def c50:FnC:=⟨50,26,[.tmp 4],b50,false,[.one (.slo 1),.one (.slo 1)],.val (.one .bool),none,false,[]⟩
theorem AFd:IsFn Tryz.prog 50 c50:=A0 Tryz.func50 rfl rfl
noncomputable def b53:=bO Tryz.prog Tryz.f53.body FP 53 [] []
noncomputable def c53:FnC:=⟨53,37,[.cell 6 (some 2),.tmp 7],b53,false,[.agg [.slo 1,.slo 2],.one (.int .i64),.one .str],.tup [.agg [.slo 1,.slo 2],.one (.int .i64)],none,false,[]⟩
theorem AGZ:IsFn Tryz.prog 53 c53:=A0 Tryz.func53 rfl rfl
noncomputable def b54:=bO Tryz.prog Tryz.f54.body FP 54 [] []
noncomputable def c54:FnC:=⟨54,10,[.cell 2 (some 2),.tmp 3],b54,false,[.agg [.slo 1,.slo 2]],.tup [.agg [.slo 1,.slo 2],.one (.int .i64)],none,false,[]⟩
theorem AD2:IsFn Tryz.prog 54 c54:=A0 Tryz.func54 rfl rfl
noncomputable def b66:=bO Tryz.prog Tryz.f66.body FP 66 [] []
noncomputable def c66:FnC:=⟨66,47,[.tmp 2],b66,false,[.agg [.int .i64,.int .i64,.int .i64,.int .i64]],.val (.one .bool),none,false,[]⟩
theorem AE9:IsFn Tryz.prog 66 c66:=A0 Tryz.func66 rfl rfl
noncomputable def b72:=bO Tryz.prog Tryz.f72.body FP 72 [(2,[1,2,4,5],[7200403],[],[]),(3,[1,4,5,13,14,15],[7200403],[],[]),(6,[1,4,5,13,14,15],[7200403],[],[])] [(3,[.keepF 72,.keep 1,.keep 4,.keep 5,.keep 13,.keep 14,.slot 15 (.one (.int .i64)),.keepO 7200001,.keepO 7200104,.row 11900001 9 1 false])]
noncomputable def c72:FnC:=⟨72,39,[.cell 4 (some 2)],b72,false,[.agg [.slo 1,.slo 2],.one .raw],.val (.agg [.slo 1,.slo 2]),none,false,[]⟩
theorem ADs:IsFn Tryz.prog 72 c72:=A0 Tryz.func72 rfl rfl
def b73:Cmd:=.seq (.region [mN 3 0]) (.seq (.seq (.region [m 4 0,os 5 (.ld (T 1) none) sL,os 6 (.len (T 5)) sI,o 7 (.bin .lss (T 4) (T 6))]) (.cond (T 7) (.seq (.region [os 8 (.ld (T 1) none) sL,m 9 0,o 10 (.idxA (T 8) (T 9) 1),os 11 (.ld (T 10) none) sI,m 3 11]) .ret) .skip)) (.seq (.region [mN 3 0]) .ret))
noncomputable def c73:FnC:=⟨73,12,[.tmp 3],b73,false,[.one (.int .i64)],.val (.one (.int .i64)),none,false,[]⟩
theorem AEa:IsFn Tryz.prog 73 c73:=Ki [119,100] [] [] Tryz.func73 rfl
noncomputable def b78:=bO Tryz.prog Tryz.f78.body FP 78 [] []
noncomputable def c78:FnC:=⟨78,27,[.tmp 2],b78,false,[.agg [.int .i64,.int .i64,.str]],.val (.one .bool),none,false,[]⟩
theorem AHj:IsFn Tryz.prog 78 c78:=A0 Tryz.func78 rfl rfl
noncomputable def b79:=bO Tryz.prog Tryz.f79.body FP 79 [] [(5,[.slot 0 (.one (.int .i64)),.slot 1 (.one (.int .i64)),.rowIn 6 7900301,.slot 28 (.one (.int .i64)),.slot 29 (.one (.int .i64)),.row 7900301 5 1 true])]
noncomputable def c79:FnC:=⟨79,46,[.tmp 4,.tmp 5],b79,false,[.one (.int .i64),.one (.int .i64)],.tup [.one .str,.one (.int .i64)],none,false,[]⟩
theorem ACE:IsFn Tryz.prog 79 c79:=A0 Tryz.func79 rfl rfl
noncomputable def b80:=bO Tryz.prog Tryz.f80.body FP 80 [] []
noncomputable def c80:FnC:=⟨80,20,[.tmp 2,.tmp 3],b80,false,[.one .str],.tup [.one .str,.one (.int .i64)],none,false,[]⟩
theorem AHk:IsFn Tryz.prog 80 c80:=A0 Tryz.func80 rfl rfl
def b81:Cmd:=.seq (.region [o 2 (.mov (.const (.string ⟨#[]⟩)))]) (.seq (.region [m 3 0,os 4 (.call false 126 [T 3,.const (.string ⟨#[0]⟩)]) sS,m 2 4]) .ret)
noncomputable def c81:FnC:=⟨81,5,[.tmp 2],b81,false,[.one .str],.val (.one .str),none,false,[]⟩
theorem AE1:IsFn Tryz.prog 81 c81:=Ki [119,100] [] [] Tryz.func81 rfl
noncomputable def b82:=bO Tryz.prog Tryz.f82.body FP 82 [] []
noncomputable def c82:FnC:=⟨82,23,[.tmp 2],b82,false,[.one .str],.val (.one .str),none,false,[]⟩
theorem AFi:IsFn Tryz.prog 82 c82:=A0 Tryz.func82 rfl rfl
def b83:Cmd:=.seq (.region [o 2 (.mov (.const (.string ⟨#[]⟩)))]) (.seq (.region [m 3 0,os 4 (.call false 128 [T 3,.const (.string ⟨#[]⟩)]) sS,m 2 4]) .ret)
noncomputable def c83:FnC:=⟨83,5,[.tmp 2],b83,false,[.one (.slo 1)],.val (.one .str),none,false,[]⟩
theorem AEs:IsFn Tryz.prog 83 c83:=Ki [119,100] [] [] Tryz.func83 rfl
def b86:Cmd:=.seq (.region [o 2 (.mov (.const (.bool false)))]) (.seq (.region [m 3 0,os 4 (.slen (T 3)) sI,o 5 (.bin .leq (T 4) (N 4096)),m 6 5,gd 7 (.mov (T 0)) 6 true,gs 8 (.call false 81 [T 7]) 6 true sS,gd 9 (.mov (T 0)) 6 true,gd 10 (.bin .eql (T 8) (T 9)) 6 true,o 11 (.pick (T 6) (T 10) (.const (.bool false))),m 2 11]) .ret)
noncomputable def c86:FnC:=⟨86,12,[.tmp 2],b86,false,[.one .str],.val (.one .bool),none,false,[]⟩
theorem AGk:IsFn Tryz.prog 86 c86:=Ki [119,100] [] [] Tryz.func86 rfl
def b87:Cmd:=.seq (.region [o 4 (.mov (.const (.bool false)))]) (.seq (.region [m 5 0,m 6 1,os 7 (.call false 133 [T 5,T 6]) sI,o 8 (.bin .geq (T 7) (N 0)),m 4 8]) .ret)
noncomputable def c87:FnC:=⟨87,9,[.tmp 4],b87,false,[.one (.slo 2),.one .raw],.val (.one .bool),none,false,[]⟩
theorem AEY:IsFn Tryz.prog 87 c87:=Ki [119,100] [] [] Tryz.func87 rfl
noncomputable def b88:=bO Tryz.prog Tryz.f88.body FP 88 [] []
noncomputable def c88:FnC:=⟨88,19,[.tmp 3],b88,false,[.agg [.int .i64,.str]],.val (.one .bool),none,false,[]⟩
theorem ACJ:IsFn Tryz.prog 88 c88:=A0 Tryz.func88 rfl rfl
noncomputable def b89:=bO Tryz.prog Tryz.f89.body FP 89 [] [(7,[.keepF 89,.keep 2,.keep 4,.keep 6,.slot 7 (.one (.int .i64)),.keep 26,.slot 27 (.one (.int .i64)),.box 8900000 [.int .i64,.int .i64,.int .i64,.int .i64],.box 8900106 [.int .i64,.int .i64,.str],.box 8900403 [.int .i64,.int .i64,.int .i64,.int .i64]])]
noncomputable def c89:FnC:=⟨89,56,[.cell 2 (some 4),.tmp 3],b89,false,[.one .str],.tup [.agg [.int .i64,.int .i64,.int .i64,.int .i64],.one (.int .i64)],none,false,[]⟩
theorem ADT:IsFn Tryz.prog 89 c89:=A0 Tryz.func89 rfl rfl
noncomputable def b90:=bO Tryz.prog Tryz.f90.body FP 90 [] []
noncomputable def c90:FnC:=⟨90,26,[.cell 4 (some 3),.tmp 5],b90,false,[.one .str,.one (.slo 1)],.tup [.agg [.int .i64,.int .i64,.str],.one (.int .i64)],none,false,[]⟩
theorem AG0:IsFn Tryz.prog 90 c90:=A0 Tryz.func90 rfl rfl
noncomputable def b93:=bO Tryz.prog Tryz.f93.body FP 93 [] []
noncomputable def c93:FnC:=⟨93,52,[.tmp 4,.tmp 5,.tmp 6],b93,false,[.one .str,.one (.int .i64)],.tup [.one (.int .i64),.one .str,.one (.int .i64)],none,false,[]⟩
theorem AER:IsFn Tryz.prog 93 c93:=A0 Tryz.func93 rfl rfl
noncomputable def b95:=bO Tryz.prog Tryz.f95.body FP 95 [] []
noncomputable def c95:FnC:=⟨95,79,[.cell 2 (some 3),.tmp 3],b95,false,[.one .str],.tup [.agg [.int .i64,.int .i64,.str],.one (.int .i64)],none,false,[]⟩
theorem ADo:IsFn Tryz.prog 95 c95:=A0 Tryz.func95 rfl rfl
noncomputable def b99:=bO Tryz.prog Tryz.f99.body FP 99 [] []
noncomputable def c99:FnC:=⟨99,19,[.tmp 4],b99,false,[.agg [.slo 1,.slo 2],.one (.int .i64)],.val (.one (.int .i64)),none,false,[]⟩
theorem ADl:IsFn Tryz.prog 99 c99:=A0 Tryz.func99 rfl rfl
def AFq:Cmd:=.seq (.region [mN 2 0]) (.seq (.region [mN 2 255]) .ret)
noncomputable def c101:FnC:=⟨101,3,[.tmp 2],AFq,false,[.one (.int .i64)],.val (.one (.int .i64)),none,false,[]⟩
theorem AAQ:IsFn Tryz.prog 101 c101:=Ki [119,100] [] [] Tryz.func101 rfl
noncomputable def ACu:=bO Tryz.prog Tryz.f103.body FP 103 [] [(2,[.slot 0 (.one .str),.slot 3 (.one (.int .i64))])]
noncomputable def c103:FnC:=⟨103,20,[.tmp 2],ACu,false,[.one .str],.val (.one .str),none,false,[]⟩
theorem xQ:IsFn Tryz.prog 103 c103:=A0 Tryz.func103 rfl rfl
def AEE:Cmd:=.seq (.region [o 3 (.mov (.const (.bool false)))]) (.seq (.region [m 4 0,o 5 (.bin .geq (T 4) (N 10)),m 6 5,gd 7 (.mov (T 0)) 6 true,gd 8 (.fadr (T 1) 3) 6 true,gs 9 (.ld (T 8) none) 6 true sI,gd 10 (.bin .lss (T 7) (T 9)) 6 true,o 11 (.pick (T 6) (T 10) (.const (.bool false))),m 3 11]) .ret)
noncomputable def c110:FnC:=⟨110,12,[.tmp 3],AEE,false,[.one (.int .i64)],.val (.one .bool),none,false,[]⟩
theorem vO:IsFn Tryz.prog 110 c110:=Ki [119,100] [] [] Tryz.func110 rfl
noncomputable def AE6:=bO Tryz.prog Tryz.f120.body FP 120 [(2,[0,1,2,7],[],[(7,12000902,5,1)],[]),(3,[0,1,2,7,12],[],[(7,12000902,5,1)],[])] [(3,[.keepF 120,.keep 0,.keep 1,.keep 2,.rowIn 7 12000902,.slot 12 (.one (.int .i64)),.row 12000902 5 1 true])]
noncomputable def c120:FnC:=⟨120,38,[.tmp 6],AE6,false,[.one .str,.one .str,.one (.int .i64)],.val (.one .str),none,false,[]⟩
theorem vW:IsFn Tryz.prog 120 c120:=A0 Tryz.func120 rfl rfl
noncomputable def ADn:=bO Tryz.prog Tryz.f127.body FP 127 [] [(3,[.slot 3 (.one (.int .u32)),.slot 6 (.one (.slo 1)),.slot 7 (.one (.int .i64)),.slot 8 (.one (.int .i64))])]
noncomputable def c127:FnC:=⟨127,17,[.tmp 2],ADn,false,[.one (.slo 1)],.val (.one (.int .u32)),none,false,[]⟩
theorem xO:IsFn Tryz.prog 127 c127:=A0 Tryz.func127 rfl rfl
noncomputable def AEU:=bO Tryz.prog Tryz.f131.body FP 131 [] []
noncomputable def c131:FnC:=⟨131,26,[.tmp 2],AEU,false,[.one .str],.val (.one .str),none,false,[]⟩
theorem tL:IsFn Tryz.prog 131 c131:=A0 Tryz.func131 rfl rfl
noncomputable def AEf:=bO Tryz.prog Tryz.f133.body FP 133 [] [(2,[.keepF 133,.keep 0,.keep 1,.keep 7,.slot 8 (.one (.int .i64))])]
noncomputable def c133:FnC:=⟨133,19,[.tmp 4],AEf,false,[.one (.slo 2),.one .raw],.val (.one (.int .i64)),none,false,[]⟩
theorem uJ:IsFn Tryz.prog 133 c133:=A0 Tryz.func133 rfl rfl
noncomputable def AE4:=bO Tryz.prog Tryz.f134.body FP 134 [] [(7,[.slot 1 (.one (.int .i64)),.slot 2 (.one (.int .i64)),.slot 9 (.one (.int .i64)),.slot 42 (.one (.sln 1)),.slot 43 (.one (.int .i64)),.slot 44 (.one (.int .i64))])]
noncomputable def c134:FnC:=⟨134,58,[.tmp 6,.tmp 7,.tmp 8],AE4,false,[.one .str,.one (.int .i64),.one (.int .i64)],.tup [.one (.int .i64),.one (.int .i64),.one (.int .i64)],none,false,[]⟩
theorem ABY:IsFn Tryz.prog 134 c134:=A0 Tryz.func134 rfl rfl
noncomputable def AGs:=bO Tryz.prog Tryz.f135.body FP 135 [] []
noncomputable def c135:FnC:=⟨135,88,[.cell 2 (some 3),.tmp 3],AGs,false,[.one .str],.tup [.agg [.int .i64,.int .i64,.str],.one (.int .i64)],none,false,[]⟩
theorem yM:IsFn Tryz.prog 135 c135:=A0 Tryz.func135 rfl rfl
def AFr:Cmd:=.seq (.region [o 4 (.mov (.const (.bool false)))]) (.seq (.region [m 5 0,m 6 1,os 7 (.call false 170 [T 5,T 6]) sI,o 8 (.bin .geq (T 7) (N 0)),m 4 8]) .ret)
noncomputable def c136:FnC:=⟨136,9,[.tmp 4],AFr,false,[.one (.slo 1),.one (.int .i64)],.val (.one .bool),none,false,[]⟩
theorem AAq:IsFn Tryz.prog 136 c136:=Ki [119,100] [] [] Tryz.func136 rfl
noncomputable def AGM:=bO Tryz.prog Tryz.f138.body FP 138 [] []
noncomputable def c138:FnC:=⟨138,26,[.tmp 4,.tmp 5],AGM,false,[.one .str,.one (.int .i64)],.tup [.one .str,.one (.int .i64)],none,false,[]⟩
theorem yC:IsFn Tryz.prog 138 c138:=A0 Tryz.func138 rfl rfl
noncomputable def AGG:=bO Tryz.prog Tryz.f139.body FP 139 [] [(7,[.slot 0 (.one .str),.slot 1 (.one (.int .i64)),.slot 2 (.one (.int .i64)),.slot 9 (.one (.int .i64)),.slot 10 (.one (.int .i64))])]
noncomputable def c139:FnC:=⟨139,51,[.tmp 6,.tmp 7,.tmp 8],AGG,false,[.one .str,.one (.int .i64),.one (.int .i64)],.tup [.one (.int .i64),.one (.int .i64),.one (.int .i64)],none,false,[]⟩
theorem AB3:IsFn Tryz.prog 139 c139:=A0 Tryz.func139 rfl rfl
noncomputable def AFT:=bO Tryz.prog Tryz.f140.body FP 140 [] []
noncomputable def c140:FnC:=⟨140,27,[.tmp 2],AFT,false,[.agg [.int .i64,.int .i64,.str]],.val (.one .bool),none,false,[]⟩
theorem tS:IsFn Tryz.prog 140 c140:=A0 Tryz.func140 rfl rfl
noncomputable def AEC:=bO Tryz.prog Tryz.f155.body FP 155 [] []
noncomputable def c155:FnC:=⟨155,16,[.tmp 4],AEC,false,[.one .str,.one (.int .i64)],.val (.one .str),none,false,[]⟩
theorem xG:IsFn Tryz.prog 155 c155:=A0 Tryz.func155 rfl rfl
noncomputable def AC4:=bO Tryz.prog Tryz.f156.body FP 156 [] []
noncomputable def c156:FnC:=⟨156,26,[.tmp 4,.tmp 5],AC4,false,[.one .str,.one (.int .i64)],.tup [.one .str,.one (.int .i64)],none,false,[]⟩
theorem ABj:IsFn Tryz.prog 156 c156:=A0 Tryz.func156 rfl rfl
noncomputable def ACs:=bO Tryz.prog Tryz.f163.body FP 163 [] [(3,[.slot 5 (.one (.int .u32)),.slot 11 (.one (.sln 1)),.slot 12 (.one (.int .i64)),.slot 13 (.one (.int .i64))]),(7,[.slot 5 (.one (.int .u32)),.slot 11 (.one (.sln 1)),.slot 12 (.one (.int .i64)),.slot 13 (.one (.int .i64)),.slot 21 (.one (.int .i64))])]
noncomputable def c163:FnC:=⟨163,34,[.tmp 4],ACs,false,[.one (.int .u32),.one .str],.val (.one (.int .u32)),none,false,[]⟩
theorem xN:IsFn Tryz.prog 163 c163:=A0 Tryz.func163 rfl rfl
def ADp:Cmd:=.seq (.region [o 2 (.mov (.const (.int .u32 0)))]) (.seq (.region [m 3 0,os 4 (.call false 193 [.const (.int .u32 0),T 3]) (.val (.one (.int .u32))),m 2 4]) .ret)
noncomputable def c168:FnC:=⟨168,5,[.tmp 2],ADp,false,[.one .str],.val (.one (.int .u32)),none,false,[]⟩
theorem AAw:IsFn Tryz.prog 168 c168:=Ki [119,100] [] [] Tryz.func168 rfl
noncomputable def AF2:=bO Tryz.prog Tryz.f169.body FP 169 [] []
noncomputable def c169:FnC:=⟨169,19,[.tmp 2,.tmp 3],AF2,false,[.one .str],.tup [.one .str,.one (.int .i64)],none,false,[]⟩
theorem yU:IsFn Tryz.prog 169 c169:=A0 Tryz.func169 rfl rfl
noncomputable def AFx:=bO Tryz.prog Tryz.f170.body FP 170 [] [(2,[.slot 0 (.one (.slo 1)),.slot 1 (.one (.int .i64)),.slot 7 (.one (.int .i64)),.slot 8 (.one (.int .i64))])]
noncomputable def c170:FnC:=⟨170,19,[.tmp 4],AFx,false,[.one (.slo 1),.one (.int .i64)],.val (.one (.int .i64)),none,false,[]⟩
theorem AAY:IsFn Tryz.prog 170 c170:=A0 Tryz.func170 rfl rfl
noncomputable def AG6:=bO Tryz.prog Tryz.f184.body FP 184 [] []
noncomputable def c184:FnC:=⟨184,35,[.tmp 4,.tmp 5,.tmp 6],AG6,false,[.one .str,.one (.int .i64)],.tup [.one .str,.one (.int .i64),.one (.int .i64)],none,false,[]⟩
theorem AB8:IsFn Tryz.prog 184 c184:=A0 Tryz.func184 rfl rfl
noncomputable def AEX:=bO Tryz.prog Tryz.f186.body FP 186 [] []
noncomputable def c186:FnC:=⟨186,24,[.tmp 4],AEX,false,[.one (.slo 1),.one (.int .i64)],.val (.one .str),none,false,[]⟩
theorem AA5:IsFn Tryz.prog 186 c186:=A0 Tryz.func186 rfl rfl
noncomputable def ADv:=bO Tryz.prog Tryz.f193.body FP 193 [] [(3,[.slot 1 (.one .str),.slot 5 (.one (.int .u32)),.slot 6 (.one (.int .i64))]),(6,[.slot 1 (.one .str),.slot 5 (.one (.int .u32)),.slot 6 (.one (.int .i64)),.slot 7 (.one (.int .i64))])]
noncomputable def c193:FnC:=⟨193,41,[.tmp 4],ADv,false,[.one (.int .u32),.one .str],.val (.one (.int .u32)),none,false,[]⟩
theorem ABg:IsFn Tryz.prog 193 c193:=A0 Tryz.func193 rfl rfl
noncomputable def ACZ:=bO Tryz.prog Tryz.f245.body FP 245 [] []
noncomputable def c245:FnC:=⟨245,36,[.tmp 4,.tmp 5,.tmp 6],ACZ,false,[.one .str,.one (.int .i64)],.tup [.one .str,.one (.int .i64),.one (.int .i64)],none,false,[]⟩
theorem AA3:IsFn Tryz.prog 245 c245:=A0 Tryz.func245 rfl rfl
noncomputable def xF:List (Nat×Fun):=[(13,.code c13),(32,.code c32),(36,.code c36),(38,.code c38),(41,.code c41),(42,.code c42),(45,.code c45),(50,.code c50),(53,.code c53),(54,.code c54),(66,.code c66),(72,.code c72),(73,.code c73),(78,.code c78),(79,.code c79),(80,.code c80),(81,.code c81),(82,.code c82),(83,.code c83),(86,.code c86),(87,.code c87),(88,.code c88),(89,.code c89),(90,.code c90),(93,.code c93),(95,.code c95),(99,.code c99),(101,.code c101),(103,.code c103),(110,.code c110),(120,.code c120),(127,.code c127),(131,.code c131),(133,.code c133),(134,.code c134),(135,.code c135),(136,.code c136),(138,.code c138),(139,.code c139),(140,.code c140),(155,.code c155),(156,.code c156),(163,.code c163),(168,.code c168),(169,.code c169),(170,.code c170),(184,.code c184),(186,.code c186),(193,.code c193),(245,.code c245),(128,.prim none Ni),(126,.prim none NT),(187,.prim none Hv),(119,.prim (some (11900001,9,1,false)) (DD 11900001 9 1 16)),(100,.prim (some (10000001,88,2,false)) (DD 10000001 88 2 24))]
noncomputable def Fs:Nat->Option Fun:=D3 xF
set_option maxRecDepth 100000 in
theorem T0:Company Tryz.prog Fs:=
 .cons ADk<|.cons AG4<|.cons ACI<|.cons ACA<|.cons AGS<|.cons AF0<|.cons AG8<|.cons AFd<|.cons AGZ<|.cons AD2<|.cons AE9<|.cons ADs<|.cons AEa<|.cons AHj<|.cons ACE<|.cons AHk<|.cons AE1<|.cons AFi<|.cons AEs<|.cons AGk<|.cons AEY<|.cons ACJ<|.cons ADT<|.cons AG0<|.cons AER<|.cons ADo<|.cons ADl<|.cons AAQ<|.cons xQ<|.cons vO<|.cons vW<|.cons xO<|.cons tL<|.cons uJ<|.cons ABY<|.cons yM<|.cons AAq<|.cons yC<|.cons AB3<|.cons tS<|.cons xG<|.cons ABj<|.cons xN<|.cons AAw<|.cons yU<|.cons AAY<|.cons AB8<|.cons AA5<|.cons ABg<|.cons AA3<|.cons (O6 Tryz.lays156 Tryz.Builder_Extra_156)<|.cons (aR Tryz.lays162)<|.cons (Vm Tryz.lays105 Tryz.Builder_Extra_105)<|.cons (IQ Tryz.laysSlE041_f119 rfl (by kernel_rfl))<|.cons (IQ Tryz.laysClone_f100 rfl (by kernel_rfl))<|.nil
theorem zJ:Fs 133=some (.code c133):=rfl
theorem AB7:Fs 170=some (.code c170):=rfl
theorem AAc:Fs 128=some (.prim none Ni):=rfl
theorem uZ:Fs 126=some (.prim none NT):=rfl
theorem yI:Fs 187=some (.prim none Hv):=rfl
theorem HL:Fs 119=some (.prim (some (11900001,9,1,false)) (DD 11900001 9 1 16)):=rfl
theorem tU:Fs 100=some (.prim (some (10000001,88,2,false)) (DD 10000001 88 2 24)):=rfl
end Go.Proofs.YtegndijbpiccgaaGreatDoor.M
