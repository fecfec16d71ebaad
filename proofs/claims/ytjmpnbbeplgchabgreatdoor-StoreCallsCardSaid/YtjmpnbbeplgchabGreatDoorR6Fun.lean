import Derived.Test.YtjmpnbbeplgchabGreatDoorProg
import Derived.Test.YtjmpnbbeplgchabGreatDoorMirI
import Derived.Test.YtjmpnbbeplgchabGreatDoorMirL
import Derived.KernelRfl
import Derived.Test.YtjmpnbbeplgchabGreatDoorMirT
import Derived.Test.YtjmpnbbeplgchabGreatDoorMirR
import Derived.Test.YtjmpnbbeplgchabGreatDoorR6Shelf
namespace Go.Proofs.YtjmpnbbeplgchabGreatDoor.M
set_option linter.unusedVariables false
set_option linter.unusedSimpArgs false
open Go Go.Mir Go.Proofs
abbrev s0:Sh := .val (.one .raw)
@[irreducible] noncomputable def bO (P:Program)(c:Option Code)(k:List Nat)(n:Nat)(h:Hints)(l:Loops):Cmd:=(c.bind (trC P k n h l)).getD .skip
theorem Jf {P:Program} {f:Nat} {c:FnC} {fn:Func} {b:Code} (k:List Nat) (h:Hints) (l:Loops) (h1:P.funcs[f]?=some fn) (h2:fn.body=some b) (h3:(fn.name=="runtime.NumGoroutine")=false:=by kernel_rfl) (h4:fn.ntmps=c.ntmps:=by rfl) (h5:trR P fn.results.toList=some c.results:=by kernel_rfl) (h6:trC P k c.fn h l b=some c.body:=by kernel_rfl):IsFn P f c:=⟨⟨fn,b,k,h,l,h1,h2,h3,h4,h5,h6⟩⟩
theorem AP {P:Program} {f:Nat} {c:FnC} {fn:Func} {b:Code} {x:Option Code} {k:List Nat} {n:Nat} {h:Hints} {l:Loops} (h1:P.funcs[f]?=some fn) (h2:fn.body=some b) (_:c.body=bO P x k n h l) (h3:(fn.name=="runtime.NumGoroutine")=false:=by kernel_rfl) (h4:fn.ntmps=c.ntmps:=by rfl) (h5:trR P fn.results.toList=some c.results:=by kernel_rfl) (h6:trC P k c.fn h l b=some c.body:=by kernel_rfl):IsFn P f c:=⟨⟨fn,b,k,h,l,h1,h2,h3,h4,h5,h6⟩⟩
def D0:List Nat:=[124,151]
noncomputable def b97:=bO Tryz.prog Tryz.f97.body D0 97 [] [(4,[.keepF 97,.keep 2,.keep 3,.keep 25,.slot 26 (.one (.int .i64)),.keepO 9700000,.keepO 9700001]),(10,[.keepF 97,.keep 2,.keep 3,.keep 43,.slot 44 (.one (.int .i64)),.keepO 9700000,.keepO 9700001])]
noncomputable def c97:FnC:=⟨97,59,[.tmp 4],b97,false,[.agg [.slo 1,.slo 2],.agg [.slo 1,.slo 2]],.val (.one .bool),none,false,[]⟩
theorem AJA:IsFn Tryz.prog 97 c97:=AP Tryz.func97 rfl rfl
noncomputable def b26:=bO Tryz.prog Tryz.f26.body D0 26 [(10,[1,3],[2601202],[],[]),(11,[3,35,36,37],[2601202],[],[]),(15,[3,35,36,37],[2601202],[],[])] [(5,[.keepF 26,.keep 1,.keep 3,.keep 24,.keep 25,.slot 26 (.one (.int .i64)),.keepO 2600000]),(11,[.keepF 26,.keep 3,.keep 35,.keep 36,.slot 37 (.one (.int .i64))])]
noncomputable def c26:FnC:=⟨26,57,[.tmp 2],b26,false,[.agg [.slo 1,.slo 2]],.val (.one .bool),none,false,[]⟩
theorem ADY:IsFn Tryz.prog 26 c26:=AP Tryz.func26 rfl rfl
noncomputable def b62:=bO Tryz.prog Tryz.f62.body D0 62 [] []
noncomputable def c62:FnC:=⟨62,13,[.cell 4 (some 2),.tmp 5],b62,false,[.agg [.slo 1,.slo 2],.one (.slo 1)],.tup [.agg [.slo 1,.slo 2],.one (.int .i64)],none,false,[]⟩
theorem AG2:IsFn Tryz.prog 62 c62:=AP Tryz.func62 rfl rfl
noncomputable def b56:=bO Tryz.prog Tryz.f56.body D0 56 [] []
noncomputable def c56:FnC:=⟨56,38,[.tmp 2,.tmp 3],b56,false,[.agg [.int .i64,.int .i64,.str]],.tup [.one .str,.one (.int .i64)],none,false,[]⟩
theorem AFz:IsFn Tryz.prog 56 c56:=AP Tryz.func56 rfl rfl
noncomputable def b58:=bO Tryz.prog Tryz.f58.body D0 58 [] []
noncomputable def c58:FnC:=⟨58,42,[.tmp 2,.tmp 3],b58,false,[.agg [.int .i64,.int .i64,.int .i64,.int .i64]],.tup [.one .str,.one (.int .i64)],none,false,[]⟩
theorem AHu:IsFn Tryz.prog 58 c58:=AP Tryz.func58 rfl rfl
noncomputable def b23:=bO Tryz.prog Tryz.f23.body D0 23 [] [(5,[.keepF 23,.keep 1,.keep 3,.keep 22,.keep 23,.slot 24 (.one (.int .i64)),.keepO 2300000,.keepO 2300103])]
noncomputable def c23:FnC:=⟨23,37,[.tmp 2],b23,false,[.agg [.slo 1,.slo 2]],.val (.one .bool),none,false,[]⟩
theorem AJC:IsFn Tryz.prog 23 c23:=AP Tryz.func23 rfl rfl
noncomputable def b35:=bO Tryz.prog Tryz.f35.body D0 35 [(2,[0,2,5,6],[3500505],[],[]),(3,[2,5,6,12,13,14],[3500505],[],[]),(8,[2,5,6,12,13,14],[3500505],[],[])] [(3,[.keepF 35,.keep 2,.keep 5,.slot 6 (.one (.int .i64)),.keep 12,.keep 13,.slot 14 (.one (.int .i64)),.keepO 3500000,.box 3500101 [.int .i64,.int .i64,.int .i64,.int .i64]])]
noncomputable def c35:FnC:=⟨35,41,[.cell 2 (some 4),.tmp 3,.tmp 4],b35,false,[.one (.slo 1)],.tup [.agg [.int .i64,.int .i64,.int .i64,.int .i64],.one (.int .i64),.one (.int .i64)],none,false,[]⟩
theorem AIu:IsFn Tryz.prog 35 c35:=AP Tryz.func35 rfl rfl
noncomputable def b38:=bO Tryz.prog Tryz.f38.body D0 38 [(2,[0,1,5],[3800802],[(5,3800803,9,1)],[]),(3,[0,5,11,12,13],[3800802],[(5,3800803,9,1)],[]),(9,[0,5,11,12,13],[3800802],[],[])] [(3,[.keepF 38,.keep 0,.rowIn 5 3800803,.keep 11,.keep 12,.slot 13 (.one (.int .i64)),.row 3800803 9 1 true])]
noncomputable def c38:FnC:=⟨38,37,[.tmp 4],b38,false,[.one (.int .i64),.one (.slo 1)],.val (.one (.slo 1)),none,false,[]⟩
theorem AHy:IsFn Tryz.prog 38 c38:=AP Tryz.func38 rfl rfl
noncomputable def b99:=bO Tryz.prog Tryz.f99.body D0 99 [] [(4,[.keepF 99,.keep 0,.keep 1,.keep 12,.slot 13 (.one (.int .i64))])]
noncomputable def c99:FnC:=⟨99,26,[.tmp 4],b99,false,[.one (.slo 1),.one (.slo 1)],.val (.one .bool),none,false,[]⟩
theorem AHL:IsFn Tryz.prog 99 c99:=AP Tryz.func99 rfl rfl
noncomputable def AER:=bO Tryz.prog Tryz.f117.body D0 117 [] []
noncomputable def c117:FnC:=⟨117,37,[.cell 6 (some 2),.tmp 7],AER,false,[.agg [.slo 1,.slo 2],.one (.int .i64),.one .str],.tup [.agg [.slo 1,.slo 2],.one (.int .i64)],none,false,[]⟩
theorem vT:IsFn Tryz.prog 117 c117:=AP Tryz.func117 rfl rfl
noncomputable def b73:=bO Tryz.prog Tryz.f73.body D0 73 [] []
noncomputable def c73:FnC:=⟨73,10,[.cell 2 (some 2),.tmp 3],b73,false,[.agg [.slo 1,.slo 2]],.tup [.agg [.slo 1,.slo 2],.one (.int .i64)],none,false,[]⟩
theorem AJc:IsFn Tryz.prog 73 c73:=AP Tryz.func73 rfl rfl
noncomputable def b68:=bO Tryz.prog Tryz.f68.body D0 68 [] []
noncomputable def c68:FnC:=⟨68,19,[.tmp 2],b68,false,[.one .str],.val (.one .bool),none,false,[]⟩
theorem AGm:IsFn Tryz.prog 68 c68:=AP Tryz.func68 rfl rfl
noncomputable def AJj:=bO Tryz.prog Tryz.f109.body D0 109 [] []
noncomputable def c109:FnC:=⟨109,47,[.tmp 2],AJj,false,[.agg [.int .i64,.int .i64,.int .i64,.int .i64]],.val (.one .bool),none,false,[]⟩
theorem xO:IsFn Tryz.prog 109 c109:=AP Tryz.func109 rfl rfl
noncomputable def AEO:=bO Tryz.prog Tryz.f110.body D0 110 [(2,[1,2,4,5],[11000403],[],[]),(3,[1,4,5,13,14,15],[11000403],[],[]),(6,[1,4,5,13,14,15],[11000403],[],[])] [(3,[.keepF 110,.keep 1,.keep 4,.keep 5,.keep 13,.keep 14,.slot 15 (.one (.int .i64)),.keepO 11000001,.keepO 11000104,.row 12400001 9 1 false])]
noncomputable def c110:FnC:=⟨110,39,[.cell 4 (some 2)],AEO,false,[.agg [.slo 1,.slo 2],.one .raw],.val (.agg [.slo 1,.slo 2]),none,false,[]⟩
theorem xY:IsFn Tryz.prog 110 c110:=AP Tryz.func110 rfl rfl
def AJr:Cmd:=.seq (.region [mN 3 0]) (.seq (.seq (.region [m 4 0,os 5 (.ld (T 1) none) sL,os 6 (.len (T 5)) sI,o 7 (.bin .lss (T 4) (T 6))]) (.cond (T 7) (.seq (.region [os 8 (.ld (T 1) none) sL,m 9 0,o 10 (.idxA (T 8) (T 9) 1),os 11 (.ld (T 10) none) sI,m 3 11]) .ret) .skip)) (.seq (.region [mN 3 0]) .ret))
noncomputable def c111:FnC:=⟨111,12,[.tmp 3],AJr,false,[.one (.int .i64)],.val (.one (.int .i64)),none,false,[]⟩
theorem ACs:IsFn Tryz.prog 111 c111:=Jf [124,151] [] [] Tryz.func111 rfl
noncomputable def ADQ:=bO Tryz.prog Tryz.f103.body D0 103 [] []
noncomputable def c103:FnC:=⟨103,27,[.tmp 2],ADQ,false,[.agg [.int .i64,.int .i64,.str]],.val (.one .bool),none,false,[]⟩
theorem ADi:IsFn Tryz.prog 103 c103:=AP Tryz.func103 rfl rfl
noncomputable def AHa:=bO Tryz.prog Tryz.f104.body D0 104 [] [(5,[.slot 0 (.one (.int .i64)),.slot 1 (.one (.int .i64)),.rowIn 6 10400301,.slot 28 (.one (.int .i64)),.slot 29 (.one (.int .i64)),.row 10400301 5 1 true])]
noncomputable def c104:FnC:=⟨104,46,[.tmp 4,.tmp 5],AHa,false,[.one (.int .i64),.one (.int .i64)],.tup [.one .str,.one (.int .i64)],none,false,[]⟩
theorem ACf:IsFn Tryz.prog 104 c104:=AP Tryz.func104 rfl rfl
noncomputable def AIl:=bO Tryz.prog Tryz.f105.body D0 105 [] []
noncomputable def c105:FnC:=⟨105,20,[.tmp 2,.tmp 3],AIl,false,[.one .str],.tup [.one .str,.one (.int .i64)],none,false,[]⟩
theorem zH:IsFn Tryz.prog 105 c105:=AP Tryz.func105 rfl rfl
def AFh:Cmd:=.seq (.region [o 2 (.mov (.const (.string ⟨#[]⟩)))]) (.seq (.region [m 3 0,os 4 (.call false 143 [T 3,.const (.string ⟨#[0]⟩)]) sS,m 2 4]) .ret)
noncomputable def c106:FnC:=⟨106,5,[.tmp 2],AFh,false,[.one .str],.val (.one .str),none,false,[]⟩
theorem vQ:IsFn Tryz.prog 106 c106:=Jf [124,151] [] [] Tryz.func106 rfl
noncomputable def AGW:=bO Tryz.prog Tryz.f107.body D0 107 [] []
noncomputable def c107:FnC:=⟨107,23,[.tmp 2],AGW,false,[.one .str],.val (.one .str),none,false,[]⟩
theorem zV:IsFn Tryz.prog 107 c107:=AP Tryz.func107 rfl rfl
def AGo:Cmd:=.seq (.region [o 2 (.mov (.const (.string ⟨#[]⟩)))]) (.seq (.region [m 3 0,os 4 (.call false 145 [T 3,.const (.string ⟨#[]⟩)]) sS,m 2 4]) .ret)
noncomputable def c108:FnC:=⟨108,5,[.tmp 2],AGo,false,[.one (.slo 1)],.val (.one .str),none,false,[]⟩
theorem AAW:IsFn Tryz.prog 108 c108:=Jf [124,151] [] [] Tryz.func108 rfl
def b65:Cmd:=.seq (.region [o 2 (.mov (.const (.bool false)))]) (.seq (.region [m 3 0,os 4 (.slen (T 3)) sI,o 5 (.bin .leq (T 4) (N 4096)),m 6 5,gd 7 (.mov (T 0)) 6 true,gs 8 (.call false 106 [T 7]) 6 true sS,gd 9 (.mov (T 0)) 6 true,gd 10 (.bin .eql (T 8) (T 9)) 6 true,o 11 (.pick (T 6) (T 10) (.const (.bool false))),m 2 11]) .ret)
noncomputable def c65:FnC:=⟨65,12,[.tmp 2],b65,false,[.one .str],.val (.one .bool),none,false,[]⟩
theorem AFD:IsFn Tryz.prog 65 c65:=Jf [124,151] [] [] Tryz.func65 rfl
def b66:Cmd:=.seq (.region [o 4 (.mov (.const (.bool false)))]) (.seq (.region [m 5 0,m 6 1,os 7 (.call false 114 [T 5,T 6]) sI,o 8 (.bin .geq (T 7) (N 0)),m 4 8]) .ret)
noncomputable def c66:FnC:=⟨66,9,[.tmp 4],b66,false,[.one (.slo 2),.one .raw],.val (.one .bool),none,false,[]⟩
theorem AEI:IsFn Tryz.prog 66 c66:=Jf [124,151] [] [] Tryz.func66 rfl
noncomputable def b67:=bO Tryz.prog Tryz.f67.body D0 67 [] []
noncomputable def c67:FnC:=⟨67,19,[.tmp 3],b67,false,[.agg [.int .i64,.str]],.val (.one .bool),none,false,[]⟩
theorem AJl:IsFn Tryz.prog 67 c67:=AP Tryz.func67 rfl rfl
noncomputable def b76:=bO Tryz.prog Tryz.f76.body D0 76 [] [(7,[.keepF 76,.keep 2,.keep 4,.keep 6,.slot 7 (.one (.int .i64)),.keep 26,.slot 27 (.one (.int .i64)),.box 7600000 [.int .i64,.int .i64,.int .i64,.int .i64],.box 7600106 [.int .i64,.int .i64,.str],.box 7600403 [.int .i64,.int .i64,.int .i64,.int .i64]])]
noncomputable def c76:FnC:=⟨76,56,[.cell 2 (some 4),.tmp 3],b76,false,[.one .str],.tup [.agg [.int .i64,.int .i64,.int .i64,.int .i64],.one (.int .i64)],none,false,[]⟩
theorem AFA:IsFn Tryz.prog 76 c76:=AP Tryz.func76 rfl rfl
noncomputable def b77:=bO Tryz.prog Tryz.f77.body D0 77 [] []
noncomputable def c77:FnC:=⟨77,26,[.cell 4 (some 3),.tmp 5],b77,false,[.one .str,.one (.slo 1)],.tup [.agg [.int .i64,.int .i64,.str],.one (.int .i64)],none,false,[]⟩
theorem ADU:IsFn Tryz.prog 77 c77:=AP Tryz.func77 rfl rfl
noncomputable def b80:=bO Tryz.prog Tryz.f80.body D0 80 [] []
noncomputable def c80:FnC:=⟨80,52,[.tmp 4,.tmp 5,.tmp 6],b80,false,[.one .str,.one (.int .i64)],.tup [.one (.int .i64),.one .str,.one (.int .i64)],none,false,[]⟩
theorem AD5:IsFn Tryz.prog 80 c80:=AP Tryz.func80 rfl rfl
noncomputable def AEH:=bO Tryz.prog Tryz.f148.body D0 148 [] []
noncomputable def c148:FnC:=⟨148,79,[.cell 2 (some 3),.tmp 3],AEH,false,[.one .str],.tup [.agg [.int .i64,.int .i64,.str],.one (.int .i64)],none,false,[]⟩
theorem ABB:IsFn Tryz.prog 148 c148:=AP Tryz.func148 rfl rfl
noncomputable def AEu:=bO Tryz.prog Tryz.f136.body D0 136 [] []
noncomputable def c136:FnC:=⟨136,19,[.tmp 4],AEu,false,[.agg [.slo 1,.slo 2],.one (.int .i64)],.val (.one (.int .i64)),none,false,[]⟩
theorem AAg:IsFn Tryz.prog 136 c136:=AP Tryz.func136 rfl rfl
def AGQ:Cmd:=.seq (.region [mN 2 0]) (.seq (.region [mN 2 255]) .ret)
noncomputable def c118:FnC:=⟨118,3,[.tmp 2],AGQ,false,[.one (.int .i64)],.val (.one (.int .i64)),none,false,[]⟩
theorem xE:IsFn Tryz.prog 118 c118:=Jf [124,151] [] [] Tryz.func118 rfl
noncomputable def AJD:=bO Tryz.prog Tryz.f188.body D0 188 [] [(2,[.slot 0 (.one .str),.slot 3 (.one (.int .i64))])]
noncomputable def c188:FnC:=⟨188,20,[.tmp 2],AJD,false,[.one .str],.val (.one .str),none,false,[]⟩
theorem vL:IsFn Tryz.prog 188 c188:=AP Tryz.func188 rfl rfl
def AGg:Cmd:=.seq (.region [o 3 (.mov (.const (.bool false)))]) (.seq (.region [m 4 0,o 5 (.bin .geq (T 4) (N 10)),m 6 5,gd 7 (.mov (T 0)) 6 true,gd 8 (.fadr (T 1) 3) 6 true,gs 9 (.ld (T 8) none) 6 true sI,gd 10 (.bin .lss (T 7) (T 9)) 6 true,o 11 (.pick (T 6) (T 10) (.const (.bool false))),m 3 11]) .ret)
noncomputable def c146:FnC:=⟨146,12,[.tmp 3],AGg,false,[.one (.int .i64)],.val (.one .bool),none,false,[]⟩
theorem yI:IsFn Tryz.prog 146 c146:=Jf [124,151] [] [] Tryz.func146 rfl
noncomputable def ADP:=bO Tryz.prog Tryz.f147.body D0 147 [(2,[0,1,2,7],[],[(7,14700902,5,1)],[]),(3,[0,1,2,7,12],[],[(7,14700902,5,1)],[])] [(3,[.keepF 147,.keep 0,.keep 1,.keep 2,.rowIn 7 14700902,.slot 12 (.one (.int .i64)),.row 14700902 5 1 true])]
noncomputable def c147:FnC:=⟨147,38,[.tmp 6],ADP,false,[.one .str,.one .str,.one (.int .i64)],.val (.one .str),none,false,[]⟩
theorem vV:IsFn Tryz.prog 147 c147:=AP Tryz.func147 rfl rfl
noncomputable def AJt:=bO Tryz.prog Tryz.f144.body D0 144 [] [(3,[.slot 3 (.one (.int .u32)),.slot 6 (.one (.slo 1)),.slot 7 (.one (.int .i64)),.slot 8 (.one (.int .i64))])]
noncomputable def c144:FnC:=⟨144,17,[.tmp 2],AJt,false,[.one (.slo 1)],.val (.one (.int .u32)),none,false,[]⟩
theorem xJ:IsFn Tryz.prog 144 c144:=AP Tryz.func144 rfl rfl
noncomputable def AD8:=bO Tryz.prog Tryz.f185.body D0 185 [] []
noncomputable def c185:FnC:=⟨185,26,[.tmp 2],AD8,false,[.one .str],.val (.one .str),none,false,[]⟩
theorem yR:IsFn Tryz.prog 185 c185:=AP Tryz.func185 rfl rfl
noncomputable def AJE:=bO Tryz.prog Tryz.f114.body D0 114 [] [(2,[.keepF 114,.keep 0,.keep 1,.keep 7,.slot 8 (.one (.int .i64))])]
noncomputable def c114:FnC:=⟨114,19,[.tmp 4],AJE,false,[.one (.slo 2),.one .raw],.val (.one (.int .i64)),none,false,[]⟩
theorem zF:IsFn Tryz.prog 114 c114:=AP Tryz.func114 rfl rfl
noncomputable def b40:=bO Tryz.prog Tryz.f40.body D0 40 [] [(7,[.slot 1 (.one (.int .i64)),.slot 2 (.one (.int .i64)),.slot 9 (.one (.int .i64)),.slot 42 (.one (.sln 1)),.slot 43 (.one (.int .i64)),.slot 44 (.one (.int .i64))])]
noncomputable def c40:FnC:=⟨40,58,[.tmp 6,.tmp 7,.tmp 8],b40,false,[.one .str,.one (.int .i64),.one (.int .i64)],.tup [.one (.int .i64),.one (.int .i64),.one (.int .i64)],none,false,[]⟩
theorem AFC:IsFn Tryz.prog 40 c40:=AP Tryz.func40 rfl rfl
noncomputable def AGb:=bO Tryz.prog Tryz.f119.body D0 119 [] []
noncomputable def c119:FnC:=⟨119,88,[.cell 2 (some 3),.tmp 3],AGb,false,[.one .str],.tup [.agg [.int .i64,.int .i64,.str],.one (.int .i64)],none,false,[]⟩
theorem AA4:IsFn Tryz.prog 119 c119:=AP Tryz.func119 rfl rfl
def AFG:Cmd:=.seq (.region [o 4 (.mov (.const (.bool false)))]) (.seq (.region [m 5 0,m 6 1,os 7 (.call false 154 [T 5,T 6]) sI,o 8 (.bin .geq (T 7) (N 0)),m 4 8]) .ret)
noncomputable def c120:FnC:=⟨120,9,[.tmp 4],AFG,false,[.one (.slo 1),.one (.int .i64)],.val (.one .bool),none,false,[]⟩
theorem yJ:IsFn Tryz.prog 120 c120:=Jf [124,151] [] [] Tryz.func120 rfl
noncomputable def AHX:=bO Tryz.prog Tryz.f184.body D0 184 [] []
noncomputable def c184:FnC:=⟨184,26,[.tmp 4,.tmp 5],AHX,false,[.one .str,.one (.int .i64)],.tup [.one .str,.one (.int .i64)],none,false,[]⟩
theorem AAf:IsFn Tryz.prog 184 c184:=AP Tryz.func184 rfl rfl
noncomputable def AIV:=bO Tryz.prog Tryz.f186.body D0 186 [] [(7,[.slot 0 (.one .str),.slot 1 (.one (.int .i64)),.slot 2 (.one (.int .i64)),.slot 9 (.one (.int .i64)),.slot 10 (.one (.int .i64))])]
noncomputable def c186:FnC:=⟨186,51,[.tmp 6,.tmp 7,.tmp 8],AIV,false,[.one .str,.one (.int .i64),.one (.int .i64)],.tup [.one (.int .i64),.one (.int .i64),.one (.int .i64)],none,false,[]⟩
theorem AAJ:IsFn Tryz.prog 186 c186:=AP Tryz.func186 rfl rfl
noncomputable def AI4:=bO Tryz.prog Tryz.f187.body D0 187 [] []
noncomputable def c187:FnC:=⟨187,27,[.tmp 2],AI4,false,[.agg [.int .i64,.int .i64,.str]],.val (.one .bool),none,false,[]⟩
theorem AA7:IsFn Tryz.prog 187 c187:=AP Tryz.func187 rfl rfl
noncomputable def AId:=bO Tryz.prog Tryz.f183.body D0 183 [] []
noncomputable def c183:FnC:=⟨183,16,[.tmp 4],AId,false,[.one .str,.one (.int .i64)],.val (.one .str),none,false,[]⟩
theorem AAj:IsFn Tryz.prog 183 c183:=AP Tryz.func183 rfl rfl
noncomputable def AIK:=bO Tryz.prog Tryz.f152.body D0 152 [] []
noncomputable def c152:FnC:=⟨152,26,[.tmp 4,.tmp 5],AIK,false,[.one .str,.one (.int .i64)],.tup [.one .str,.one (.int .i64)],none,false,[]⟩
theorem AAx:IsFn Tryz.prog 152 c152:=AP Tryz.func152 rfl rfl
noncomputable def AIs:=bO Tryz.prog Tryz.f179.body D0 179 [] [(3,[.slot 5 (.one (.int .u32)),.slot 11 (.one (.sln 1)),.slot 12 (.one (.int .i64)),.slot 13 (.one (.int .i64))]),(7,[.slot 5 (.one (.int .u32)),.slot 11 (.one (.sln 1)),.slot 12 (.one (.int .i64)),.slot 13 (.one (.int .i64)),.slot 21 (.one (.int .i64))])]
noncomputable def c179:FnC:=⟨179,34,[.tmp 4],AIs,false,[.one (.int .u32),.one .str],.val (.one (.int .u32)),none,false,[]⟩
theorem ABN:IsFn Tryz.prog 179 c179:=AP Tryz.func179 rfl rfl
def AGf:Cmd:=.seq (.region [o 2 (.mov (.const (.int .u32 0)))]) (.seq (.region [m 3 0,os 4 (.call false 225 [.const (.int .u32 0),T 3]) (.val (.one (.int .u32))),m 2 4]) .ret)
noncomputable def c210:FnC:=⟨210,5,[.tmp 2],AGf,false,[.one .str],.val (.one (.int .u32)),none,false,[]⟩
theorem ADD:IsFn Tryz.prog 210 c210:=Jf [124,151] [] [] Tryz.func210 rfl
noncomputable def AHk:=bO Tryz.prog Tryz.f153.body D0 153 [] []
noncomputable def c153:FnC:=⟨153,19,[.tmp 2,.tmp 3],AHk,false,[.one .str],.tup [.one .str,.one (.int .i64)],none,false,[]⟩
theorem AAm:IsFn Tryz.prog 153 c153:=AP Tryz.func153 rfl rfl
noncomputable def AG8:=bO Tryz.prog Tryz.f154.body D0 154 [] [(2,[.slot 0 (.one (.slo 1)),.slot 1 (.one (.int .i64)),.slot 7 (.one (.int .i64)),.slot 8 (.one (.int .i64))])]
noncomputable def c154:FnC:=⟨154,19,[.tmp 4],AG8,false,[.one (.slo 1),.one (.int .i64)],.val (.one (.int .i64)),none,false,[]⟩
theorem ABO:IsFn Tryz.prog 154 c154:=AP Tryz.func154 rfl rfl
noncomputable def AH9:=bO Tryz.prog Tryz.f189.body D0 189 [] []
noncomputable def c189:FnC:=⟨189,35,[.tmp 4,.tmp 5,.tmp 6],AH9,false,[.one .str,.one (.int .i64)],.tup [.one .str,.one (.int .i64),.one (.int .i64)],none,false,[]⟩
theorem yW:IsFn Tryz.prog 189 c189:=AP Tryz.func189 rfl rfl
noncomputable def AGR:=bO Tryz.prog Tryz.f209.body D0 209 [] []
noncomputable def c209:FnC:=⟨209,24,[.tmp 4],AGR,false,[.one (.slo 1),.one (.int .i64)],.val (.one .str),none,false,[]⟩
theorem ACb:IsFn Tryz.prog 209 c209:=AP Tryz.func209 rfl rfl
noncomputable def AHG:=bO Tryz.prog Tryz.f225.body D0 225 [] [(3,[.slot 1 (.one .str),.slot 5 (.one (.int .u32)),.slot 6 (.one (.int .i64))]),(6,[.slot 1 (.one .str),.slot 5 (.one (.int .u32)),.slot 6 (.one (.int .i64)),.slot 7 (.one (.int .i64))])]
noncomputable def c225:FnC:=⟨225,41,[.tmp 4],AHG,false,[.one (.int .u32),.one .str],.val (.one (.int .u32)),none,false,[]⟩
theorem ABt:IsFn Tryz.prog 225 c225:=AP Tryz.func225 rfl rfl
noncomputable def b42:=bO Tryz.prog Tryz.f42.body D0 42 [] []
noncomputable def c42:FnC:=⟨42,36,[.tmp 4,.tmp 5,.tmp 6],b42,false,[.one .str,.one (.int .i64)],.tup [.one .str,.one (.int .i64),.one (.int .i64)],none,false,[]⟩
theorem AJJ:IsFn Tryz.prog 42 c42:=AP Tryz.func42 rfl rfl
noncomputable def b10:=bO Tryz.prog Tryz.f10.body D0 10 [(7,[1,4,5,6,7,8],[1001305,1001602],[(8,1001603,81,3)],[]),(8,[1,4,5,6,7,8,9],[1001305,1001602],[(8,1001603,81,3)],[]),(9,[1,4,5,6,7,8,9],[1001305,1001602],[],[])] [(8,[.keepF 10,.keep 1,.keep 4,.keep 5,.keep 6,.keep 7,.rowIn 8 1001603,.slot 9 (.one (.int .i64)),.box 1000000 [.str],.box 1000300 [.int .i64],.box 1000301 [.int .i64],.row 1001603 81 3 true])]
noncomputable def c10:FnC:=⟨10,64,[.tmp 2,.tmp 3],b10,false,[.one .str],.tup [.one (.slo 3),.one (.int .i64)],none,false,[]⟩
theorem AHD:IsFn Tryz.prog 10 c10:=AP Tryz.func10 rfl rfl
noncomputable def b39:=bO Tryz.prog Tryz.f39.body D0 39 [] []
noncomputable def c39:FnC:=⟨39,15,[.tmp 3],b39,false,[],.val (.one (.int .i64)),none,true,[]⟩
theorem AHJ:IsFn Tryz.prog 39 c39:=AP Tryz.func39 rfl rfl
noncomputable def b41:=bO Tryz.prog Tryz.f41.body D0 41 [] []
noncomputable def c41:FnC:=⟨41,15,[.tmp 3],b41,false,[],.val (.one .str),none,true,[]⟩
theorem AE6:IsFn Tryz.prog 41 c41:=AP Tryz.func41 rfl rfl
def b43:Cmd:=.seq (.region [o 4 (.mov (.const (.bool false)))]) (.seq (.region [m 5 0,m 6 1,os 7 (.call false 81 [T 5,T 6]) sI,o 8 (.bin .geq (T 7) (N 0)),m 4 8]) .ret)
noncomputable def c43:FnC:=⟨43,9,[.tmp 4],b43,false,[.one (.slo 3),.one .raw],.val (.one .bool),none,false,[]⟩
theorem AIn:IsFn Tryz.prog 43 c43:=Jf [124,151] [] [] Tryz.func43 rfl
def b44:Cmd:=.seq (.region [o 1 (.box 4400000 (T 0)),o 2 (.mov (.const (.bool false)))]) (.seq (.region [os 3 (.ld (T 1) (some 3)) (.val (.agg [.str,.str,.bool])),os 4 (.call false 45 [T 3]) sB,o 5 (.un .not (T 4)),m 2 5]) .ret)
noncomputable def c44:FnC:=⟨44,6,[.tmp 2],b44,false,[.agg [.str,.str,.bool]],.val (.one .bool),none,false,[]⟩
theorem AGq:IsFn Tryz.prog 44 c44:=Jf [124,151] [] [] Tryz.func44 rfl
noncomputable def b81:=bO Tryz.prog Tryz.f81.body D0 81 [] [(2,[.keepF 81,.keep 0,.keep 1,.keep 7,.slot 8 (.one (.int .i64))])]
noncomputable def c81:FnC:=⟨81,19,[.tmp 4],b81,false,[.one (.slo 3),.one .raw],.val (.one (.int .i64)),none,false,[]⟩
theorem AFn:IsFn Tryz.prog 81 c81:=AP Tryz.func81 rfl rfl
noncomputable def b45:=bO Tryz.prog Tryz.f45.body D0 45 [] []
noncomputable def c45:FnC:=⟨45,29,[.tmp 2],b45,false,[.agg [.str,.str,.bool]],.val (.one .bool),none,false,[]⟩
theorem AFB:IsFn Tryz.prog 45 c45:=AP Tryz.func45 rfl rfl
noncomputable def b69:=bO Tryz.prog Tryz.f69.body D0 69 [(6,[0,4],[6900802,6901101,6901104,6901301,6901305],[],[]),(7,[4,22,23,24],[6900802,6901101,6901104,6901301,6901305],[],[]),(16,[4,22,23,24],[6900802,6901101,6901104,6901301,6901305],[],[])] [(7,[.keepF 69,.slot 4 (.one .str),.keep 22,.keep 23,.slot 24 (.one (.int .i64))])]
noncomputable def c69:FnC:=⟨69,60,[.tmp 2,.tmp 3],b69,false,[.one (.slo 3)],.tup [.one .str,.one (.int .i64)],none,false,[]⟩
theorem AEa:IsFn Tryz.prog 69 c69:=AP Tryz.func69 rfl rfl
def AEJ:Cmd:=.seq (.region [o 1 (.box 11500000 (T 0)),o 2 (.mov (.const (.bool false)))]) (.seq (.region [os 3 (.ld (T 1) (some 3)) (.val (.agg [.str,.str,.bool])),os 4 (.call false 45 [T 3]) sB,o 5 (.un .not (T 4)),m 2 5]) .ret)
noncomputable def c115:FnC:=⟨115,6,[.tmp 2],AEJ,false,[.agg [.str,.str,.bool]],.val (.one .bool),none,false,[]⟩
theorem ACw:IsFn Tryz.prog 115 c115:=Jf [124,151] [] [] Tryz.func115 rfl
noncomputable def b70:=bO Tryz.prog Tryz.f70.body D0 70 [] []
noncomputable def c70:FnC:=⟨70,43,[.tmp 6,.tmp 7],b70,false,[.one (.int .i64),.one (.int .i64),.one .str],.tup [.one .str,.one (.int .i64)],none,false,[]⟩
theorem AJy:IsFn Tryz.prog 70 c70:=AP Tryz.func70 rfl rfl
noncomputable def ADq:List (Nat×Fun):=[(97,.code c97),(26,.code c26),(62,.code c62),(56,.code c56),(58,.code c58),(23,.code c23),(35,.code c35),(38,.code c38),(99,.code c99),(117,.code c117),(73,.code c73),(68,.code c68),(109,.code c109),(110,.code c110),(111,.code c111),(103,.code c103),(104,.code c104),(105,.code c105),(106,.code c106),(107,.code c107),(108,.code c108),(65,.code c65),(66,.code c66),(67,.code c67),(76,.code c76),(77,.code c77),(80,.code c80),(148,.code c148),(136,.code c136),(118,.code c118),(188,.code c188),(146,.code c146),(147,.code c147),(144,.code c144),(185,.code c185),(114,.code c114),(40,.code c40),(119,.code c119),(120,.code c120),(184,.code c184),(186,.code c186),(187,.code c187),(183,.code c183),(152,.code c152),(179,.code c179),(210,.code c210),(153,.code c153),(154,.code c154),(189,.code c189),(209,.code c209),(225,.code c225),(42,.code c42),(10,.code c10),(39,.code c39),(41,.code c41),(43,.code c43),(44,.code c44),(81,.code c81),(45,.code c45),(69,.code c69),(115,.code c115),(70,.code c70),(145,.prim none Nu),(143,.prim none M6),(191,.prim none He),(124,.prim (some (12400001,9,1,false)) (Dz 12400001 9 1 16)),(151,.prim (some (15100001,126,2,false)) (Dz 15100001 126 2 24))]
noncomputable def Fs:Nat->Option Fun:=DQ ADq
set_option maxRecDepth 100000 in
theorem Up:Company Tryz.prog Fs:=
 .cons AJA<|.cons ADY<|.cons AG2<|.cons AFz<|.cons AHu<|.cons AJC<|.cons AIu<|.cons AHy<|.cons AHL<|.cons vT<|.cons AJc<|.cons AGm<|.cons xO<|.cons xY<|.cons ACs<|.cons ADi<|.cons ACf<|.cons zH<|.cons vQ<|.cons zV<|.cons AAW<|.cons AFD<|.cons AEI<|.cons AJl<|.cons AFA<|.cons ADU<|.cons AD5<|.cons ABB<|.cons AAg<|.cons xE<|.cons vL<|.cons yI<|.cons vV<|.cons xJ<|.cons yR<|.cons zF<|.cons AFC<|.cons AA4<|.cons yJ<|.cons AAf<|.cons AAJ<|.cons AA7<|.cons AAj<|.cons AAx<|.cons ABN<|.cons ADD<|.cons AAm<|.cons ABO<|.cons yW<|.cons ACb<|.cons ABt<|.cons AJJ<|.cons AHD<|.cons AHJ<|.cons AE6<|.cons AIn<|.cons AGq<|.cons AFn<|.cons AFB<|.cons AEa<|.cons ACw<|.cons AJy<|.cons (Tc Tryz.lays156 Tryz.Builder_Extra_156)<|.cons (dO Tryz.lays162)<|.cons (VT Tryz.lays105 Tryz.Builder_Extra_105)<|.cons (IB Tryz.laysSlE041_f124 rfl (by kernel_rfl))<|.cons (IB Tryz.laysClone_f151 rfl (by kernel_rfl))<|.nil
theorem AAK:Fs 114=some (.code c114):=rfl
theorem ABg:Fs 154=some (.code c154):=rfl
theorem AHI:Fs 39=some (.code c39):=rfl
theorem AI9:Fs 41=some (.code c41):=rfl
theorem ACA:Fs 145=some (.prim none Nu):=rfl
theorem ABS:Fs 143=some (.prim none M6):=rfl
theorem xB:Fs 191=some (.prim none He):=rfl
theorem HB:Fs 124=some (.prim (some (12400001,9,1,false)) (Dz 12400001 9 1 16)):=rfl
theorem wD:Fs 151=some (.prim (some (15100001,126,2,false)) (Dz 15100001 126 2 24)):=rfl
end Go.Proofs.YtjmpnbbeplgchabGreatDoor.M
