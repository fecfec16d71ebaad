import Derived.Test.YtjmpnbbeplgchabGreatDoorR6Last
import Derived.Test.YtjmpnbbeplgchabGreatDoorProg
import Derived.Test.YtjmpnbbeplgchabGreatDoorMirI
import Derived.Test.YtjmpnbbeplgchabGreatDoorMirL
import Derived.KernelRfl
import Derived.Test.YtjmpnbbeplgchabGreatDoorMirM
namespace Go.Proofs.YtjmpnbbeplgchabGreatDoor.M
set_option linter.unusedVariables false
set_option linter.unusedSimpArgs false
open Go Go.Mir
def Ar:bA:=ByteArray.mk (List.toArray [])
def Qc (e:Int):AV := .tup [aS Ar,aI e]
def g3:AV->Int×Int×Int
 | .tup [.n (.int _ a),.n (.int _ b),.n (.int _ c)]=>(a,b,c)
 | _=>(0,0,0)
def c3T:AV->bA×Int×Int
 | .tup [.n (.str a),.n (.int _ b),.n (.int _ c)]=>(a,b,c)
 | _=>(Ar,0,0)
def gT (s:bA)(a k:Int):Int×Int×Int:=g3 (HZ s a k)
def cT (s:bA)(a:Int):bA×Int×Int:=c3T (HL s a)
theorem Np (s:bA)(a k:Int):HZ s a k = .tup [aI (gT s a k).1,aI (gT s a k).2.1,aI (gT s a k).2.2]:=by obtain⟨x,y,z,h⟩:=Sa s a k;rw[gT,h];rfl
theorem P6 (s:bA)(a:Int):HL s a = .tup [aS (cT s a).1,aI (cT s a).2.1,aI (cT s a).2.2]:=by obtain⟨x,y,z,h⟩:=Sc s a;rw[cT,h];rfl
theorem pJ {s:bA}{a k:Int}(h:(gT s a k).2.2≠0):(gT s a k).1=0:=by
 by_cases h1:k<1\/6<k\/a<0\/(s.size:Int)<a;·rw[gT,Gt h1];rfl
 ·by_cases h2:(s.size:Int)-a<k;·rw[gT,Cb h1 h2];rfl
  ·rw[gT,A9 h1 h2]at h;exact absurd rfl h
theorem KJ (s:bA)(a:Int):0<=(gT s a 1).1/\(gT s a 1).1<=255:=by
 by_cases h1:(1:Int)<1\/(6:Int)<1\/a<0\/(s.size:Int)<a;·rw[gT,Gt h1];exact⟨by decide,by decide⟩
 ·by_cases h2:(s.size:Int)-a<1;·rw[gT,Cb h1 h2];exact⟨by decide,by decide⟩
  ·rw[gT,A9 h1 h2];have h3:=Eg (An s a 1);have h4:=Ft s a 1;have h5:(256:Int) ^ (An s a 1).length<=256:=by
    have:(An s a 1).length=0\/(An s a 1).length=1:=by have:(1:Int).toNat=1:=rfl;omega
    rcases this with h|h<;>rw[h]<;>decide
   exact⟨h3.1,by show Ct (An s a 1)<=255;omega⟩
def nx (s:bA)(n e:Int):Int×Int×Int:=if e≠0 then (0,n,e) else gT s n 1
def tx (s:bA)(n e:Int):bA×Int×Int:=if e≠0 then (Ar,n,e) else cT s n
theorem aT (a b:Int):(a != b)=decide (a≠b):=by
 by_cases h:a=b;·subst h;simp
 ·simp[h]
def AK (l:List bA):List D:=l.map D.str
theorem Al (l:List bA):(AK l).length=l.length:=by simp[AK]
theorem A0 {l:List bA}{i:Nat}(h:i<l.length):(AK l)[i]?=some (D.str l[i]):=by simp[AK,h]
def XS (l:List bA):Prop:=(l.length:Int)<=9223372036854775807/\∀s∈l,(s.size:Int)<=9223372036854775807
theorem BF {α:Type}{l:List α}{i:Nat}(h:i<l.length):l.take (i+1)=l.take i++[l[i]]:=by rw[List.take_add_one,gI h];rfl
theorem FV (l:List bA)(x:bA):AK l++[D.str x]=AK (l++[x]):=by simp[AK]
theorem kU (n:Int)(h:0<=n/\n<=18446744073709551615):IntKind.u64.wrap n=n:=by show n % 18446744073709551616=n;omega
end Go.Proofs.YtjmpnbbeplgchabGreatDoor.M
namespace Go.Proofs.YtjmpnbbeplgchabGreatDoor.M
set_option linter.unusedVariables false
set_option linter.unusedSimpArgs false
open Go Go.Mir Go.Proofs
def I9:List Nat:=[1000022,1000079]
noncomputable def b22:=bO Tryz.prog Tryz.f22.body I9 22 [(2,[1,3],[],[(140806464,2290001,129,2),(140806465,2290002,3,1)],[]),(4,[3],[],[],[2290001,2290002])] []
noncomputable def c22:FnC:=⟨22,15,[.tmp 2],b22,true,[.agg [.slo 1,.slo 1,.slo 1,.int .i64,.int .i64]],.val (.one .raw),none,false,[(.val (.one (.ptr 2200101 0)),[.box 2200101 [.row 2290001,.row 2290002,.int .i64,.bool],.row 2290001 129 2 false,.row 2290002 3 1 false])]⟩
theorem AG0:IsFn Tryz.prog 22 c22:=AP Tryz.func22 rfl rfl
noncomputable def b25:=bO Tryz.prog Tryz.f25.body I9 25 [] [(4,[.keepF 25,.keep 0,.keep 1,.keep 12,.slot 13 (.one (.int .i64))])]
noncomputable def c25:FnC:=⟨25,26,[.tmp 4],b25,false,[.one (.slo 2),.one (.slo 2)],.val (.one .bool),none,false,[]⟩
theorem AGV:IsFn Tryz.prog 25 c25:=AP Tryz.func25 rfl rfl
noncomputable def b37:=bO Tryz.prog Tryz.f37.body I9 37 [] [(5,[.keepF 37,.keep 4,.keep 6,.keep 21,.keep 22,.slot 23 (.one (.int .i64)),.box 3700001 [.int .i64,.int .i64,.int .i64],.keepO 3760101,.row 3750101 4 1 false]),(12,[.keepF 37,.keep 4,.keep 6,.keep 60,.keep 61,.slot 62 (.one (.int .i64)),.box 3700001 [.int .i64,.int .i64,.int .i64],.keepO 3760101,.keepO 3750101])]
noncomputable def c37:FnC:=⟨37,86,[.cell 4 (some 3),.tmp 5],b37,false,[.agg [.slo 1,.slo 1,.slo 1,.int .i64,.int .i64],.one (.slo 1)],.tup [.agg [.int .i64,.int .i64,.int .i64],.one (.int .i64)],none,false,[]⟩
theorem AGZ:IsFn Tryz.prog 37 c37:=AP Tryz.func37 rfl rfl
noncomputable def b46:=bO Tryz.prog Tryz.f46.body I9 46 [] []
noncomputable def c46:FnC:=⟨46,48,[.tmp 2],b46,false,[.agg [.slo 1,.slo 1,.slo 1,.int .i64,.int .i64]],.val (.one .bool),none,false,[]⟩
theorem AIR:IsFn Tryz.prog 46 c46:=AP Tryz.func46 rfl rfl
noncomputable def b64:=bO Tryz.prog Tryz.f64.body I9 64 [(11,[0,3,4,5,7,14],[6401712,6401713],[],[]),(12,[0,3,4,5,7,14,82,83,84],[6401712,6401713],[],[]),(18,[0,3,4,5,7,14,82,83,84],[6401712,6401713],[],[])] [(2,[.keepF 64,.keep 0,.keep 2,.keep 3,.keep 4,.keep 5,.keep 7,.keep 25,.keep 26,.slot 27 (.one (.int .i64)),.box 2200101 [.row 2290001,.row 2290002,.int .i64,.bool],.keepO 2290001,.keepO 2290002,.keepO 6400000]),(12,[.keepF 64,.keep 0,.keep 3,.keep 4,.keep 5,.keep 7,.keep 14,.keep 82,.keep 83,.slot 84 (.one (.int .i64)),.box 2200101 [.row 2290001,.row 2290002,.int .i64,.bool],.row 2290001 129 2 false,.keepO 2290002,.keepO 6400000,.keepO 6400708]),(24,[.keepF 64,.keep 0,.keep 3,.keep 4,.keep 5,.keep 7,.keep 14,.keep 139,.keep 140,.slot 141 (.one (.int .i64)),.box 2200101 [.row 2290001,.row 2290002,.int .i64,.bool],.row 2290001 129 2 false,.row 2290002 3 1 false,.keepO 6400000,.keepO 6400708])]
noncomputable def c64:FnC:=⟨64,180,[],b64,false,[.one .raw,.agg [.slo 1,.slo 1,.slo 1,.int .i64,.int .i64],.one (.int .i64),.one (.int .i64),.one .str,.one .str],.tup [],none,true,[]⟩
theorem AEE:IsFn Tryz.prog 64 c64:=AP Tryz.func64 rfl rfl
noncomputable def AFJ:=bO Tryz.prog Tryz.f192.body I9 192 [] []
noncomputable def c192:FnC:=⟨192,81,[.cell 6 (some 4),.tmp 7],AFJ,false,[.one .raw,.one (.int .i64),.one .bool],.tup [.agg [.bool,.sln 1,.sln 1,.sln 1],.one .bool],none,true,[]⟩
theorem ABb:IsFn Tryz.prog 192 c192:=AP Tryz.func192 rfl rfl
noncomputable def AFN:=bO Tryz.prog Tryz.f131.body I9 131 [] []
noncomputable def c131:FnC:=⟨131,19,[.tmp 4],AFN,false,[.agg [.bool,.slo 1,.slo 1,.slo 1],.one .str],.val (.one (.int .i64)),none,false,[]⟩
theorem ADu:IsFn Tryz.prog 131 c131:=AP Tryz.func131 rfl rfl
noncomputable def AH0:=bO Tryz.prog Tryz.f128.body I9 128 [] []
noncomputable def c128:FnC:=⟨128,29,[.tmp 4,.tmp 5],AH0,false,[.agg [.bool,.slo 1,.slo 1,.slo 1],.one .str],.tup [.one (.int .i64),.one .bool],none,false,[]⟩
theorem wG:IsFn Tryz.prog 128 c128:=AP Tryz.func128 rfl rfl
noncomputable def b79:=bO Tryz.prog Tryz.f79.body I9 79 [(6,[4],[],[],[7900305])] []
noncomputable def c79:FnC:=⟨79,28,[.tmp 2,.tmp 3],b79,true,[.agg [.slo 1,.slo 1,.slo 1,.int .i64,.int .i64]],.tup [.one .raw,.one (.int .i64)],none,false,[(.tup [.one (.ptr 7900307 0),.one (.int .i64)],[.box 7900307 [.slo 1,.slo 1,.slo 1,.int .i64,.int .i64,.int .i64,.int .i64,.int .i64,.row 7900305,.bool],.row 7900305 4 1 false]),(.tup [.one .nilp,.one (.int .i64)],[])]⟩
theorem AHA:IsFn Tryz.prog 79 c79:=AP Tryz.func79 rfl rfl
noncomputable def b82:=bO Tryz.prog Tryz.f82.body I9 82 [] []
noncomputable def c82:FnC:=⟨82,29,[.tmp 2],b82,false,[.agg [.slo 1,.slo 1]],.val (.one .bool),none,false,[]⟩
theorem AFF:IsFn Tryz.prog 82 c82:=AP Tryz.func82 rfl rfl
def b83:Cmd:=.seq (.region [o 4 (.mov (.const (.bool false)))]) (.seq (.region [m 5 0,m 6 1,os 7 (.call false 123 [T 5,T 6]) sI,o 8 (.bin .geq (T 7) (N 0)),m 4 8]) .ret)
noncomputable def c83:FnC:=⟨83,9,[.tmp 4],b83,false,[.one (.slo 1),.one .raw],.val (.one .bool),none,false,[]⟩
theorem ADX:IsFn Tryz.prog 83 c83:=Jf [1000022,1000079] [] [] Tryz.func83 rfl
def b84:Cmd:=.seq (.region [o 2 (.mov (.const (.bool false)))]) (.seq (.region [m 3 0,os 4 (.slen (T 3)) sI,o 5 (.bin .gtr (T 4) (N 4096)),m 2 5]) .ret)
noncomputable def c84:FnC:=⟨84,6,[.tmp 2],b84,false,[.one .str],.val (.one .bool),none,false,[]⟩
theorem AJw:IsFn Tryz.prog 84 c84:=Jf [1000022,1000079] [] [] Tryz.func84 rfl
noncomputable def AIi:=bO Tryz.prog Tryz.f112.body I9 112 [] []
noncomputable def c112:FnC:=⟨112,76,[.cell 6 (some 4),.tmp 7],AIi,false,[.agg [.slo 1,.slo 1,.slo 1,.int .i64,.int .i64],.one (.int .i64),.one .bool],.tup [.agg [.bool,.slo 1,.slo 1,.slo 1],.one .bool],none,false,[]⟩
theorem ABr:IsFn Tryz.prog 112 c112:=AP Tryz.func112 rfl rfl
noncomputable def AHQ:=bO Tryz.prog Tryz.f113.body I9 113 [] []
noncomputable def c113:FnC:=⟨113,19,[.tmp 6],AHQ,false,[.one .str,.one .str,.one .str],.val (.one .bool),none,false,[]⟩
theorem ABd:IsFn Tryz.prog 113 c113:=AP Tryz.func113 rfl rfl
noncomputable def AF1:=bO Tryz.prog Tryz.f214.body I9 214 [(6,[1,4,6,7,8],[21401004,21401005,21401104,21401105,21401204,21401205,21401304,21401305],[],[]),(7,[1,4,6,7,8,9],[21401004,21401005,21401104,21401105,21401204,21401205,21401304,21401305],[],[]),(8,[1,4,6,7,8,9],[21401004,21401005,21401104,21401105,21401204,21401205,21401304,21401305],[],[]),(5,[1,4,6,7],[],[(1369625793,21490001,9,1),(1369625794,21490002,9,1),(1369625795,21490003,3,1)],[])] [(7,[.keepF 214,.keep 1,.keep 4,.keep 6,.keep 7,.keep 8,.slot 9 (.one (.int .i64)),.keepO 21400000,.box 21400302 [.str,.int .i64,.int .i64],.box 21400403 [.bool,.row 21490001,.row 21490002,.row 21490003],.row 21490001 9 1 true,.row 21490002 9 1 true,.row 21490003 3 1 true])]
noncomputable def c214:FnC:=⟨214,103,[.cell 4 (some 4),.tmp 5],AF1,false,[.one (.int .i64),.one .str],.tup [.agg [.bool,.sln 1,.sln 1,.sln 1],.one (.int .i64)],none,false,[]⟩
theorem wN:IsFn Tryz.prog 214 c214:=AP Tryz.func214 rfl rfl
noncomputable def AF3:=bO Tryz.prog Tryz.f158.body I9 158 [] []
noncomputable def c158:FnC:=⟨158,22,[.tmp 4],AF3,false,[.agg [.bool,.slo 1,.slo 1,.slo 1],.one .bool],.val (.one .bool),none,false,[]⟩
theorem AAI:IsFn Tryz.prog 158 c158:=AP Tryz.func158 rfl rfl
noncomputable def AD7:=bO Tryz.prog Tryz.f160.body I9 160 [] [(5,[.keepF 160,.keep 1,.keep 3,.keep 12,.keep 13,.slot 14 (.one (.int .i64)),.keepO 16000000])]
noncomputable def c160:FnC:=⟨160,83,[.tmp 2],AD7,false,[.agg [.bool,.slo 1,.slo 1,.slo 1]],.val (.one .bool),none,false,[]⟩
theorem AC9:IsFn Tryz.prog 160 c160:=AP Tryz.func160 rfl rfl
def AGD:Cmd:=.seq (.region [o 2 (.box 16100000 (T 0)),o 3 (.box 16100001 (T 1)),mN 4 0]) (.seq (.region [os 5 (.ld (T 2) none) sL,os 6 (.len (T 5)) sI,o 7 (.mkf 197 [T 2,T 3]),os 8 (.call false 196 [T 6,T 7]) sI,m 4 8]) .ret)
noncomputable def c161:FnC:=⟨161,9,[.tmp 4],AGD,false,[.one (.slo 1),.one .str],.val (.one (.int .i64)),none,false,[]⟩
theorem yB:IsFn Tryz.prog 161 c161:=Jf [1000022,1000079] [] [] Tryz.func161 rfl
noncomputable def AHF:=bO Tryz.prog Tryz.f121.body I9 121 [] [(13,[.keepF 121,.keep 0,.keep 2,.keep 8,.keep 9,.keep 10,.keep 121,.keep 122,.slot 123 (.one (.int .i64)),.box 7900307 [.slo 1,.slo 1,.slo 1,.int .i64,.int .i64,.int .i64,.int .i64,.int .i64,.row 7900305,.bool],.row 7900305 4 1 false,.keepO 12100000,.keepO 12100001,.keepO 12100111])]
noncomputable def c121:FnC:=⟨121,160,[],AHF,false,[.one .raw,.one (.int .i64),.one (.int .i64),.one .str,.one .str],.tup [],none,true,[]⟩
theorem ADk:IsFn Tryz.prog 121 c121:=AP Tryz.func121 rfl rfl
noncomputable def AHl:=bO Tryz.prog Tryz.f122.body I9 122 [(2,[0,3],[12200401],[],[]),(3,[0,3,6,7],[12200401],[],[]),(7,[0,3,6,7],[12200401],[],[])] [(3,[.keepF 122,.keep 0,.slot 3 (.one (.int .i64)),.keep 6,.slot 7 (.one (.int .i64))])]
noncomputable def c122:FnC:=⟨122,18,[.tmp 2],AHl,false,[.one (.slo 1)],.val (.one (.int .i64)),none,false,[]⟩
theorem ABk:IsFn Tryz.prog 122 c122:=AP Tryz.func122 rfl rfl
noncomputable def AE2:=bO Tryz.prog Tryz.f123.body I9 123 [] [(2,[.keepF 123,.keep 0,.keep 1,.keep 7,.slot 8 (.one (.int .i64))])]
noncomputable def c123:FnC:=⟨123,19,[.tmp 4],AE2,false,[.one (.slo 1),.one .raw],.val (.one (.int .i64)),none,false,[]⟩
theorem ABK:IsFn Tryz.prog 123 c123:=AP Tryz.func123 rfl rfl
noncomputable def AJG:=bO Tryz.prog Tryz.f155.body I9 155 [] []
noncomputable def c155:FnC:=⟨155,29,[.cell 6 (some 4),.tmp 7],AJG,false,[.agg [.slo 1,.slo 1,.slo 1,.int .i64,.int .i64],.one (.int .i64),.one .bool],.tup [.agg [.bool,.sln 1,.sln 1,.sln 1],.one (.int .i64)],none,false,[]⟩
theorem ABj:IsFn Tryz.prog 155 c155:=AP Tryz.func155 rfl rfl
noncomputable def AGM:=bO Tryz.prog Tryz.f149.body I9 149 [(5,[0,1,4,6,7,8,9],[14901203,14901703,14902303],[(953619393,14901704,9,1),(953619394,14902304,9,1),(953619395,14901204,3,1)],[]),(6,[0,1,4,6,7,8,9,10],[14901203,14901703,14902303],[(953619393,14901704,9,1),(953619394,14902304,9,1),(953619395,14901204,3,1)],[]),(7,[0,1,4,6,7,8,9,10],[14901203,14901703,14902303],[],[])] [(6,[.keepF 149,.keep 0,.keep 1,.keep 4,.keep 6,.keep 7,.slot 8 (.one (.int .i64)),.keep 9,.slot 10 (.one (.int .i64)),.box 14900000 [.bool,.nil,.nil,.nil],.box 14900303 [.bool,.row 14901704,.row 14902304,.row 14901204],.row 14901704 9 1 true,.row 14902304 9 1 true,.row 14901204 3 1 true])]
noncomputable def c149:FnC:=⟨149,142,[.cell 4 (some 4),.tmp 5],AGM,false,[.one (.int .i64),.one .str],.tup [.agg [.bool,.slo 1,.slo 1,.slo 1],.one (.int .i64)],none,false,[]⟩
theorem xG:IsFn Tryz.prog 149 c149:=AP Tryz.func149 rfl rfl
noncomputable def AGx:=bO Tryz.prog Tryz.f150.body I9 150 [] []
noncomputable def c150:FnC:=⟨150,22,[.tmp 4],AGx,false,[.agg [.bool,.slo 1,.slo 1,.slo 1],.one .bool],.val (.one .bool),none,false,[]⟩
theorem AAD:IsFn Tryz.prog 150 c150:=AP Tryz.func150 rfl rfl
noncomputable def AJF:=bO Tryz.prog Tryz.f229.body I9 229 [] []
noncomputable def c229:FnC:=⟨229,36,[.tmp 4],AJF,false,[.one .raw,.one (.int .i64)],.val (.one (.int .i64)),none,true,[]⟩
theorem ACi:IsFn Tryz.prog 229 c229:=AP Tryz.func229 rfl rfl
noncomputable def AFf:=bO Tryz.prog Tryz.f230.body I9 230 [] []
noncomputable def c230:FnC:=⟨230,33,[.tmp 2],AFf,false,[.one .raw],.val (.one .str),none,true,[]⟩
theorem AAR:IsFn Tryz.prog 230 c230:=AP Tryz.func230 rfl rfl
def AHq:Cmd:=.seq (.region [o 2 (.mov (.const (.bool false)))]) (.seq (.region [m 3 0,os 4 (.slen (T 3)) sI,o 5 (.bin .gtr (T 4) (N 200)),m 2 5]) .ret)
noncomputable def c193:FnC:=⟨193,6,[.tmp 2],AHq,false,[.one .str],.val (.one .bool),none,false,[]⟩
theorem ACD:IsFn Tryz.prog 193 c193:=Jf [1000022,1000079] [] [] Tryz.func193 rfl
def AD3:Cmd:=.seq (.region [o 4 (.mov (.const (.bool false)))]) (.seq (.region [m 5 0,m 6 1,os 7 (.call false 215 [T 5,T 6]) sI,o 8 (.bin .geq (T 7) (N 0)),m 4 8]) .ret)
noncomputable def c194:FnC:=⟨194,9,[.tmp 4],AD3,false,[.one (.slo 1),.one .raw],.val (.one .bool),none,false,[]⟩
theorem ADh:IsFn Tryz.prog 194 c194:=Jf [1000022,1000079] [] [] Tryz.func194 rfl
def AGv:Cmd:=.seq (.region [o 2 (.mov (.const (.bool false)))]) (.seq (.region [m 3 0,o 4 (.bin .lss (T 3) (N 10)),m 5 4,gd 6 (.mov (T 0)) 5 false,gd 7 (.bin .geq (T 6) (N 2048)) 5 false,o 8 (.pick (T 5) (.const (.bool true)) (T 7)),m 2 8]) .ret)
noncomputable def c195:FnC:=⟨195,9,[.tmp 2],AGv,false,[.one (.int .i64)],.val (.one .bool),none,false,[]⟩
theorem AAl:IsFn Tryz.prog 195 c195:=Jf [1000022,1000079] [] [] Tryz.func195 rfl
noncomputable def AJo:=bO Tryz.prog Tryz.f196.body I9 196 [] [(2,[.keepF 196,.keep 1,.slot 5 (.one (.int .i64)),.slot 6 (.one (.int .i64))])]
noncomputable def c196:FnC:=⟨196,26,[.tmp 4],AJo,false,[.one (.int .i64),.one .raw],.val (.one (.int .i64)),none,false,[]⟩
theorem yX:IsFn Tryz.prog 196 c196:=AP Tryz.func196 rfl rfl
def AE3:Cmd:=.seq (.region [o 4 (.mov (.const (.bool false)))]) (.seq (.drawn [os 5 (.ld (T 1) none) sL,m 6 0,o 7 (.idxA (T 5) (T 6) 1),os 8 (.ld (T 7) none) sS,os 9 (.ld (T 2) none) sS,o 10 (.bin .geq (T 8) (T 9)),m 4 10] []) .ret)
noncomputable def c197:FnC:=⟨197,11,[.tmp 4],AE3,false,[.one (.int .i64)],.val (.one .bool),none,false,[]⟩
theorem xL:IsFn Tryz.prog 197 c197:=Jf [1000022,1000079] [] [] Tryz.func197 rfl
noncomputable def AEV:=bO Tryz.prog Tryz.f156.body I9 156 [] []
noncomputable def c156:FnC:=⟨156,17,[.tmp 4],AEV,false,[.one .str],.val (.one .bool),none,false,[]⟩
theorem AAP:IsFn Tryz.prog 156 c156:=AP Tryz.func156 rfl rfl
noncomputable def AF8:=bO Tryz.prog Tryz.f139.body I9 139 [] [(3,[.keepF 139,.slot 3 (.one (.int .i64)),.keep 6,.keep 7,.slot 8 (.one (.int .i64))])]
noncomputable def c139:FnC:=⟨139,18,[.tmp 2],AF8,false,[.one (.slo 1)],.val (.one (.int .i64)),none,false,[]⟩
theorem AAo:IsFn Tryz.prog 139 c139:=AP Tryz.func139 rfl rfl
def AI6:Cmd:=.seq (.region [o 4 (.mov (.const (.bool false)))]) (.seq (.region [m 5 0,m 6 1,os 7 (.call false 174 [T 5,T 6]) sI,o 8 (.bin .geq (T 7) (N 0)),m 4 8]) .ret)
noncomputable def c140:FnC:=⟨140,9,[.tmp 4],AI6,false,[.one (.slo 1),.one .raw],.val (.one .bool),none,false,[]⟩
theorem xS:IsFn Tryz.prog 140 c140:=Jf [1000022,1000079] [] [] Tryz.func140 rfl
def AJp:Cmd:=.seq (.region [o 3 (.mov (.const (.bool false)))]) (.seq (.region [m 4 0,os 5 (.ld (T 1) none) sI,os 6 (.call false 142 [T 4,T 5]) sB,o 7 (.un .not (T 6)),m 3 7]) .ret)
noncomputable def c157:FnC:=⟨157,8,[.tmp 3],AJp,false,[.one (.slo 1)],.val (.one .bool),none,false,[]⟩
theorem AB8:IsFn Tryz.prog 157 c157:=Jf [1000022,1000079] [] [] Tryz.func157 rfl
def AEf:Cmd:=.seq (.region [o 4 (.mov (.const (.bool false)))]) (.seq (.region [m 5 1,m 6 0,os 7 (.len (T 6)) sI,o 8 (.bin .lss (T 5) (T 7)),m 9 8,gd 10 (.mov (T 0)) 9 true,gd 11 (.mov (T 1)) 9 true,gd 12 (.idxA (T 10) (T 11) 1) 9 true,gs 13 (.ld (T 12) none) 9 true sB,o 14 (.pick (T 9) (T 13) (.const (.bool false))),m 4 14]) .ret)
noncomputable def c142:FnC:=⟨142,15,[.tmp 4],AEf,false,[.one (.slo 1),.one (.int .i64)],.val (.one .bool),none,false,[]⟩
theorem zG:IsFn Tryz.prog 142 c142:=Jf [1000022,1000079] [] [] Tryz.func142 rfl
noncomputable def AHt:=bO Tryz.prog Tryz.f190.body I9 190 [] [(4,[.keepF 190,.keep 1,.keep 14,.keep 15,.slot 16 (.one (.int .i64)),.keepO 19000000]),(10,[.keepF 190,.keep 1,.keep 45,.keep 46,.slot 47 (.one (.int .i64)),.keepO 19000000]),(16,[.keepF 190,.keep 1,.keep 56,.keep 57,.slot 58 (.one (.int .i64)),.keepO 19000000])]
noncomputable def c190:FnC:=⟨190,104,[.tmp 2],AHt,false,[.agg [.bool,.slo 1,.slo 1,.slo 1]],.val (.one .bool),none,false,[]⟩
theorem ABM:IsFn Tryz.prog 190 c190:=AP Tryz.func190 rfl rfl
noncomputable def AIS:=bO Tryz.prog Tryz.f215.body I9 215 [] [(2,[.keepF 215,.keep 0,.keep 1,.keep 7,.slot 8 (.one (.int .i64))])]
noncomputable def c215:FnC:=⟨215,19,[.tmp 4],AIS,false,[.one (.slo 1),.one .raw],.val (.one (.int .i64)),none,false,[]⟩
theorem vE:IsFn Tryz.prog 215 c215:=AP Tryz.func215 rfl rfl
noncomputable def AIf:=bO Tryz.prog Tryz.f174.body I9 174 [] [(2,[.keepF 174,.keep 0,.keep 1,.keep 7,.slot 8 (.one (.int .i64))])]
noncomputable def c174:FnC:=⟨174,19,[.tmp 4],AIf,false,[.one (.slo 1),.one .raw],.val (.one (.int .i64)),none,false,[]⟩
theorem ABC:IsFn Tryz.prog 174 c174:=AP Tryz.func174 rfl rfl
noncomputable def own2:List (Nat×Fun):=[(22,.code c22),(25,.code c25),(37,.code c37),(46,.code c46),(64,.code c64),(192,.code c192),(131,.code c131),(128,.code c128),(79,.code c79),(82,.code c82),(83,.code c83),(84,.code c84),(112,.code c112),(113,.code c113),(214,.code c214),(158,.code c158),(160,.code c160),(161,.code c161),(121,.code c121),(122,.code c122),(123,.code c123),(155,.code c155),(149,.code c149),(150,.code c150),(229,.code c229),(230,.code c230),(193,.code c193),(194,.code c194),(195,.code c195),(196,.code c196),(197,.code c197),(156,.code c156),(139,.code c139),(140,.code c140),(157,.code c157),(142,.code c142),(190,.code c190),(215,.code c215),(174,.code c174)]
noncomputable def iX:List (Nat×Fun):=own2++ADq
noncomputable def AG:Nat->Option Fun:=DQ iX
set_option maxRecDepth 100000 in
theorem PE:Company Tryz.prog AG:=
 .cons AG0<|.cons AGV<|.cons AGZ<|.cons AIR<|.cons AEE<|.cons ABb<|.cons ADu<|.cons wG<|.cons AHA<|.cons AFF<|.cons ADX<|.cons AJw<|.cons ABr<|.cons ABd<|.cons wN<|.cons AAI<|.cons AC9<|.cons yB<|.cons ADk<|.cons ABk<|.cons ABK<|.cons ABj<|.cons xG<|.cons AAD<|.cons ACi<|.cons AAR<|.cons ACD<|.cons ADh<|.cons AAl<|.cons yX<|.cons xL<|.cons AAP<|.cons AAo<|.cons xS<|.cons AB8<|.cons zG<|.cons ABM<|.cons vE<|.cons ABC<|Up
theorem Ea:Qi Fs AG:=I8 (by kernel_rfl)
theorem AEm:AG 64=some (.code c64):=rfl
theorem AFv:AG 79=some (.code c79):=rfl
theorem xX:AG 121=some (.code c121):=rfl
theorem WW:AG 123=some (.code c123):=rfl
theorem ABe:AG 229=some (.code c229):=rfl
theorem AAE:AG 230=some (.code c230):=rfl
theorem ACg:AG 196=some (.code c196):=rfl
theorem zK:AG 174=some (.code c174):=rfl
end Go.Proofs.YtjmpnbbeplgchabGreatDoor.M
