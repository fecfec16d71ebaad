import Derived.Shelf.Abstract
import Derived.WalkKit
import Derived.Laws.CopyOwn
import Derived.Laws.Tables
import Derived.Tactics
import Derived.Tactics2
import Derived.Deep.OwnRows
import Derived.KernelRfl
import Derived.OwnWalkIn
import Derived.Test.YtegndijbpiccgaaGreatDoorProg
import Derived.Test.YtegndijbpiccgaaGreatDoorR5EdZ
import Derived.Test.YtegndijbpiccgaaGreatDoorR5Call
import Derived.Test.YtegndijbpiccgaaGreatDoorMirI
import Derived.Test.YtegndijbpiccgaaGreatDoorMirL
import Derived.Test.YtegndijbpiccgaaGreatDoorR5Scan
import Derived.Test.YtegndijbpiccgaaGreatDoorR5FunB
import Derived.Test.YtegndijbpiccgaaGreatDoorR5LV
namespace Go.Proofs.YtegndijbpiccgaaGreatDoor.M
set_option linter.unusedVariables false
set_option linter.unusedSimpArgs false
open Go Go.RowKit Go.Shelf Go.Proofs
set_option linter.unusedVariables false
set_option linter.unusedSimpArgs false
attribute [local go_sem] Oper.semAt_some
def BoxK (W:World) (B:Nat) (t:TypeId) (cs:Array Value):Prop:=W.heap[B]?=some (.cells cs t (0,0))
theorem BoxK.cell {W:World} {B:Nat} {t:TypeId} {cs:Array Value} (h:BoxK W B t cs) (i:Nat):W.cell? ⟨B,i,none⟩=cs[i]?:=by simp[World.cell?,show W.heap[B]?=_ from h]
theorem BoxK.frozen {W:World} {B:Nat} {t:TypeId} {cs:Array Value} (h:BoxK W B t cs) (i:Nat):W.frozen? ⟨B,i,none⟩=false:=by simp[World.frozen?,show W.heap[B]?=_ from h]
theorem BoxK.lt {W:World} {B:Nat} {t:TypeId} {cs:Array Value} (h:BoxK W B t cs):B<W.heap.size:=(Array.getElem?_eq_some_iff.1 h).1
theorem BoxK.new (W:World) (t:TypeId) (cs:Array Value):BoxK (W.alloc (.cells cs t)) W.heap.size t cs:=by unfold BoxK;show (W.heap.push _)[W.heap.size]?=_;exact Array.getElem?_push_size
theorem BoxK.below {n₀:Nat} {W W':World} {B:Nat} {t:TypeId} {cs:Array Value} (h:BoxK W B t cs) (hb:Below n₀ W W') (hB:B<n₀):BoxK W' B t cs:=(hb.block B hB).trans h
theorem BoxK.alloc {W:World} {B:Nat} {t:TypeId} {cs:Array Value} (h:BoxK W B t cs) (o:Obj):BoxK (W.alloc o) B t cs:=h.below (n₀:=W.heap.size) ((Below.refl _ W).alloc (Nat.le_refl _) _) h.lt
theorem BoxK.set {W:World} {B:Nat} {t:TypeId} {cs:Array Value} (h:BoxK W B t cs) (i:Nat) (v:Value):BoxK (W.setCell ⟨B,i,none⟩ v) B t (cs.set! i v):=heap_setCell_same W B i cs t v h
theorem BoxK.other {W:World} {B:Nat} {t:TypeId} {cs:Array Value} (h:BoxK W B t cs) {a:Addr} (hn:B≠a.block) (v:Value):BoxK (W.setCell a v) B t cs:=(Below.heap_setCell W a v B hn).trans h
open Go.Mir
end Go.Proofs.YtegndijbpiccgaaGreatDoor.M
namespace Go.Proofs.YtegndijbpiccgaaGreatDoor.M
set_option linter.unusedVariables false
set_option linter.unusedSimpArgs false
open Go Go.Mir Go.Proofs
@[irreducible] noncomputable def b35:Cmd:=((Tryz.f35.body).bind (trC Tryz.prog [1000031,1000105,1000035,1000074] 35 [] [])).getD .skip
noncomputable def c35:FnC:=⟨35,14,[(.cell 2 (some 2)),(.tmp 3)],b35,true,[(.one (.int .i64))],.tup [(.agg [(.slo 1),(.slo 2)]),(.one (.int .i64))],none,false,[(.tup [(.agg [(.row 3500301),(.slo 2)]),(.one (.int .i64))],[.row 3500301 9 1 true]),(.tup [(.agg [(.slo 1),(.slo 2)]),(.one (.int .i64))],[])]⟩
theorem is35:IsFn Tryz.prog 35 c35:=⟨⟨_,_,[1000031,1000105,1000035,1000074],[],[],Tryz.func35,rfl,(by kernel_rfl),rfl,(by kernel_rfl),(by kernel_rfl)⟩⟩
@[irreducible] noncomputable def b132:Cmd:=((Tryz.f132.body).bind (trC Tryz.prog [1000031,1000105,1000035,1000074] 132 [] [])).getD .skip
noncomputable def c132:FnC:=⟨132,19,[(.tmp 4)],b132,false,[(.one (.slo 1)),(.one (.int .i64))],.val (.one .bool),none,false,[]⟩
theorem is132:IsFn Tryz.prog 132 c132:=⟨⟨_,_,[1000031,1000105,1000035,1000074],[],[],Tryz.func132,rfl,(by kernel_rfl),rfl,(by kernel_rfl),(by kernel_rfl)⟩⟩
@[irreducible] noncomputable def b85:Cmd:=((Tryz.f85.body).bind (trC Tryz.prog [1000031,1000105,1000035,1000074] 85 [(2,([0,3],[8501203,8501204],[],[])),(3,([0,3,4],[8501203,8501204],[],[])),(4,([0,3,4],[8501203,8501204],[],[]))] [(3,[.keepF 85,.keep 0,.rowIn 3 8500100,.slot 4 (.one (.int .i64)),.row 8500100 5 1 true]),(7,[.keepF 85,.keep 0,.keep 3,.keep 4,.slot 5 (.one (.int .i64)),.slot 6 (.one (.int .i64)),.keepO 8500100])])).getD .skip
noncomputable def c85:FnC:=⟨85,34,[(.tmp 2)],b85,false,[(.one (.slo 1))],.val (.one .str),none,false,[]⟩
theorem is85:IsFn Tryz.prog 85 c85:=⟨⟨_,_,[1000031,1000105,1000035,1000074],[(2,([0,3],[8501203,8501204],[],[])),(3,([0,3,4],[8501203,8501204],[],[])),(4,([0,3,4],[8501203,8501204],[],[]))],[(3,[.keepF 85,.keep 0,.rowIn 3 8500100,.slot 4 (.one (.int .i64)),.row 8500100 5 1 true]),(7,[.keepF 85,.keep 0,.keep 3,.keep 4,.slot 5 (.one (.int .i64)),.slot 6 (.one (.int .i64)),.keepO 8500100])],Tryz.func85,rfl,(by kernel_rfl),rfl,(by kernel_rfl),(by kernel_rfl)⟩⟩
@[irreducible] noncomputable def b37:Cmd:=((Tryz.f37.body).bind (trC Tryz.prog [1000031,1000105,1000035,1000074] 37 [] [(3,[.keepF 37,.keep 3,.keep 11,.keep 12,.slot 13 (.one (.int .i64)),.row 3700104 5 1 true])])).getD .skip
noncomputable def c37:FnC:=⟨37,32,[(.tmp 2)],b37,false,[(.one (.slo 1))],.val (.one .str),none,false,[]⟩
theorem is37:IsFn Tryz.prog 37 c37:=⟨⟨_,_,[1000031,1000105,1000035,1000074],[],[(3,[.keepF 37,.keep 3,.keep 11,.keep 12,.slot 13 (.one (.int .i64)),.row 3700104 5 1 true])],Tryz.func37,rfl,(by kernel_rfl),rfl,(by kernel_rfl),(by kernel_rfl)⟩⟩
@[irreducible] noncomputable def b91:Cmd:=((Tryz.f91.body).bind (trC Tryz.prog [1000031,1000105,1000035,1000074] 91 [] [(7,[.keepF 91,.keep 0,.keep 6,.keep 25,.slot 26 (.one (.int .i64)),.row 9100501 4 1 true])])).getD .skip
noncomputable def c91:FnC:=⟨91,47,[(.tmp 4),(.tmp 5)],b91,false,[(.one .str),(.one (.int .i64))],.tup [(.one (.slo 1)),(.one (.int .i64))],none,false,[]⟩
theorem is91:IsFn Tryz.prog 91 c91:=⟨⟨_,_,[1000031,1000105,1000035,1000074],[],[(7,[.keepF 91,.keep 0,.keep 6,.keep 25,.slot 26 (.one (.int .i64)),.row 9100501 4 1 true])],Tryz.func91,rfl,(by kernel_rfl),rfl,(by kernel_rfl),(by kernel_rfl)⟩⟩
@[irreducible] noncomputable def b96:Cmd:=((Tryz.f96.body).bind (trC Tryz.prog [1000031,1000105,1000035,1000074] 96 [(6,([0,1,6],[9600911,9600912],[],[])),(7,([0,1,6,7],[9600911,9600912],[],[])),(8,([0,1,6,7],[9600911,9600912],[],[]))] [(7,[.keepF 96,.keep 0,.keep 1,.rowIn 6 9600500,.slot 7 (.one (.int .i64)),.row 9600500 4 1 true])])).getD .skip
noncomputable def c96:FnC:=⟨96,43,[(.tmp 4),(.tmp 5)],b96,false,[(.one .str),(.one (.int .i64))],.tup [(.one (.slo 1)),(.one (.int .i64))],none,false,[]⟩
theorem is96:IsFn Tryz.prog 96 c96:=⟨⟨_,_,[1000031,1000105,1000035,1000074],[(6,([0,1,6],[9600911,9600912],[],[])),(7,([0,1,6,7],[9600911,9600912],[],[])),(8,([0,1,6,7],[9600911,9600912],[],[]))],[(7,[.keepF 96,.keep 0,.keep 1,.rowIn 6 9600500,.slot 7 (.one (.int .i64)),.row 9600500 4 1 true])],Tryz.func96,rfl,(by kernel_rfl),rfl,(by kernel_rfl),(by kernel_rfl)⟩⟩
@[irreducible] noncomputable def b33:Cmd:=((Tryz.f33.body).bind (trC Tryz.prog [1000031,1000105,1000035,1000074] 33 [] [(5,[.keepF 33,.keep 2,.keep 4,.slot 15 (.one (.int .i64)),.keepO 3300000,.row 3300301 4 1 true])])).getD .skip
noncomputable def c33:FnC:=⟨33,26,[(.cell 2 (some 2)),(.tmp 3)],b33,false,[(.one (.int .i64))],.tup [(.agg [(.slo 1),(.slo 1)]),(.one (.int .i64))],none,false,[]⟩
theorem is33:IsFn Tryz.prog 33 c33:=⟨⟨_,_,[1000031,1000105,1000035,1000074],[],[(5,[.keepF 33,.keep 2,.keep 4,.slot 15 (.one (.int .i64)),.keepO 3300000,.row 3300301 4 1 true])],Tryz.func33,rfl,(by kernel_rfl),rfl,(by kernel_rfl),(by kernel_rfl)⟩⟩
@[irreducible] noncomputable def b141:Cmd:=((Tryz.f141.body).bind (trC Tryz.prog [1000031,1000105,1000035,1000074] 141 [] [(4,[.keepF 141,.keep 0,.keep 1,.keep 12,.slot 13 (.one (.int .i64))])])).getD .skip
noncomputable def c141:FnC:=⟨141,26,[(.tmp 4)],b141,false,[(.one (.slo 1)),(.one (.slo 1))],.val (.one .bool),none,false,[]⟩
theorem is141:IsFn Tryz.prog 141 c141:=⟨⟨_,_,[1000031,1000105,1000035,1000074],[],[(4,[.keepF 141,.keep 0,.keep 1,.keep 12,.slot 13 (.one (.int .i64))])],Tryz.func141,rfl,(by kernel_rfl),rfl,(by kernel_rfl),(by kernel_rfl)⟩⟩
@[irreducible] noncomputable def b98:Cmd:=((Tryz.f98.body).bind (trC Tryz.prog [1000031,1000105,1000035,1000074] 98 [] [])).getD .skip
noncomputable def c98:FnC:=⟨98,17,[(.tmp 4)],b98,false,[(.agg [(.slo 1),(.slo 1)]),(.agg [(.slo 1),(.slo 1)])],.val (.one .bool),none,false,[]⟩
theorem is98:IsFn Tryz.prog 98 c98:=⟨⟨_,_,[1000031,1000105,1000035,1000074],[],[],Tryz.func98,rfl,(by kernel_rfl),rfl,(by kernel_rfl),(by kernel_rfl)⟩⟩
@[irreducible] noncomputable def b49:Cmd:=((Tryz.f49.body).bind (trC Tryz.prog [1000031,1000105,1000035,1000074] 49 [] [(4,[.keepF 49,.keep 2,.keep 3,.keep 47,.slot 48 (.one (.int .i64)),.keepO 4900000,.keepO 4900001])])).getD .skip
noncomputable def c49:FnC:=⟨49,63,[(.tmp 4)],b49,false,[(.agg [(.slo 1),(.slo 1),(.slo 1),(.int .i64),(.int .i64)]),(.agg [(.slo 1),(.slo 1),(.slo 1),(.int .i64),(.int .i64)])],.val (.one .bool),none,false,[]⟩
theorem is49:IsFn Tryz.prog 49 c49:=⟨⟨_,_,[1000031,1000105,1000035,1000074],[],[(4,[.keepF 49,.keep 2,.keep 3,.keep 47,.slot 48 (.one (.int .i64)),.keepO 4900000,.keepO 4900001])],Tryz.func49,rfl,(by kernel_rfl),rfl,(by kernel_rfl),(by kernel_rfl)⟩⟩
@[irreducible] noncomputable def b105:Cmd:=((Tryz.f105.body).bind (trC Tryz.prog [1000031,1000105,1000035,1000074] 105 [(7,([1,4,5],[10501102,10501103],[],[])),(8,([4,5,20,21],[10501102,10501103],[],[])),(12,([4,5,20,21],[10501102,10501103],[],[]))] [(8,[.keepF 105,.keep 4,.rowIn 5 10500600,.keep 20,.slot 21 (.one (.int .i64)),.keepO 10550301,.keepO 10560301,.row 10570301 3 1 false,.row 10500600 3 1 true])])).getD .skip
noncomputable def c105:FnC:=⟨105,36,[(.tmp 2),(.tmp 3)],b105,true,[(.agg [(.slo 1),(.slo 1),(.slo 1),(.int .i64),(.int .i64)])],.tup [(.one (.slo 1)),(.one (.int .i64))],none,false,[(.tup [(.one (.row 10500600)),(.one (.int .i64))],[.row 10500600 3 1 true]),(.tup [(.one (.slo 1)),(.one (.int .i64))],[])]⟩
theorem is105:IsFn Tryz.prog 105 c105:=⟨⟨_,_,[1000031,1000105,1000035,1000074],[(7,([1,4,5],[10501102,10501103],[],[])),(8,([4,5,20,21],[10501102,10501103],[],[])),(12,([4,5,20,21],[10501102,10501103],[],[]))],[(8,[.keepF 105,.keep 4,.rowIn 5 10500600,.keep 20,.slot 21 (.one (.int .i64)),.keepO 10550301,.keepO 10560301,.row 10570301 3 1 false,.row 10500600 3 1 true])],Tryz.func105,rfl,(by kernel_rfl),rfl,(by kernel_rfl),(by kernel_rfl)⟩⟩
@[irreducible] noncomputable def b64:Cmd:=((Tryz.f64.body).bind (trC Tryz.prog [1000031,1000105,1000035,1000074] 64 [(5,([1,2,4,6,8],[6401002,6401003],[],[])),(6,([2,4,6,8,24,25,26],[6401002,6401003],[],[])),(11,([2,4,6,8,24,25,26],[6401002,6401003],[],[]))] [(6,[.keepF 64,.keep 2,.keep 4,.rowIn 6 6450101,.keep 8,.keep 24,.keep 25,.slot 26 (.one (.int .i64)),.keepO 6400000,.box 6400001 [(.int .i64),(.int .i64),(.int .i64)],.row 6450101 3 1 true,.keepO 6450401,.keepO 6460401,.keepO 6470401]),(13,[.keepF 64,.keep 4,.keep 6,.keep 8,.keep 53,.keep 54,.slot 55 (.one (.int .i64)),.box 6400001 [(.int .i64),(.int .i64),(.int .i64)],.keepO 6450101,.keepO 6450401,.keepO 6460401,.keepO 6470401])])).getD .skip
noncomputable def c64:FnC:=⟨64,86,[(.cell 4 (some 3)),(.tmp 5)],b64,false,[(.agg [(.slo 1),(.slo 1),(.slo 1),(.int .i64),(.int .i64)]),(.one (.slo 1))],.tup [(.agg [(.int .i64),(.int .i64),(.int .i64)]),(.one (.int .i64))],none,false,[]⟩
theorem is64:IsFn Tryz.prog 64 c64:=⟨⟨_,_,[1000031,1000105,1000035,1000074],[(5,([1,2,4,6,8],[6401002,6401003],[],[])),(6,([2,4,6,8,24,25,26],[6401002,6401003],[],[])),(11,([2,4,6,8,24,25,26],[6401002,6401003],[],[]))],[(6,[.keepF 64,.keep 2,.keep 4,.rowIn 6 6450101,.keep 8,.keep 24,.keep 25,.slot 26 (.one (.int .i64)),.keepO 6400000,.box 6400001 [(.int .i64),(.int .i64),(.int .i64)],.row 6450101 3 1 true,.keepO 6450401,.keepO 6460401,.keepO 6470401]),(13,[.keepF 64,.keep 4,.keep 6,.keep 8,.keep 53,.keep 54,.slot 55 (.one (.int .i64)),.box 6400001 [(.int .i64),(.int .i64),(.int .i64)],.keepO 6450101,.keepO 6450401,.keepO 6460401,.keepO 6470401])],Tryz.func64,rfl,(by kernel_rfl),rfl,(by kernel_rfl),(by kernel_rfl)⟩⟩
def b40:Cmd:=(.seq (.region [(o 4 (.mov (.const (.string ⟨#[]⟩))))]) (.seq (.region [(m 5 0),(m 6 1),(os 7 (.call false 85 [(T 6)]) sS),(o 8 (.build [(.n (.int .i64 0)),(.n (.int .i64 0)),(.n (.str ⟨#[]⟩))] [(0,(1,(N 3))),(1,(1,(T 5))),(2,(1,(T 7)))])),(os 9 (.call false 84 [(T 8)]) sS),(m 4 9)]) .ret))
noncomputable def c40:FnC:=⟨40,10,[(.tmp 4)],b40,false,[(.one (.int .i64)),(.one (.slo 1))],.val (.one .str),none,false,[]⟩
theorem is40:IsFn Tryz.prog 40 c40:=⟨⟨_,_,[1000031,1000105,1000035,1000074],[],[],Tryz.func40,rfl,(by kernel_rfl),rfl,(by kernel_rfl),(by kernel_rfl)⟩⟩
@[irreducible] noncomputable def b11:Cmd:=((Tryz.f11.body).bind (trC Tryz.prog [1000031,1000105,1000035,1000074] 11 [] [])).getD .skip
noncomputable def c11:FnC:=⟨11,68,[(.cell 2 (some 2)),(.tmp 3)],b11,false,[(.one (.int .i64))],.tup [(.agg [(.slo 1),(.slo 2)]),(.one (.int .i64))],none,false,[]⟩
theorem is11:IsFn Tryz.prog 11 c11:=⟨⟨_,_,[1000031,1000105,1000035,1000074],[],[],Tryz.func11,rfl,(by kernel_rfl),rfl,(by kernel_rfl),(by kernel_rfl)⟩⟩
@[irreducible] noncomputable def b14:Cmd:=((Tryz.f14.body).bind (trC Tryz.prog [1000031,1000105,1000035,1000074] 14 [(3,([0,2,3,4],[1400603,1400604,1400702],[(89606464,1400703,9,1)],[])),(4,([0,2,3,4,5],[1400603,1400604,1400702],[(89606464,1400703,9,1)],[])),(5,([0,2,3,4,5],[1400603,1400604,1400702],[],[]))] [(4,[.keepF 14,.keep 0,.keep 2,.keep 3,.rowIn 4 1400200,.slot 5 (.one (.int .i64)),.keepO 1400000,.box 1400101 [(.row 1400703),.nil],.row 1400703 9 1 true,.row 1400200 4 1 true])])).getD .skip
noncomputable def c14:FnC:=⟨14,35,[(.cell 2 (some 2))],b14,false,[(.one (.int .i64))],.val (.agg [(.slo 1),(.slo 2)]),none,false,[]⟩
theorem is14:IsFn Tryz.prog 14 c14:=⟨⟨_,_,[1000031,1000105,1000035,1000074],[(3,([0,2,3,4],[1400603,1400604,1400702],[(89606464,1400703,9,1)],[])),(4,([0,2,3,4,5],[1400603,1400604,1400702],[(89606464,1400703,9,1)],[])),(5,([0,2,3,4,5],[1400603,1400604,1400702],[],[]))],[(4,[.keepF 14,.keep 0,.keep 2,.keep 3,.rowIn 4 1400200,.slot 5 (.one (.int .i64)),.keepO 1400000,.box 1400101 [(.row 1400703),.nil],.row 1400703 9 1 true,.row 1400200 4 1 true])],Tryz.func14,rfl,(by kernel_rfl),rfl,(by kernel_rfl),(by kernel_rfl)⟩⟩
@[irreducible] noncomputable def b43:Cmd:=((Tryz.f43.body).bind (trC Tryz.prog [1000031,1000105,1000035,1000074] 43 [] [])).getD .skip
noncomputable def c43:FnC:=⟨43,40,[(.tmp 4),(.tmp 5)],b43,false,[(.agg [(.slo 1),(.slo 2)]),(.agg [(.int .i64),(.int .i64),(.int .i64),(.int .i64)])],.tup [(.one (.slo 1)),(.one .bool)],none,false,[]⟩
theorem is43:IsFn Tryz.prog 43 c43:=⟨⟨_,_,[1000031,1000105,1000035,1000074],[],[],Tryz.func43,rfl,(by kernel_rfl),rfl,(by kernel_rfl),(by kernel_rfl)⟩⟩
@[irreducible] noncomputable def b47:Cmd:=((Tryz.f47.body).bind (trC Tryz.prog [1000031,1000105,1000035,1000074] 47 [(10,([2,3,4,8,10],[4701407,4701408,4701502,4701503],[(300845186,4790001,9,1)],[])),(11,([2,3,4,10,63,64,65],[4701407,4701408,4701502,4701503],[],[])),(16,([2,3,4,10,63,64,65],[4701407,4701408,4701502,4701503],[],[]))] [(11,[.keepF 47,.keep 2,.keep 3,.keep 4,.keep 10,.keep 63,.keep 64,.slot 65 (.one (.int .i64)),.keepO 4700000,.keepO 4700001,.keepO 4700002,.box 4700706 [(.slo 1),(.slo 1),(.row 4790001),(.int .i64),(.int .i64)],.row 4790001 9 1 true])])).getD .skip
noncomputable def c47:FnC:=⟨47,98,[(.cell 4 (some 5)),(.tmp 5)],b47,false,[(.agg [(.slo 1),(.slo 2)]),(.agg [(.int .i64),(.int .i64),(.int .i64),(.int .i64)])],.tup [(.agg [(.slo 1),(.slo 1),(.slo 1),(.int .i64),(.int .i64)]),(.one .bool)],none,false,[]⟩
theorem is47:IsFn Tryz.prog 47 c47:=⟨⟨_,_,[1000031,1000105,1000035,1000074],[(10,([2,3,4,8,10],[4701407,4701408,4701502,4701503],[(300845186,4790001,9,1)],[])),(11,([2,3,4,10,63,64,65],[4701407,4701408,4701502,4701503],[],[])),(16,([2,3,4,10,63,64,65],[4701407,4701408,4701502,4701503],[],[]))],[(11,[.keepF 47,.keep 2,.keep 3,.keep 4,.keep 10,.keep 63,.keep 64,.slot 65 (.one (.int .i64)),.keepO 4700000,.keepO 4700001,.keepO 4700002,.box 4700706 [(.slo 1),(.slo 1),(.row 4790001),(.int .i64),(.int .i64)],.row 4790001 9 1 true])],Tryz.func47,rfl,(by kernel_rfl),rfl,(by kernel_rfl),(by kernel_rfl)⟩⟩
@[irreducible] noncomputable def b16:Cmd:=((Tryz.f16.body).bind (trC Tryz.prog [1000031,1000105,1000035,1000074] 16 [] [(13,[.keepF 16,.keep 1,.keep 2,.keep 4,.keep 5,.keep 9,.keep 81,.keep 82,.slot 83 (.one (.int .i64)),.keepO 1600000,.keepO 1600001,.keepO 1600514,.keepO 1601112,.row 1601105 9 1 true])])).getD .skip
noncomputable def c16:FnC:=⟨16,121,[(.cell 2 (some 11)),(.tmp 3)],b16,false,[(.agg [(.slo 1),(.slo 2)])],.tup [(.agg [(.int .i64),(.int .i64),(.int .i64),(.int .i64),(.int .i64),(.slo 1),(.slo 1),(.slo 1),(.int .i64),(.int .i64),(.slo 1)]),(.one (.int .i64))],none,false,[]⟩
theorem is16:IsFn Tryz.prog 16 c16:=⟨⟨_,_,[1000031,1000105,1000035,1000074],[],[(13,[.keepF 16,.keep 1,.keep 2,.keep 4,.keep 5,.keep 9,.keep 81,.keep 82,.slot 83 (.one (.int .i64)),.keepO 1600000,.keepO 1600001,.keepO 1600514,.keepO 1601112,.row 1601105 9 1 true])],Tryz.func16,rfl,(by kernel_rfl),rfl,(by kernel_rfl),(by kernel_rfl)⟩⟩
@[irreducible] noncomputable def b17:Cmd:=((Tryz.f17.body).bind (trC Tryz.prog [1000031,1000105,1000035,1000074] 17 [] [])).getD .skip
noncomputable def c17:FnC:=⟨17,67,[(.cell 2 (some 11)),(.tmp 3)],b17,false,[(.agg [(.slo 1),(.slo 2)])],.tup [(.agg [(.int .i64),(.int .i64),(.int .i64),(.int .i64),(.int .i64),(.slo 1),(.slo 1),(.slo 1),(.int .i64),(.int .i64),(.slo 1)]),(.one (.int .i64))],none,false,[]⟩
theorem is17:IsFn Tryz.prog 17 c17:=⟨⟨_,_,[1000031,1000105,1000035,1000074],[],[],Tryz.func17,rfl,(by kernel_rfl),rfl,(by kernel_rfl),(by kernel_rfl)⟩⟩
@[irreducible] noncomputable def b52:Cmd:=((Tryz.f52.body).bind (trC Tryz.prog [1000031,1000105,1000035,1000074] 52 [] [])).getD .skip
noncomputable def c52:FnC:=⟨52,12,[(.cell 4 (some 2)),(.tmp 5)],b52,false,[(.agg [(.slo 1),(.slo 2)])],.tup [(.agg [(.slo 1),(.slo 2)]),(.one (.int .i64))],none,false,[]⟩
theorem is52:IsFn Tryz.prog 52 c52:=⟨⟨_,_,[1000031,1000105,1000035,1000074],[],[],Tryz.func52,rfl,(by kernel_rfl),rfl,(by kernel_rfl),(by kernel_rfl)⟩⟩
@[irreducible] noncomputable def b51:Cmd:=((Tryz.f51.body).bind (trC Tryz.prog [1000031,1000105,1000035,1000074] 51 [] [])).getD .skip
noncomputable def c51:FnC:=⟨51,33,[(.cell 4 (some 3)),(.tmp 5)],b51,false,[(.agg [(.slo 1),(.slo 2),(.int .i64)]),(.one .raw)],.tup [(.agg [(.slo 1),(.slo 2),(.int .i64)]),(.one (.int .i64))],none,false,[]⟩
theorem is51:IsFn Tryz.prog 51 c51:=⟨⟨_,_,[1000031,1000105,1000035,1000074],[],[],Tryz.func51,rfl,(by kernel_rfl),rfl,(by kernel_rfl),(by kernel_rfl)⟩⟩
@[irreducible] noncomputable def b19:Cmd:=((Tryz.f19.body).bind (trC Tryz.prog [1000031,1000105,1000035,1000074] 19 [] [])).getD .skip
noncomputable def c19:FnC:=⟨19,13,[(.cell 6 (some 3)),(.tmp 7)],b19,false,[(.agg [(.slo 1),(.slo 2),(.int .i64)]),(.one (.int .i64)),(.one .str)],.tup [(.agg [(.slo 1),(.slo 2),(.int .i64)]),(.one (.int .i64))],none,false,[]⟩
theorem is19:IsFn Tryz.prog 19 c19:=⟨⟨_,_,[1000031,1000105,1000035,1000074],[],[],Tryz.func19,rfl,(by kernel_rfl),rfl,(by kernel_rfl),(by kernel_rfl)⟩⟩
@[irreducible] noncomputable def b20:Cmd:=((Tryz.f20.body).bind (trC Tryz.prog [1000031,1000105,1000035,1000074] 20 [] [])).getD .skip
noncomputable def c20:FnC:=⟨20,8,[(.cell 2 (some 3)),(.tmp 3)],b20,false,[(.agg [(.slo 1),(.slo 2),(.int .i64)])],.tup [(.agg [(.slo 1),(.slo 2),(.int .i64)]),(.one (.int .i64))],none,false,[]⟩
theorem is20:IsFn Tryz.prog 20 c20:=⟨⟨_,_,[1000031,1000105,1000035,1000074],[],[],Tryz.func20,rfl,(by kernel_rfl),rfl,(by kernel_rfl),(by kernel_rfl)⟩⟩
@[irreducible] noncomputable def b23:Cmd:=((Tryz.f23.body).bind (trC Tryz.prog [1000031,1000105,1000035,1000074] 23 [] [])).getD .skip
noncomputable def c23:FnC:=⟨23,58,[(.cell 4 (some 3)),(.tmp 5)],b23,false,[(.agg [(.slo 1),(.slo 2),(.int .i64)]),(.agg [(.int .i64),.str])],.tup [(.agg [(.slo 1),(.slo 2),(.int .i64)]),(.one (.int .i64))],none,false,[]⟩
theorem is23:IsFn Tryz.prog 23 c23:=⟨⟨_,_,[1000031,1000105,1000035,1000074],[],[],Tryz.func23,rfl,(by kernel_rfl),rfl,(by kernel_rfl),(by kernel_rfl)⟩⟩
@[irreducible] noncomputable def b18:Cmd:=((Tryz.f18.body).bind (trC Tryz.prog [1000031,1000105,1000035,1000074] 18 [] [])).getD .skip
noncomputable def c18:FnC:=⟨18,31,[(.tmp 4)],b18,false,[(.agg [(.int .i64),(.int .i64),(.int .i64),(.int .i64),(.int .i64),(.slo 1),(.slo 1),(.slo 1),(.int .i64),(.int .i64),(.slo 1)]),(.agg [(.int .i64),(.int .i64),(.int .i64),(.int .i64),(.int .i64),(.slo 1),(.slo 1),(.slo 1),(.int .i64),(.int .i64),(.slo 1)])],.val (.one .bool),none,false,[]⟩
theorem is18:IsFn Tryz.prog 18 c18:=⟨⟨_,_,[1000031,1000105,1000035,1000074],[],[],Tryz.func18,rfl,(by kernel_rfl),rfl,(by kernel_rfl),(by kernel_rfl)⟩⟩
@[irreducible] noncomputable def b21:Cmd:=((Tryz.f21.body).bind (trC Tryz.prog [1000031,1000105,1000035,1000074] 21 [] [])).getD .skip
noncomputable def c21:FnC:=⟨21,17,[(.tmp 4)],b21,false,[(.agg [(.slo 1),(.slo 2),(.int .i64)]),(.agg [(.slo 1),(.slo 2),(.int .i64)])],.val (.one .bool),none,false,[]⟩
theorem is21:IsFn Tryz.prog 21 c21:=⟨⟨_,_,[1000031,1000105,1000035,1000074],[],[],Tryz.func21,rfl,(by kernel_rfl),rfl,(by kernel_rfl),(by kernel_rfl)⟩⟩
@[irreducible] noncomputable def b15:Cmd:=((Tryz.f15.body).bind (trC Tryz.prog [1000031,1000105,1000035,1000074] 15 [] [])).getD .skip
noncomputable def c15:FnC:=⟨15,13,[(.tmp 2)],b15,false,[(.agg [(.slo 1),(.slo 2)])],.val (.one .bool),none,false,[]⟩
theorem is15:IsFn Tryz.prog 15 c15:=⟨⟨_,_,[1000031,1000105,1000035,1000074],[],[],Tryz.func15,rfl,(by kernel_rfl),rfl,(by kernel_rfl),(by kernel_rfl)⟩⟩
@[irreducible] noncomputable def b12:Cmd:=((Tryz.f12.body).bind (trC Tryz.prog [1000031,1000105,1000035,1000074] 12 [] [])).getD .skip
noncomputable def c12:FnC:=⟨12,32,[(.tmp 0)],b12,false,[],.val (.one .bool),none,false,[]⟩
theorem is12:IsFn Tryz.prog 12 c12:=⟨⟨_,_,[1000031,1000105,1000035,1000074],[],[],Tryz.func12,rfl,(by kernel_rfl),rfl,(by kernel_rfl),(by kernel_rfl)⟩⟩
noncomputable def own4:List (Nat×Fun):=[(35,.code c35),(132,.code c132),(85,.code c85),(37,.code c37),(91,.code c91),(96,.code c96),(33,.code c33),(141,.code c141),(98,.code c98),(49,.code c49),(105,.code c105),(64,.code c64),(40,.code c40),(11,.code c11),(14,.code c14),(43,.code c43),(47,.code c47),(16,.code c16),(17,.code c17),(52,.code c52),(51,.code c51),(19,.code c19),(20,.code c20),(23,.code c23),(18,.code c18),(21,.code c21),(15,.code c15),(12,.code c12)]
noncomputable def funs4:List (Nat×Fun):=own4++funs3
noncomputable def Fs4:Nat→Option Fun:=table funs4
set_option maxRecDepth 100000 in
theorem company4:Company Tryz.prog Fs4:=
 .cons is35 <| .cons is132 <| .cons is85 <| .cons is37 <| .cons is91 <| .cons is96 <| .cons is33 <| .cons is141 <| .cons is98 <| .cons is49 <| .cons is105 <| .cons is64 <| .cons is40 <| .cons is11 <| .cons is14 <| .cons is43 <| .cons is47 <| .cons is16 <| .cons is17 <| .cons is52 <| .cons is51 <| .cons is19 <| .cons is20 <| .cons is23 <| .cons is18 <| .cons is21 <| .cons is15 <| .cons is12 <| company3
theorem up4:FsLe Fs3 Fs4:=table_up (by kernel_rfl)
theorem fs35:Fs4 35=some (.code c35):=rfl
theorem fs132:Fs4 132=some (.code c132):=rfl
theorem fs85:Fs4 85=some (.code c85):=rfl
theorem fs37:Fs4 37=some (.code c37):=rfl
theorem fs91:Fs4 91=some (.code c91):=rfl
theorem fs96:Fs4 96=some (.code c96):=rfl
theorem fs33:Fs4 33=some (.code c33):=rfl
theorem fs141:Fs4 141=some (.code c141):=rfl
theorem fs98:Fs4 98=some (.code c98):=rfl
theorem fs49:Fs4 49=some (.code c49):=rfl
theorem fs105:Fs4 105=some (.code c105):=rfl
theorem fs64:Fs4 64=some (.code c64):=rfl
theorem fs40:Fs4 40=some (.code c40):=rfl
theorem fs11:Fs4 11=some (.code c11):=rfl
theorem fs14:Fs4 14=some (.code c14):=rfl
theorem fs43:Fs4 43=some (.code c43):=rfl
theorem fs47:Fs4 47=some (.code c47):=rfl
theorem fs16:Fs4 16=some (.code c16):=rfl
theorem fs17:Fs4 17=some (.code c17):=rfl
theorem fs52:Fs4 52=some (.code c52):=rfl
theorem fs51:Fs4 51=some (.code c51):=rfl
theorem fs19:Fs4 19=some (.code c19):=rfl
theorem fs20:Fs4 20=some (.code c20):=rfl
theorem fs23:Fs4 23=some (.code c23):=rfl
theorem fs18:Fs4 18=some (.code c18):=rfl
theorem fs21:Fs4 21=some (.code c21):=rfl
theorem fs15:Fs4 15=some (.code c15):=rfl
theorem fs12:Fs4 12=some (.code c12):=rfl
end Go.Proofs.YtegndijbpiccgaaGreatDoor.M
namespace Go.Proofs.YtegndijbpiccgaaGreatDoor.M
set_option linter.unusedVariables false
set_option linter.unusedSimpArgs false
open Go Go.Mir
set_option linter.unusedVariables false
abbrev qc6_:=
 (Mir.D.str qj_)
abbrev qc5_ (p0:Int):=
 (List.replicate (Int.toNat p0) qc6_)
def V35o (n:Int) (R:Mir.AV→Heap→Prop):Prop:=
 (sel (decide (n<1)) (R (.tup [qbJ_,(.n (.int .i64 1))]) []) (sel (decide (n > 2048)) (R (.tup [qbJ_,(.n (.int .i64 1))]) []) (((0:Int)≤n)∧((((Int.toNat n)*16):Nat)≤140737488355328)∧(R (.tup [(.agg [(.row 3500301 0),(.o (Mir.D.sl 2 []))]),(.n (.int .i64 0))]) [(3500301,(.row false true 0 9 1 (qc5_ n)))]))))
def V35oe (n:Int) (R:Mir.AV→Heap→Prop):=PLift.up (by delta V35o qj_ qc6_ qbJ_ qc5_;exact rfl:V35o n R=_)
theorem vc35o (n:Int) (R:Mir.AV→Heap→Prop):Vc Fs4 c35.body (argsQ c35 [.n (.int .i64 n)]) [] (endQO c35 R)=V35o n R:=by kernel_rfl
abbrev qda_:Mir.AV:=
 (.agg [(.n (.int .i64 0)),(.n (.int .i64 0)),(.n (.int .i64 0)),(.n (.int .i64 0)),(.n (.int .i64 0)),(.o (.sl 1 [])),(.o (.sl 1 [])),(.o (.sl 1 [])),(.n (.int .i64 0)),(.n (.int .i64 0)),(.o (.sl 1 []))])
abbrev qc7_ (p0:Mir.AV→Prop):=
 (p0 (.tup [qda_,(.n (.int .i64 1))]))
abbrev qc8_ (p0:Mir.AV→Prop):=
 (p0 (.tup [qda_,(.n (.int .i64 120))]))
abbrev qc9_:=
 ((2:Int)≤(((Int.toNat 10):Nat):Int))
def V17 (a0_0:LD) (a0_1:LD) (R:Mir.AV→Prop):Prop:=
 (∃x0:Bool,((Runs Fs4 22 [(qbI_ a0_0 a0_1)] [] (aB x0) [])∧(sel (Bool.not x0) (qc7_ R) (sel (decide ((a0_1.length:Int) > 0)) (qc7_ R) (sel (qbT_ a0_0) (qc8_ R) ((rn 1)∧((0:Int)≤2)∧((2:Int)≤(a0_0.length:Int))∧(∃x1:Int,(∃x2:Int,(∃x3:Int,(∃x4:Int,(∃x5:Int,(∃x6:Int,((Runs Fs4 46 [(aL (List.drop 0 (List.take (Int.toNat 2) a0_0)))] [] (.tup [(.agg [(aI x1),(aI x2),(aI x3),(aI x4)]),(aI x5),(aI x6)]) [])∧(sel (x6 != 0) (qc8_ R) (sel (x4 != (a0_0.length:Int)) (qc8_ R) (sel (decide (x1≥1099511627776)) (qc8_ R) (∃x7:LD,(∃x8:LD,(∃x9:LD,(∃x10:Int,(∃x11:Int,(∃x12:Bool,((Runs Fs4 47 [(qbI_ a0_0 a0_1),(.agg [(aI x1),(aI x2),(aI x3),(aI x4)])] [] (.tup [(.agg (qbN_ x7 x8 x9 x10 x11)),(aB x12)]) [])∧(sel (Bool.not x12) (qc8_ R) ((rn 1)∧((0:Int)≤10)∧(qbU_ a0_0)∧((0:Int)≤2)∧qc9_∧(∃x13:LD,((Runs Fs4 48 [(aI x1),(aL (List.drop (Int.toNat 2) (List.take (Int.toNat 10) a0_0)))] [] (aL x13) [])∧(R (.tup [(.agg [(.n (.int .i64 x1)),(.n (.int .i64 x2)),(.n (.int .i64 x3)),(.n (.int .i64 x4)),(.n (.int .i64 x5)),(.o (.sl 1 x7)),(.o (.sl 1 x8)),(.o (.sl 1 x9)),(.n (.int .i64 x10)),(.n (.int .i64 x11)),(.o (.sl 1 x13))]),(.n (.int .i64 0))])))))))))))))))))))))))))))))
def V17e (a0_0:LD) (a0_1:LD) (R:Mir.AV→Prop):=PLift.up (by delta V17 qU_ qbU_ qda_ qc9_ qbT_ qbI_ qbN_ qc7_ qc8_;exact rfl:V17 a0_0 a0_1 R=_)
theorem vc17 (a0_0:LD) (a0_1:LD) (R:Mir.AV→Prop):Vc Fs4 c17.body (argsQ c17 [(.agg [(.o (.sl 1 a0_0)),(.o (.sl 2 a0_1))])]) [] (endQ c17 R)=V17 a0_0 a0_1 R:=by kernel_rfl
def V18 (a0_0:Int) (a0_1:Int) (a0_2:Int) (a0_3:Int) (a0_4:Int) (a0_5:LD) (a0_6:LD) (a0_7:LD) (a0_8:Int) (a0_9:Int) (a0_10:LD) (a1_0:Int) (a1_1:Int) (a1_2:Int) (a1_3:Int) (a1_4:Int) (a1_5:LD) (a1_6:LD) (a1_7:LD) (a1_8:Int) (a1_9:Int) (a1_10:LD) (R:Mir.AV→Prop):Prop:=
 (sel ((a0_0==a1_0)&&((a0_1==a1_1)&&((a0_2==a1_2)&&((a0_3==a1_3)&&true)))) (sel (a0_4==a1_4) (∃x0:Bool,((Runs Fs4 49 [(.agg (qbN_ a0_5 a0_6 a0_7 a0_8 a0_9)),(.agg (qbN_ a1_5 a1_6 a1_7 a1_8 a1_9))] [] (aB x0) [])∧(sel x0 (∃x1:Bool,((Runs Fs4 50 [(aL a0_10),(aL a1_10)] [] (aB x1) [])∧(R (.n (.bool x1))))) (R (.n (.bool false)))))) (R (.n (.bool false)))) (R (.n (.bool false))))
def V18e (a0_0:Int) (a0_1:Int) (a0_2:Int) (a0_3:Int) (a0_4:Int) (a0_5:LD) (a0_6:LD) (a0_7:LD) (a0_8:Int) (a0_9:Int) (a0_10:LD) (a1_0:Int) (a1_1:Int) (a1_2:Int) (a1_3:Int) (a1_4:Int) (a1_5:LD) (a1_6:LD) (a1_7:LD) (a1_8:Int) (a1_9:Int) (a1_10:LD) (R:Mir.AV→Prop):=PLift.up (by delta V18 qbN_;exact rfl:V18 a0_0 a0_1 a0_2 a0_3 a0_4 a0_5 a0_6 a0_7 a0_8 a0_9 a0_10 a1_0 a1_1 a1_2 a1_3 a1_4 a1_5 a1_6 a1_7 a1_8 a1_9 a1_10 R=_)
theorem vc18 (a0_0:Int) (a0_1:Int) (a0_2:Int) (a0_3:Int) (a0_4:Int) (a0_5:LD) (a0_6:LD) (a0_7:LD) (a0_8:Int) (a0_9:Int) (a0_10:LD) (a1_0:Int) (a1_1:Int) (a1_2:Int) (a1_3:Int) (a1_4:Int) (a1_5:LD) (a1_6:LD) (a1_7:LD) (a1_8:Int) (a1_9:Int) (a1_10:LD) (R:Mir.AV→Prop):Vc Fs4 c18.body (argsQ c18 [(.agg [(.n (.int .i64 a0_0)),(.n (.int .i64 a0_1)),(.n (.int .i64 a0_2)),(.n (.int .i64 a0_3)),(.n (.int .i64 a0_4)),(.o (.sl 1 a0_5)),(.o (.sl 1 a0_6)),(.o (.sl 1 a0_7)),(.n (.int .i64 a0_8)),(.n (.int .i64 a0_9)),(.o (.sl 1 a0_10))]),(.agg [(.n (.int .i64 a1_0)),(.n (.int .i64 a1_1)),(.n (.int .i64 a1_2)),(.n (.int .i64 a1_3)),(.n (.int .i64 a1_4)),(.o (.sl 1 a1_5)),(.o (.sl 1 a1_6)),(.o (.sl 1 a1_7)),(.n (.int .i64 a1_8)),(.n (.int .i64 a1_9)),(.o (.sl 1 a1_10))])]) [] (endQ c18 R)=V18 a0_0 a0_1 a0_2 a0_3 a0_4 a0_5 a0_6 a0_7 a0_8 a0_9 a0_10 a1_0 a1_1 a1_2 a1_3 a1_4 a1_5 a1_6 a1_7 a1_8 a1_9 a1_10 R:=by kernel_rfl
def V21 (a0_0:LD) (a0_1:LD) (a0_2:Int) (a1_0:LD) (a1_1:LD) (a1_2:Int) (R:Mir.AV→Prop):Prop:=
 (sel (a0_2==a1_2) (∃x0:Bool,((Runs Fs4 13 [(qbI_ a0_0 a0_1),(qbI_ a1_0 a1_1)] [] (aB x0) [])∧(R (.n (.bool x0))))) (R (.n (.bool false))))
def V21e (a0_0:LD) (a0_1:LD) (a0_2:Int) (a1_0:LD) (a1_1:LD) (a1_2:Int) (R:Mir.AV→Prop):=PLift.up (by delta V21 qbI_ qU_;exact rfl:V21 a0_0 a0_1 a0_2 a1_0 a1_1 a1_2 R=_)
theorem vc21 (a0_0:LD) (a0_1:LD) (a0_2:Int) (a1_0:LD) (a1_1:LD) (a1_2:Int) (R:Mir.AV→Prop):Vc Fs4 c21.body (argsQ c21 [(.agg [(.o (.sl 1 a0_0)),(.o (.sl 2 a0_1)),(.n (.int .i64 a0_2))]),(.agg [(.o (.sl 1 a1_0)),(.o (.sl 2 a1_1)),(.n (.int .i64 a1_2))])]) [] (endQ c21 R)=V21 a0_0 a0_1 a0_2 a1_0 a1_1 a1_2 R:=by kernel_rfl
def V15 (a0_0:LD) (a0_1:LD) (R:Mir.AV→Prop):Prop:=
 (sel (decide ((a0_0.length:Int)≤200)) (R (.n (.bool (decide ((a0_1.length:Int)≤200))))) (R (.n (.bool false))))
theorem vc15 (a0_0:LD) (a0_1:LD) (R:Mir.AV→Prop):Vc Fs4 c15.body (argsQ c15 [(.agg [(.o (.sl 1 a0_0)),(.o (.sl 2 a0_1))])]) [] (endQ c15 R)=V15 a0_0 a0_1 R:=by kernel_rfl
def V12  (R:Mir.AV→Prop):Prop:=
 (∃x0:LD,(∃x1:LD,(∃x2:Int,((Runs Fs4 11 [(aI 24)] [] (.tup [(qbI_ x0 x1),(aI x2)]) [])∧(∃x3:Int,(∃x4:Int,(∃x5:Int,(∃x6:Int,(∃x7:Int,(∃x8:LD,(∃x9:LD,(∃x10:LD,(∃x11:Int,(∃x12:Int,(∃x13:LD,(∃x14:Int,((Runs Fs4 16 [(qbI_ x0 x1)] [] (.tup [(.agg [(aI x3),(aI x4),(aI x5),(aI x6),(aI x7),(aL x8),(aL x9),(aL x10),(aI x11),(aI x12),(aL x13)]),(aI x14)]) [])∧(sel (x2==0) (sel (x14==0) (sel ((x3==1)&&((x4==0)&&((x5==10)&&((x6==24)&&true)))) (R (.n (.bool ((x13.length:Int)==0)))) (R (.n (.bool false)))) (R (.n (.bool false)))) (R (.n (.bool false)))))))))))))))))))))
def V12e  (R:Mir.AV→Prop):=PLift.up (by delta V12 qbI_ qU_;exact rfl:V12 R=_)
theorem vc12  (R:Mir.AV→Prop):Vc Fs4 c12.body (argsQ c12 []) [] (endQ c12 R)=V12  R:=by kernel_rfl
abbrev qdb_:=
 (hB 1600001 [(aI 0),(aI 0),(aI 0),(aI 0),(aI 0),(.n Mir.D.nil),(.n Mir.D.nil),(.n Mir.D.nil),(aI 0),(aI 0),(.n Mir.D.nil)])
abbrev qdc_ (p0:LD) (p1 p2:Int):=
 (hB 1601112 [(aL p0),(aL p0),(.row 1601105 0),(aI p1),(qcT_ p2)])
abbrev qdd_ (p0:(Nat×LD)):=
 ((((Prod.fst p0):Nat)=0)∧(rn 1))
abbrev qde_ (p0:(Nat×LD)):=
 (((((0:Nat)=(Prod.fst p0))∧(rn 0))∧(rn 1))∧(rn 1))
def V16 (a0_0:LD) (a0_1:LD) (R:Mir.AV→Prop):Prop:=
 (∃x0:Bool,((Runs Fs4 41 [(qbI_ a0_0 a0_1)] [] (aB x0) [])∧(sel (Bool.not x0) (qc7_ R) (sel (decide ((a0_1.length:Int) > 0)) (qc7_ R) (sel (qbT_ a0_0) (qc8_ R) ((rn 1)∧((0:Int)≤0)∧(∃x1:Mir.D,((a0_0[Int.toNat 0]?=some x1)∧(∃x2:ByteArray,((qx_ x1 x2)∧(rn 1)∧((0:Int)≤1)∧(∃x3:Mir.D,((a0_0[Int.toNat 1]?=some x3)∧(∃x4:ByteArray,((qx_ x3 x4)∧(0=0)∧(∃x5:Int,(∃x6:Int,(∃x7:Int,(∃x8:Int,(∃x9:Int,(∃x10:Int,((Runs Fs4 42 [(aL [(Mir.D.str x2),(Mir.D.str x4)])] [] (.tup [(.agg [(aI x5),(aI x6),(aI x7),(aI x8)]),(aI x9),(aI x10)]) [])∧(sel (x10 != 0) (qc8_ R) (sel (x8 != (a0_0.length:Int)) (qc8_ R) (sel (decide (x5≥1099511627776)) (qc8_ R) (∃x11:LD,(∃x12:Bool,((Runs Fs4 43 [(qbI_ a0_0 a0_1),(.agg [(aI x5),(aI x6),(aI x7),(aI x8)])] [] (.tup [(aL x11),(aB x12)]) [])∧(sel (Bool.not x12) (qc8_ R) (((0:Int)≤x8)∧((((Int.toNat x8)*16):Nat)≤140737488355328)∧(∃x13:(Int→((Nat×LD)→Prop)),(∃x14:(Int→((Nat×LD)→Nat)),(((rh [(hB 1600000 (qU_ a0_0 a0_1)),qdb_,(1600508,(.row false true 0 9 1 [(Mir.D.str x2),(Mir.D.str x4)])),(hB 1600514 [(aI x5),(aI x6),(aI x7),(aI x8)]),(1601105,(.row false true 0 9 1 (qc5_ x8))),(qdc_ x11 x6 x5)])∧(x13 0 (0,(qc5_ x8))))∧(∀x15:Int,(∀x16:(Nat×LD),((x13 x15 x16)→(∀x17:(Nat→Mir.AV),(sel (qW_ x15 x11) ((rn 1)∧((0:Int)≤x15)∧(∃x18:Mir.D,((qv_ x11 x15 x18)∧(∃x19:Bool,((qbR_ x18 x19)∧(sel x19 ((rn 1)∧((0:Int)≤x15)∧(∃x20:Mir.D,((qv_ a0_0 x15 x20)∧(∃x21:ByteArray,((qx_ x20 x21)∧(qdd_ x16)∧((0:Int)≤x15)∧(qbA_ x15 x16)∧(qde_ x16)∧(qbD_ x15 x16)∧(rq (.ptr 1600000 0))∧(rq (.ptr 1600001 0))∧(rq (.ptr 1600514 0))∧(rq (aI x9))∧(rq (.ptr 1601112 0))∧(rq (aL x11))∧(qX_ x11)∧(rh [(hB 1600000 (qU_ a0_0 a0_1)),qdb_,(1600508,(.row false true 0 9 1 [(Mir.D.str x2),(Mir.D.str x4)])),(hB 1600514 [(aI x5),(aI x6),(aI x7),(aI x8)]),(1601105,(.row false true (Prod.fst x16) 9 1 (qbF_ x16 x15 x21))),(qdc_ x11 x6 x5)])∧(x13 (IntKind.wrap .i64 (x15+1)) ((Prod.fst x16),(qbF_ x16 x15 x21)))∧(((x14 (IntKind.wrap .i64 (x15+1)) ((Prod.fst x16),(qbF_ x16 x15 x21))):Nat)<(x14 x15 x16))))))) ((rq (.ptr 1600000 0))∧(rq (.ptr 1600001 0))∧(rq (.ptr 1600514 0))∧(rq (aI x9))∧(rq (.ptr 1601112 0))∧(rq (aL x11))∧(qX_ x11)∧(rh [(hB 1600000 (qU_ a0_0 a0_1)),qdb_,(1600508,(.row false true 0 9 1 [(Mir.D.str x2),(Mir.D.str x4)])),(hB 1600514 [(aI x5),(aI x6),(aI x7),(aI x8)]),(1601105,(.row false true (Prod.fst x16) 9 1 (Prod.snd x16))),(qdc_ x11 x6 x5)])∧(x13 (IntKind.wrap .i64 (x15+1)) ((Prod.fst x16),(Prod.snd x16)))∧(((x14 (IntKind.wrap .i64 (x15+1)) ((Prod.fst x16),(Prod.snd x16))):Nat)<(x14 x15 x16))))))))) (((Prod.fst x16)=0)∧(0=0)∧(∃x22:Int,(∃x23:Int,(∃x24:Int,(∃x25:Int,((Runs Fs4 44 [(.agg [(aL x11),(aL x11),(aL (Prod.snd x16)),(aI x6),(qcT_ x5)]),(aL [(Mir.D.int .i64 x7)])] [] (.tup [(.agg [(aI x22),(aI x23),(aI x24)]),(aI x25)]) [])∧(sel (x25 != 0) (qc8_ R) ((rn 1)∧((0:Int)≤10)∧(qbU_ a0_0)∧((0:Int)≤2)∧qc9_∧(∃x26:LD,((Runs Fs4 45 [(aI x5),(aL (List.drop (Int.toNat 2) (List.take (Int.toNat 10) a0_0)))] [] (aL x26) [])∧((Prod.fst x16)=0)∧(R (.tup [(.agg [(.n (.int .i64 x5)),(.n (.int .i64 x6)),(.n (.int .i64 x7)),(.n (.int .i64 x8)),(.n (.int .i64 x9)),(.o (.sl 1 x11)),(.o (.sl 1 x11)),(.o (.sl 1 (Prod.snd x16))),(.n (.int .i64 x6)),(qcX_ x5),(.o (.sl 1 x26))]),(.n (.int .i64 0))])))))))))))))))))))))))))))))))))))))))))))))))))
def V16e (a0_0:LD) (a0_1:LD) (R:Mir.AV→Prop):=PLift.up (by delta V16 qdb_ qbF_ qcT_ qbT_ qv_ qbR_ qW_ qbH_ qc9_ qbA_ qc8_ qc6_ qU_ qX_ qx_ qde_ qbD_ qdd_ qbU_ qdc_ qda_ qc5_ qbI_ qc7_ qj_ qcX_;exact rfl:V16 a0_0 a0_1 R=_)
theorem vc16 (a0_0:LD) (a0_1:LD) (R:Mir.AV→Prop):Vc Fs4 c16.body (argsQ c16 [(.agg [(.o (.sl 1 a0_0)),(.o (.sl 2 a0_1))])]) [] (endQ c16 R)=V16 a0_0 a0_1 R:=by kernel_rfl
abbrev qdf_ (p0:Int):=
 (hB 1900001 [(.n (.int .i64 p0))])
abbrev qdg_ (p0:ByteArray):=
 (hB 1900002 [(.n (.str p0))])
def V52h (bl:LD) (pe:LD) (i:Int) (s:ByteArray) (R:Mir.AV→Heap→Prop):Prop:=
 (∃x0:LD,(∃x1:LD,(∃x2:Int,((Runs Fs4 53 [(qbI_ bl pe),(aI i),(aS s)] [] (.tup [(qbI_ x0 x1),(aI x2)]) [])∧(R (.tup [(.agg [(.o (.sl 1 x0)),(.o (Mir.D.sl 2 x1))]),(.n (.int .i64 x2))]) [(qdf_ i),(qdg_ s)])))))
def V52he (bl:LD) (pe:LD) (i:Int) (s:ByteArray) (R:Mir.AV→Heap→Prop):=PLift.up (by delta V52h qbI_ qU_ qdg_ qdf_;exact rfl:V52h bl pe i s R=_)
theorem vc52h (bl:LD) (pe:LD) (i:Int) (s:ByteArray) (R:Mir.AV→Heap→Prop):Vc Fs4 c52.body (argsQ c52 [(.agg [.o (.sl 1 bl),.o (.sl 2 pe)]),.ptr 1900001 0,.ptr 1900002 0]) [(1900001,.box [.n (.int .i64 i)]),(1900002,.box [.n (.str s)])] (endQH c52 [(1900001,.box [.n (.int .i64 i)]),(1900002,.box [.n (.str s)])] R)=V52h bl pe i s R:=by kernel_rfl
abbrev qdh_ (p0 p1:LD) (p2:Int):Mir.AV:=
 (.agg [(.o (.sl 1 p0)),(.o (Mir.D.sl 2 p1)),(.n (.int .i64 p2))])
abbrev qdi_ (p0 p1:LD) (p2:Int):Mir.AV:=
 (.tup [(.agg [(.o (.sl 1 p0)),(.o (Mir.D.sl 2 p1)),(.n (.int .i64 (IntKind.wrap .i64 (p2 - 1))))]),(.n (.int .i64 0))])
def V51w (bl:LD) (pe:LD) (l:Int) (i:Int) (s:ByteArray) (R:Mir.AV→Heap→Prop):Prop:=
 (sel (l==0) (R (.tup [(qdh_ bl pe l),(.n (.int .i64 140))]) [(qdf_ i),(qdg_ s)]) (∃x0:LD,(∃x1:LD,(∃x2:Int,((Runs Fs4 52 [(qbI_ bl pe),(.ptr 1900001 0),(.ptr 1900002 0)] [(hB 1900001 [(aI i)]),(hB 1900002 [(aS s)])] (.tup [(qbI_ x0 x1),(aI x2)]) [(hB 1900001 [(aI i)]),(hB 1900002 [(aS s)])])∧(sel (x2 != 0) (R (.tup [(qdh_ bl pe l),(.n (.int .i64 x2))]) [(qdf_ i),(qdg_ s)]) (sel (decide (l > 0)) (R (qdi_ x0 x1 l) [(qdf_ i),(qdg_ s)]) (R (.tup [(qdh_ x0 x1 l),(.n (.int .i64 0))]) [(qdf_ i),(qdg_ s)]))))))))
def V51we (bl:LD) (pe:LD) (l:Int) (i:Int) (s:ByteArray) (R:Mir.AV→Heap→Prop):=PLift.up (by delta V51w qU_ qdh_ qdf_ qbI_ qdg_ qdi_;exact rfl:V51w bl pe l i s R=_)
theorem vc51w (bl:LD) (pe:LD) (l:Int) (i:Int) (s:ByteArray) (R:Mir.AV→Heap→Prop):Vc Fs4 c51.body (argsQ c51 [(.agg [.o (.sl 1 bl),.o (.sl 2 pe),.n (.int .i64 l)]),.fn 52 [.ptr 1900001 0,.ptr 1900002 0]]) [(1900001,.box [.n (.int .i64 i)]),(1900002,.box [.n (.str s)])] (endQH c51 [(1900001,.box [.n (.int .i64 i)]),(1900002,.box [.n (.str s)])] R)=V51w bl pe l i s R:=by kernel_rfl
def V51f (bl:LD) (pe:LD) (l:Int) (R:Mir.AV→Prop):Prop:=
 (sel (l==0) (R (.tup [(qdh_ bl pe l),(.n (.int .i64 140))])) (∃x0:LD,(∃x1:LD,(∃x2:Int,((Runs Fs4 54 [(qbI_ bl pe)] [] (.tup [(qbI_ x0 x1),(aI x2)]) [])∧(sel (x2 != 0) (R (.tup [(qdh_ bl pe l),(.n (.int .i64 x2))])) (sel (decide (l > 0)) (R (qdi_ x0 x1 l)) (R (.tup [(qdh_ x0 x1 l),(.n (.int .i64 0))])))))))))
def V51fe (bl:LD) (pe:LD) (l:Int) (R:Mir.AV→Prop):=PLift.up (by delta V51f qdi_ qdh_ qU_ qbI_;exact rfl:V51f bl pe l R=_)
theorem vc51f (bl:LD) (pe:LD) (l:Int) (R:Mir.AV→Prop):Vc Fs4 c51.body (argsQ c51 [(.agg [.o (.sl 1 bl),.o (.sl 2 pe),.n (.int .i64 l)]),.fn 54 []]) [] (endQ c51 R)=V51f bl pe l R:=by kernel_rfl
abbrev qdj_ (p0 p1:LD) (p2:Int):Mir.AV:=
 (.agg [(aL p0),(.o (Mir.D.sl 2 p1)),(aI p2)])
def V19 (a0_0:LD) (a0_1:LD) (a0_2:Int) (a1:Int) (a2:ByteArray) (R:Mir.AV→Prop):Prop:=
 (∃x0:LD,(∃x1:LD,(∃x2:Int,(∃x3:Int,((Runs Fs4 51 [(qdj_ a0_0 a0_1 a0_2),(.fn 52 [(.ptr 1900001 0),(.ptr 1900002 0)])] [(hB 1900001 [(aI a1)]),(hB 1900002 [(aS a2)])] (.tup [(qdj_ x0 x1 x2),(aI x3)]) [(hB 1900001 [(aI a1)]),(hB 1900002 [(aS a2)])])∧(R (.tup [(qdh_ x0 x1 x2),(.n (.int .i64 x3))])))))))
def V19e (a0_0:LD) (a0_1:LD) (a0_2:Int) (a1:Int) (a2:ByteArray) (R:Mir.AV→Prop):=PLift.up (by delta V19 qdh_ qdj_;exact rfl:V19 a0_0 a0_1 a0_2 a1 a2 R=_)
theorem vc19 (a0_0:LD) (a0_1:LD) (a0_2:Int) (a1:Int) (a2:ByteArray) (R:Mir.AV→Prop):Vc Fs4 c19.body (argsQ c19 [(.agg [(.o (.sl 1 a0_0)),(.o (.sl 2 a0_1)),(.n (.int .i64 a0_2))]),(.n (.int .i64 a1)),(.n (.str a2))]) [] (endQ c19 R)=V19 a0_0 a0_1 a0_2 a1 a2 R:=by kernel_rfl
def V20 (a0_0:LD) (a0_1:LD) (a0_2:Int) (R:Mir.AV→Prop):Prop:=
 (∃x0:LD,(∃x1:LD,(∃x2:Int,(∃x3:Int,((Runs Fs4 51 [(qdj_ a0_0 a0_1 a0_2),(.fn 54 [])] [] (.tup [(qdj_ x0 x1 x2),(aI x3)]) [])∧(R (.tup [(qdh_ x0 x1 x2),(.n (.int .i64 x3))])))))))
def V20e (a0_0:LD) (a0_1:LD) (a0_2:Int) (R:Mir.AV→Prop):=PLift.up (by delta V20 qdh_ qdj_;exact rfl:V20 a0_0 a0_1 a0_2 R=_)
theorem vc20 (a0_0:LD) (a0_1:LD) (a0_2:Int) (R:Mir.AV→Prop):Vc Fs4 c20.body (argsQ c20 [(.agg [(.o (.sl 1 a0_0)),(.o (.sl 2 a0_1)),(.n (.int .i64 a0_2))])]) [] (endQ c20 R)=V20 a0_0 a0_1 a0_2 R:=by kernel_rfl
abbrev qdk_ (p0:Mir.AV→Prop) (p1 p2:LD) (p3:Int):=
 (p0 (.tup [(qdh_ p1 p2 p3),(.n (.int .i64 2))]))
def V23 (a0_0:LD) (a0_1:LD) (a0_2:Int) (a1_0:Int) (a1_1:ByteArray) (R:Mir.AV→Prop):Prop:=
 (sel (a0_2==0) (R (.tup [(qdh_ a0_0 a0_1 a0_2),(.n (.int .i64 140))])) (sel (decide (a0_2 > 0)) (sel (decide (a1_0<0)) (∃x0:LD,(∃x1:LD,((Runs Fs4 56 [(qbI_ a0_0 a0_1),(aB true),(aL [])] [] (qbI_ x0 x1) [])∧(R (qdi_ x0 x1 a0_2))))) (sel (qbu_ a1_0 a0_0) (R (.tup [(qdh_ a0_0 a0_1 a0_2),(.n (.int .i64 30))])) (sel (qH_ a1_1) (qdk_ R a0_0 a0_1 a0_2) (sel (qbL_ a0_1) (qdk_ R a0_0 a0_1 a0_2) (∃x2:LD,(∃x3:LD,((Runs Fs4 57 [(qbI_ a0_0 a0_1),(aI a1_0),(aS a1_1)] [] (qbI_ x2 x3) [])∧(R (qdi_ x2 x3 a0_2))))))))) (sel (decide (a1_0<0)) (∃x4:LD,(∃x5:LD,((Runs Fs4 56 [(qbI_ a0_0 a0_1),(aB true),(aL [])] [] (qbI_ x4 x5) [])∧(R (.tup [(qdh_ x4 x5 a0_2),(.n (.int .i64 0))]))))) (sel (qbu_ a1_0 a0_0) (R (.tup [(qdh_ a0_0 a0_1 a0_2),(.n (.int .i64 30))])) (sel (qH_ a1_1) (qdk_ R a0_0 a0_1 a0_2) (sel (qbL_ a0_1) (qdk_ R a0_0 a0_1 a0_2) (∃x6:LD,(∃x7:LD,((Runs Fs4 57 [(qbI_ a0_0 a0_1),(aI a1_0),(aS a1_1)] [] (qbI_ x6 x7) [])∧(R (.tup [(qdh_ x6 x7 a0_2),(.n (.int .i64 0))])))))))))))
def V23e (a0_0:LD) (a0_1:LD) (a0_2:Int) (a1_0:Int) (a1_1:ByteArray) (R:Mir.AV→Prop):=PLift.up (by delta V23 qU_ qH_ qdh_ qbI_ qbL_ qbu_ qdi_ qdk_;exact rfl:V23 a0_0 a0_1 a0_2 a1_0 a1_1 R=_)
theorem vc23 (a0_0:LD) (a0_1:LD) (a0_2:Int) (a1_0:Int) (a1_1:ByteArray) (R:Mir.AV→Prop):Vc Fs4 c23.body (argsQ c23 [(.agg [(.o (.sl 1 a0_0)),(.o (.sl 2 a0_1)),(.n (.int .i64 a0_2))]),(.agg [(.n (.int .i64 a1_0)),(.n (.str a1_1))])]) [] (endQ c23 R)=V23 a0_0 a0_1 a0_2 a1_0 a1_1 R:=by kernel_rfl
def V43 (a0_0:LD) (a0_1:LD) (a1_0:Int) (a1_1:Int) (a1_2:Int) (a1_3:Int) (R:Mir.AV→Prop):Prop:=
 ((rn 1)∧((0:Int)≤a1_2)∧(∃x0:Mir.D,((qv_ a0_0 a1_2 x0)∧(∃x1:ByteArray,((qx_ x0 x1)∧(0=0)∧(∃x2:Int,(∃x3:Int,(∃x4:ByteArray,(∃x5:Int,((Runs Fs4 90 [(aS x1),(aL [(Mir.D.int .i64 3)])] [] (qL_ x2 x3 x4 x5) [])∧(sel (x5 != 0) (R (.tup [(.o (.sl 1 [])),(.n (.bool false))])) (sel (decide (x3 > a1_0)) (R (.tup [(.o (.sl 1 [])),(.n (.bool false))])) (∃x6:LD,(∃x7:Int,((Runs Fs4 91 [(aS x4),(aI a1_3)] [] (.tup [(aL x6),(aI x7)]) [])∧(R (.tup [(.o (.sl 1 x6)),(.n (.bool (x7==0)))])))))))))))))))))
def V43e (a0_0:LD) (a0_1:LD) (a1_0:Int) (a1_1:Int) (a1_2:Int) (a1_3:Int) (R:Mir.AV→Prop):=PLift.up (by delta V43 qv_ qx_ qL_;exact rfl:V43 a0_0 a0_1 a1_0 a1_1 a1_2 a1_3 R=_)
theorem vc43 (a0_0:LD) (a0_1:LD) (a1_0:Int) (a1_1:Int) (a1_2:Int) (a1_3:Int) (R:Mir.AV→Prop):Vc Fs4 c43.body (argsQ c43 [(.agg [(.o (.sl 1 a0_0)),(.o (.sl 2 a0_1))]),(.agg [(.n (.int .i64 a1_0)),(.n (.int .i64 a1_1)),(.n (.int .i64 a1_2)),(.n (.int .i64 a1_3))])]) [] (endQ c43 R)=V43 a0_0 a0_1 a1_0 a1_1 a1_2 a1_3 R:=by kernel_rfl
def V11 (a0:Int) (R:Mir.AV→Prop):Prop:=
 (∃x0:LD,(∃x1:LD,(∃x2:Int,((Runs Fs4 33 [(aI a0)] [] (.tup [(.agg [(aL x0),(aL x1)]),(aI x2)]) [])∧(sel (x2 != 0) (qbK_ R x2) (∃x3:LD,(∃x4:LD,(∃x5:Int,(∃x6:Int,((Runs Fs4 34 [(.agg [(aL x0),(aL x1)])] [] (.tup [(.agg [(aL x3),(aL x4)]),(aI x5),(aI x6)]) [])∧(sel (x6 != 0) (qbK_ R x6) ((∃x7:Nat,(∃x8:LD,(∃x9:Int,(∃x10:Nat,(∃x11:LD,((Runs Fs4 35 [(aI a0)] [] (.tup [(.agg [(.row 3500301 x7),(.o (Mir.D.sl 2 x8))]),(aI x9)]) [(3500301,(.row false true x10 9 1 x11))])∧(sel (x9 != 0) (qbK_ R x9) (∃x12:ByteArray,((Runs Fs4 37 [(aL x4)] [] (aS x12) [])∧(∃x13:ByteArray,(∃x14:Int,((Runs Fs4 36 [(.agg [(aI 3),(aI 1),(aS x12)])] [] (.tup [(aS x13),(aI x14)]) [])∧(sel (x14 != 0) (qbK_ R x14) (∃x15:ByteArray,(∃x16:Int,((Runs Fs4 38 [(.agg [(aI 1),(aI 0),(aI x5),(aI a0)])] [] (.tup [(aS x15),(aI x16)]) [])∧(((x10:Nat)=x7)∧(rn 1))∧((0:Int)≤0)∧((0:Int)<(x11.length:Int))∧(((((x7:Nat)=x10)∧(rn 0))∧(rn 1))∧(rn 1))∧((0:Nat)<(List.length x11))∧(((x10:Nat)=x7)∧(rn 1))∧((0:Int)≤x5)∧((x5:Int)<((List.set x11 0 (Mir.D.str x15)).length:Int))∧(((((x7:Nat)=x10)∧(rn 0))∧(rn 1))∧(rn 1))∧(((Int.toNat x5):Nat)<(List.length (List.set x11 0 (Mir.D.str x15))))∧(x10=x7)∧(R (.tup [(.agg [(.o (.sl 1 (List.set (List.set x11 0 (Mir.D.str x15)) (Int.toNat x5) (Mir.D.str x13)))),(.o (Mir.D.sl 2 x8))]),(.n (.int .i64 x16))]))))))))))))))))))∨(∃x17:LD,(∃x18:LD,(∃x19:Int,((Runs Fs4 35 [(aI a0)] [] (.tup [(qbI_ x17 x18),(aI x19)]) [])∧(sel (x19 != 0) (qbK_ R x19) (∃x20:ByteArray,((Runs Fs4 37 [(aL x4)] [] (aS x20) [])∧(∃x21:ByteArray,(∃x22:Int,((Runs Fs4 36 [(.agg [(aI 3),(aI 1),(aS x20)])] [] (.tup [(aS x21),(aI x22)]) [])∧(sel (x22 != 0) (qbK_ R x22) (∃x23:ByteArray,(∃x24:Int,((Runs Fs4 38 [(.agg [(aI 1),(aI 0),(aI x5),(aI a0)])] [] (.tup [(aS x23),(aI x24)]) [])∧(rn 1)∧((0:Int)≤0)∧(∃x25:Mir.D,((x17[Int.toNat 0]?=some x25)∧False))))))))))))))))))))))))))))
def V11e (a0:Int) (R:Mir.AV→Prop):=PLift.up (by delta V11 qbI_ qbJ_ qU_ qbK_;exact rfl:V11 a0 R=_)
theorem vc11 (a0:Int) (R:Mir.AV→Prop):Vc Fs4 c11.body (argsQ c11 [(.n (.int .i64 a0))]) [] (endQ c11 R)=V11 a0 R:=by kernel_rfl
abbrev qdl_ (p0:(Nat×LD)):=
 (((((List.length (Prod.snd p0))+(List.length [qc6_]))*16):Nat)≤140737488355328)
abbrev qdm_ (p0:(Nat×LD)) (p1:Int):=
 ((Prod.snd p0)++[(Mir.D.bool (decide (p1≤10)))])
abbrev qdn_ (p0:(Nat×LD)):=
 ((Prod.snd p0)++[qc6_])
def V14 (a0:Int) (R:Mir.AV→Prop):Prop:=
 (∃x0:(Nat→(Int→((Nat×((Unit)×(Unit)))→qbZ_))),(∃x1:(Nat→(Int→((Nat×((Unit)×(Unit)))→qb0_))),(((rh [(hB 1400000 qbG_),(hB 1400101 [(.row 1400703 0),(.n Mir.D.nil)]),(1400200,(.row false true 0 4 1 [])),(1400703,(.row false true 0 9 1 []))])∧(x0 0 0 (0,((),())) (0,[]) (0,[])))∧(∀x2:Nat,(∀x3:Int,(∀x4:(Nat×((Unit)×(Unit))),(∀x5:(Nat×LD),(∀x6:(Nat×LD),((x0 x2 x3 x4 x5 x6)→(∀x7:(Nat→Mir.AV),(sel (decide (x3<a0)) ((rn 0)∧((rn 1)∨(@Eq LD [(Mir.D.bool (decide (x3≤10)))] []))∧(((qd_ x6 x2)∧(rn 4))∧(rn 1))∧(((((List.length (Prod.snd x6))+(List.length [(Mir.D.bool (decide (x3≤10)))]))*1):Nat)≤140737488355328)∧(rn 0)∧((rn 1)∨(@Eq LD [qc6_] []))∧(((((Prod.fst x5):Nat)=x4.1)∧(rn 9))∧(rn 1))∧(qdl_ x5)∧(rq (aI a0))∧(rq (.ptr 1400000 0))∧(rq (.ptr 1400101 0))∧(rh [(hB 1400000 qbG_),(hB 1400101 [(.row 1400703 (x4.1+1)),(.n Mir.D.nil)]),(1400200,(.row false true (x2+1) 4 1 (qdm_ x6 x3))),(1400703,(.row false true (x4.1+1) 9 1 (qdn_ x5)))])∧(x0 (x2+1) (IntKind.wrap .i64 (x3+1)) ((x4.1+1),((),())) ((x4.1+1),(qdn_ x5)) ((x2+1),(qdm_ x6 x3)))∧(((x1 (x2+1) (IntKind.wrap .i64 (x3+1)) ((x4.1+1),((),())) ((x4.1+1),(qdn_ x5)) ((x2+1),(qdm_ x6 x3))):Nat)<(x1 x2 x3 x4 x5 x6))) (∃x8:ByteArray,((Runs Fs4 39 [(.agg [(aI 1),(aI 0),(aI 10),(aI a0)])] [] (aS x8) [])∧(qbz_ x5 x4)∧((0:Int)≤0)∧((0:Int)<((Prod.snd x5).length:Int))∧(qbC_ x4 x5)∧((0:Nat)<(List.length (Prod.snd x5)))∧((Prod.fst x6)=x2)∧(∃x9:ByteArray,((Runs Fs4 40 [(aI 1),(aL (Prod.snd x6))] [] (aS x9) [])∧(qbz_ x5 x4)∧((0:Int)≤10)∧((10:Int)<((List.set (Prod.snd x5) 0 (Mir.D.str x8)).length:Int))∧(qbC_ x4 x5)∧((10:Nat)<(List.length (List.set (Prod.snd x5) 0 (Mir.D.str x8))))∧((Prod.fst x5)=x4.1)∧(R (.agg [(.o (.sl 1 (List.set (List.set (Prod.snd x5) 0 (Mir.D.str x8)) 10 (Mir.D.str x9)))),(.o (Mir.D.sl 2 []))])))))))))))))))))
def V14e (a0:Int) (R:Mir.AV→Prop):=PLift.up (by delta V14 qc6_ qbZ_ qdm_ qbG_ qb0_ qbC_ qj_ qdl_ qbz_ qd_ qdn_;exact rfl:V14 a0 R=_)
theorem vc14 (a0:Int) (R:Mir.AV→Prop):Vc Fs4 c14.body (argsQ c14 [(.n (.int .i64 a0))]) [] (endQ c14 R)=V14 a0 R:=by kernel_rfl
abbrev qdo_ (p0:Mir.AV→Prop):=
 (p0 (.tup [(.agg [(.o (.sl 1 [])),(.o (.sl 1 [])),(.o (.sl 1 [])),(.n (.int .i64 0)),(.n (.int .i64 0))]),(.n (.bool false))]))
abbrev qdp_:=
 (LD×(LD×(Nat×(Int×(Int×(Unit))))))
abbrev qdq_:=
 (hB 4700002 [(.n Mir.D.nil),(.n Mir.D.nil),(.n Mir.D.nil),(aI 0),(aI 0)])
abbrev qdr_ (p0:qdp_):=
 (hB 4700706 [(aL p0.1),(aL p0.2.1),(.row 4790001 (p0.2.2.1+1)),(aI p0.2.2.2.1),(aI p0.2.2.2.2.1)])
def V47 (a0_0:LD) (a0_1:LD) (a1_0:Int) (a1_1:Int) (a1_2:Int) (a1_3:Int) (R:Mir.AV→Prop):Prop:=
 ((rn 1)∧((0:Int)≤a1_2)∧(∃x0:Mir.D,((qv_ a0_0 a1_2 x0)∧(∃x1:ByteArray,((qx_ x0 x1)∧(∃x2:Int,(∃x3:Int,(∃x4:ByteArray,(∃x5:Int,((Runs Fs4 95 [(aS x1)] [] (qL_ x2 x3 x4 x5) [])∧(sel (x5 != 0) (qdo_ R) (sel (x2 != 3) (qdo_ R) (sel (decide (x3 > a1_0)) (qdo_ R) (∃x6:LD,(∃x7:Int,((Runs Fs4 96 [(aS x4),(aI a1_3)] [] (.tup [(aL x6),(aI x7)]) [])∧(sel (x7 != 0) (qdo_ R) (∃x8:(Int→(qdp_→((Nat×LD)→Prop))),(∃x9:(Int→(qdp_→((Nat×LD)→Nat))),(((rh [(hB 4700000 (qU_ a0_0 a0_1)),(hB 4700001 [(aI a1_0),(aI a1_1),(aI a1_2),(aI a1_3)]),qdq_,(hB 4700110 [(aI x2),(aI x3),(aS x4)]),(hB 4700706 [(aL x6),(aL x6),(.row 4790001 0),(aI a1_1),(qcT_ a1_0)]),(4790001,(.row false true 0 9 1 []))])∧(x8 0 (x6,(x6,(0,(a1_1,((IntKind.wrap .i64 (a1_0+1)),()))))) (0,[])))∧(∀x10:Int,(∀x11:qdp_,(∀x12:(Nat×LD),((x8 x10 x11 x12)→(∀x13:(Nat→Mir.AV),(sel (qW_ x10 x6) ((rn 1)∧((0:Int)≤x10)∧(∃x14:Mir.D,((qv_ x6 x10 x14)∧(∃x15:Bool,((qbR_ x14 x15)∧(sel x15 ((rn 1)∧((0:Int)≤x10)∧(∃x16:Mir.D,((qv_ a0_0 x10 x16)∧(∃x17:ByteArray,((qx_ x16 x17)∧(rn 0)∧(qbp_ x17)∧(((((Prod.fst x12):Nat)=x11.2.2.1)∧(rn 9))∧(rn 1))∧(qbq_ x12 x17)∧(rq (.ptr 4700000 0))∧(rq (.ptr 4700001 0))∧(rq (.ptr 4700002 0))∧(rq (.ptr 4700706 0))∧(rq (aL x6))∧(rq (aI (x6.length:Int)))∧(rh [(hB 4700000 (qU_ a0_0 a0_1)),(hB 4700001 [(aI a1_0),(aI a1_1),(aI a1_2),(aI a1_3)]),qdq_,(hB 4700110 [(aI x2),(aI x3),(aS x4)]),(qdr_ x11),(4790001,(.row false true (x11.2.2.1+1) 9 1 (qbr_ x12 x17)))])∧(x8 (IntKind.wrap .i64 (x10+1)) (x11.1,(x11.2.1,((x11.2.2.1+1),(x11.2.2.2.1,(x11.2.2.2.2.1,()))))) ((x11.2.2.1+1),(qbr_ x12 x17)))∧(((x9 (IntKind.wrap .i64 (x10+1)) (x11.1,(x11.2.1,((x11.2.2.1+1),(x11.2.2.2.1,(x11.2.2.2.2.1,()))))) ((x11.2.2.1+1),(qbr_ x12 x17))):Nat)<(x9 x10 x11 x12))))))) ((rn 0)∧((rn 1)∨(@Eq LD [qc6_] []))∧(((((Prod.fst x12):Nat)=x11.2.2.1)∧(rn 9))∧(rn 1))∧(qdl_ x12)∧(rq (.ptr 4700000 0))∧(rq (.ptr 4700001 0))∧(rq (.ptr 4700002 0))∧(rq (.ptr 4700706 0))∧(rq (aL x6))∧(rq (aI (x6.length:Int)))∧(rh [(hB 4700000 (qU_ a0_0 a0_1)),(hB 4700001 [(aI a1_0),(aI a1_1),(aI a1_2),(aI a1_3)]),qdq_,(hB 4700110 [(aI x2),(aI x3),(aS x4)]),(qdr_ x11),(4790001,(.row false true (x11.2.2.1+1) 9 1 (qdn_ x12)))])∧(x8 (IntKind.wrap .i64 (x10+1)) (x11.1,(x11.2.1,((x11.2.2.1+1),(x11.2.2.2.1,(x11.2.2.2.2.1,()))))) ((x11.2.2.1+1),(qdn_ x12)))∧(((x9 (IntKind.wrap .i64 (x10+1)) (x11.1,(x11.2.1,((x11.2.2.1+1),(x11.2.2.2.1,(x11.2.2.2.2.1,()))))) ((x11.2.2.1+1),(qdn_ x12))):Nat)<(x9 x10 x11 x12))))))))) (((Prod.fst x12)=x11.2.2.1)∧(0=0)∧(∃x18:Int,(∃x19:Int,(∃x20:Int,(∃x21:Int,((Runs Fs4 64 [(.agg [(aL x11.1),(aL x11.2.1),(aL (Prod.snd x12)),(aI x11.2.2.2.1),(aI x11.2.2.2.2.1)]),(aL [(Mir.D.int .i64 a1_2)])] [] (.tup [(.agg [(aI x18),(aI x19),(aI x20)]),(aI x21)]) [])∧((Prod.fst x12)=x11.2.2.1)∧(R (.tup [(.agg [(.o (.sl 1 x11.1)),(.o (.sl 1 x11.2.1)),(.o (.sl 1 (Prod.snd x12))),(.n (.int .i64 x11.2.2.2.1)),(.n (.int .i64 x11.2.2.2.2.1))]),(.n (.bool (x21==0)))]))))))))))))))))))))))))))))))))))
def V47e (a0_0:LD) (a0_1:LD) (a1_0:Int) (a1_1:Int) (a1_2:Int) (a1_3:Int) (R:Mir.AV→Prop):=PLift.up (by delta V47 qc6_ qdr_ qU_ qbq_ qdq_ qdp_ qcT_ qL_ qdo_ qv_ qbp_ qbr_ qx_ qbR_ qW_ qj_ qdl_ qdn_;exact rfl:V47 a0_0 a0_1 a1_0 a1_1 a1_2 a1_3 R=_)
theorem vc47 (a0_0:LD) (a0_1:LD) (a1_0:Int) (a1_1:Int) (a1_2:Int) (a1_3:Int) (R:Mir.AV→Prop):Vc Fs4 c47.body (argsQ c47 [(.agg [(.o (.sl 1 a0_0)),(.o (.sl 2 a0_1))]),(.agg [(.n (.int .i64 a1_0)),(.n (.int .i64 a1_1)),(.n (.int .i64 a1_2)),(.n (.int .i64 a1_3))])]) [] (endQ c47 R)=V47 a0_0 a0_1 a1_0 a1_1 a1_2 a1_3 R:=by kernel_rfl
end Go.Proofs.YtegndijbpiccgaaGreatDoor.M
