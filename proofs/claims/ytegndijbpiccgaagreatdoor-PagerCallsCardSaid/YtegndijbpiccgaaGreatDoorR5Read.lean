import Derived.RangeFuncNested
import Derived.RangeFuncBound
import Derived.RangeFuncCalls
import Derived.RangeFuncLeaves
import Derived.Shelf.Abstract
import Derived.WalkKit
import Derived.OwnWalkIn
import Derived.TacticsInMore
import Derived.LoopNIn
import Derived.LoopIn
import Derived.Test.YtegndijbpiccgaaGreatDoorProg
namespace Go.Proofs.YtegndijbpiccgaaGreatDoor.M
set_option linter.unusedVariables false
set_option linter.unusedSimpArgs false
open Go Go.RowKit Go.Shelf Go.Proofs
set_option linter.unusedVariables false
set_option linter.unusedSimpArgs false
attribute [local go_sem] Oper.semAt_some
def Holds2 (n₀:Nat) (W:World) (sv:Value) (ps:List (Int×ByteArray)):Prop:=
 ∃a cap,sv = .slice a ps.length cap∧(ps=[]∨∃b off,a=some ⟨b,off,none⟩∧b<n₀∧∀j p,ps[j]?=some p→W.cell? ⟨b,off+j*2,none⟩=some (.int .i64 p.1)∧W.cell? ⟨b,off+j*2+1,none⟩=some (.string p.2))
theorem Holds2.below {n₀:Nat} {A B:World} (h:Below n₀ A B) {sv:Value} {ps:List (Int×ByteArray)}:Holds2 n₀ A sv ps→Holds2 n₀ B sv ps
 | ⟨a,cap,e,.inl h⟩=>⟨a,cap,e,.inl h⟩
 | ⟨a,cap,e,.inr ⟨b,off,e2,hb,hc⟩⟩=>⟨a,cap,e,.inr ⟨b,off,e2,hb,fun j p hj=>⟨(h.cell (p:=⟨b,off+j*2,none⟩) hb).trans (hc j p hj).1,(h.cell (p:=⟨b,off+j*2+1,none⟩) hb).trans (hc j p hj).2⟩⟩⟩
attribute [local go_sem] Oper.semAt_some
def BoxC (W:World) (B:Nat) (t:TypeId) (cs:Array Value):Prop:=W.heap[B]?=some (.cells cs t (0,0))
theorem BoxC.lt {W:World} {B:Nat} {t:TypeId} {cs:Array Value} (h:BoxC W B t cs):B<W.heap.size:=(Array.getElem?_eq_some_iff.1 h).1
theorem BoxC.cell {W:World} {B:Nat} {t:TypeId} {cs:Array Value} (h:BoxC W B t cs) (i:Nat):W.cell? ⟨B,i,none⟩=cs[i]?:=by simp[World.cell?,show W.heap[B]?=_ from h]
theorem BoxC.frozen {W:World} {B:Nat} {t:TypeId} {cs:Array Value} (h:BoxC W B t cs) (i:Nat):W.frozen? ⟨B,i,none⟩=false:=by simp[World.frozen?,show W.heap[B]?=_ from h]
theorem BoxC.new (W:World) (t:TypeId) (cs:Array Value):BoxC (W.alloc (.cells cs t)) W.heap.size t cs:=World.alloc_heap_new W _
theorem BoxC.kept {W W':World} {row:Option Nat} {B:Nat} {t:TypeId} {cs:Array Value} (h:BoxC W B t cs) (hg:W.grownBy W' row) (hne:some B≠row):BoxC W' B t cs:=(hg.block B h.lt hne).trans h
theorem BoxC.alloc {W:World} {B:Nat} {t:TypeId} {cs:Array Value} (h:BoxC W B t cs) (o:Obj):BoxC (W.alloc o) B t cs:=h.kept (World.grownBy_alloc W o none) (by simp)
theorem BoxC.below {n₀:Nat} {W W':World} {B:Nat} {t:TypeId} {cs:Array Value} (h:BoxC W B t cs) (hb:Below n₀ W W') (hB:B<n₀):BoxC W' B t cs:=(hb.block B hB).trans h
end Go.Proofs.YtegndijbpiccgaaGreatDoor.M
