import Derived.Test.YtjmpnbbeplgchabGreatDoorR6E
namespace Go.Proofs.YtjmpnbbeplgchabGreatDoor.M
set_option linter.unusedVariables false
set_option linter.unusedSimpArgs false
open Go Go.Mir
structure Sm (w x:Wd):Prop where
 base:x.base=w.base
 now:x.now=w.now
 plen:x.pages.length=w.pages.length
 root:x.root=w.root
 gen:x.gen=w.gen
 page:∀i:Nat,10<=i->tr w.now i=true->pgAt x i=pgAt w i
theorem Sm.refl (w:Wd):Sm w w:=⟨rfl,rfl,rfl,rfl,rfl,λ_ _ _=>rfl⟩
def SmE (e f:Ed):Prop:=f.bad=e.bad/\Sm e.w f.w
theorem Ux {w x:Wd}(h:Sm w x):∀n,DU x n=DU w n
 | 0=>rfl
 | n+1=>by rw[DU,DU,Ux h n,AJ,AJ,h.base,h.now]
theorem Sm.free {w x:Wd}(h:Sm w x):firstFree x=firstFree w:=by unfold firstFree;rw[h.now,Ux h]
theorem SmE.bad {e f:Ed}(h:SmE e f)(k:Int):SmE { e with bad:=k } { f with bad:=k }:=⟨rfl,h.2⟩
end Go.Proofs.YtjmpnbbeplgchabGreatDoor.M
