import Derived.Test.YtegndijbpiccgaaGreatDoorR5La
import Derived.Test.YtegndijbpiccgaaGreatDoorMirN
import Derived.Test.YtegndijbpiccgaaGreatDoorMirO
namespace Go.Proofs.YtegndijbpiccgaaGreatDoor.M
set_option linter.unusedVariables false
set_option linter.unusedSimpArgs false
open Go Go.Mir
set_option linter.unusedVariables false
theorem in64 {n:Int} (h:(Lit.int .i64 n).wf=true):In64 n:=by
 simp only[Lit.wf,Bool.and_eq_true,decide_eq_true_eq]at h
 have e1:IntKind.min .i64 = -9223372036854775808:=by decide
 have e2:IntKind.max .i64=9223372036854775807:=by decide
 unfold In64
 omega
theorem p4x (x:devT.T) (h:devT.fit x):Runs Fs5 4 [devT.av x] [] (.n (.bool true)) []:=by
 have e:devT.av x=Dev x.1 x.2.1:=by obtain ⟨b,p,_⟩:=x;rfl
 rw[e];exact p4 _ _ (fits_of x h)
abbrev pwT:Mir.Ty := .st [.st [.sl .str,.sl (.st [.int .i64,.str])],.int .i64]
def toPw (x:pwT.T):Pw:=match x with
 | ((b,p,_),l,_)=>⟨b,p,l⟩
theorem pw_av (x:pwT.T):pwT.av x=pwV (toPw x):=by
 obtain ⟨⟨b,p,_⟩,l,_⟩:=x;rfl
theorem pw_fit (x:pwT.T) (h:pwT.fit x):Fits (toPw x).b (toPw x).p∧In64 (toPw x).left:=by
 obtain ⟨⟨b,p,u⟩,l,_⟩:=x
 obtain ⟨h1,h2,_⟩:=h
 exact ⟨fits_of (b,p,u) h1,in64 h2⟩
theorem p5x (x:pwT.T) (h:pwT.fit x) (i:Int) (s:ByteArray) (hs:(s.size:Int)≤9223372036854775807):Runs Fs5 5 [pwT.av x,.n (.int .i64 i),.n (.str s)] [] (.n (.bool true)) []:=by
 rw[pw_av];exact p5 _ i s (pw_fit x h).1 hs (pw_fit x h).2
end Go.Proofs.YtegndijbpiccgaaGreatDoor.M
