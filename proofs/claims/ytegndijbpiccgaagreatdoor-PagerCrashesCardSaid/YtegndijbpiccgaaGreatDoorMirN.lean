import Derived.Test.YtegndijbpiccgaaGreatDoorMirI
import Derived.Test.YtegndijbpiccgaaGreatDoorMirL
namespace Go.Mir
set_option linter.unusedVariables false
set_option linter.unusedSimpArgs false
open Go.RowKit
theorem M9 {m:Places}{b:Nat}:¬owned [] m b:=by rintro⟨id,o,h,_⟩;cases h
theorem calls_of_runs {P:Program}{Fs:Nat->Option Fun}(hF:Company P Fs){f:Nat}{as:List AV}{r:AV}(h:Runs Fs f as [] r []){vs:List Value}{W:World}
  (hc:Cells W ⟨W.heap.size,λ_=>True⟩ (λ_=>False) (λ_ _=>none) as vs):
  Calls P f vs.toArray W λe w'=>∃u,e = .returned u/\VR w' ⟨W.heap.size,λ_=>True⟩ (λ_=>False) (λ_ _=>none) r u/\Below W.heap.size W w':=by
 obtain⟨k,hk⟩:=h
 have ow:∀m,owned [] m=λ_=>False:=λm=>by funext b;exact propext ⟨M9,λh=>h.elim⟩
 obtain⟨_,hs⟩:=NI hF k f as [] r [] (hk k (Nat.le_refl _))
 have hr:HR W ⟨W.heap.size,λ_=>True⟩ (owned [] (λ_ _=>none)) (λ_ _=>none) []:=
  ⟨λid o h=>(by cases h),λi v l j v' l' b h=>(by cases h),λb h=>(M9 h).elim,λi v l h=>(by cases h),λi o v h=>(by cases h),λi v l b h=>(by cases h)⟩
 have:=hs W (λ_=>True) (λ_ _=>none) vs hr (λb h=>trivial) (by rw[ow];exact hc)
 refine this.mono ?_
 rintro e w' ⟨u,m',rfl,_,hr',hv,hk',_⟩
 have hm:m'=λ_ _=>none:=by
  funext i v
  cases h:m' i v with
  | none=>rfl
  | some l=>have:=hr'.dom i v l h;cases this
 subst hm
 rw[ow]at hv hk'
 exact⟨u,rfl,hv,⟨hk'.os,hk'.tape,hk'.output,hk'.size,λb hb=>hk'.block b hb (λh=>h)⟩⟩
section
variable {W:World} {C:Cx} {ow:Nat->Prop} {m:Places}
theorem cells_nil:Cells W C ow m [] []:=⟨rfl,λi c u h=>by simp at h⟩
theorem cells_cons {x:AV}{v:Value}{xs:List AV}{vs:List Value}(h:VR W C ow m x v)(hs:Cells W C ow m xs vs):Cells W C ow m (x::xs) (v::vs):=
 ⟨by simp[hs.1],λi c u hc hu=>by
  cases i with
  | zero=>simp only[List.getElem?_cons_zero,oI]at hc hu;subst hc;subst hu;exact h
  | succ i=>exact hs.2 i c u (by simpa using hc) (by simpa using hu)⟩
theorem vr_int (k:IntKind)(n:Int):VR W C ow m (.n (.int k n)) (.int k n) := .n _ _ (.int _ _)
end
end Go.Mir
