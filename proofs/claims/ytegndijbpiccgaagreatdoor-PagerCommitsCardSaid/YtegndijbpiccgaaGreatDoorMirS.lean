import Derived.Test.YtegndijbpiccgaaGreatDoorMirP
import Derived.Shelf.Strings.Trim
import Derived.Shelf.Strings.Repeat
namespace Go.Mir
set_option linter.unusedVariables false
set_option linter.unusedSimpArgs false
open Go.RowKit Go.Proofs Go.Shelf
def trimB (s:ByteArray) (c:UInt8):ByteArray:=⟨(Lib.trimRightB s.data.toList c).toArray⟩
def trimP:List AV→Heap→Option (AV×Heap)
 | [.n (.str s),.n (.str ⟨c⟩)],H=>match c.toList with
   | [b]=>if b.toNat<128∧s.size≤9223372036854775807 then some (.n (.str (trimB s b)),H) else none
   | _=>none
 | _,_=>none
theorem trim_ok {P:Program} {ρ:Ren} (L:Lays.n162 P ρ):FunOK P (ρ.f 162) (.prim none trimP):=by
 refine ⟨enters_of L.f162 (by kernel_rfl) rfl,fun args H r H' h => ?_⟩
 unfold trimP at h
 split at h
 · rename_i s c
   split at h
   · rename_i b hb
     split at h
     · rename_i hok
       simp only[Option.some.injEq,Prod.mk.injEq]at h
       obtain ⟨rfl,rfl⟩:=h
       refine spec_grow (u := .string (trimB s b)) (fun _ _ _ _ => .n _ _ (.str _)) fun w C ow m vs hc => ?_
       obtain ⟨u,v,rfl,hu,hv⟩:=cells_two hc
       obtain rfl:=hv.str_inv
       obtain rfl:=hu.str_inv
       have hcb:c = #[b]:=by cases c;simpa using hb
       subst hcb
       exact (Any.strings_TrimRight_one L s b hok.1 w hok.2).mono fun e w' ⟨he,hw⟩=>⟨he,hw▸Below.refl _ _⟩
     · cases h
   · cases h
 · cases h
theorem trim_runs {Fs:Nat→Option Fun} {f:Nat} (hf:Fs f=some (.prim none trimP)) (s:ByteArray) (b:UInt8) (h1:b.toNat<128) (h2:s.size≤9223372036854775807):
  Runs Fs f [.n (.str s),.n (.str ⟨#[b]⟩)] [] (.n (.str (trimB s b))) []:=by
 refine ⟨1,fun k hk => ?_⟩
 obtain ⟨k,rfl⟩:∃j,k=j+1:=⟨k - 1,by omega⟩
 simp only[run,hf,trimP]
 rw[if_pos ⟨h1,h2⟩]
def repB (s:ByteArray) (c:Nat):ByteArray:=⟨(Lib.repeatL s.data.toList c).toArray⟩
def repeatP:List AV→Heap→Option (AV×Heap)
 | [.n (.str s),.n (.int .i64 c)],H=>if 0≤c∧c≤9223372036854775807∧s.size*c.toNat≤140737488355328 then some (.n (.str (repB s c.toNat)),H) else none
 | _,_=>none
theorem repeat_ok {P:Program} {ρ:Ren} (L:Lays.n105 P ρ) (X:Builder.Extra P ρ):FunOK P (ρ.f 105) (.prim none repeatP):=by
 refine ⟨enters_of L.f105 (by kernel_rfl) rfl,fun args H r H' h => ?_⟩
 unfold repeatP at h
 split at h
 · rename_i s c
   split at h
   · rename_i hok
     simp only[Option.some.injEq,Prod.mk.injEq]at h
     obtain ⟨rfl,rfl⟩:=h
     refine spec_grow (u := .string (repB s c.toNat)) (fun _ _ _ _ => .n _ _ (.str _)) fun w C ow m vs hc => ?_
     obtain ⟨u,v,rfl,hu,hv⟩:=cells_two hc
     obtain rfl:=hv.int_inv
     obtain rfl:=hu.str_inv
     have:=Any.strings_Repeat L X s c.toNat w (by omega) hok.2.2
     rw[show ((c.toNat:Nat):Int)=c by omega]at this
     exact this
   · cases h
 · cases h
theorem repeat_runs {Fs:Nat→Option Fun} {f:Nat} (hf:Fs f=some (.prim none repeatP)) (s:ByteArray) (c:Int) (h0:0≤c) (h1:c≤9223372036854775807) (h2:s.size*c.toNat≤140737488355328):
  Runs Fs f [.n (.str s),.n (.int .i64 c)] [] (.n (.str (repB s c.toNat))) []:=by
 refine ⟨1,fun k hk => ?_⟩
 obtain ⟨k,rfl⟩:∃j,k=j+1:=⟨k - 1,by omega⟩
 simp only[run,hf,repeatP]
 rw[if_pos ⟨h0,h1,h2⟩]
end Go.Mir
