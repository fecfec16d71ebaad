import Derived.Test.YtegndijbpiccgaaGreatDoorMirP
import Derived.Shelf.Strings.Trim
import Derived.Shelf.Strings.Repeat
namespace Go.Mir
set_option linter.unusedVariables false
set_option linter.unusedSimpArgs false
open Go.RowKit Go.Proofs Go.Shelf
def PC (s:bA)(c:UInt8):bA:=⟨(Lib.trimRightB s.data.toList c).toArray⟩
def NT:List AV->Heap->Option (AV×Heap)
 | [.n (.str s),.n (.str ⟨c⟩)],H=>match c.toList with
   | [b]=>if b.toNat<128/\s.size<=9223372036854775807 then some (.n (.str (PC s b)),H) else none
   | _=>none
 | _,_=>none
theorem aR {P:Program}{ρ:Ren}(L:Lays.n162 P ρ):D2 P (ρ.f 162) (.prim none NT):=by
 refine⟨enters_of L.f162 (by kernel_rfl) rfl,λargs H r H' h=>?_⟩;unfold NT at h;split at h
 ·rename_i s c;split at h
  ·rename_i b hb;split at h
   ·rename_i hok;simp only[oI,pI]at h;obtain⟨rfl,rfl⟩:=h;refine Hr (u := .string (PC s b)) (λ_ _ _ _ => .n _ _ (.str _)) λw C ow m vs hc=>?_;obtain⟨u,v,rfl,hu,hv⟩:=DA hc;obtain rfl:=hv.str_inv;obtain rfl:=hu.str_inv;have hcb:c = #[b]:=by cases c;simpa using hb
    subst hcb;exact(Any.strings_TrimRight_one L s b hok.1 w hok.2).mono λe w' ⟨he,hw⟩=>⟨he,hw▸Below.refl _ _⟩
   ·cases h
  ·cases h
 ·cases h
theorem Uv {Fs:Nat->Option Fun}{f:Nat}(hf:Fs f=some (.prim none NT))(s:bA)(b:UInt8)(h1:b.toNat<128)(h2:s.size<=9223372036854775807):
  Runs Fs f [.n (.str s),.n (.str ⟨#[b]⟩)] [] (.n (.str (PC s b))) []:=by
 refine⟨1,λk hk=>?_⟩
 obtain⟨k,rfl⟩:∃j,k=j+1:=⟨k-1,by omega⟩
 simp only[run,hf,NT]
 rw[if_pos ⟨h1,h2⟩]
def RM (s:bA)(c:Nat):bA:=⟨(Lib.repeatL s.data.toList c).toArray⟩
def Hv:List AV->Heap->Option (AV×Heap)
 | [.n (.str s),.n (.int .i64 c)],H=>if 0<=c/\c<=9223372036854775807/\s.size*c.toNat<=140737488355328 then some (.n (.str (RM s c.toNat)),H) else none
 | _,_=>none
theorem Vm {P:Program}{ρ:Ren}(L:Lays.n105 P ρ)(X:Builder.Extra P ρ):D2 P (ρ.f 105) (.prim none Hv):=by
 refine⟨enters_of L.f105 (by kernel_rfl) rfl,λargs H r H' h=>?_⟩;unfold Hv at h;split at h
 ·rename_i s c;split at h;·rename_i hok;simp only[oI,pI]at h;obtain⟨rfl,rfl⟩:=h;refine Hr (u := .string (RM s c.toNat)) (λ_ _ _ _ => .n _ _ (.str _)) λw C ow m vs hc=>?_;obtain⟨u,v,rfl,hu,hv⟩:=DA hc;obtain rfl:=hv.int_inv;obtain rfl:=hu.str_inv;have:=Any.strings_Repeat L X s c.toNat w (by omega) hok.2.2;rw[show((c.toNat:Nat):Int)=c by omega]at this;exact this
  ·cases h
 ·cases h
theorem QB {Fs:Nat->Option Fun}{f:Nat}(hf:Fs f=some (.prim none Hv))(s:bA)(c:Int)(h0:0<=c)(h1:c<=9223372036854775807)(h2:s.size*c.toNat<=140737488355328):
  Runs Fs f [.n (.str s),.n (.int .i64 c)] [] (.n (.str (RM s c.toNat))) []:=by
 refine⟨1,λk hk=>?_⟩
 obtain⟨k,rfl⟩:∃j,k=j+1:=⟨k-1,by omega⟩
 simp only[run,hf,Hv]
 rw[if_pos ⟨h0,h1,h2⟩]
end Go.Mir
