import Derived.Test.YtegndijbpiccgaaGreatDoorMirI
import Derived.Test.YtegndijbpiccgaaGreatDoorMirL
import Derived.Shelf.Strings.OnBuilder
namespace Go.Mir
set_option linter.unusedVariables false
set_option linter.unusedSimpArgs false
open Go.RowKit Go.Proofs Go.Shelf
theorem Hr {P:Program}{f:Nat}{args:List AV}{H:Heap}{r:AV}{u:Value}(hu:∀w C ow m,VR w C ow m r u)
  (h:∀w C ow m vs,Cells w C ow m args vs->Calls P f vs.toArray w λe w'=>e = .returned u/\Below w.heap.size w w'):Spec P f args H r H:=by
 intro w al m vs hr hal hc
 refine(h w _ _ m vs hc).mono λe w' ⟨he,hb⟩=>?_
 have hx:=Py hr hb.size λb h=>hb.block b h
 exact⟨u,m,he,⟨λ_ _ _ h=>h,λi v l b h1 h2 _=>⟨v,l,h1,h2⟩⟩,hx.2,hu _ _ _ _,⟨hb.os,hb.tape,hb.output,hb.size,λb h _=>hb.block b h⟩,λ_ h=>h⟩
theorem DA {w:World}{C:Cx}{ow:Nat->Prop}{m:Places}{x y:AV}{vs:List Value}(h:Cells w C ow m [x,y] vs):∃u v,vs=[u,v]/\VR w C ow m x u/\VR w C ow m y v:=by
 match vs,h with
 | [u,v],h=>exact⟨u,v,rfl,h.2 0 x u rfl rfl,h.2 1 y v rfl rfl⟩
 | [],h=>exact absurd h.1 (by simp)
 | [_],h=>exact absurd h.1 (by simp)
 | _::_::_::_,h=>exact absurd h.1 (by simp)
theorem VR.str_inv {w:World}{C:Cx}{ow:Nat->Prop}{m:Places}{s:bA}{v:Value}(h:VR w C ow m (.n (.str s)) v):v = .string s:=by cases h with|n _ _ h=>cases h;rfl
theorem VR.int_inv {w:World}{C:Cx}{ow:Nat->Prop}{m:Places}{k:IntKind}{n:Int}{v:Value}(h:VR w C ow m (.n (.int k n)) v):v = .int k n:=by cases h with|n _ _ h=>cases h;rfl
def Zx:D->bA
 | .str s=>s
 | _=>⟨#[]⟩
def Ga (l:List D):List bA:=l.map Zx
def D.isStr:D->Bool
 | .str _=>true
 | _=>false
def MQ (xs:List bA):bA:=⟨(xs.map (·.data.toList)).flatten.toArray⟩
def JE (xs:List bA)(sep:bA):bA:=⟨(Lib.join (xs.map (·.data.toList)) sep.data.toList).toArray⟩
def OB (els:List D)(sep:bA):Bool:=els.all D.isStr&&decide (els.length<=140737488355328)&&decide ((JE (Ga els) sep).size<=140737488355328)
def Ni:List AV->Heap->Option (AV×Heap)
 | [.o (.sl 1 els),.n (.str sep)],H=>if OB els sep then some (.n (.str (JE (Ga els) sep)),H) else none
 | _,_=>none
theorem O6 {P:Program}{ρ:Ren}(L:Lays.n156 P ρ)(X:Builder.Extra P ρ):D2 P (ρ.f 156) (.prim none Ni):=by
 refine⟨enters_of L.f156 (by kernel_rfl) rfl,λargs H r H' h=>?_⟩;unfold Ni at h;split at h
 ·rename_i els sep;split at h
  ·rename_i hok;simp only[oI,pI]at h;obtain⟨rfl,rfl⟩:=h;simp only[OB,Bool.and_eq_true,decide_eq_true_eq]at hok;obtain⟨⟨h1,h2⟩,h3⟩:=hok;refine Hr (u := .string (JE (Ga els) sep)) (λ_ _ _ _ => .n _ _ (.str _)) λw C ow m vs hc=>?_;obtain⟨u,v,rfl,hu,hv⟩:=DA hc;obtain rfl:=hv.str_inv
   cases hu with
   | o _ _ hd=>
    cases hd with
    | sle _ q c=>exact(Any.strings_Join_none L X (some q) c sep w).mono λe w' ⟨he,hw⟩=>⟨by rw[he];rfl,hw▸Below.refl _ _⟩
    | sl0=>exact(Any.strings_Join_none L X none 0 sep w).mono λe w' ⟨he,hw⟩=>⟨by rw[he];rfl,hw▸Below.refl _ _⟩
    | sl _ _ b off c ws hb hs hcap hsz hval hdr=>
     have hlen:(Ga els).length=els.length:=by simp[Ga]
     have hx:=Any.strings_Join L X b off c (Ga els) sep w (λj x hj=>?_) hs (by rw[hlen];exact h2) (by rw[hlen];exact hcap) (by simpa[JE,ByteArray.size] using h3);·rw[hlen]at hx;exact hx
     ·simp only[Ga,List.getElem?_map,Option.map_eq_some_iff]at hj;obtain⟨y,hy,rfl⟩:=hj;have hys:y.isStr=true:=List.all_eq_true.1 h1 y (List.mem_of_getElem? hy);cases y<;>try (cases hys;done)
      rename_i s;have g1:=hval j _ 0 _ hy rfl;have g2:=hdr j _ 0 _ hy rfl;simp only[Nat.mul_one,Nat.add_zero]at g1;generalize ws j 0=z at g1 g2;cases g2;exact g1
  ·cases h
 ·cases h
theorem Za (xs:List (List UInt8)):Lib.join xs []=xs.flatten:=by
 unfold Lib.join
 induction xs with
 | nil=>rfl
 | cons x r ih=>
  cases r with
  | nil=>simp[List.intercalate]
  | cons y r=>simpa[List.intercalate] using ih
theorem Lo (xs:List bA):JE xs ⟨#[]⟩=MQ xs:=by unfold JE MQ;rw[show(ByteArray.mk #[]).data.toList=[] from rfl,Za]
def Ef:List bA->Nat
 | []=>0
 | x::r=>x.size+Ef r
theorem FH:∀xs:List bA,(MQ xs).size=Ef xs
 | []=>rfl
 | x::r=>by have:=FH r;simp only[MQ,ByteArray.size,List.size_toArray,List.map_cons,List.flatten_cons,List.length_append,Ef]at this |-;simp only[ByteArray.size,Array.length_toList]at this |-;omega
theorem ME (xs:List bA):Ga (xs.map D.str)=xs:=by
 induction xs with
 | nil=>rfl
 | cons x r ih=>simpa[Ga,Zx] using ih
theorem U4 {Fs:Nat->Option Fun}{f:Nat}(hf:Fs f=some (.prim none Ni))(xs:List bA)(h1:xs.length<=140737488355328)(h2:Ef xs<=140737488355328):
  Runs Fs f [.o (.sl 1 (xs.map D.str)),.n (.str ⟨#[]⟩)] [] (.n (.str (MQ xs))) []:=by
 refine⟨1,λk hk=>?_⟩
 obtain⟨k,rfl⟩:∃j,k=j+1:=⟨k-1,by omega⟩
 have hok:OB (xs.map D.str) ⟨#[]⟩=true:=by simp only[OB,Bool.and_eq_true,decide_eq_true_eq,ME,Lo,FH,List.length_map,List.all_map];exact⟨⟨by simp[D.isStr],h1⟩,h2⟩
 simp only[run,hf,Ni,hok,ME,Lo,if_true]
end Go.Mir
