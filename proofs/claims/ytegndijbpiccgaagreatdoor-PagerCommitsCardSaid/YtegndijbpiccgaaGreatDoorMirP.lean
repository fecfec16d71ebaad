import Derived.Test.YtegndijbpiccgaaGreatDoorMirI
import Derived.Test.YtegndijbpiccgaaGreatDoorMirL
import Derived.Shelf.Strings.OnBuilder
namespace Go.Mir
set_option linter.unusedVariables false
set_option linter.unusedSimpArgs false
open Go.RowKit Go.Proofs Go.Shelf
theorem spec_grow {P:Program} {f:Nat} {args:List AV} {H:Heap} {r:AV} {u:Value} (hu:∀w C ow m,VR w C ow m r u)
  (h:∀w C ow m vs,Cells w C ow m args vs→Calls P f vs.toArray w fun e w'=>e = .returned u∧Below w.heap.size w w'):Spec P f args H r H:=by
 intro w al m vs hr hal hc
 refine (h w _ _ m vs hc).mono fun e w' ⟨he,hb⟩ => ?_
 have hx:=hr_ext hr hb.size fun b h=>hb.block b h
 exact ⟨u,m,he,⟨fun _ _ _ h=>h,fun i v l b h1 h2 _=>⟨v,l,h1,h2⟩⟩,hx.2,hu _ _ _ _,⟨hb.os,hb.tape,hb.output,hb.size,fun b h _=>hb.block b h⟩,fun _ h=>h⟩
theorem cells_two {w:World} {C:Cx} {ow:Nat→Prop} {m:Places} {x y:AV} {vs:List Value} (h:Cells w C ow m [x,y] vs):∃u v,vs=[u,v]∧VR w C ow m x u∧VR w C ow m y v:=by
 match vs,h with
 | [u,v],h=>exact ⟨u,v,rfl,h.2 0 x u rfl rfl,h.2 1 y v rfl rfl⟩
 | [],h=>exact absurd h.1 (by simp)
 | [_],h=>exact absurd h.1 (by simp)
 | _ :: _ :: _ :: _,h=>exact absurd h.1 (by simp)
theorem VR.str_inv {w:World} {C:Cx} {ow:Nat→Prop} {m:Places} {s:ByteArray} {v:Value} (h:VR w C ow m (.n (.str s)) v):v = .string s:=by
 cases h with|n _ _ h=>cases h;rfl
theorem VR.int_inv {w:World} {C:Cx} {ow:Nat→Prop} {m:Places} {k:IntKind} {n:Int} {v:Value} (h:VR w C ow m (.n (.int k n)) v):v = .int k n:=by
 cases h with|n _ _ h=>cases h;rfl
def strOfD:D→ByteArray
 | .str s=>s
 | _=>⟨#[]⟩
def strsOf (l:List D):List ByteArray:=l.map strOfD
def D.isStr:D→Bool
 | .str _=>true
 | _=>false
def cat (xs:List ByteArray):ByteArray:=⟨(xs.map (·.data.toList)).flatten.toArray⟩
def joinOf (xs:List ByteArray) (sep:ByteArray):ByteArray:=⟨(Lib.join (xs.map (·.data.toList)) sep.data.toList).toArray⟩
def joinOK (els:List D) (sep:ByteArray):Bool:=els.all D.isStr&&decide (els.length≤140737488355328)&&decide ((joinOf (strsOf els) sep).size≤140737488355328)
def joinP:List AV→Heap→Option (AV×Heap)
 | [.o (.sl 1 els),.n (.str sep)],H=>if joinOK els sep then some (.n (.str (joinOf (strsOf els) sep)),H) else none
 | _,_=>none
theorem join_ok {P:Program} {ρ:Ren} (L:Lays.n156 P ρ) (X:Builder.Extra P ρ):FunOK P (ρ.f 156) (.prim none joinP):=by
 refine ⟨enters_of L.f156 (by kernel_rfl) rfl,fun args H r H' h => ?_⟩
 unfold joinP at h
 split at h
 · rename_i els sep
   split at h
   · rename_i hok
     simp only[Option.some.injEq,Prod.mk.injEq]at h
     obtain ⟨rfl,rfl⟩:=h
     simp only[joinOK,Bool.and_eq_true,decide_eq_true_eq]at hok
     obtain ⟨⟨h1,h2⟩,h3⟩:=hok
     refine spec_grow (u := .string (joinOf (strsOf els) sep)) (fun _ _ _ _ => .n _ _ (.str _)) fun w C ow m vs hc => ?_
     obtain ⟨u,v,rfl,hu,hv⟩:=cells_two hc
     obtain rfl:=hv.str_inv
     cases hu with
     | o _ _ hd=>
       cases hd with
       | sle _ q c=>exact (Any.strings_Join_none L X (some q) c sep w).mono fun e w' ⟨he,hw⟩=>⟨by rw[he];rfl,hw▸Below.refl _ _⟩
       | sl0=>exact (Any.strings_Join_none L X none 0 sep w).mono fun e w' ⟨he,hw⟩=>⟨by rw[he];rfl,hw▸Below.refl _ _⟩
       | sl _ _ b off c ws hb hs hcap hsz hval hdr=>
         have hlen:(strsOf els).length=els.length:=by simp[strsOf]
         have hx:=Any.strings_Join L X b off c (strsOf els) sep w (fun j x hj => ?_) hs (by rw[hlen];exact h2) (by rw[hlen];exact hcap) (by simpa[joinOf,ByteArray.size] using h3)
         · rw[hlen]at hx
           exact hx
         · simp only[strsOf,List.getElem?_map,Option.map_eq_some_iff]at hj
           obtain ⟨y,hy,rfl⟩:=hj
           have hys:y.isStr=true:=List.all_eq_true.1 h1 y (List.mem_of_getElem? hy)
           cases y <;> try (cases hys;done)
           rename_i s
           have g1:=hval j _ 0 _ hy rfl
           have g2:=hdr j _ 0 _ hy rfl
           simp only[Nat.mul_one,Nat.add_zero]at g1
           generalize ws j 0=z at g1 g2
           cases g2
           exact g1
   · cases h
 · cases h
theorem join_nil (xs:List (List UInt8)):Lib.join xs []=xs.flatten:=by
 unfold Lib.join
 induction xs with
 | nil=>rfl
 | cons x r ih=>
   cases r with
   | nil=>simp[List.intercalate]
   | cons y r=>simpa[List.intercalate] using ih
theorem joinOf_cat (xs:List ByteArray):joinOf xs ⟨#[]⟩=cat xs:=by
 unfold joinOf cat
 rw[show (ByteArray.mk #[]).data.toList=[] from rfl,join_nil]
def sizes:List ByteArray→Nat
 | []=>0
 | x :: r=>x.size+sizes r
theorem cat_size:∀xs:List ByteArray,(cat xs).size=sizes xs
 | []=>rfl
 | x :: r=>by
   have:=cat_size r
   simp only[cat,ByteArray.size,List.size_toArray,List.map_cons,List.flatten_cons,List.length_append,sizes]at this ⊢
   simp only[ByteArray.size,Array.length_toList]at this ⊢
   omega
theorem strsOf_map (xs:List ByteArray):strsOf (xs.map D.str)=xs:=by
 induction xs with
 | nil=>rfl
 | cons x r ih=>simpa[strsOf,strOfD] using ih
theorem join_runs {Fs:Nat→Option Fun} {f:Nat} (hf:Fs f=some (.prim none joinP)) (xs:List ByteArray) (h1:xs.length≤140737488355328) (h2:sizes xs≤140737488355328):
  Runs Fs f [.o (.sl 1 (xs.map D.str)),.n (.str ⟨#[]⟩)] [] (.n (.str (cat xs))) []:=by
 refine ⟨1,fun k hk => ?_⟩
 obtain ⟨k,rfl⟩:∃j,k=j+1:=⟨k - 1,by omega⟩
 have hok:joinOK (xs.map D.str) ⟨#[]⟩=true:=by
  simp only[joinOK,Bool.and_eq_true,decide_eq_true_eq,strsOf_map,joinOf_cat,cat_size,List.length_map,List.all_map]
  exact ⟨⟨by simp[D.isStr],h1⟩,h2⟩
 simp only[run,hf,joinP,hok,strsOf_map,joinOf_cat,if_true]
end Go.Mir
