import Derived.Test.YtclgengkohbjjaaGreatDoorR4Kb
import Derived.Test.YtclgengkohbjjaaGreatDoorR4ScanQ
namespace Go.Proofs.YtclgengkohbjjaaGreatDoor.M
set_option linter.unusedVariables false
set_option linter.unusedSimpArgs false
open Go Go.Mir
set_option linter.unusedVariables false
theorem sel_eT {a b:Int} {A B:Prop} (h:a=b) (x:A):sel (a==b) A B:=by
 rw[show (a==b)=true by simpa using h];exact x
theorem sel_eF {a b:Int} {A B:Prop} (h:a≠b) (x:B):sel (a==b) A B:=by
 rw[show (a==b)=false by simpa using h];exact x
theorem base_right {w:Wd} {g:Int} (hr:WRight w) (h1:1≤g) (h2:g≤1099511627776):WRight ⟨w.now,w.now,w.pages,w.root,g⟩:=
 ⟨⟨rfl,hr.1.2.1,hr.1.2.2.1,fun j hj=>⟨(hr.1.2.2.2 j hj).2,(hr.1.2.2.2 j hj).2⟩⟩,hr.2.1,h1,h2,hr.2.2.2.2.1,hr.2.2.2.2.2⟩
theorem put_keep {w0 w:Wd} {B0:List Int} {P:List Pr} {key val:ByteArray} (h:From w0 B0 w P) (hb:(putW w key val).2=0):∃P',From w0 B0 (putW w key val).1 P':=by
 rcases put_from (key:=key) (val:=val) h with ⟨_,e⟩|⟨_,e|⟨_,hF⟩⟩
 · rw[e]at hb;exact absurd hb (by decide)
 · rw[e]at hb;exact absurd hb (by decide)
 · exact ⟨_,hF⟩
theorem old_runs {w z:Wd} {g:Int} {h:Nat} {P P':List Pr} {B:List Int} (hr:WRight w) (hg:w.gen≤g) (hg2:g≤1099511627776) (ht:IsTree w h P B) (hF:From ⟨w.now,w.now,w.pages,w.root,g⟩ B z P'):
  ∃va vb,Runs Fs4 21 [wdV ⟨w.now,w.now,z.pages,w.root,z.gen⟩] [] (.ptr 2100101 0) (hT ⟨P,B,h,false⟩ va vb):=by
 have h1:1≤w.gen:=hr.2.2.1
 have hW:=base_right hr (show 1≤g by omega) hg2
 have ht2:IsTree ⟨w.now,w.now,w.pages,w.root,g⟩ h P B:=isTree_gen hg ht
 obtain ⟨hz,h',B',ht',hn⟩:=hF
 have ho:IsTree ⟨w.now,w.now,z.pages,w.root,z.gen⟩ h P B:=old_tree (w:=⟨w.now,w.now,w.pages,w.root,g⟩) hW rfl ht2 hn
 have hfw:=wr_fits hr
 have hfz:=wr_fits hz
 obtain ⟨va,vb,gt⟩:=t21 ⟨w.now,w.now,z.pages,w.root,z.gen⟩ ⟨hfw.n,hfw.n,hfz.p,hfz.s⟩ (show w.now.length≤2048 from wr_now hr)
 rw[tree_full ho]at gt
 exact ⟨va,vb,gt⟩
theorem base_runs {w:Wd} {h:Nat} {P:List Pr} {B:List Int} (hr:WRight w) (ht:IsTree w h P B):∃va vb,Runs Fs4 21 [wdV ⟨w.now,w.now,w.pages,w.root,w.gen⟩] [] (.ptr 2100101 0) (hT ⟨P,B,h,false⟩ va vb):=by
 have ht2:IsTree ⟨w.now,w.now,w.pages,w.root,w.gen⟩ h P B:=isTree_gen (Int.le_refl _) ht
 have hfw:=wr_fits hr
 obtain ⟨va,vb,gt⟩:=t21 ⟨w.now,w.now,w.pages,w.root,w.gen⟩ ⟨hfw.n,hfw.n,hfw.p,hfw.s⟩ (show w.now.length≤2048 from wr_now hr)
 rw[tree_full ht2]at gt
 exact ⟨va,vb,gt⟩
end Go.Proofs.YtclgengkohbjjaaGreatDoor.M
