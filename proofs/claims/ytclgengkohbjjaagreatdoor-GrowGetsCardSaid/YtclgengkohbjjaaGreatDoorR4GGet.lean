import Derived.Test.YtclgengkohbjjaaGreatDoorR4Kb
import Derived.Test.YtclgengkohbjjaaGreatDoorR4K10
namespace Go.Proofs.YtclgengkohbjjaaGreatDoor.M
set_option linter.unusedVariables false
set_option linter.unusedSimpArgs false
open Go Go.Mir
set_option linter.unusedVariables false
theorem p10 (w:Wd) (hf:WFits w) (key val other:ByteArray):Runs Fs4 10 [wdV w,.n (.str key),.n (.str val),.n (.str other)] [] (.n (.bool true)) []:=by
 have g28:=p28 w
 have g30:=(p30 w hf key val).up up4
 have g18:=p18' w hf
 have g31:=p31 key val
 refine vc_eq fs10 rfl ?_
 rw[wdV,vc10,(V10e _ _ _ _ _ _ _ _ _).down]
 refine ⟨_,g28,?_⟩
 by_cases hs:smallW w
 · rw[decide_eq_true hs]
   refine selF ⟨_,g18,?_⟩
   by_cases hr:WRight w
   · rw[decide_eq_true hr]
     obtain ⟨va,vb,gt⟩:=t21 w hf (wr_now hr)
     refine selF ⟨(),_,_,_,_,_,_,_,_,gt,?_⟩
     by_cases hb:(treeW w).bad=true
     · rw[hb];exact selT ⟨_,p29,rfl⟩
     · have hb:(treeW w).bad=false:=by simpa using hb
       obtain ⟨h,P,B,ht,eT⟩:=tree_sound hb
       rw[hb]
       rcases grow_gets (key:=key) (val:=val) (w:=w) ⟨hr,h,B,ht⟩ with ⟨h1,h2⟩|⟨h1,h2,h3⟩
       · refine selF ⟨_,_,_,_,_,_,g30,sel_intro (fun _=>⟨_,p29,selT (sel_intro (fun _=>rfl) (fun h60=>⟨_,g31,?_⟩))⟩) (fun h0=>absurd h1 (by simpa using h0))⟩
         rcases h2 with h2|h2
         · rw[h2]at h60;simp at h60
         · rw[decide_eq_false h2];rfl
       · have hx:=putW_right h1
         have gk:=((p38 (putW w key val).1 (wr_fits hx) key).up up3).up up4
         have go:=((p38 w hf other).up up3).up up4
         have gp:=((p38 (putW w key val).1 (wr_fits hx) other).up up3).up up4
         rw[h2]at gk
         refine selF ⟨_,_,_,_,_,_,g30,sel_intro (fun h0=>absurd h1 (by simpa using h0)) (fun _=>⟨_,_,gk,_,_,go,_,_,gp,_,p29,selT (selT ?_)⟩)⟩
         refine sel_eb (fun _=>sel_eb (fun _=>rfl) (fun hne => ?_)) (fun hne=>absurd rfl hne)
         rw[h3 other hne]
         exact sel_eb (fun _=>by rw[beq_self_eq_true]) (fun hn=>absurd rfl hn)
   · rw[decide_eq_false hr]
     exact selT ⟨_,p29,rfl⟩
 · rw[decide_eq_false hs]
   exact selT ⟨_,p29,rfl⟩
theorem p10x (x:wdT.T) (h:wdT.fit x) (key val other:ByteArray):Runs Fs4 10 [wdT.av x,.n (.str key),.n (.str val),.n (.str other)] [] (.n (.bool true)) []:=by
 rw[wd_av];exact p10 (toWd x) (wd_fit x h) key val other
end Go.Proofs.YtclgengkohbjjaaGreatDoor.M
