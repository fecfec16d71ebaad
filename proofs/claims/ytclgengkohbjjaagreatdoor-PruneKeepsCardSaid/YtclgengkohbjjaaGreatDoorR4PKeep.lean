import Derived.Test.YtclgengkohbjjaaGreatDoorR4Kp
import Derived.Test.YtclgengkohbjjaaGreatDoorR4K12
namespace Go.Proofs.YtclgengkohbjjaaGreatDoor.M
set_option linter.unusedVariables false
set_option linter.unusedSimpArgs false
open Go Go.Mir
set_option linter.unusedVariables false
theorem p12 (w:Wd) (hf:WFits w) (cs:List Chg) (sc:Small cs.length):Runs Fs4 12 [wdV w,.o (.sl 3 (cgD cs))] [] (.n (.bool true)) []:=by
 have g15:=p15 w
 have g18:=p18' w hf
 unfold Small at sc
 refine vc_eq fs12 rfl ?_
 rw[wdV,vc12,(V12e _ _ _ _ _ _ _).down,cgD_len,blD_len w.now]
 refine ⟨_,g15,?_⟩
 by_cases hs:smallW w
 · rw[decide_eq_true hs]
   refine selF ⟨_,g18,?_⟩
   by_cases hr:WRight w
   · rw[decide_eq_true hr]
     obtain ⟨va,vb,gt⟩:=t21 w hf (wr_now hr)
     refine selF ⟨(),_,_,_,_,_,_,_,_,gt,?_⟩
     by_cases hb:(treeW w).bad=true
     · rw[hb];exact selT ⟨_,p16,rfl⟩
     · have hb:(treeW w).bad=false:=by simpa using hb
       obtain ⟨h,P,B,ht,eT⟩:=tree_sound hb
       rw[hb]
       have hnow:=wr_now hr
       have hW:=base_right hr hr.2.2.1 hr.2.2.2.1
       obtain ⟨wa,wb,gw⟩:=base_runs hr ht
       have hP:=(treeP_small hr ht).1
       refine selF ⟨.inl rfl,⟨⟨rfl,rfl⟩,rfl⟩,by omega,?_⟩
       refine ⟨rfl,(),_,_,_,_,_,_,_,_,gw,fun i q=>0≤i∧i≤cs.length∧∃z P',q=wdC z∧From ⟨w.now,w.now,w.pages,w.root,w.gen⟩ B z P',fun i _=>(cs.length - i).toNat,⟨rfl,by omega,by omega,⟨w.now,w.now,w.pages,w.root,w.gen⟩,P,rfl,From.start hW (isTree_gen (Int.le_refl _) ht)⟩,?_⟩
       rintro i q ⟨h0,h1,z,P',rfl,hF⟩ _
       obtain ⟨oa,ob,go⟩:=old_runs hr (Int.le_refl _) hr.2.2.2.1 ht hF
       have hpl:((sl_ z.pages).length:Int)=(sl_ w.pages).length:=by
         obtain ⟨_,_,_,_,hn⟩:=hF
         have:=hn.plen
         dsimp only at this
         rw[sl_len,sl_len];omega
       refine sel_dec (fun hlt => ?_) (fun hge => ?_)
       · have hi:i.toNat<cs.length:=by omega
         refine ⟨rfl,h0,_,cgD_at hi,_,_,_,rfl,by simp[D.cells],sel_dec (fun h30 => ?_) (fun h30 => ?_)⟩
         · exact sel_nne hpl ⟨(),_,_,_,_,_,_,_,_,go,_,p16,selT (selT ⟨rfl,rfl,_,p25t P P rfl (by omega),rfl⟩)⟩
         · refine ⟨rfl,_,_,_,_,_,_,(p41 z (wr_fits hF.1) [cs[i.toNat]] (by show ((1:Nat):Int)≤_;decide)).up up4,sel_intro (fun hb => ?_) (fun _ => ?_)⟩
           · have hb:(allW chW z [cs[i.toNat]]).2=0:=by simpa using hb
             obtain ⟨P2,hF'⟩:=chg_keep hF hb
             repeat (refine And.intro rfl ?_)
             rw[i64_in _ (by omega)]
             exact ⟨⟨by omega,by omega,_,P2,rfl,hF'⟩,by first|omega|(dsimp only;omega)⟩
           · repeat (refine And.intro rfl ?_)
             rw[i64_in _ (by omega)]
             exact ⟨⟨by omega,by omega,z,P',rfl,hF⟩,by first|omega|(dsimp only;omega)⟩
       · exact sel_nne hpl ⟨(),_,_,_,_,_,_,_,_,go,_,p16,selT (selT ⟨rfl,rfl,_,p25t P P rfl (by omega),rfl⟩)⟩
   · rw[decide_eq_false hr]
     exact selT ⟨_,p16,rfl⟩
 · rw[decide_eq_false hs]
   exact selT ⟨_,p16,rfl⟩
theorem p12x (x:wdT.T) (h:wdT.fit x) (y:cgT.T) (hy:cgT.fit y):Runs Fs4 12 [wdT.av x,cgT.av y] [] (.n (.bool true)) []:=by
 rw[wd_av,cgs_av];exact p12 (toWd x) (wd_fit x h) (toCgs y) (cgs_small y hy)
end Go.Proofs.YtclgengkohbjjaaGreatDoor.M
