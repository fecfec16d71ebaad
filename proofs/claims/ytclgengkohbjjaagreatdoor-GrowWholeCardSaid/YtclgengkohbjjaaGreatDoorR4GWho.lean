import Derived.Test.YtclgengkohbjjaaGreatDoorR4Kp
import Derived.Test.YtclgengkohbjjaaGreatDoorR4K6
import Derived.Test.YtclgengkohbjjaaGreatDoorR4GKeep
namespace Go.Proofs.YtclgengkohbjjaaGreatDoor.M
set_option linter.unusedVariables false
set_option linter.unusedSimpArgs false
open Go Go.Mir
set_option linter.unusedVariables false
theorem p6 (n:Int) (F:List Pr) (sF:Small F.length):Runs Fs4 6 [.n (.int .i64 n),.o (.sl 2 (psD F))] [] (.n (.bool true)) []:=by
 have g34:=p34 n
 obtain ⟨c1,c2⟩:=clampN_le n
 generalize clampN n=N at g34 c1 c2
 unfold Small at sF
 refine vc_eq fs6 rfl ?_
 rw[vc6,(V6e _ _ _).down,psD_len F]
 refine ⟨_,_,_,_,_,g34,rfl,fun l i q=>0≤i∧i≤F.length∧∃y P,l=psD P∧q=wdC y∧From (newW N) [] y P,fun _ i _=>(F.length - i).toNat,⟨rfl,by omega,by omega,newW N,[],rfl,rfl,From.start (newW_right c1 (by omega)) (newW_tree N)⟩,?_⟩
 rintro l i q ⟨h0,h1,y,P,rfl,rfl,hF⟩ _
 obtain ⟨h',B',ht,hl,hc⟩:=new_cnt c1 hF
 obtain ⟨ta,tb,gt⟩:=t21 y (wr_fits hF.1) (wr_now hF.1)
 rw[tree_full ht]at gt
 have hP:=(treeP_small hF.1 ht).1
 have g25:=p25t P P rfl (by omega)
 have g23:=p23 y hF.1.1
 have efin:((cnt y:Int)==IntKind.wrap .i64 (IntKind.wrap .i64 (((blD y.now).length:Int) - 10) - ((il B').length:Int)))=true:=by
   rw[blD_len,il_len,i64_in ((y.now.length:Int) - 10) (by omega),i64_in _ (by omega),beq_iff_eq];omega
 have fin:AV.n (D.bool ((cnt y:Int)==IntKind.wrap .i64 (IntKind.wrap .i64 (((blD y.now).length:Int) - 10) - ((il B').length:Int)))) = .n (.bool true):=by rw[efin]
 refine sel_dec (fun hlt => ?_) (fun hge=>⟨(),_,_,_,_,_,_,_,_,gt,_,p29,selT (selT ⟨rfl,_,g25,selT ⟨_,g23,rfl,fin⟩⟩)⟩)
 have hi:i.toNat<F.length:=by omega
 refine ⟨rfl,h0,_,psD_at hi,_,_,rfl,Nat.le_refl 2,sel_dec (fun h120=>⟨(),_,_,_,_,_,_,_,_,gt,_,p29,selT (selT ⟨rfl,_,g25,selT ⟨_,g23,rfl,fin⟩⟩)⟩) (fun h120 => ?_)⟩
 have g30:=(p30 y (wr_fits hF.1) F[i.toNat].1 F[i.toNat].2).up up4
 have g31:=p31 F[i.toNat].1 F[i.toNat].2
 have g33:=p33 P (by omega) F[i.toNat].1 F[i.toNat].2
 rw[withR_ok (isTree_incP ht)]at g33
 have hlow:putW y F[i.toNat].1 F[i.toNat].2=(wd0,60)→cnt y<9:=fun e=>put_low hF (by rw[hl];omega) e
 have hput:=put_from (key:=F[i.toNat].1) (val:=F[i.toNat].2) hF
 generalize F[i.toNat]=p at g30 g31 g33 hlow hput
 refine ⟨_,_,_,_,_,_,g30,?_⟩
 rcases hput with ⟨hnp,e⟩|⟨hp,e|⟨e,hF'⟩⟩
 · have e2:(putW y p.1 p.2).2=1:=by rw[e]
   rw[decide_eq_false hnp]at g31
   refine sel_eF (by rw[e2];decide) (sel_eF (by rw[e2];decide) (sel_eT e2 ⟨_,g31,selT ?_⟩))
   repeat (refine And.intro rfl ?_)
   rw[i64_in _ (by omega)]
   exact ⟨⟨by omega,by omega,y,P,rfl,rfl,hF⟩,by first|omega|(dsimp only;omega)⟩
 · have e2:(putW y p.1 p.2).2=60:=by rw[e]
   rw[decide_eq_true hp]at g31
   have h9:=hlow e
   refine sel_eF (by rw[e2];decide) (sel_eT e2 ⟨_,g31,selT ⟨_,g23,sel_dec (fun _ => ?_) (fun h=>absurd (by omega) h)⟩⟩)
   repeat (refine And.intro rfl ?_)
   rw[i64_in _ (by omega)]
   exact ⟨⟨by omega,by omega,y,P,rfl,rfl,hF⟩,by first|omega|(dsimp only;omega)⟩
 · rw[decide_eq_true hp]at g31
   refine sel_eT e ⟨_,g31,selT ⟨_,g33,?_⟩⟩
   repeat (refine And.intro rfl ?_)
   rw[i64_in _ (by omega)]
   exact ⟨⟨by omega,by omega,_,_,rfl,rfl,hF'⟩,by first|omega|(dsimp only;omega)⟩
theorem p6x (n:Int) (x:prT.T) (hx:prT.fit x):Runs Fs4 6 [.n (.int .i64 n),prT.av x] [] (.n (.bool true)) []:=by
 rw[prs_av];exact p6 n (toPrs x) (prs_small x hx)
end Go.Proofs.YtclgengkohbjjaaGreatDoor.M
