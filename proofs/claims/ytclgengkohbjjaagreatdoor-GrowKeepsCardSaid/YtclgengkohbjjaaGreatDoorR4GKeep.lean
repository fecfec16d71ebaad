import Derived.Test.YtclgengkohbjjaaGreatDoorR4Kp
import Derived.Test.YtclgengkohbjjaaGreatDoorR4K7
import Derived.Test.YtclgengkohbjjaaGreatDoorR4GAll
namespace Go.Proofs.YtclgengkohbjjaaGreatDoor.M
set_option linter.unusedVariables false
set_option linter.unusedSimpArgs false
open Go Go.Mir
set_option linter.unusedVariables false
theorem p7 (n:Int) (F L:List Pr) (sF:Small F.length) (sL:Small L.length):Runs Fs4 7 [.n (.int .i64 n),.o (.sl 2 (psD F)),.o (.sl 2 (psD L))] [] (.n (.bool true)) []:=by
 have g34:=p34 n
 obtain ⟨c1,c2⟩:=clampN_le n
 generalize clampN n=N at g34 c1 c2
 unfold Small at sF sL
 refine vc_eq fs7 rfl ?_
 rw[vc7,(V7e _ _ _ _).down,psD_len,psD_len]
 refine ⟨_,_,_,_,_,g34,fun i q=>0≤i∧i≤F.length∧∃y P,q=wdC y∧From (newW N) [] y P,fun i _=>(F.length - i).toNat,⟨rfl,by omega,by omega,newW N,[],rfl,From.start (newW_right c1 (by omega)) (newW_tree N)⟩,?_⟩
 rintro i q ⟨h0,h1,y,P,rfl,hF⟩ _
 refine sel_dec (fun hlt => ?_) (fun hge => ?_)
 · have hi:i.toNat<F.length:=by omega
   refine ⟨rfl,h0,_,psD_at hi,_,_,rfl,Nat.le_refl 2,_,_,_,_,_,_,(p30 y (wr_fits hF.1) F[i.toNat].1 F[i.toNat].2).up up4,?_⟩
   refine sel_intro (fun hb=>sel_dec (fun h60 => ?_) (fun _ => ?_)) (fun _ => ?_)
   · have hb:(putW y F[i.toNat].1 F[i.toNat].2).2=0:=by simpa using hb
     obtain ⟨P',hF'⟩:=put_keep hF hb
     repeat (refine And.intro rfl ?_)
     rw[i64_in _ (by omega)]
     exact ⟨⟨by omega,by omega,_,P',rfl,hF'⟩,by first|omega|(dsimp only;omega)⟩
   all_goals
     repeat (refine And.intro rfl ?_)
     rw[i64_in _ (by omega)]
     exact ⟨⟨by omega,by omega,y,P,rfl,hF⟩,by first|omega|(dsimp only;omega)⟩
 · obtain ⟨hy,h,B,ht,hn⟩:=hF
   have hgen:y.gen=1:=hn.gen
   have hnow:=wr_now hy
   obtain ⟨wa,wb,gw⟩:=base_runs hy ht
   have eg:IntKind.wrap .i64 (y.gen+1)=y.gen+1:=i64_in _ (by omega)
   have hW:=base_right hy (show 1≤y.gen+1 by omega) (by omega)
   have hb:(((0+(List.length (Prod.snd (1,(wdC y).2.1))))*1):Nat)≤140737488355328:=by
     show (0+(blD y.now).length)*1≤_
     rw[blD_len];omega
   refine ⟨.inl rfl,⟨⟨rfl,rfl⟩,rfl⟩,hb,?_⟩
   refine ⟨rfl,(),_,_,_,_,_,_,_,_,gw,fun i q=>0≤i∧i≤L.length∧∃z P',q=wdC z∧From ⟨y.now,y.now,y.pages,y.root,y.gen+1⟩ B z P',fun i _=>(L.length - i).toNat,⟨rfl,by omega,by omega,⟨y.now,y.now,y.pages,y.root,y.gen+1⟩,P,by show (_,_,_,_,IntKind.wrap .i64 (y.gen+1),())=_;rw[eg];rfl,From.start hW (isTree_gen (by omega) ht)⟩,?_⟩
   rintro j q ⟨j0,j1,z,P',rfl,hG⟩ _
   refine sel_dec (fun hlt => ?_) (fun hge2 => ?_)
   · have hj:j.toNat<L.length:=by omega
     refine ⟨rfl,j0,_,psD_at hj,_,_,rfl,Nat.le_refl 2,_,_,_,_,_,_,(p30 z (wr_fits hG.1) L[j.toNat].1 L[j.toNat].2).up up4,?_⟩
     refine sel_intro (fun hb=>sel_dec (fun h60 => ?_) (fun _ => ?_)) (fun _ => ?_)
     · have hb:(putW z L[j.toNat].1 L[j.toNat].2).2=0:=by simpa using hb
       obtain ⟨P2,hG'⟩:=put_keep hG hb
       repeat (refine And.intro rfl ?_)
       rw[i64_in _ (by omega)]
       exact ⟨⟨by omega,by omega,_,P2,rfl,hG'⟩,by first|omega|(dsimp only;omega)⟩
     all_goals
       repeat (refine And.intro rfl ?_)
       rw[i64_in _ (by omega)]
       exact ⟨⟨by omega,by omega,z,P',rfl,hG⟩,by first|omega|(dsimp only;omega)⟩
   · obtain ⟨oa,ob,go⟩:=old_runs hy (show y.gen≤y.gen+1 by omega) (by omega) ht hG
     have hP:=(treeP_small hy ht).1
     exact ⟨(),_,_,_,_,_,_,_,_,go,_,p29,selT (selT (selT ⟨rfl,rfl,_,p25t P P rfl (by omega),rfl⟩))⟩
theorem toPrs_len (x:prT.T):(toPrs x).length=(show List (ByteArray×ByteArray×Unit) from x).length:=by unfold toPrs;rw[List.length_map]
theorem prs_small (x:prT.T) (h:prT.fit x):Small (toPrs x).length:=by
 have h1:(show List (ByteArray×ByteArray×Unit) from x).length≤maxLen:=h.1
 unfold maxLen at h1
 unfold Small
 rw[toPrs_len];omega
theorem p7x (n:Int) (x:prT.T) (hx:prT.fit x) (y:prT.T) (hy:prT.fit y):Runs Fs4 7 [.n (.int .i64 n),prT.av x,prT.av y] [] (.n (.bool true)) []:=by
 rw[prs_av,prs_av];exact p7 n (toPrs x) (toPrs y) (prs_small x hx) (prs_small y hy)
end Go.Proofs.YtclgengkohbjjaaGreatDoor.M
