import Derived.Test.YtclgengkohbjjaaGreatDoorR4Kp
import Derived.Test.YtclgengkohbjjaaGreatDoorR4K4
import Derived.Test.YtclgengkohbjjaaGreatDoorR4ScanA
import Derived.Test.YtclgengkohbjjaaGreatDoorR4EdA
import Derived.Test.YtclgengkohbjjaaGreatDoorR4E
namespace Go.Proofs.YtclgengkohbjjaaGreatDoor.M
set_option linter.unusedVariables false
set_option linter.unusedSimpArgs false
open Go Go.Mir
set_option linter.unusedVariables false
theorem modk (t:Int) {n:Nat} (h:0<n) (hs:n≤1000000):∃k:Nat,k<n∧Int.tmod (IntKind.wrap .i64 (Int.tmod t (n:Int)+(n:Int))) (n:Int)=(k:Int):=by
 have h1:=Int.natAbs_tmod t (n:Int)
 have h2:=Nat.mod_lt t.natAbs h
 rw[Int.natAbs_natCast]at h1
 rw[←h1]at h2
 generalize Int.tmod t (n:Int)=m at h2
 rw[i64_in (m+n) (by omega),Int.tmod_eq_emod_of_nonneg (by omega)]
 have h3:=Int.emod_nonneg (m+n) (show (n:Int)≠0 by omega)
 have h4:=Int.emod_lt_of_pos (m+n) (show (0:Int)<n by omega)
 exact ⟨((m+n) % (n:Int)).toNat,by omega,by omega⟩
theorem p4 (w:Wd) (hf:WFits w) (ts:List Int) (st:Small ts.length):Runs Fs4 4 [wdV w,.o (.sl 1 (il ts))] [] (.n (.bool true)) []:=by
 have g15:=p15 w
 have g18:=p18' w hf
 unfold Small at st
 refine vc_eq fs4 rfl ?_
 rw[wdV,vc4,(V4e _ _ _ _ _ _ _).down,il_len,blD_len w.now]
 refine ⟨_,g15,?_⟩
 by_cases hs:smallW w
 · rw[decide_eq_true hs]
   refine selF ⟨_,g18,?_⟩
   by_cases hr:WRight w
   · rw[decide_eq_true hr]
     obtain ⟨va,vb,gt⟩:=t21 w hf (wr_now hr)
     by_cases hb:(treeW w).bad=true
     · refine selF ⟨(),_,_,_,_,_,_,_,_,gt,?_⟩
       rw[hb];exact selT ⟨_,p16,rfl⟩
     have hb:(treeW w).bad=false:=by simpa using hb
     obtain ⟨h,P,B,ht,eT⟩:=tree_sound hb
     rw[eT]at gt
     have hP:=(treeP_small hr ht).1
     have hB:=(treeP_small hr ht).2
     have hnow:=wr_now hr
     have hb0:(((0+(List.length (psD P)))*32):Nat)≤140737488355328:=by rw[psD_len];omega
     refine selF ⟨(),_,_,_,_,_,_,_,_,gt,selF ⟨(),_,_,_,_,_,_,_,_,gt,rfl,.inl rfl,⟨⟨rfl,rfl⟩,rfl⟩,hb0,rfl,fun l i q=>0≤i∧∃y P',l=psD P'∧q=wdC y∧From w B y P'∧(∀p∈P',isKeyP p.1)∧i+P'.length≤P.length,fun l _ _=>l.length,⟨rfl,by omega,w,P,rfl,rfl,From.start hr ht,isTree_ksz ht,by omega⟩,?_⟩⟩
     rintro l i q ⟨i0,y,P',rfl,rfl,hF,hk',hle⟩ _
     rw[psD_len P']
     refine sel_dec (fun hpos => ?_) (fun hend => ?_)
     have hn:0<P'.length:=by omega
     refine sel_dec (fun hlt => ?_) (fun hge => ?_)
     · have hi:i.toNat<ts.length:=by omega
       refine ⟨rfl,i0,_,il_at hi,_,rfl,?_⟩
       obtain ⟨k,hkn,ek⟩:=modk (ts[i.toNat]) hn (by omega)
       have ek1:IntKind.wrap .i64 ((k:Int)+1)=((k+1:Nat):Int):=by rw[i64_in _ (by omega)];omega
       rw[ek,ek1,Int.toNat_natCast,Int.toNat_natCast]
       have hmem:P'[k]∈P':=List.getElem_mem hkn
       have g17:=(p17 y (wr_fits hF.1) P'[k].1).up up4
       refine ⟨by omega,by omega,rfl,by omega,_,psD_at hkn,_,rfl,_,_,_,_,_,_,g17,?_⟩
       rcases del_from hF (hk' _ hmem) hmem with ⟨e,hc⟩|⟨e,hF'⟩
       · have e2:(delW y P'[k].1).2=60:=by rw[e]
         refine sel_ne (by rw[e2];decide) ⟨_,p16,selT (sel_eT e2 ⟨_,p23 y hF.1.1,?_⟩)⟩
         rw[decide_eq_true (by omega)]
       · rw[wioP_at (isTree_incP hF.2.choose_spec.choose_spec.1) hkn]at hF'
         have hk2:∀p∈P'.take k++P'.drop (k+1),isKeyP p.1:=fun p hp=>by
           rcases List.mem_append.1 hp with hp|hp
           · exact hk' p (List.mem_of_mem_take hp)
           · exact hk' p (List.mem_of_mem_drop hp)
         have hl2:(P'.take k++P'.drop (k+1)).length+1=P'.length:=by rw[List.length_append,List.length_take,List.length_drop];omega
         have ec:(([]++(List.drop 0 (List.take k (psD P'))))++(List.drop (k+1) (List.take P'.length (psD P'))))=psD (P'.take k++P'.drop (k+1)):=by
           rw[List.nil_append,List.drop_zero,List.take_of_length_le (Nat.le_of_eq (psD_len P'))]
           simp[psD,List.map_take,List.map_drop]
         have b1:(((0+(List.length (List.drop 0 (List.take k (psD P')))))*32):Nat)≤140737488355328:=by
           rw[List.drop_zero,List.length_take,psD_len];omega
         have b2:(((List.length ([]++(List.drop 0 (List.take k (psD P'))))+(List.length (List.drop (k+1) (List.take P'.length (psD P')))))*32):Nat)≤140737488355328:=by
           rw[List.nil_append,List.drop_zero,List.length_take,List.length_drop,List.length_take,psD_len];omega
         refine sel_nne e ⟨rfl,by omega,by omega,.inl rfl,⟨⟨rfl,rfl⟩,rfl⟩,b1,rfl,by omega,by omega,.inl rfl,⟨⟨rfl,rfl⟩,rfl⟩,b2,rfl,rfl,rfl,rfl,rfl,rfl,?_⟩
         rw[ec,i64_in _ (by omega)]
         exact ⟨⟨by omega,_,_,rfl,rfl,hF',hk2,by omega⟩,by show (psD (P'.take k++P'.drop (k+1))).length<(psD P').length;rw[psD_len,psD_len];omega⟩
     · skip
       obtain ⟨k,hkn,ek⟩:=modk (i) hn (by omega)
       have ek1:IntKind.wrap .i64 ((k:Int)+1)=((k+1:Nat):Int):=by rw[i64_in _ (by omega)];omega
       rw[ek,ek1,Int.toNat_natCast,Int.toNat_natCast]
       have hmem:P'[k]∈P':=List.getElem_mem hkn
       have g17:=(p17 y (wr_fits hF.1) P'[k].1).up up4
       refine ⟨by omega,by omega,rfl,by omega,_,psD_at hkn,_,rfl,_,_,_,_,_,_,g17,?_⟩
       rcases del_from hF (hk' _ hmem) hmem with ⟨e,hc⟩|⟨e,hF'⟩
       · have e2:(delW y P'[k].1).2=60:=by rw[e]
         refine sel_ne (by rw[e2];decide) ⟨_,p16,selT (sel_eT e2 ⟨_,p23 y hF.1.1,?_⟩)⟩
         rw[decide_eq_true (by omega)]
       · rw[wioP_at (isTree_incP hF.2.choose_spec.choose_spec.1) hkn]at hF'
         have hk2:∀p∈P'.take k++P'.drop (k+1),isKeyP p.1:=fun p hp=>by
           rcases List.mem_append.1 hp with hp|hp
           · exact hk' p (List.mem_of_mem_take hp)
           · exact hk' p (List.mem_of_mem_drop hp)
         have hl2:(P'.take k++P'.drop (k+1)).length+1=P'.length:=by rw[List.length_append,List.length_take,List.length_drop];omega
         have ec:(([]++(List.drop 0 (List.take k (psD P'))))++(List.drop (k+1) (List.take P'.length (psD P'))))=psD (P'.take k++P'.drop (k+1)):=by
           rw[List.nil_append,List.drop_zero,List.take_of_length_le (Nat.le_of_eq (psD_len P'))]
           simp[psD,List.map_take,List.map_drop]
         have b1:(((0+(List.length (List.drop 0 (List.take k (psD P')))))*32):Nat)≤140737488355328:=by
           rw[List.drop_zero,List.length_take,psD_len];omega
         have b2:(((List.length ([]++(List.drop 0 (List.take k (psD P'))))+(List.length (List.drop (k+1) (List.take P'.length (psD P')))))*32):Nat)≤140737488355328:=by
           rw[List.nil_append,List.drop_zero,List.length_take,List.length_drop,List.length_take,psD_len];omega
         refine sel_nne e ⟨rfl,by omega,by omega,.inl rfl,⟨⟨rfl,rfl⟩,rfl⟩,b1,rfl,by omega,by omega,.inl rfl,⟨⟨rfl,rfl⟩,rfl⟩,b2,rfl,rfl,rfl,rfl,rfl,rfl,?_⟩
         rw[ec,i64_in _ (by omega)]
         exact ⟨⟨by omega,_,_,rfl,rfl,hF',hk2,by omega⟩,by show (psD (P'.take k++P'.drop (k+1))).length<(psD P').length;rw[psD_len,psD_len];omega⟩
     · have e0:P'=[]:=by cases P' with
         | nil=>rfl
         | cons a r=>exfalso;exact hend (by rw[List.length_cons];omega)
       subst e0
       obtain ⟨r0,l0,n0⟩:=from_none hF
       have hyl:((blD y.now).length:Int)=(w.now.length:Int):=by rw[blD_len];omega
       refine sel_nne r0 (sel_nne hyl ⟨fun i=>0≤i∧i≤w.now.length,fun i=>(w.now.length - i).toNat,⟨rfl,by omega,by omega⟩,?_⟩)
       rintro j ⟨j0,j1⟩ _
       refine sel_dec (fun hlt => ?_) (fun hge=>⟨_,p16,rfl⟩)
       have hj:j.toNat<w.now.length:=by omega
       have hy:j.toNat<y.now.length:=by omega
       have hv:=n0 j.toNat hj
       rw[tr_at hj,tr_at hy,Int.toNat_of_nonneg j0]at hv
       have g27:=p27' B (by omega) j
       refine ⟨rfl,j0,_,blD_at hy,_,rfl,rfl,j0,_,blD_at hj,_,rfl,sel_intro (fun hw=>⟨rfl,_,g27,?_⟩) (fun hw => ?_)⟩
       · rw[hw,Bool.true_and]at hv
         rw[hv,beq_self_eq_true]
         refine selF ?_
         repeat (refine And.intro rfl ?_)
         rw[i64_in _ (by omega)]
         exact ⟨⟨by omega,by omega⟩,by first|omega|(dsimp only;omega)⟩
       · rw[hw,Bool.false_and]at hv
         rw[hv,beq_self_eq_true]
         refine selF ?_
         repeat (refine And.intro rfl ?_)
         rw[i64_in _ (by omega)]
         exact ⟨⟨by omega,by omega⟩,by first|omega|(dsimp only;omega)⟩
   · rw[decide_eq_false hr]
     exact selT ⟨_,p16,rfl⟩
 · rw[decide_eq_false hs]
   exact selT ⟨_,p16,rfl⟩
abbrev isT:Mir.Ty := .sl (.int .i64)
theorem ils_av (x:isT.T):isT.av x = .o (.sl 1 (il x)):=rfl
theorem is_small (x:isT.T) (h:isT.fit x):Small (show List Int from x).length:=by
 have h1:(show List Int from x).length≤maxLen:=h.1
 unfold maxLen at h1
 unfold Small
 omega
theorem p4x (x:wdT.T) (h:wdT.fit x) (y:isT.T) (hy:isT.fit y):Runs Fs4 4 [wdT.av x,isT.av y] [] (.n (.bool true)) []:=by
 rw[wd_av,ils_av];exact p4 (toWd x) (wd_fit x h) y (is_small y hy)
end Go.Proofs.YtclgengkohbjjaaGreatDoor.M
