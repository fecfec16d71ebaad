import Derived.Test.YtclgengkohbjjaaGreatDoorR4Kp
import Derived.Test.YtclgengkohbjjaaGreatDoorR4K11
import Derived.Test.YtclgengkohbjjaaGreatDoorR4GAll
namespace Go.Proofs.YtclgengkohbjjaaGreatDoor.M
set_option linter.unusedVariables false
set_option linter.unusedSimpArgs false
open Go Go.Mir
set_option linter.unusedVariables false
theorem chP_inc {P:List Pr} {c:Chg} (h:Inc P):Inc (chP P c):=by
 unfold chP
 split
 · exact wioP_inc h
 · exact withP_inc h
theorem two_filter {α:Type} {f g:α→Bool} (h:∀x,f x=true→g x=false):∀l:List α,(l.filter f).length+(l.filter g).length≤l.length
 | []=>by simp
 | a :: l=>by
   have ih:=two_filter h l
   cases hf:f a with
   | true=>rw[List.filter_cons_of_pos hf,List.filter_cons_of_neg (by rw[h a hf];simp)];simp only[List.length_cons];omega
   | false=>
     rw[List.filter_cons_of_neg (by rw[hf];simp)]
     have:=List.length_filter_le g (a :: l)
     by_cases hg:g a=true
     · rw[List.filter_cons_of_pos hg];simp only[List.length_cons];omega
     · rw[List.filter_cons_of_neg hg];simp only[List.length_cons];omega
theorem chP_len {P:List Pr} {c:Chg}:(chP P c).length≤P.length+1:=by
 unfold chP
 split
 · have:=two_filter (f:=fun p:Pr=>lt p.1 c.key) (g:=fun p=>lt c.key p.1) (fun x h=>lt_asym h) P
   rw[wioP,List.length_append];exact Nat.le_succ_of_le this
 · have:=two_filter (f:=fun p:Pr=>lt p.1 c.key) (g:=fun p=>lt c.key p.1) (fun x h=>lt_asym h) P
   rw[withP,List.length_append,List.length_cons];exact Nat.succ_le_succ this
theorem p11 (w:Wd) (hf:WFits w) (cs:List Chg):Runs Fs4 11 [wdV w,.o (.sl 3 (cgD cs))] [] (.n (.bool true)) []:=by
 have g15:=p15 w
 have g18:=p18' w hf
 refine vc_eq fs11 rfl ?_
 have m1:mmI false (cs.length:Int) 30=((min cs.length 30:Nat):Int):=mm_min cs.length 30
 rw[wdV,vc11,(V11e _ _ _ _ _ _ _).down,cgD_len cs,m1,Int.toNat_natCast,cgD_cut]
 generalize hM:cs.take (min cs.length 30)=M
 have hlem:M.length≤30:=by rw[←hM,List.length_take];omega
 rw[cgD_len M]
 have g41:=(p41 w hf M (by omega)).up up4
 refine ⟨_,g15,?_⟩
 by_cases hs:smallW w
 · rw[decide_eq_true hs]
   refine selF ⟨_,g18,?_⟩
   by_cases hr:WRight w
   · rw[decide_eq_true hr]
     obtain ⟨va,vb,gt⟩:=t21 w hf (wr_now hr)
     by_cases hb:(treeW w).bad=true
     · refine selF ⟨(),_,_,_,_,_,_,_,_,gt,?_⟩
       rw[hb];exact selT ⟨_,p16,rfl⟩
     have hb:(treeW w).bad=false:=by simpa using hb
     obtain ⟨h,P,B,ht,eT⟩:=tree_sound hb
     rw[eT]at gt
     have hP:=(treeP_small hr ht).1
     have ea:allW chW w M=foldW chW w M:=by rw[allW,if_neg (by simpa using hr)]
     have hfr:=changes_tree (l:=M) (w:=w) (P:=P) ⟨hr,h,B,ht⟩
     rw[←ea]at hfr
     have hnone:(allW chW w M).2≠0→(allW chW w M).1=wd0:=by
       rw[ea];exact (fold_run (step:=chW) (l:=M) (w:=w)).2.2
     generalize allW chW w M=A at hfr g41 hnone
     refine selF ⟨(),_,_,_,_,_,_,_,_,gt,selF ⟨rfl,by omega,by omega,(),_,_,_,_,_,_,_,_,gt,rfl,fun l r i=>0≤i∧i≤M.length∧∃Q,l=psD Q∧Inc Q∧(Q.length:Int)≤P.length+i∧(M.drop i.toNat).foldl chP Q=M.foldl chP P∧(r=true ↔ ∀c∈M.take i.toNat,c.ok),fun _ _ i=>(M.length - i).toNat,⟨rfl,by omega,by omega,P,rfl,isTree_incP ht,by omega,rfl,by simp⟩,?_⟩⟩
     rintro l r i ⟨h0,h1,Q,rfl,hQ,hQl,hQf,hQr⟩ _
     refine sel_dec (fun hlt => ?_) (fun hge => ?_)
     · have hi:i.toNat<M.length:=by omega
       rw[drop_at' hi,List.foldl_cons]at hQf
       have etk:M.take (i+1).toNat=M.take i.toNat++[M[i.toNat]]:=by
         rw[show (i+1).toNat=i.toNat+1 by omega,List.take_add_one,List.getElem?_eq_getElem hi];rfl
       have g40:=p40 Q (by omega) M[i.toNat]
       rw[chgR_ok hQ]at g40
       have g39:=p39 M[i.toNat]
       have hlen:=chP_len (P:=Q) (c:=M[i.toNat])
       refine ⟨rfl,h0,_,cgD_at hi,_,_,_,rfl,by simp[D.cells],sel_intro (fun hr1=>⟨_,g39,_,g40,?_⟩) (fun hr0=>⟨_,g40,?_⟩)⟩
       · repeat (refine And.intro rfl ?_)
         rw[i64_in _ (by omega)]
         refine ⟨⟨by omega,by omega,_,rfl,chP_inc hQ,by omega,?_,?_⟩,by first|omega|(dsimp only;omega)⟩
         · rw[show (i+1).toNat=i.toNat+1 by omega];exact hQf
         · rw[etk,decide_eq_true_iff]
           have:=hQr.1 hr1
           exact ⟨fun hc c hm=>(List.mem_append.1 hm).elim (this c) (fun hm=>by rw[List.mem_singleton.1 hm];exact hc),fun ha=>ha _ (List.mem_append_right _ List.mem_cons_self)⟩
       · repeat (refine And.intro rfl ?_)
         rw[i64_in _ (by omega)]
         refine ⟨⟨by omega,by omega,_,rfl,chP_inc hQ,by omega,?_,?_⟩,by first|omega|(dsimp only;omega)⟩
         · rw[show (i+1).toNat=i.toNat+1 by omega];exact hQf
         · rw[etk]
           refine ⟨fun h=>(by cases h),fun ha => ?_⟩
           rw[hQr.2 fun c hm=>ha c (List.mem_append_left _ hm)]at hr0
           cases hr0
     · rw[List.drop_eq_nil_of_le (by omega),List.foldl_nil]at hQf
       rw[List.take_of_length_le (by omega)]at hQr
       refine ⟨_,_,_,_,_,_,g41,?_⟩
       rcases hfr with hbad|⟨hz,hok,hT⟩
       · have hne:A.2≠0:=by
           rcases hbad with h|⟨h,_⟩
           · rw[h];decide
           · rw[h];decide
         rw[hnone hne]
         refine sel_ne hne ⟨_,p16,selT ⟨_,p20t,selT ?_⟩⟩
         rcases hbad with h|⟨h,c,hc,hno⟩
         · exact sel_eT h rfl
         · refine sel_eF (by rw[h];decide) (sel_eT h ?_)
           have:r=false:=by
             cases r with
             | false=>rfl
             | true=>exact absurd (hQr.1 rfl c hc) hno
           rw[this];rfl
       · have hr1:r=true:=hQr.2 hok
         obtain ⟨hx,h',B',ht'⟩:=hT
         obtain ⟨xa,xb,gx⟩:=t21 _ (wr_fits hx) (wr_now hx)
         rw[tree_full ht']at gx
         rw[hr1]
         have hP2:(M.foldl chP P).length≤100000:=(treeP_small hx ht').1
         exact sel_nne hz ⟨(),_,_,_,_,_,_,_,_,gx,_,p16,selT (selT (selT ⟨rfl,_,p25t (M.foldl chP P) Q hQf.symm (by omega),rfl⟩))⟩
   · rw[decide_eq_false hr]
     exact selT ⟨_,p16,rfl⟩
 · rw[decide_eq_false hs]
   exact selT ⟨_,p16,rfl⟩
theorem p11x (x:wdT.T) (h:wdT.fit x) (y:cgT.T):Runs Fs4 11 [wdT.av x,cgT.av y] [] (.n (.bool true)) []:=by
 rw[wd_av,cgs_av];exact p11 (toWd x) (wd_fit x h) (toCgs y)
end Go.Proofs.YtclgengkohbjjaaGreatDoor.M
