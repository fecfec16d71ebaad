import Derived.Test.YtclgengkohbjjaaGreatDoorR4KA
import Derived.Test.YtclgengkohbjjaaGreatDoorR4FunB
import Derived.Test.YtclgengkohbjjaaGreatDoorR4Nod
import Derived.Test.YtclgengkohbjjaaGreatDoorR4ScanL
namespace Go.Proofs.YtclgengkohbjjaaGreatDoor.M
set_option linter.unusedVariables false
set_option linter.unusedSimpArgs false
open Go Go.Mir
set_option linter.unusedVariables false
noncomputable instance (a b:Wd):Decidable (a=b):=Classical.propDecidable _
def smallW (w:Wd):Prop:=w.now.length≤300∧w.pages.length≤300
instance (w:Wd):Decidable (smallW w):=by unfold smallW;infer_instance
theorem p43 (w:Wd):Runs Fs4 43 [wdV w] [] (.n (.bool (decide (smallW w)))) []:=by
 refine vc_eq fs43 rfl ?_
 rw[wdV,vc43,V43,blD_len,sl_len]
 refine sel_dec (fun h => ?_) (fun h=>by rw[decide_eq_false (by unfold smallW;omega)])
 congr 2
 rw[decide_eq_decide,smallW]
 omega
theorem selT {A B:Prop} (h:A):sel true A B:=h
theorem selF {A B:Prop} (h:B):sel false A B:=h
abbrev qcC_ (p0:Bool):=
 (Runs Fs4 44 [] [] (aB p0) [])
abbrev qcD_ (p0:LD):=
 (mmI false (p0.length:Int) 10)
abbrev qcE_ (p0:LD):=
 (mmI false (p0.length:Int) 20)
abbrev qcF_ (p0 p1 p2:LD) (p3 p4:Int) (p5:LD) (p6 p7 p8 p9:Int):=
 (Runs Fs4 45 [(.agg (qt_ p0 p1 p2 p3 p4)),(aL (List.drop 0 (List.take (Int.toNat (qcD_ p5)) p5)))] [] (.tup [(.agg [(aI p6),(aI p7),(aI p8)]),(aI p9)]) [])
def V14 (a0_0:LD) (a0_1:LD) (a0_2:LD) (a0_3:Int) (a0_4:Int) (a1:LD) (a2:LD) (R:Mir.AV→Prop):Prop:=
 (∃x0:Bool,((Runs Fs4 43 [(.agg (qt_ a0_0 a0_1 a0_2 a0_3 a0_4))] [] (aB x0) [])∧(sel (Bool.not x0) (∃x1:Bool,((qcC_ x1)∧(R (.n (.bool x1))))) ((rn 1)∧((0:Int)≤(qcD_ a1))∧(((qcD_ a1):Int)≤(a1.length:Int))∧(rn 3)∧((0:Int)≤(qcE_ a2))∧(((qcE_ a2):Int)≤(a2.length:Int))∧(∃x2:Int,(∃x3:Int,(∃x4:Int,(∃x5:Int,((qcF_ a0_0 a0_1 a0_2 a0_3 a0_4 a1 x2 x3 x4 x5)∧(sel (x5 != 0) (∃x6:Bool,((qcC_ x6)∧(R (.n (.bool x6))))) (∃x7:LD,(∃x8:LD,(∃x9:LD,(∃x10:Int,(∃x11:Int,(∃x12:Int,((Runs Fs4 41 [(.agg (qt_ a0_0 a0_1 a0_2 a0_3 a0_4)),(.o (Mir.D.sl 3 (List.drop 0 (List.take (Int.toNat (qcE_ a2)) a2))))] [] (.tup [(.agg (qt_ x7 x8 x9 x10 x11)),(aI x12)]) [])∧(sel (x12 != 0) (∃x13:Bool,((qcC_ x13)∧(sel x13 (sel (x12==1) (R (.n (.bool true))) (R (.n (.bool (x12==60))))) (R (.n (.bool false)))))) (∃x14:Int,(∃x15:Int,(∃x16:Int,(∃x17:Int,((qcF_ x7 x8 x9 x10 x11 a1 x14 x15 x16 x17)∧(∃x18:(Int→(ByteArray→(Int→Prop))),(∃x19:(Int→(ByteArray→(Int→Nat))),(((rh [(hB 1400000 (qt_ a0_0 a0_1 a0_2 a0_3 a0_4)),(hB 1400406 [(aI x2),(aI x3),(aI x4)]),(hB 1400706 (qt_ x7 x8 x9 x10 x11)),(hB 1401006 [(aI x14),(aI x15),(aI x16)])])∧(x18 0 qf_ 0))∧(∀x20:Int,(∀x21:ByteArray,(∀x22:Int,((x18 x20 x21 x22)→(∀x23:(Nat→Mir.AV),(sel (decide (x22<20)) (∃x24:LD,(∃x25:ByteArray,(∃x26:Int,((Runs Fs4 46 [(.agg (qt_ x7 x8 x9 x10 x11)),(aS x21),(aI 256)] [] (.tup [(.o (Mir.D.sl 2 x24)),(aS x25),(aI x26)]) [])∧(sel (x26 != 0) (R (.n (.bool false))) (sel ((ByteArray.toList x25)==(ByteArray.toList qf_)) (∃x27:Bool,((qcC_ x27)∧(sel x27 (sel (x17==0) (sel (x14==(IntKind.wrap .i64 (x20+(x24.length:Int)))) (sel ((x15==0)==((IntKind.wrap .i64 (x20+(x24.length:Int)))==0)) (R (.n (.bool (decide (x16≤(IntKind.wrap .i64 (x20+(x24.length:Int)))))))) (R (.n (.bool false)))) (R (.n (.bool false)))) (R (.n (.bool false)))) (R (.n (.bool false)))))) ((rq (.ptr 1400706 0))∧(rq (.ptr 1401006 0))∧(rq (aI x17))∧(rh [(hB 1400000 (qt_ a0_0 a0_1 a0_2 a0_3 a0_4)),(hB 1400406 [(aI x2),(aI x3),(aI x4)]),(hB 1400706 (qt_ x7 x8 x9 x10 x11)),(hB 1401006 [(aI x14),(aI x15),(aI x16)])])∧(x18 (IntKind.wrap .i64 (x20+(x24.length:Int))) x25 (IntKind.wrap .i64 (x22+1)))∧(((x19 (IntKind.wrap .i64 (x20+(x24.length:Int))) x25 (IntKind.wrap .i64 (x22+1))):Nat)<(x19 x20 x21 x22))))))))) (∃x28:Bool,((qcC_ x28)∧(sel x28 (sel (x17==0) (sel (x14==x20) (sel ((x15==0)==(x20==0)) (R (.n (.bool (decide (x16≤x20))))) (R (.n (.bool false)))) (R (.n (.bool false)))) (R (.n (.bool false)))) (R (.n (.bool false))))))))))))))))))))))))))))))))))))))
def V14e (a0_0:LD) (a0_1:LD) (a0_2:LD) (a0_3:Int) (a0_4:Int) (a1:LD) (a2:LD) (R:Mir.AV→Prop):=PLift.up (by delta V14 qf_ qt_ qcD_ qcE_ qcF_ qcC_;exact rfl:V14 a0_0 a0_1 a0_2 a0_3 a0_4 a1 a2 R=_)
theorem vc14 (a0_0:LD) (a0_1:LD) (a0_2:LD) (a0_3:Int) (a0_4:Int) (a1:LD) (a2:LD) (R:Mir.AV→Prop):Vc Fs4 c14.body (argsQ c14 [(.agg [(.o (.sl 1 a0_0)),(.o (.sl 1 a0_1)),(.o (.sl 1 a0_2)),(.n (.int .i64 a0_3)),(.n (.int .i64 a0_4))]),(.o (.sl 1 a1)),(.o (.sl 3 a2))]) [] (endQ c14 R)=V14 a0_0 a0_1 a0_2 a0_3 a0_4 a1 a2 R:=by kernel_rfl
theorem sel_ne {a b:Int} {A B:Prop} (h:a≠b) (x:A):sel (a != b) A B:=by
 rw[show (a != b)=true by simpa using h];exact x
theorem sel_nne {a b:Int} {A B:Prop} (h:a=b) (x:B):sel (a != b) A B:=by
 rw[show (a != b)=false by simpa using h];exact x
theorem sel_eT {a b:Int} {A B:Prop} (h:a=b) (x:A):sel (a==b) A B:=by
 rw[show (a==b)=true by simpa using h];exact x
theorem sel_eF {a b:Int} {A B:Prop} (h:a≠b) (x:B):sel (a==b) A B:=by
 rw[show (a==b)=false by simpa using h];exact x
theorem cgD_cut (l:List Chg) (n:Nat):List.drop 0 (List.take n (cgD l))=cgD (l.take n):=by simp[cgD,List.map_take]
abbrev cgT:Mir.Ty := .sl (.st [.str,.str,.bool])
def toCgs (x:cgT.T):List Chg:=(show List (ByteArray×ByteArray×Bool×Unit) from x).map fun p=>⟨p.2.2.1,p.1,p.2.1⟩
theorem cgs_av (x:cgT.T):cgT.av x = .o (.sl 3 (cgD (toCgs x))):=by
 unfold toCgs cgD
 rw[List.map_map];rfl
theorem mm_min (n:Nat) (k:Nat):mmI false (n:Int) (k:Int)=((min n k:Nat):Int):=by
 unfold mmI
 simp only[Bool.false_eq_true,if_false]
 split <;> omega
theorem il_cut (l:List Int) (n:Nat):List.drop 0 (List.take n (il l))=il (l.take n):=by simp[il,List.map_take]
theorem p45' (w:Wd) (hf:WFits w) (more:List Int) (hm:Small more.length):Runs Fs4 45 [wdV w,.o (.sl 1 (il more))] [] (ckV (ChkR w more)) []:=((p45 w hf more hm).up up3).up up4
theorem p44:Runs Fs4 44 [] [] (.n (.bool true)) []:=by
 refine vc_eq fs44 rfl ?_
 rw[vc44,(V44e _).down]
 have g:=p45' w24 w24_fits [] (by decide)
 rw[w24_chk]at g
 have g2:=p45' w00 w00_fits [] (by decide)
 have e:ChkR w00 []=((0,0,0),1):=by
  rw[ChkR,if_pos (fun h=>absurd h.1.2.1 (by decide))]
 rw[e]at g2
 exact ⟨_,_,((p60 24 (by decide)).up up3).up up4,by decide,by decide,rfl,_,_,_,_,g,_,_,_,_,g2,sel_intro (fun _=>rfl) (fun h=>by cases h)⟩
theorem p14 (w:Wd) (hf:WFits w) (ms:List Int) (cs:List Chg):Runs Fs4 14 [wdV w,.o (.sl 1 (il ms)),.o (.sl 3 (cgD cs))] [] (.n (.bool true)) []:=by
 have g43:=p43 w
 refine vc_eq fs14 rfl ?_
 have m1:mmI false (ms.length:Int) 10=((min ms.length 10:Nat):Int):=mm_min ms.length 10
 have m2:mmI false (cs.length:Int) 20=((min cs.length 20:Nat):Int):=mm_min cs.length 20
 rw[wdV,vc14,(V14e _ _ _ _ _ _ _ _).down,il_len ms,cgD_len cs,m1,m2,Int.toNat_natCast,Int.toNat_natCast,il_cut,cgD_cut]
 generalize hL:ms.take (min ms.length 10)=L
 generalize hM:cs.take (min cs.length 20)=M
 have hlen:L.length≤10:=by rw[←hL,List.length_take];omega
 have hlem:M.length≤20:=by rw[←hM,List.length_take];omega
 have g45:=p45' w hf L (by omega)
 have g41:=(p41 w hf M (by omega)).up up4
 refine ⟨_,g43,?_⟩
 by_cases hs:smallW w
 · rw[decide_eq_true hs]
   refine selF ⟨rfl,by omega,by omega,rfl,by omega,by omega,_,_,_,_,g45,?_⟩
   by_cases hc:(ChkR w L).2=0
   · refine sel_nne hc ⟨_,_,_,_,_,_,g41,?_⟩
     obtain ⟨hr,h,P,B,ht,hm,hu,hn⟩:=chk_tree hc
     have ea:allW chW w M=foldW chW w M:=by rw[allW,if_neg (by simpa using hr)]
     have hfr:=changes_from (l:=M) (From.start hr ht)
     rw[←ea]at hfr
     generalize allW chW w M=A at hfr g41
     rcases hfr with hb|⟨h0,_,hF⟩
     · have hne:A.2≠0:=by
         rcases hb with h|⟨h,_⟩
         · rw[h];decide
         · rw[h];decide
       refine sel_ne hne ⟨_,p44,selT ?_⟩
       rcases hb with h|⟨h,_⟩
       · rw[h];exact sel_eF (by decide) rfl
       · rw[h];exact sel_eT rfl rfl
     · refine sel_nne h0 ?_
       generalize M.foldl chP P=P' at hF
       obtain ⟨h',B',ht',hck⟩:=chk_from hr ht hm hu hn hF
       obtain ⟨hx,_,_,_,hw⟩:=hF
       have xf:=wr_fits hx
       have g45x:=p45' A.1 xf L (by omega)
       rw[hck]at g45x
       obtain ⟨l1,l2⟩:=isTree_len (wr_now hx) ht'
       have hsz:=isTree_ksz ht'
       have hinc:=isTree_inc ht'
       obtain ⟨q1,q2⟩:=isTree_pairs ht'
       have hnow:A.1.now.length≤300:=by rw[hw.nlen];exact hs.1
       have fin:sel ((0:Int)==0) (sel ((P'.length:Int)==(P'.length:Int)) (sel (((h':Int)==0)==((P'.length:Int)==0)) (AV.n (D.bool (decide ((B'.length:Int)≤(P'.length:Int)))) = .n (.bool true)) (AV.n (D.bool false) = .n (.bool true))) (AV.n (D.bool false) = .n (.bool true))) (AV.n (D.bool false) = .n (.bool true)):=by
         refine sel_eT rfl (sel_eT rfl ?_)
         have e:(((h':Int)==0)==((P'.length:Int)==0))=true:=by
           rw[beq_iff_eq,Bool.eq_iff_iff,beq_iff_eq,beq_iff_eq];omega
         rw[e,decide_eq_true (by omega)]
         exact selT rfl
       refine ⟨_,_,_,_,g45x,fun n fr i=>0≤i∧∃k:Nat,n=k∧k≤P'.length∧i*256≤k∧((k=0∧fr=empS)∨∃hk:k<P'.length,fr=P'[k].1),fun _ _ i=>(20 - i).toNat,⟨rfl,by omega,0,rfl,by omega,by omega,.inl ⟨rfl,rfl⟩⟩,?_⟩
       rintro n fr i ⟨i0,k,rfl,hk,hik,hfr⟩ _
       refine sel_dec (fun hlt => ?_) (fun hge=>by omega)
       have hfilt:filt fr P'=P'.drop k:=by
         rcases hfr with ⟨rfl,rfl⟩|⟨hk,rfl⟩
         · rw[filt_all,List.drop_zero]
         · exact filt_at hinc hk
       have hfs:fr.size≤32:=by
         rcases hfr with ⟨_,rfl⟩|⟨hk,rfl⟩
         · decide
         · exact (hsz _ (List.getElem_mem hk)).2
       have g46:=((p46 A.1 xf fr ((256:Nat):Int)).up up3).up up4
       rw[scanW_tree hx hfs (by omega) (by omega) ht' l1,scanR_top,hfilt,List.drop_drop]at g46
       refine ⟨_,_,_,g46,sel_nne rfl ?_⟩
       dsimp only
       rw[psD_len]
       have hlt:((P'.drop k).take 256).length=min 256 (P'.length - k):=by rw[List.length_take,List.length_drop]
       have hdz:KSz (P'.drop (k+256)):=fun p hp=>hsz p (List.mem_of_mem_drop hp)
       rw[i64_in _ (by rw[hlt];omega),beq_dec]
       refine sel_dec (fun hh => ?_) (fun hh => ?_)
       · have hd:=List.drop_eq_nil_iff.1 (headK_nil hdz hh)
         refine ⟨_,p44,selT ?_⟩
         have e:(k:Int)+(((P'.drop k).take 256).length:Int)=(P'.length:Int):=by rw[hlt];omega
         rw[e];exact fin
       · have hlt2:k+256<P'.length:=Classical.byContradiction fun hc=>hh (by rw[List.drop_of_length_le (by omega)];rfl)
         repeat (refine And.intro rfl ?_)
         rw[i64_in _ (by omega)]
         refine ⟨⟨by omega,k+256,by rw[hlt];omega,by omega,by omega,.inr ⟨hlt2,?_⟩⟩,by first|omega|(dsimp only;omega)⟩
         rw[List.drop_eq_getElem_cons hlt2];rfl
   · exact sel_ne hc ⟨_,p44,rfl⟩
 · rw[decide_eq_false hs]
   exact selT ⟨_,p44,rfl⟩
abbrev isT':Mir.Ty := .sl (.int .i64)
theorem ils_av' (x:isT'.T):isT'.av x = .o (.sl 1 (il x)):=rfl
theorem p14x (x:wdT.T) (h:wdT.fit x) (y:isT'.T) (z:cgT.T):Runs Fs4 14 [wdT.av x,isT'.av y,cgT.av z] [] (.n (.bool true)) []:=by
 rw[wd_av,ils_av',cgs_av];exact p14 (toWd x) (wd_fit x h) y (toCgs z)
end Go.Proofs.YtclgengkohbjjaaGreatDoor.M
