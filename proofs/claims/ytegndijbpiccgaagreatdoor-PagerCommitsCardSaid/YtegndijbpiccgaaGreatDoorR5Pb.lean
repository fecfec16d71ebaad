import Derived.Test.YtegndijbpiccgaaGreatDoorR5Kb
import Derived.Test.YtegndijbpiccgaaGreatDoorR5Bp
namespace Go.Proofs.YtegndijbpiccgaaGreatDoor.M
set_option linter.unusedVariables false
set_option linter.unusedSimpArgs false
open Go Go.Mir
set_option linter.unusedVariables false
theorem p132 (l:List Bool) (i:Int):Runs Fs4 132 [.o (.sl 1 (blD l)),.n (.int .i64 i)] [] (.n (.bool (decide (0≤i)&&tr l i.toNat))) []:=by
 refine vc_eq fs132 rfl ?_
 rw[vc132,(V132e _ _ _).down,blD_len]
 refine sel_dec (fun h0=>sel_dec (fun hlt => ?_) (fun hge => ?_)) (fun h0 => ?_)
 · have hi:i.toNat<l.length:=by omega
   refine ⟨rfl,h0,_,blD_at hi,_,rfl,?_⟩
   rw[tr_at hi,decide_eq_true (show 0≤i by omega),Bool.true_and]
 · have e:tr l i.toNat=false:=by unfold tr;rw[List.getElem?_eq_none (by omega)];rfl
   rw[e,Bool.and_false]
 · rw[decide_eq_false (show ¬0≤i by omega),Bool.false_and]
theorem u8_in (n:Int) (h:0≤n∧n<256):IntKind.u8.wrap n=n:=by rw[u8_wrap];omega
theorem tdiv_nn {a b:Int} (h:0≤a):Int.tdiv a b=a / b:=Int.tdiv_eq_ediv_of_nonneg h
theorem tmod_nn {a b:Int} (h:0≤a):Int.tmod a b=a % b:=Int.tmod_eq_emod_of_nonneg h
theorem p85 (l:List Bool) (hl:l.length≤4096):Runs Fs4 85 [.o (.sl 1 (blD l))] [] (.n (.str (packS l))) []:=by
 refine vc_eq fs85 rfl ?_
 rw[vc85,(V85e _ _).down,blD_len]
 refine ⟨fun v i r=>∃m:Nat,i=8*m∧v=m∧r=(m,pkD l m)∧8*m<l.length+8,fun _ i _=>(l.length+8 - i).toNat,⟨rfl,0,rfl,rfl,rfl,by omega⟩,?_⟩
 rintro q _ _ ⟨_,rfl,rfl,rfl,hm⟩ _
 have hB:=byB_lt l q 8 (by omega)
 refine sel_dec (fun hlt => ?_) (fun hge => ?_)
 · refine ⟨fun n k => -1≤k∧k≤7∧n=(byB l q 8 / 2 ^ (k+1).toNat:Nat),fun _ k=>(k+1).toNat,⟨rfl,by decide,by decide,?_⟩,?_⟩
   · rw[show ((7:Int)+1).toNat=8 by decide,Nat.div_eq_of_lt (by simpa using hB)];rfl
   rintro _ k ⟨k0,k1,rfl⟩ _
   refine sel_dec (fun hk => ?_) (fun hk => ?_)
   · rw[i64_in (8*(q:Int)+k) (by omega)]
     refine ⟨_,p132 l _,?_⟩
     obtain ⟨j,rfl⟩:∃j:Nat,k=j:=⟨k.toNat,by omega⟩
     have st:byB l q 8 / 2 ^ j=2*(byB l q 8 / 2 ^ (j+1))+(tr l (8*q+j)).toNat:=lowN_top (fun k=>tr l (8*q+k)) j (by omega)
     have hq:byB l q 8 / 2 ^ j≤byB l q 8:=Nat.div_le_self _ _
     have hq2:byB l q 8 / 2 ^ (j+1)≤byB l q 8:=Nat.div_le_self _ _
     rw[show ((j:Int)+1).toNat=j+1 by omega,decide_eq_true (show (0:Int)≤8*q+j by omega),Bool.true_and,show (8*(q:Int)+j).toNat=8*q+j by omega]
     rw[i64_in (_*2) (by omega),i64_in ((j:Int) - 1) (by omega)]
     refine sel_intro (fun hb => ?_) (fun hb => ?_)
     · rw[hb,Bool.toNat_true]at st
       rw[i64_in _ (by omega)]
       refine ⟨rfl,rfl,rfl,rfl,⟨by omega,by omega,?_⟩,by first|omega|(dsimp only;omega)⟩
       rw[show ((j:Int) - 1+1).toNat=j by omega,st]
       omega
     · rw[hb,Bool.toNat_false]at st
       refine ⟨rfl,rfl,rfl,rfl,⟨by omega,by omega,?_⟩,by first|omega|(dsimp only;omega)⟩
       rw[show ((j:Int) - 1+1).toNat=j by omega,st]
       omega
   · obtain rfl:k = -1:=by omega
     rw[show ((-1:Int)+1).toNat=0 by decide,Nat.pow_zero,Nat.div_one,u8_in _ (by omega),i64_in (8*(q:Int)+8) (by omega),←pkD_succ,pkD_len]
     refine ⟨rfl,.inl rfl,⟨⟨rfl,rfl⟩,rfl⟩,by simp;omega,rfl,rfl,⟨q+1,by omega,rfl,rfl,by omega⟩,by first|omega|(dsimp only;omega)⟩
 · refine ⟨rfl,.inl rfl,pkD_u8 l q,?_⟩
   rw[packS,show (l.length+7) / 8=q by omega]
   rfl
theorem p37 (l:List Bool) (hl:l.length≤4096):Runs Fs4 37 [.o (.sl 1 (blD l))] [] (.n (.str (packS l))) []:=by
 refine vc_eq fs37 rfl ?_
 have hM:Int.toNat (IntKind.wrap .i64 (Int.tdiv (IntKind.wrap .i64 ((l.length:Int)+7)) 8))=(l.length+7) / 8:=by
   rw[i64_in ((l.length:Int)+7) (by omega),tdiv_nn (by omega),i64_in _ (by omega)];omega
 have hM0:0≤IntKind.wrap .i64 (Int.tdiv (IntKind.wrap .i64 ((l.length:Int)+7)) 8):=by
   rw[i64_in ((l.length:Int)+7) (by omega),tdiv_nn (by omega),i64_in _ (by omega)];omega
 rw[vc37,(V37e _ _).down,blD_len,hM,pkUp_zero l]
 refine ⟨by decide,hM0,by omega,fun i r=>0≤i∧i≤l.length∧r=(0,pkUp l i.toNat ((l.length+7) / 8)),fun i _=>(l.length - i).toNat,⟨rfl,by decide,by omega,rfl⟩,?_⟩
 rintro i _ ⟨h0,h1,rfl⟩ _
 refine sel_dec (fun hlt => ?_) (fun hge => ?_)
 · have hi:i.toNat<l.length:=by omega
   refine ⟨rfl,h0,_,blD_at hi,_,rfl,?_⟩
   rw[i64_in (i+1) (by omega),tdiv_nn h0,i64_in (i / 8) (by omega),tmod_nn h0]
   have hj:(i / 8).toNat=i.toNat / 8:=by omega
   have hk:(i % 8).toNat=i.toNat % 8:=by omega
   have hj2:i.toNat / 8<(l.length+7) / 8:=by omega
   refine sel_intro (fun hb => ?_) (fun hb => ?_)
   · rw[hj,hk,pkUp_len]
     dsimp only
     refine ⟨by decide,⟨rfl,rfl⟩,by omega,by omega,⟨rfl,rfl⟩,_,pkUp_at hj2,_,rfl,by decide,by omega,⟨rfl,rfl⟩,by omega,by omega,⟨⟨⟨rfl,rfl⟩,rfl⟩,rfl⟩,hj2,?_⟩
     repeat (refine And.intro rfl ?_)
     have hv:=byB_lt l (i.toNat / 8) (i.toNat % 8) (by omega)
     have hv2:byB l (i.toNat / 8) (i.toNat % 8)<2 ^ (i.toNat % 8):=lowN_lt _ _
     have hp:2 ^ (i.toNat % 8)≤2 ^ 7:=Nat.pow_le_pow_right (by decide) (by omega)
     have ob:=or_bit (i.toNat % 8) (by omega) ⟨byB l (i.toNat / 8) (i.toNat % 8),hv⟩ hv2
     have e8:min 8 (i.toNat - 8*(i.toNat / 8))=i.toNat % 8:=by omega
     refine ⟨⟨by omega,by omega,?_⟩,by first|omega|(dsimp only;omega)⟩
     rw[show (i+1).toNat=i.toNat+1 by omega,pkUp_yes (by rw[tr_at hi];exact hb) hj2,e8]
     congr 4
     refine Eq.trans (congrArg _ (congrArg _ ob)) ?_
     rw[u8_in _ (by dsimp only;omega)]
   · repeat (refine And.intro rfl ?_)
     refine ⟨⟨by omega,by omega,?_⟩,by first|omega|(dsimp only;omega)⟩
     rw[show (i+1).toNat=i.toNat+1 by omega,pkUp_no (by rw[tr_at hi];exact hb)]
 · obtain rfl:i=l.length:=by omega
   rw[Int.toNat_natCast,pkUp_all rfl]
   exact ⟨rfl,.inl rfl,pkD_u8 l _,rfl⟩
theorem bl_rep (n:Nat):List.replicate n (D.bool false)=blD (List.replicate n false):=by simp[blD]
theorem unb_part (s:ByteArray) {n i:Nat} (h:i<n):((unb s i)++List.replicate (n - i) false).set i (sbit s i)=unb s (i+1)++List.replicate (n - (i+1)) false:=by
 rw[show n - i=(n - (i+1))+1 by omega,List.replicate_succ]
 unfold unb
 rw[List.set_append_right _ _ (by simp)]
 simp[List.range_succ]
theorem at_some {s:ByteArray} {k:Nat} (h:k<s.size):s.data.toList[k]?=some (At s k):=by
 rw[At,atL]
 have:k<s.data.toList.length:=h
 rw[List.getElem?_eq_getElem this];rfl
theorem bit_prog (s:ByteArray) (i:Nat):(IntKind.wrap .u8 (((BitVec.toNat (HAnd.hAnd (BitVec.ofInt 8 (Int.fdiv ((((At s (i / 8)).toNat):Nat):Int) (2 ^ (min (i % 8) 8)))) (BitVec.ofInt 8 1))):Nat):Int)==1)=sbit s i:=
 and_bitQ (i % 8) (by omega) ⟨(At s (i / 8)).toNat,UInt8.toNat_lt _⟩
theorem p91 (s:ByteArray) (hs:s.size≤1000000) (n:Int):Runs Fs4 91 [.n (.str s),.n (.int .i64 n)] [] (.tup [.o (.sl 1 (blD (UnpR s n).1)),.n (.int .i64 (UnpR s n).2)]) []:=by
 refine vc_eq fs91 rfl ?_
 rw[vc91,(V91e _ _ _).down,UnpR]
 refine sel_dec (fun h=>by rw[if_pos (.inl h)];rfl) (fun h0=>sel_dec (fun h=>by rw[if_pos (.inr h)];rfl) (fun h1 => ?_))
 rw[if_neg (by omega),i64_in (n+7) (by omega),tdiv_nn (by omega),i64_in ((n+7) / 8) (by omega)]
 refine ⟨by decide,sel_dec (fun h=>by rw[if_pos (by omega)];rfl) (fun h2 => ?_)⟩
 rw[if_neg (by omega)]
 refine ⟨by omega,by omega,rfl,?_⟩
 rw[bl_rep,blD_len,List.length_replicate]
 refine ⟨fun i r=>0≤i∧i≤n∧r=(0,blD (unb s i.toNat++List.replicate (n.toNat - i.toNat) false)),fun i _=>(n - i).toNat,⟨rfl,by decide,by omega,by simp[unb]⟩,?_⟩
 rintro i _ ⟨i0,i1,rfl⟩ _
 refine sel_dec (fun hlt => ?_) (fun hge => ?_)
 · have hj:i.toNat / 8<s.size:=by omega
   rw[tdiv_nn i0,i64_in (i / 8) (by omega),tmod_nn i0,show (i / 8).toNat=i.toNat / 8 by omega,show (i % 8).toNat=i.toNat % 8 by omega,i64_in (i+1) (by omega)]
   refine ⟨by decide,by omega,_,at_some hj,by decide,by omega,⟨rfl,rfl⟩,i0,?_,⟨⟨⟨rfl,rfl⟩,rfl⟩,rfl⟩,?_,?_⟩
   · rw[blD_len];simp[unb_len];omega
   · rw[blD_len];simp[unb_len];omega
   repeat (refine And.intro rfl ?_)
   refine ⟨⟨by omega,by omega,?_⟩,by first|omega|(dsimp only;omega)⟩
   have e:=bit_prog s i.toNat
   show (0,(blD _).set _ (D.bool (IntKind.wrap .u8 _==1)))=_
   rw[show Go.IntKind.bits .u8=8 from rfl,e,blD_set,unb_part s (by omega),show (i+1).toNat=i.toNat+1 by omega]
 · obtain rfl:i=n:=by omega
   have e:unb s i.toNat++List.replicate (i.toNat - i.toNat) false=unb s i.toNat:=by simp
   rw[e]
   refine ⟨rfl,_,p37 _ (by rw[unb_len];omega),sel_nb (fun h => ?_) (fun h=>⟨rfl,?_⟩)⟩
   · rw[if_pos h];rfl
   · rw[if_neg (by simpa using h)]
def h105 (v:Nat) (l:List Int):Heap:=[(10500600,.row false true v 3 1 (il l))]
theorem p105 (w:Wd) (hf:WFits w):((BlkR w).2≠0∧(BlkR w).1=[]∧ChkR w=(fun _=>((0,0,0),(BlkR w).2))∧Runs Fs4 105 [wdV w] [] (.tup [.o (.sl 1 []),.n (.int .i64 (BlkR w).2)]) []) ∨
   (WRight w∧(treeW w).bad=false∧BlkR w=(upTo (treeW w).bs w.now.length,0)∧∃v,Runs Fs4 105 [wdV w] [] (.tup [.row 10500600 v,.n (.int .i64 0)]) (h105 v (upTo (treeW w).bs w.now.length))):=by
 have g69:=p69' w hf
 have key:∃r H',Runs Fs4 105 [wdV w] [] r H'∧(((BlkR w).2≠0∧(BlkR w).1=[]∧ChkR w=(fun _=>((0,0,0),(BlkR w).2))∧r = .tup [.o (.sl 1 []),.n (.int .i64 (BlkR w).2)]∧H'=[]) ∨
   (WRight w∧(treeW w).bad=false∧BlkR w=(upTo (treeW w).bs w.now.length,0)∧∃v,r = .tup [.row 10500600 v,.n (.int .i64 0)]∧H'=h105 v (upTo (treeW w).bs w.now.length))):=by
   refine vc_own (R:=fun r H'=>((BlkR w).2≠0∧(BlkR w).1=[]∧ChkR w=(fun _=>((0,0,0),(BlkR w).2))∧r = .tup [.o (.sl 1 []),.n (.int .i64 (BlkR w).2)]∧H'=[]) ∨
     (WRight w∧(treeW w).bad=false∧BlkR w=(upTo (treeW w).bs w.now.length,0)∧∃v,r = .tup [.row 10500600 v,.n (.int .i64 0)]∧H'=h105 v (upTo (treeW w).bs w.now.length))) fs105 rfl ?_
   rw[wdV,vc105o,(V105oe _ _ _ _ _ _).down,blD_len]
   by_cases hr:WRight w
   · rw[decide_eq_true hr]at g69
     have hn:=wr_now hr
     obtain ⟨va,vb,g31⟩:=t21 w hf hn
     refine ⟨_,g69,sel_intro (fun h=>by cases h) (fun _=>⟨(),_,_,_,_,_,_,_,_,g31,sel_intro (fun hb => ?_) (fun hb => ?_)⟩)⟩
     · have eq:BlkR w=([],81):=by rw[BlkR,if_neg (by simpa using hr),if_pos hb]
       refine .inl ⟨by rw[eq];simp,by rw[eq],?_,by rw[eq],rfl⟩
       funext more
       rw[eq,ChkR,if_neg (by simpa using hr),if_pos hb]
     · have eq:BlkR w=(upTo (treeW w).bs w.now.length,0):=by
         rw[BlkR,if_neg (by simpa using hr),if_neg (by rw[hb];simp)]
       have hlen:=(treeW_inv hn).len
       refine ⟨fun v i Q S=>0≤i∧i≤w.now.length∧Q=(vb,il (treeW w).bs)∧S=(v,il (upTo (treeW w).bs i.toNat)),fun _ i _ _=>(w.now.length - i).toNat,⟨rfl,by omega,by omega,rfl,rfl⟩,?_⟩
       rintro v i Q S ⟨h0,h1,rfl,rfl⟩ _
       dsimp only
       refine sel_dec (fun hlt => ?_) (fun hge => ?_)
       · have hii:((i.toNat:Nat):Int)=i:=by omega
         have hl:=upTo_len (treeW w).bs i.toNat
         have e1:(i+1).toNat=i.toNat+1:=by omega
         refine ⟨rfl,_,p106' (treeW w).bs (by omega) i,sel_dec (fun h => ?_) (fun h => ?_)⟩
         · refine ⟨rfl,.inl rfl,⟨⟨rfl,rfl⟩,rfl⟩,by simp only[List.length_singleton,il_len];omega,?_⟩
           repeat (refine And.intro rfl ?_)
           rw[i64_in _ (by omega)]
           refine ⟨⟨by omega,by omega,rfl,?_⟩,by first|omega|(dsimp only;omega)⟩
           rw[e1,upTo,hii,if_pos h,il_snoc']
         · repeat (refine And.intro rfl ?_)
           rw[i64_in _ (by omega)]
           refine ⟨⟨by omega,by omega,rfl,?_⟩,by first|omega|(dsimp only;omega)⟩
           rw[e1,upTo,hii,if_neg h]
       · rw[show i.toNat=w.now.length by omega]
         exact .inr ⟨hr,hb,eq,v,rfl,rfl⟩
   · rw[decide_eq_false hr]at g69
     have eq:BlkR w=([],1):=by rw[BlkR,if_pos hr]
     refine ⟨_,g69,sel_intro (fun _ => .inl ⟨by rw[eq];simp,by rw[eq],?_,by rw[eq],rfl⟩) (fun h=>by cases h)⟩
     funext more
     rw[eq,ChkR,if_pos hr]
 obtain ⟨r,H',hg,⟨h1,h2,h3,rfl,rfl⟩|⟨h1,h2,h3,v,rfl,rfl⟩⟩:=key
 · exact .inl ⟨h1,h2,h3,hg⟩
 · exact .inr ⟨h1,h2,h3,v,hg⟩
set_option maxRecDepth 10000 in
theorem p64 (w:Wd) (hf:WFits w) (more:List Int) (hm:more.length≤20):Runs Fs4 64 [wdV w,.o (.sl 1 (il more))] [] (ckV (ChkR w more)) []:=by
 refine vc_eq fs64 rfl ?_
 rw[wdV,vc64,(V64e _ _ _ _ _ _ _).down]
 rcases p105 w hf with ⟨h1,h2,h3,g⟩|⟨hr,hb,hB,v0,g⟩
 · rw[wdV]at g
   refine .inr ⟨_,_,g,sel_intro (fun _ => ?_) (fun h=>absurd (by simpa using h) h1)⟩
   rw[h3];rfl
 · rw[h105,wdV]at g
   have hn:=wr_now hr
   have hrg:=tree_rg hn hb
   have hlen:=(treeW_inv hn).len
   have eq:ChkR w more=match moreUp w.now.length more (treeW w).bs with
       | none=>((0,0,0),81)
       | some l=>if nowIs w.now l then (((treeW w).ps.length,(treeW w).he,(treeW w).bs.length),0) else ((0,0,0),81):=by
     rw[ChkR,if_neg (by simpa using hr),if_neg (by rw[hb];simp)]
     cases moreUp w.now.length more (treeW w).bs <;> rfl
   obtain ⟨va,vb,g31⟩:=t21 w hf hn
   rw[hT,wdV]at g31
   refine .inl ⟨_,_,_,_,g,sel_intro (fun h=>by cases h) (fun _=>⟨(),_,_,_,_,_,_,_,_,g31,?_⟩)⟩
   rw[il_len,blD_len]
   have no:ChkR w more=((0,0,0),81)→AV.tup [.agg [.n (.int .i64 0),.n (.int .i64 0),.n (.int .i64 0)],.n (.int .i64 81)]=ckV (ChkR w more):=fun e=>by rw[e];rfl
   have hu:=upTo_len (treeW w).bs w.now.length
   refine ⟨fun v i S Q=>0≤i∧i≤more.length∧S=(0,0,0,())∧∃l' l,Q=(v,il l')∧l'.length≤w.now.length+i.toNat∧(∀x,x∈l' ↔ x∈l)∧moreUp w.now.length more (treeW w).bs=moreUp w.now.length (more.drop i.toNat) l,fun _ i _ _=>(more.length - i).toNat,⟨rfl,by omega,by omega,rfl,upTo (treeW w).bs w.now.length,(treeW w).bs,rfl,by omega,fun x => ?_,rfl⟩,?_⟩
   · rw[upTo_mem]
     exact ⟨fun h=>h.2.2,fun h=>by have:=hrg x h;exact ⟨by omega,by omega,h⟩⟩
   rintro v i S Q ⟨h0,h1,rfl,l',l,rfl,hll,hmem,hinv⟩ _
   dsimp only
   refine sel_dec (fun hlt => ?_) (fun hge => ?_)
   · have hi:i.toNat<more.length:=by omega
     rw[List.drop_eq_getElem_cons hi,moreUp]at hinv
     refine ⟨rfl,h0,_,il_at hi,_,rfl,sel_dec (fun h=>no ?_) (fun h2=>sel_dec (fun h=>no ?_) (fun h3=>⟨rfl,_,p106' l' (by omega) _,sel_dec (fun h=>no ?_) (fun h4 => ?_)⟩))⟩
     · rw[eq,hinv,if_pos (.inl h)]
     · rw[eq,hinv,if_pos (.inr (.inl h))]
     · rw[eq,hinv,if_pos (.inr (.inr ((hmem _).1 h)))]
     refine ⟨rfl,.inl rfl,⟨⟨rfl,rfl⟩,rfl⟩,by simp only[List.length_singleton,il_len];omega,?_⟩
     repeat (refine And.intro rfl ?_)
     rw[i64_in _ (by omega),il_snoc']
     refine ⟨⟨by omega,by omega,rfl,_,l++[more[i.toNat]],rfl,by simp;omega,fun x => ?_,?_⟩,by first|omega|(dsimp only;omega)⟩
     · rw[List.mem_append,List.mem_append,hmem]
     · rw[hinv,if_neg (by
         rintro (h|h|h)
         · exact h2 h
         · omega
         · exact h4 ((hmem _).2 h)),show (i+1).toNat=i.toNat+1 by omega]
   · rw[List.drop_of_length_le (by omega),moreUp]at hinv
     rw[hinv]at eq
     dsimp only at eq
     refine ⟨fun i S=>0≤i∧i≤w.now.length∧S=(0,0,0,())∧∀j:Nat,(j:Int)<i→tr w.now j=decide (j<10∨(j:Int)∈l),fun i _=>(w.now.length - i).toNat,⟨rfl,by omega,by omega,rfl,fun j hj=>by omega⟩,?_⟩
     rintro i S ⟨h0,h1,rfl,hok⟩ _
     dsimp only
     refine sel_dec (fun hlt => ?_) (fun hge => ?_)
     · have hi:i.toNat<w.now.length:=by omega
       have hii:((i.toNat:Nat):Int)=i:=by omega
       have next:tr w.now i.toNat=decide (i.toNat<10∨((i.toNat:Nat):Int)∈l)→∀j:Nat,(j:Int)<i+1→tr w.now j=decide (j<10∨(j:Int)∈l):=fun h j hj=>by
         by_cases e:(j:Int)<i
         · exact hok j e
         · obtain rfl:j=i.toNat:=by omega
           exact h
       have fail:tr w.now i.toNat≠decide (i.toNat<10∨((i.toNat:Nat):Int)∈l)→ChkR w more=((0,0,0),81):=fun h=>by
         rw[eq,if_neg (fun hx=>h (hx i.toNat hi))]
       refine ⟨rfl,h0,_,blD_at hi,_,rfl,sel_dec (fun h10 => ?_) (fun h10=>⟨rfl,_,p106' l' (by omega) i,?_⟩)⟩
       · have hd:decide (i.toNat<10∨((i.toNat:Nat):Int)∈l)=true:=decide_eq_true (.inl (by omega))
         rw[hd]at next fail
         rw[←tr_at hi]
         refine sel_intro (fun h=>no (fail (by intro e;rw[e]at h;cases h))) (fun h => ?_)
         repeat (refine And.intro rfl ?_)
         rw[i64_in _ (by omega)]
         exact ⟨⟨by omega,by omega,rfl,next (by cases hx:tr w.now i.toNat with|true=>rfl|false=>rw[hx]at h;cases h)⟩,by first|omega|(dsimp only;omega)⟩
       · have hd:decide (i.toNat<10∨((i.toNat:Nat):Int)∈l)=decide (i∈l'):=by rw[hii,decide_eq_decide,hmem];exact ⟨fun h=>h.resolve_left (by omega),.inr⟩
         rw[hd]at next fail
         rw[←tr_at hi]
         refine sel_intro (fun h=>no (fail (by intro e;rw[e]at h;simp at h))) (fun h => ?_)
         repeat (refine And.intro rfl ?_)
         rw[i64_in _ (by omega)]
         exact ⟨⟨by omega,by omega,rfl,next (by simpa using h)⟩,by first|omega|(dsimp only;omega)⟩
     · have hx:nowIs w.now l:=fun j hj=>hok j (by omega)
       rw[if_pos hx]at eq
       refine ⟨rfl,rfl,?_⟩
       rw[eq,psD_len,il_len];rfl
end Go.Proofs.YtegndijbpiccgaaGreatDoor.M
