import Derived.Test.YtclgengkohbjjaaGreatDoorR4EdP
import Derived.Test.YtclgengkohbjjaaGreatDoorR4Enc
import Derived.Test.YtclgengkohbjjaaGreatDoorR4TreeB
import Derived.Test.YtclgengkohbjjaaGreatDoorR4LW
namespace Go.Proofs.YtclgengkohbjjaaGreatDoor.M
set_option linter.unusedVariables false
set_option linter.unusedSimpArgs false
open Go Go.Mir
set_option linter.unusedVariables false
def From (w:Wd) (B:List Int) (x:Wd) (P':List Pr):Prop:=WRight x∧∃h' B',IsTree x h' P' B'∧Nw w x B B'
theorem isTree_tr {w:Wd} {h:Nat} {P:List Pr} {B:List Int} (ht:IsTree w h P B):∀b∈B,tr w.now b.toNat=true:=fun b hb=>by
 obtain ⟨r,m,hm⟩:=isTree_held ht b hb
 exact hold_tr hm
theorem From.start {w:Wd} {h:Nat} {P:List Pr} {B:List Int} (hr:WRight w) (ht:IsTree w h P B):From w B w P:=⟨hr,h,B,ht,Nw.refl w B (isTree_tr ht)⟩
theorem put_from {w0 w:Wd} {B0:List Int} {P:List Pr} {key val:ByteArray} (h:From w0 B0 w P):(¬isPair key val∧putW w key val=(wd0,1))∨(isPair key val∧(putW w key val=(wd0,60)∨((putW w key val).2=0∧From w0 B0 (putW w key val).1 (withP key val P)))):=by
 obtain ⟨hr,h',B,ht,hn⟩:=h
 by_cases hp:isPair key val
 · rcases putW_tree hr hp ht with ⟨a1,a2⟩|⟨x,a1,a2,a3,h'',B',W,a4,a5,a6⟩
   · exact .inr ⟨hp,.inl a1⟩
   · exact .inr ⟨hp,.inr ⟨by rw[a1],by rw[a1];exact ⟨a2,h'',B',a6,hn.trans a4.nw⟩⟩⟩
 · refine .inl ⟨hp,?_⟩
   unfold putW
   rw[if_pos (by rintro ⟨_,h⟩;exact hp h)]
theorem chg_from {w0 w:Wd} {B0:List Int} {P:List Pr} {c:Chg} (h:From w0 B0 w P):(¬c.ok∧(chW w c).2=1)∨(c.ok∧((chW w c).2=60∨((chW w c).2=0∧From w0 B0 (chW w c).1 (chP P c)))):=by
 unfold chW chP
 by_cases hg:c.gone=false
 · rw[if_pos hg]
   have e:isPair c.key c.val ↔ c.ok:=⟨fun h=>⟨h.1,h.2.1,h.2.2,fun h=>by rw[hg]at h;cases h⟩,fun h=>⟨h.1,h.2.1,h.2.2.1⟩⟩
   rcases put_from (key:=c.key) (val:=c.val) h with ⟨a1,a2⟩|⟨a1,a2|⟨a2,a3⟩⟩
   · exact .inl ⟨fun h=>a1 (e.2 h),by rw[a2]⟩
   · exact .inr ⟨e.1 a1,.inl (by rw[a2])⟩
   · exact .inr ⟨e.1 a1,.inr ⟨a2,by rw[hg];exact a3⟩⟩
 · have hg:c.gone=true:=by simpa using hg
   rw[if_neg (by rw[hg];simp)]
   by_cases hb:¬isKeyP c.key∨c.val≠empS
   · rw[if_pos hb]
     refine .inl ⟨fun h => ?_,rfl⟩
     rcases hb with hb|hb
     · exact hb ⟨h.1,h.2.1⟩
     · exact hb (h.2.2.2 hg)
   · rw[if_neg hb]
     have hk:isKeyP c.key:=Classical.byContradiction fun hc=>hb (.inl hc)
     have hv:c.val=empS:=Classical.byContradiction fun hc=>hb (.inr hc)
     have hok:c.ok:=⟨hk.1,hk.2,by rw[hv];exact Nat.zero_le _,fun _=>hv⟩
     refine .inr ⟨hok,?_⟩
     have hh:=h
     obtain ⟨hr,h',B,ht,hn⟩:=h
     rw[hg,if_pos rfl]
     rcases delW_tree hr hk ht with ⟨a1,a2⟩|⟨a0,⟨a1,a2⟩|⟨x,a1,a2,a3,h'',B',W,a4,a5,a6⟩⟩
     · rw[a2,if_pos rfl]
       exact .inr ⟨rfl,by rw[wioP_none (isTree_incP ht) a1];exact hh⟩
     · rw[a1,if_neg (by decide)]
       exact .inl rfl
     · rw[a1,if_neg (show ¬(0:Int)=80 by decide)]
       exact .inr ⟨rfl,a2,h'',B',a6,hn.trans a4.nw⟩
theorem changes_from {w0 w:Wd} {B0:List Int} {P:List Pr} {l:List Chg} (h:From w0 B0 w P):((foldW chW w l).2=60∨((foldW chW w l).2=1∧∃c∈l,¬c.ok))∨((foldW chW w l).2=0∧(∀c∈l,c.ok)∧From w0 B0 (foldW chW w l).1 (l.foldl chP P)):=by
 induction l generalizing w P with
 | nil=>exact .inr ⟨rfl,fun c hc=>(by cases hc),h⟩
 | cons c cs ih=>
   rw[foldW,List.foldl_cons]
   rcases chg_from (c:=c) h with ⟨a1,a2⟩|⟨a1,a2|⟨a2,a3⟩⟩
   · rw[if_pos (by rw[a2];decide)]
     exact .inl (.inr ⟨a2,c,by simp,a1⟩)
   · rw[if_pos (by rw[a2];decide)]
     exact .inl (.inl a2)
   · rw[if_neg (by simpa using a2)]
     rcases ih a3 with b|⟨b1,b2,b3⟩
     · rcases b with b|⟨b1,x,b2,b3⟩
       · exact .inl (.inl b)
       · exact .inl (.inr ⟨b1,x,by simp[b2],b3⟩)
     · refine .inr ⟨b1,fun x hx => ?_,b3⟩
       rcases List.mem_cons.1 hx with rfl|hx
       · exact a1
       · exact b2 x hx
theorem ktr_pairs {R:TR} (m:∀c lo hi P B,R c lo hi P B→2*B.length+2≤P.length):∀ {ks:List ByteArray} {cs:List Int} {lo hi:ByteArray} {P:List Pr} {B:List Int},KTr R lo hi ks cs P B→2*B.length+2*cs.length≤P.length
 | [],[],_,_,_,_,hk=>hk.elim
 | [],[c],_,_,_,_,hk=>m _ _ _ _ _ hk
 | [],_ :: _ :: _,_,_,_,_,hk=>hk.elim
 | _ :: _,[],_,_,_,_,hk=>hk.elim
 | k :: ks,c :: cs,lo,hi,P,B,hk=>by
   obtain ⟨P1,B1,P2,B2,h1,h2,rfl,rfl⟩:=hk
   have g1:=m _ _ _ _ _ h1
   have g2:=ktr_pairs m h2
   simp only[List.length_append,List.length_cons]
   omega
theorem tr_pairs {H:Hd} (ho:HOK H):∀(h:Nat) (b:Int) (r:Bool) (lo hi:ByteArray) (P:List Pr) (B:List Int),Tr H h b r lo hi P B→(r=false→2*B.length+2≤P.length)∧B.length≤P.length
 | 0,_,_,_,_,_,_,ht=>ht.elim
 | h+1,b,r,lo,hi,P,B,ht=>by
   obtain ⟨n,B0,hn,⟨_,⟨hl,_,hk,rfl,rfl⟩|⟨hl,hk⟩⟩,rfl⟩:=tr_get ht
   · have hok:=ho _ _ _ hn
     rcases hok.1.2.2 with ⟨_,_,hv,_⟩|⟨hx,_⟩
     · have h0:=List.length_pos_iff.2 hk
       rw[List.length_zip,hv,Nat.min_self,List.length_singleton]
       refine ⟨fun hr => ?_,by omega⟩
       have:=hok.2.2.resolve_left (by rw[hr];simp)
       omega
     · rw[hl]at hx;cases hx
   · have:=ktr_pairs (fun c lo hi P B hc=>(tr_pairs ho h c false lo hi P B hc).1 rfl) hk
     have hlen:=ktr_len hk
     have h1:1≤n.keys.length:=by
       rcases (ho _ _ _ hn).1.2.2 with ⟨hx,_⟩|⟨_,_,hx,_⟩
       · rw[hl]at hx;cases hx
       · exact hx
     simp only[List.length_cons]
     exact ⟨fun _=>by omega,by omega⟩
theorem isTree_pairs {w:Wd} {h:Nat} {P:List Pr} {B:List Int} (ht:IsTree w h P B):B.length≤P.length∧(h=0 ↔ P.length=0):=by
 rcases ht with ⟨_,rfl,rfl,rfl⟩|⟨_,h1,_,hT,_⟩
 · exact ⟨Nat.le_refl _,by simp⟩
 · have:=(tr_pairs (hold_hok w) _ _ _ _ _ _ _ hT).2
   have h2:=List.length_pos_of_mem hT.root_mem
   exact ⟨this,by omega,by omega⟩
theorem isTree_nodup {w:Wd} {h:Nat} {P:List Pr} {B:List Int} (hr:WRight w) (ht:IsTree w h P B):B.Nodup∧∀b∈B,10≤b∧b<w.now.length:=by
 refine ⟨?_,fun b hb => ?_⟩
 · rcases ht with ⟨_,_,_,rfl⟩|⟨_,_,_,_,hu⟩
   · exact List.nodup_nil
   · exact hu
 · obtain ⟨r,m,hm⟩:=isTree_held ht b hb
   have:=hold_rg (wr_now hr) hm
   omega
def newRow (n:Nat):List Bool:=(List.range n).map fun i=>decide (i<10)
theorem moreUp_some {N:Nat}:∀ {more l l':List Int},moreUp N more l=some l'→l'=l++more∧(∀b∈more,10≤b∧b<N∧b∉l)∧more.Nodup
 | [],l,l',h=>by
   have h:some l=some l':=h
   refine ⟨by simpa using h.symm,fun b hb=>(by cases hb),List.nodup_nil⟩
 | b :: r,l,l',h=>by
   unfold moreUp at h
   split at h
   · cases h
   · rename_i hc
     obtain ⟨h1,h2,h3⟩:=moreUp_some h
     refine ⟨by rw[h1];simp,fun x hx => ?_,List.nodup_cons.2 ⟨fun hb => ?_,h3⟩⟩
     · rcases List.mem_cons.1 hx with rfl|hx
       · exact ⟨by omega,by omega,fun hl=>hc (.inr (.inr hl))⟩
       · have:=h2 x hx
         exact ⟨this.1,this.2.1,fun hl=>this.2.2 (by simp[hl])⟩
     · exact (h2 b hb).2.2 (by simp)
theorem moreUp_mk {N:Nat}:∀ {more l:List Int},(∀b∈more,10≤b∧b<N∧b∉l)→more.Nodup→moreUp N more l=some (l++more)
 | [],l,_,_=>by simp[moreUp]
 | b :: r,l,h,hu=>by
   obtain ⟨h1,h2⟩:=List.nodup_cons.1 hu
   have hb:=h b (by simp)
   unfold moreUp
   rw[if_neg (by
     rintro (h|h|h)
     · omega
     · omega
     · exact hb.2.2 h),moreUp_mk (fun x hx => ?_) h2]
   · simp
   · have:=h x (by simp[hx])
     refine ⟨this.1,this.2.1,fun hl => ?_⟩
     rcases List.mem_append.1 hl with hl|hl
     · exact this.2.2 hl
     · obtain rfl:x=b:=by simpa using hl
       exact h1 hx
theorem chk_tree {w:Wd} {more:List Int} (h:(ChkR w more).2=0):WRight w∧∃h P B,IsTree w h P B∧(∀b∈more,10≤b∧b<w.now.length∧b∉B)∧more.Nodup∧nowIs w.now (B++more):=by
 unfold ChkR at h
 split at h
 · cases h
 · rename_i hr
   have hr:WRight w:=Classical.byContradiction fun hc=>hr hc
   split at h
   · cases h
   · rename_i hb
     have hb:(treeW w).bad=false:=by simpa using hb
     obtain ⟨h',P,B,ht,e⟩:=tree_sound hb
     rw[e]at h
     dsimp only at h
     split at h
     · cases h
     · rename_i l hm
       split at h
       · rename_i hn
         obtain ⟨h1,h2,h3⟩:=moreUp_some hm
         exact ⟨hr,h',P,B,ht,h2,h3,h1▸hn⟩
       · cases h
theorem chk_from {w x:Wd} {h:Nat} {P P':List Pr} {B more:List Int} (hr:WRight w) (ht:IsTree w h P B) (hm:∀b∈more,10≤b∧b<w.now.length∧b∉B) (hu:more.Nodup) (hn:nowIs w.now (B++more)) (hF:From w B x P'):
   ∃h' B',IsTree x h' P' B'∧ChkR x more=(((P'.length:Int),(h':Int),(B'.length:Int)),(0:Int)):=by
 obtain ⟨hx,h',B',ht',hw⟩:=hF
 have hB:=(isTree_nodup hr ht).2
 have hmore:∀b∈more,10≤b∧b<x.now.length∧b∉B':=fun b hb=>by
   obtain ⟨h1,h2,h3⟩:=hm b hb
   refine ⟨h1,by rw[hw.nlen];exact h2,fun hb' => ?_⟩
   have hi:b.toNat<w.now.length:=by omega
   have e:((b.toNat:Nat):Int)=b:=by omega
   rcases hw.kept b.toNat hi (by rw[e];exact hb') with e1|e1
   · rw[e]at e1;exact h3 e1
   · rw[hn b.toNat hi,e]at e1
     simp[hb]at e1
 refine ⟨h',B',ht',?_⟩
 unfold ChkR
 have e:=tree_full ht'
 rw[if_neg (by simpa using hx),e,if_neg (by simp)]
 dsimp only
 rw[moreUp_mk hmore hu]
 dsimp only
 rw[if_pos]
 intro i hi
 rw[hw.nlen]at hi
 rw[hw.now i hi,hn i hi]
 by_cases h1:i<10
 · have:(i:Int)∉B:=fun h=>by have:=hB _ h;omega
   simp[h1,this]
 · by_cases h2:(i:Int)∈more
   · have:=(hm _ h2).2.2
     simp[h1,h2,this]
   · by_cases h3:(i:Int)∈B <;> simp[h1,h2,h3]
structure SC where
 se:Int
 out:List Pr
 nx:ByteArray
 full:Bool
 bad:Bool
def sc0:SC:=⟨0,[],empS,false,false⟩
def lastLt (out:List Pr) (key:ByteArray):Bool:=match out.getLast? with
 | none=>true
 | some p=>lt p.1 key
def takeS (fr:ByteArray) (mo:Int) (s:SC) (p:Pr):SC:=
 if s.full=true∨lt p.1 fr=true then s
 else if lastLt s.out p.1=false then { s with bad:=true }
 else if (s.out.length:Int)=mo then { s with full:=true,nx:=p.1 }
 else { s with out:=s.out++[p] }
def takesS (fr:ByteArray) (mo:Int) (s:SC) (l:List Pr):SC:=l.foldl (takeS fr mo) s
def kidsS (g:Int→SC→SC):List Int→SC→SC
 | [],s=>s
 | c :: cs,s=>if s.full=true∨s.bad=true then s else kidsS g cs (g c s)
def walkS (H:Hd) (N:Int) (fr:ByteArray) (mo:Int):Nat→Int→Int→SC→SC
 | 0,_,_,s => { s with se:=s.se+1,bad:=true }
 | f+1,b,d,s=>match H b (d==1) with
   | none => { s with se:=s.se+1,bad:=true }
   | some n=>if d > 8∨s.se+1 > N then { s with se:=s.se+1,bad:=true }
     else if n.leaf then takesS fr mo { s with se:=s.se+1 } (n.keys.zip n.vals)
     else kidsS (fun c s=>walkS H N fr mo f c (d+1) s) (n.kids.drop (kidI n fr)) { s with se:=s.se+1 }
theorem takeS_se (fr:ByteArray) (mo:Int) (s:SC) (p:Pr):(takeS fr mo s p).se=s.se:=by
 unfold takeS
 split
 · rfl
 split
 · rfl
 split
 · rfl
 · rfl
theorem takesS_se (fr:ByteArray) (mo:Int):∀(l:List Pr) (s:SC),(takesS fr mo s l).se=s.se
 | [],s=>rfl
 | p :: l,s=>by rw[takesS,List.foldl_cons,←takesS,takesS_se fr mo l,takeS_se]
theorem takesS_app (fr:ByteArray) (mo:Int) (s:SC) (l r:List Pr):takesS fr mo s (l++r)=takesS fr mo (takesS fr mo s l) r:=by
 unfold takesS;rw[List.foldl_append]
theorem takesS_full (fr:ByteArray) (mo:Int):∀(l:List Pr) (s:SC),s.full=true→takesS fr mo s l=s
 | [],s,_=>rfl
 | p :: l,s,h=>by
   rw[takesS,List.foldl_cons,←takesS,show takeS fr mo s p=s by rw[takeS,if_pos (.inl h)]]
   exact takesS_full fr mo l s h
theorem takesS_low (fr:ByteArray) (mo:Int):∀(l:List Pr) (s:SC),(∀p∈l,lt p.1 fr=true)→takesS fr mo s l=s
 | [],s,_=>rfl
 | p :: l,s,h=>by
   rw[takesS,List.foldl_cons,←takesS,show takeS fr mo s p=s by rw[takeS,if_pos (.inr (h p (by simp)))]]
   exact takesS_low fr mo l s fun q hq=>h q (List.mem_cons_of_mem _ hq)
theorem lastLt_of {out:List Pr} {key:ByteArray} (h:∀p∈out,lt p.1 key=true):lastLt out key=true:=by
 unfold lastLt
 cases hx:out.getLast? with
 | none=>rfl
 | some p=>exact h p (List.mem_of_getLast? hx)
theorem takeS_rise {fr:ByteArray} {mo:Int} {s:SC} {p:Pr} (hb:s.bad=false) (ho:∀q∈s.out,lt q.1 p.1=true):(takeS fr mo s p).bad=false∧∀q∈(takeS fr mo s p).out,q∈s.out∨q=p:=by
 unfold takeS
 split
 · exact ⟨hb,fun q hq => .inl hq⟩
 rw[if_neg (by rw[lastLt_of ho];simp)]
 split
 · exact ⟨hb,fun q hq => .inl hq⟩
 · exact ⟨hb,fun q hq=>by simpa using hq⟩
theorem takesS_rise {fr:ByteArray} {mo:Int}:∀ {l:List Pr} {s:SC},s.bad=false→Inc l→(∀q∈s.out,∀p∈l,lt q.1 p.1=true)→(takesS fr mo s l).bad=false∧∀q∈(takesS fr mo s l).out,q∈s.out∨q∈l
 | [],s,hb,_,_=>⟨hb,fun q hq => .inl hq⟩
 | p :: l,s,hb,hi,ho=>by
   obtain ⟨i1,i2⟩:=List.pairwise_cons.1 hi
   obtain ⟨h1,h2⟩:=takeS_rise (fr:=fr) (mo:=mo) hb (fun q hq=>ho q hq p (by simp))
   obtain ⟨h3,h4⟩:=takesS_rise (fr:=fr) (mo:=mo) (l:=l) h1 i2 (fun q hq r hr=>by
     rcases h2 q hq with h|rfl
     · exact ho q h r (List.mem_cons_of_mem _ hr)
     · exact i1 r hr)
   rw[takesS,List.foldl_cons,←takesS]
   refine ⟨h3,fun q hq => ?_⟩
   rcases h4 q hq with h|h
   · rcases h2 q h with h|rfl
     · exact .inl h
     · exact .inr (by simp)
   · exact .inr (List.mem_cons_of_mem _ h)
def Same (r s:SC):Prop:=r.out=s.out∧r.nx=s.nx∧r.full=s.full∧r.bad=s.bad
theorem takeS_same {fr:ByteArray} {mo:Int} {r s:SC} {p:Pr} (h:Same r s):Same (takeS fr mo r p) (takeS fr mo s p):=by
 obtain ⟨h1,h2,h3,h4⟩:=h
 unfold takeS
 rw[h1,h3]
 split
 · exact ⟨h1,h2,h3,h4⟩
 split
 · exact ⟨rfl,h2,rfl,rfl⟩
 split
 · exact ⟨rfl,rfl,rfl,h4⟩
 · exact ⟨rfl,h2,rfl,h4⟩
theorem takesS_same {fr:ByteArray} {mo:Int}:∀ {l:List Pr} {r s:SC},Same r s→Same (takesS fr mo r l) (takesS fr mo s l)
 | [],_,_,h=>h
 | p :: l,r,s,h=>by
   show Same (takesS fr mo (takeS fr mo r p) l) (takesS fr mo (takeS fr mo s p) l)
   exact takesS_same (takeS_same h)
theorem Same.trans {a b c:SC} (h:Same a b) (g:Same b c):Same a c:=⟨h.1.trans g.1,h.2.1.trans g.2.1,h.2.2.1.trans g.2.2.1,h.2.2.2.trans g.2.2.2⟩
theorem Same.refl (a:SC):Same a a:=⟨rfl,rfl,rfl,rfl⟩
def Does (fr:ByteArray) (mo:Int) (s r:SC) (P:List Pr) (n:Nat):Prop:=Same r (takesS fr mo s P)∧s.se≤r.se∧r.se≤s.se+n
theorem kidsS_all {R:Int→ByteArray→ByteArray→List Pr→List Int→Prop} {g:Int→SC→SC} {fr:ByteArray} {mo N:Int}
   (mw:∀c lo hi P B,R c lo hi P B→∀p∈P,within p.1 lo hi=true) (mi:∀c lo hi P B,R c lo hi P B→Inc P)
   (ih:∀c lo hi P B s,R c lo hi P B→s.bad=false→0≤s.se→s.se+B.length≤N→(∀q∈s.out,∀p∈P,lt q.1 p.1=true)→Does fr mo s (g c s) P B.length):
   ∀ {ks:List ByteArray} {cs:List Int} {lo hi:ByteArray} {P:List Pr} {B:List Int} {s:SC},Rise ks→(∀k∈ks,k≠empS)→(∀k∈ks,within k lo hi=true)→KTr R lo hi ks cs P B→s.bad=false→0≤s.se→s.se+B.length≤N→(∀q∈s.out,∀p∈P,lt q.1 p.1=true) →
     Does fr mo s (kidsS g cs s) P B.length
 | [],[],_,_,_,_,_,_,_,_,h,_,_,_,_=>h.elim
 | [],[c],lo,hi,P,B,s,_,_,_,h,hb,h0,hN,ho=>by
   rw[kidsS]
   by_cases hf:s.full=true
   · rw[if_pos (.inl hf)]
     exact ⟨by rw[takesS_full fr mo P s hf];exact Same.refl s,by omega,by omega⟩
   · rw[if_neg (by rw[hb];simpa using hf),kidsS]
     exact ih _ _ _ _ _ _ h hb h0 hN ho
 | [],_ :: _ :: _,_,_,_,_,_,_,_,_,h,_,_,_,_=>h.elim
 | _ :: _,[],_,_,_,_,_,_,_,_,h,_,_,_,_=>h.elim
 | k :: ks,c :: cs,lo,hi,P,B,s,hr,he,hw,h,hb,h0,hN,ho=>by
   obtain ⟨P1,B1,P2,B2,h1,h2,rfl,rfl⟩:=h
   obtain ⟨r1,r2⟩:=List.pairwise_cons.1 hr
   have he':∀k∈ks,k≠empS:=fun k hk=>he k (List.mem_cons_of_mem _ hk)
   have hw':∀x∈ks,within x k hi=true:=fun x hx=>within_iff.2 ⟨lt_asym (r1 x hx),(within_iff.1 (hw x (List.mem_cons_of_mem _ hx))).2⟩
   rw[kidsS]
   by_cases hf:s.full=true
   · rw[if_pos (.inl hf)]
     exact ⟨by rw[takesS_full fr mo _ s hf];exact Same.refl s,by omega,by omega⟩
   · rw[if_neg (by rw[hb];simpa using hf)]
     rw[List.length_append]at hN ⊢
     obtain ⟨d1,d2,d3⟩:=ih _ _ _ _ _ s h1 hb h0 (by omega) (fun q hq p hp=>ho q hq p (List.mem_append_left _ hp))
     obtain ⟨t1,t2⟩:=takesS_rise (fr:=fr) (mo:=mo) hb (mi _ _ _ _ _ h1) (fun q hq p hp=>ho q hq p (List.mem_append_left _ hp))
     have hlow:∀q∈P1,∀p∈P2,lt q.1 p.1=true:=fun q hq p hp=>by
      have hp':=(within_iff.1 (KTr.within mw r2 he' hw' h2 p hp)).1
      rcases (within_iff.1 (mw _ _ _ _ _ h1 q hq)).2 with h|h
      · exact absurd h (he k (by simp))
      · exact lt_nlt h hp'
     obtain ⟨e1,e2,e3⟩:=kidsS_all (N:=N) mw mi ih (s:=g c s) r2 he' hw' h2 (by rw[d1.2.2.2];exact t1) (by omega) (by omega) (fun q hq p hp=>by
      rw[d1.1]at hq
      rcases t2 q hq with h|h
      · exact ho q h p (List.mem_append_right _ hp)
      · exact hlow q h p hp)
     refine ⟨?_,by omega,by omega⟩
     rw[takesS_app]
     exact e1.trans (takesS_same d1)
theorem kidsS_from {R:Int→ByteArray→ByteArray→List Pr→List Int→Prop} {g:Int→SC→SC} {fr:ByteArray} {mo N:Int}
   (mw:∀c lo hi P B,R c lo hi P B→∀p∈P,within p.1 lo hi=true) (mi:∀c lo hi P B,R c lo hi P B→Inc P)
   (ih:∀c lo hi P B s,R c lo hi P B→s.bad=false→0≤s.se→s.se+B.length≤N→(∀q∈s.out,∀p∈P,lt q.1 p.1=true)→Does fr mo s (g c s) P B.length):
   ∀ {ks:List ByteArray} {cs:List Int} {lo hi:ByteArray} {P:List Pr} {B:List Int} {s:SC},Rise ks→(∀k∈ks,k≠empS)→(∀k∈ks,within k lo hi=true)→KTr R lo hi ks cs P B→s.bad=false→0≤s.se→s.se+B.length≤N→(∀q∈s.out,∀p∈P,lt q.1 p.1=true) →
     Does fr mo s (kidsS g (cs.drop (kidOf ks fr)) s) P B.length
 | [],cs,_,_,_,_,_,hr,he,hw,h,hb,h0,hN,ho=>by
   rw[kidOf,List.drop_zero];exact kidsS_all mw mi ih hr he hw h hb h0 hN ho
 | _ :: _,[],_,_,_,_,_,_,_,_,h,_,_,_,_=>h.elim
 | k :: ks,c :: cs,lo,hi,P,B,s,hr,he,hw,h,hb,h0,hN,ho=>by
   by_cases hk:lt fr k=true
   · rw[kidOf,if_pos hk,List.drop_zero];exact kidsS_all mw mi ih hr he hw h hb h0 hN ho
   · obtain ⟨P1,B1,P2,B2,h1,h2,rfl,rfl⟩:=h
     obtain ⟨r1,r2⟩:=List.pairwise_cons.1 hr
     have he':∀k∈ks,k≠empS:=fun k hk=>he k (List.mem_cons_of_mem _ hk)
     have hw':∀x∈ks,within x k hi=true:=fun x hx=>within_iff.2 ⟨lt_asym (r1 x hx),(within_iff.1 (hw x (List.mem_cons_of_mem _ hx))).2⟩
     rw[kidOf,if_neg hk,List.drop_succ_cons]
     rw[List.length_append]at hN ⊢
     obtain ⟨e1,e2,e3⟩:=kidsS_from mw mi ih (s:=s) r2 he' hw' h2 hb h0 (by omega) (fun q hq p hp=>ho q hq p (List.mem_append_right _ hp))
     refine ⟨?_,by omega,by omega⟩
     rw[takesS_app,takesS_low fr mo P1 s fun p hp => ?_]
     · exact e1
     · rcases (within_iff.1 (mw _ _ _ _ _ h1 p hp)).2 with h|h
       · exact absurd h (he k (by simp))
       · exact lt_nlt h (by simpa using hk)
theorem walkS_tr {H:Hd} (ho:HOK H) {N:Int} {fr:ByteArray} {mo:Int}:∀ {h f:Nat} {b d:Int} {lo hi:ByteArray} {P:List Pr} {B:List Int} {s:SC},
   Tr H h b (d==1) lo hi P B→1≤d→d - 1+h≤8→h≤f→s.bad=false→0≤s.se→s.se+B.length≤N→(∀q∈s.out,∀p∈P,lt q.1 p.1=true) →
     Does fr mo s (walkS H N fr mo f b d s) P B.length
 | 0,_,_,_,_,_,_,_,_,h,_,_,_,_,_,_,_=>h.elim
 | h+1,0,_,_,_,_,_,_,_,_,_,_,hf,_,_,_,_=>by omega
 | h+1,f+1,b,d,lo,hi,P,B,s,ht,hd,h8,hf,hb,h0,hN,hout=>by
   have hinc:=ht.inc ho
   obtain ⟨n,hh,hw,hx⟩:=ht
   have hkk:=(ho _ _ _ hh).1.2.1
   rw[walkS,hh]
   dsimp only
   rcases hx with ⟨hl,rfl,hk,rfl,rfl⟩|⟨hl,B',rfl,hx⟩
   · rw[List.length_singleton]at hN ⊢
     rw[if_neg (by omega),hl,if_pos rfl]
     refine ⟨takesS_same ⟨rfl,rfl,rfl,rfl⟩,?_,?_⟩
     · rw[takesS_se];dsimp only;omega
     · rw[takesS_se];dsimp only;omega
   · rw[List.length_cons]at hN ⊢
     rw[if_neg (by omega),hl,if_neg (by simp),kidI_of hkk]
     have e2:(d+1==1)=false:=by simp;omega
     obtain ⟨e1,e3,e4⟩:=kidsS_from (N:=N) (g:=fun c s=>walkS H N fr mo f c (d+1) s) (fr:=fr) (mo:=mo) (R:=fun c lo hi P B=>Tr H h c false lo hi P B) (fun c lo hi P B hc=>Tr.within ho hc) (fun c lo hi P B hc=>Tr.inc ho hc)
       (fun c lo hi P B s hc hb h0 hN hq=>walkS_tr ho (by rw[e2];exact hc) (by omega) (by omega) (by omega) hb h0 hN hq)
       (s := { s with se:=s.se+1 }) (kok_rise hkk) (kok_some hkk) hw hx hb (by dsimp only;omega) (by dsimp only;omega) hout
     dsimp only at e3 e4
     exact ⟨e1.trans (takesS_same ⟨rfl,rfl,rfl,rfl⟩),by omega,by omega⟩
def scanR (fr:ByteArray) (mo:Int):List Pr→List Pr→List Pr×ByteArray
 | [],out=>(out,empS)
 | p :: r,out=>if lt p.1 fr then scanR fr mo r out else if (out.length:Int)=mo then (out,p.1) else scanR fr mo r (out++[p])
theorem takesS_scan {fr:ByteArray} {mo:Int}:∀ {l:List Pr} {s:SC},s.bad=false→s.full=false→s.nx=empS→Inc l→(∀q∈s.out,∀p∈l,lt q.1 p.1=true)→((takesS fr mo s l).out,(takesS fr mo s l).nx)=scanR fr mo l s.out
 | [],s,_,_,hn,_,_=>by rw[scanR,←hn];rfl
 | p :: l,s,hb,hf,hn,hi,ho=>by
   obtain ⟨i1,i2⟩:=List.pairwise_cons.1 hi
   rw[takesS,List.foldl_cons,←takesS,scanR]
   by_cases h1:lt p.1 fr=true
   · rw[if_pos h1,show takeS fr mo s p=s by rw[takeS,if_pos (.inr h1)]]
     exact takesS_scan hb hf hn i2 fun q hq r hr=>ho q hq r (List.mem_cons_of_mem _ hr)
   · rw[if_neg h1]
     have hl:lastLt s.out p.1=true:=lastLt_of fun q hq=>ho q hq p (by simp)
     by_cases h2:(s.out.length:Int)=mo
     · rw[if_pos h2,show takeS fr mo s p = { s with full:=true,nx:=p.1 } by rw[takeS,if_neg (by rw[hf];simpa using h1),if_neg (by rw[hl];simp),if_pos h2],takesS_full _ _ _ _ rfl]
     · rw[if_neg h2,show takeS fr mo s p = { s with out:=s.out++[p] } by rw[takeS,if_neg (by rw[hf];simpa using h1),if_neg (by rw[hl];simp),if_neg h2]]
       exact takesS_scan (s := { s with out:=s.out++[p] }) hb hf hn i2 fun q hq r hr=>by
        rcases List.mem_append.1 hq with h|h
        · exact ho q h r (List.mem_cons_of_mem _ hr)
        · obtain rfl:q=p:=by simpa using h
          exact i1 r hr
structure SInv (fr:ByteArray) (mo N:Int) (s:SC):Prop where
 inc:Inc s.out
 low:∀p∈s.out,lt p.1 fr=false
 len:(s.out.length:Int)≤mo
 nx:s.full=true→lastLt s.out s.nx=true
 nf:s.full=false→s.nx=empS
 se:0≤s.se∧(s.bad=false→s.se≤N)
theorem inc_snoc {l:List Pr} {p:Pr} (h:Inc l) (hl:lastLt l p.1=true):Inc (l++[p]):=by
 refine List.pairwise_append.2 ⟨h,by simp,fun q hq r hr => ?_⟩
 obtain rfl:r=p:=by simpa using hr
 unfold lastLt at hl
 cases hx:l.getLast? with
 | none=>rw[List.getLast?_eq_none_iff.1 hx]at hq;cases hq
 | some z=>
   rw[hx]at hl
   obtain ⟨l',rfl⟩:=List.getLast?_eq_some_iff.1 hx
   rcases List.mem_append.1 hq with h2|h2
   · have:=(List.pairwise_append.1 h).2.2 q h2 z (by simp)
     exact lt_trans this hl
   · obtain rfl:q=z:=by simpa using h2
     exact hl
theorem takeS_inv {fr:ByteArray} {mo N:Int} {s:SC} {p:Pr} (h:SInv fr mo N s):SInv fr mo N (takeS fr mo s p):=by
 unfold takeS
 by_cases h1:s.full=true∨lt p.1 fr=true
 · rw[if_pos h1];exact h
 rw[if_neg h1]
 have hf:s.full=false:=by cases hx:s.full with|false=>rfl|true=>exact absurd (.inl hx) h1
 have hp:lt p.1 fr=false:=by cases hx:lt p.1 fr with|false=>rfl|true=>exact absurd (.inr hx) h1
 by_cases h2:lastLt s.out p.1=false
 · rw[if_pos h2];exact ⟨h.inc,h.low,h.len,h.nx,h.nf,h.se.1,fun e=>by cases e⟩
 rw[if_neg h2]
 have h2:lastLt s.out p.1=true:=by simpa using h2
 by_cases h3:(s.out.length:Int)=mo
 · rw[if_pos h3];exact ⟨h.inc,h.low,h.len,fun _=>h2,(fun e=>by cases e),h.se⟩
 · rw[if_neg h3]
   have:=h.len
   refine ⟨inc_snoc h.inc h2,fun q hq => ?_,by simp;omega,fun e => ?_,h.nf,h.se⟩
   · rcases List.mem_append.1 hq with hq|hq
     · exact h.low q hq
     · obtain rfl:q=p:=by simpa using hq
       exact hp
   · rw[hf]at e;cases e
theorem takesS_inv {fr:ByteArray} {mo N:Int}:∀ {l:List Pr} {s:SC},SInv fr mo N s→SInv fr mo N (takesS fr mo s l)
 | [],_,h=>h
 | p :: l,s,h=>by
   rw[takesS,List.foldl_cons,←takesS];exact takesS_inv (takeS_inv h)
theorem kidsS_inv {fr:ByteArray} {mo N:Int} {g:Int→SC→SC} (ih:∀c s,SInv fr mo N s→s.bad=false→SInv fr mo N (g c s)):∀ {cs:List Int} {s:SC},SInv fr mo N s→SInv fr mo N (kidsS g cs s)
 | [],_,h=>h
 | c :: cs,s,h=>by
   rw[kidsS]
   by_cases hx:s.full=true∨s.bad=true
   · rw[if_pos hx];exact h
   · rw[if_neg hx]
     exact kidsS_inv ih (ih c s h (by cases hb:s.bad with|false=>rfl|true=>exact absurd (.inr hb) hx))
theorem walkS_inv {H:Hd} {fr:ByteArray} {mo N:Int}:∀(f:Nat) (b d:Int) (s:SC),SInv fr mo N s→s.bad=false→SInv fr mo N (walkS H N fr mo f b d s)
 | 0,b,d,s,h,hb=>⟨h.inc,h.low,h.len,h.nx,h.nf,by have:=h.se.1;show 0≤s.se+1;omega,fun e=>by cases e⟩
 | f+1,b,d,s,h,hb=>by
   have hbad:SInv fr mo N { s with se:=s.se+1,bad:=true }:=⟨h.inc,h.low,h.len,h.nx,h.nf,by have:=h.se.1;show 0≤s.se+1;omega,fun e=>by cases e⟩
   rw[walkS]
   cases hh:H b (d==1) with
   | none=>exact hbad
   | some n=>
     dsimp only
     by_cases h1:d > 8∨s.se+1 > N
     · rw[if_pos h1];exact hbad
     rw[if_neg h1]
     have hs:SInv fr mo N { s with se:=s.se+1 }:=⟨h.inc,h.low,h.len,h.nx,h.nf,by have:=h.se.1;show 0≤s.se+1;omega,fun _=>by show s.se+1≤N;omega⟩
     split
     · exact takesS_inv hs
     · exact kidsS_inv (fun c s hs hb=>walkS_inv f c (d+1) s hs hb) hs
noncomputable def ScanW (w:Wd) (fr:ByteArray) (mo:Int):List Pr×ByteArray×Int:=
 if ¬WRight w∨32<fr.size∨mo<0∨256<mo then ([],empS,1) else
 let s:=if w.root=0 then sc0 else walkS (Hold w) w.now.length fr mo 9 w.root 1 sc0
 if s.bad=true then ([],empS,81) else (s.out,s.nx,0)
theorem sc0_inv {fr:ByteArray} {mo N:Int} (h:0≤mo) (hN:0≤N):SInv fr mo N sc0:=⟨by simp[Inc,sc0],by simp[sc0],by simpa[sc0] using h,(fun e=>by cases e),fun _=>rfl,Int.le_refl _,fun _=>hN⟩
theorem scanW_tree {w:Wd} {fr:ByteArray} {mo:Int} {h:Nat} {P:List Pr} {B:List Int} (hr:WRight w) (h1:fr.size≤32) (h2:0≤mo) (h3:mo≤256) (ht:IsTree w h P B) (hB:B.length≤w.now.length):
   ScanW w fr mo=((scanR fr mo P []).1,(scanR fr mo P []).2,0):=by
 rw[ScanW,if_neg (by
   rintro (h|h|h|h)
   · exact h hr
   · omega
   · omega
   · omega)]
 rcases ht with ⟨h0,rfl,rfl,rfl⟩|⟨h0,_,h8,ht,hn⟩
 · rw[if_pos h0];rfl
 · rw[if_neg h0]
   dsimp only
   have hinc:=ht.inc (hold_hok w)
   obtain ⟨⟨d1,d2,d3,d4⟩,_,_⟩:=walkS_tr (hold_hok w) (N:=w.now.length) (fr:=fr) (mo:=mo) (f:=9) (d:=1) (s:=sc0) ht (by omega) (by omega) (by omega) rfl (by simp[sc0]) (by simp only[sc0];omega) (by simp[sc0])
   obtain ⟨t1,_⟩:=takesS_rise (fr:=fr) (mo:=mo) (s:=sc0) rfl hinc (by simp[sc0])
   have hsc:=takesS_scan (fr:=fr) (mo:=mo) (s:=sc0) rfl rfl rfl hinc (by simp[sc0])
   rw[if_neg (by rw[d4,t1];simp),d1,d2]
   have e1:=congrArg Prod.fst hsc
   have e2:=congrArg Prod.snd hsc
   dsimp only at e1 e2
   rw[e1,e2];rfl
def hSc (w:Wd) (fr:ByteArray) (mo:Int) (s:SC) (v:Nat):Heap:=[hB 4600304 [.o (.sl 1 (blD w.base)),.o (.sl 1 (blD w.now)),.o (.sl 1 (sl_ w.pages)),.n (.int .i64 w.root),.n (.int .i64 w.gen),.n (.str fr),.n (.int .i64 mo),.n (.int .i64 s.se),.row 4690001 v,.n (.str s.nx),.n (.bool s.full),.n (.bool s.bad)],hR 4690001 v 48 2 (psD s.out)]
theorem p62c (fr:ByteArray) (mo:Int) (s:SC) (v:Nat) (w:Wd) (hf:WFits w) (hp:w.pages.length=w.now.length) (block:Int) (root:Bool):Runs Fs2 62 [.ptr 4600304 0,.n (.int .i64 block),.n (.bool root)] (hSc w fr mo s v) (hVN (Hold w block root)) (hSc w fr mo s v):=by
 refine vc_look fs62 rfl (by kernel_rfl) ?_
 show Vc Fs2 c62.body (argsQ c62 [.ptr 4600304 0,.n (.int .i64 block),.n (.bool root)]) [(4600304,.box [.o (.sl 1 (blD w.base)),.o (.sl 1 (blD w.now)),.o (.sl 1 (sl_ w.pages)),.n (.int .i64 w.root),.n (.int .i64 w.gen),.n (.str fr),.n (.int .i64 mo),.n (.int .i64 s.se),.row 4690001 v,.n (.str s.nx),.n (.bool s.full),.n (.bool s.bad)]),(4690001,.row false false v 48 2 (psD s.out))] (endQH c62 [(4600304,.box [.o (.sl 1 (blD w.base)),.o (.sl 1 (blD w.now)),.o (.sl 1 (sl_ w.pages)),.n (.int .i64 w.root),.n (.int .i64 w.gen),.n (.str fr),.n (.int .i64 mo),.n (.int .i64 s.se),.row 4690001 v,.n (.str s.nx),.n (.bool s.full),.n (.bool s.bad)]),(4690001,.row false false v 48 2 (psD s.out))] _)
 rw[vc62c,(V62ce _ _ _ _ _ _ _ _ _ _ _ _ _ _ _ _).down,blD_len]
 refine sel_dec (fun h=>by rw[hold_no (.inl h)];exact ⟨rfl,rfl⟩) (fun h1=>sel_dec (fun h=>by rw[hold_no (.inr (.inl h))];exact ⟨rfl,rfl⟩) (fun h2 => ?_))
 have hi:block.toNat<w.now.length:=by omega
 have hj:block.toNat<w.pages.length:=by omega
 refine ⟨rfl,by omega,_,blD_at hi,_,rfl,?_⟩
 rw[←tr_at hi]
 refine sel_intro (fun h=>by rw[hold_no (.inr (.inr (.inr (by simpa using h))))];exact ⟨rfl,rfl⟩) (fun h4 => ?_)
 have h4:tr w.now block.toNat=true:=by simpa using h4
 rw[hold_go (by rw[h4];simp;omega)]
 refine ⟨rfl,by omega,_,sl_at hj,_,rfl,?_⟩
 rw[pgAt_get hj]
 have hsz:Small (pgAt w block).size:=by rw[←pgAt_get hj];exact hf.s _ (List.getElem_mem hj)
 refine ⟨rfl,?_⟩
 rcases getP_cases (pgAt w block) with ⟨e,he,h⟩|⟨k,g,b,h,hok,_⟩
 · have g1:=(p90_err _ hsz [1,2] e he h).up up2
   rw[h,hPage_err he]
   exact ⟨_,_,_,_,g1,sel_intro (fun _=>⟨rfl,rfl⟩) (fun h=>absurd (by simpa using h) he)⟩
 · have h53:=(p90_ok _ hsz [1,2] (by simp) k g b h).up up2
   rw[h,hPage_ok]
   by_cases hk:k∈[(1:Int),2]
   · rw[if_pos hk]at h53
     refine ⟨_,_,_,_,h53,sel_intro (fun h=>by cases h) (fun _=>sel_dec (fun hg=>by rw[if_pos hg];exact ⟨rfl,rfl⟩) (fun hg => ?_))⟩
     rw[if_neg hg]
     obtain ⟨_,_,_,_,hb⟩:=hok
     have g2:=p91 k b (by omega)
     refine ⟨_,_,_,_,_,g2,sel_intro (fun he=>by rw[if_pos (by simpa using he)];exact ⟨rfl,rfl⟩) (fun he => ?_)⟩
     have he:(NGet k b).2=0:=by simpa using he
     rw[if_neg (by rw[he];simp)]
     have hok2:=(nget_ok he).1
     refine ⟨_,p92 (NGet k b).1 root (ndOK_fits hok2).1,?_⟩
     by_cases hn:NdOK (NGet k b).1 root
     · rw[decide_eq_true hn,if_pos hn];exact ⟨rfl,rfl⟩
     · rw[decide_eq_false hn,if_neg hn];exact ⟨rfl,rfl⟩
   · rw[if_neg hk]at h53
     have hno:=kind_out hk b
     refine ⟨_,_,_,_,h53,sel_intro (fun _ => ?_) (fun h=>by cases h)⟩
     have:(if g > w.gen then none else if (NGet k b).2≠0 then none else if NdOK (NGet k b).1 root then some (NGet k b).1 else none)=(none:Option Nd):=by
       split
       · rfl
       · first | rfl|rw[if_pos hno]
     rw[this];exact ⟨rfl,rfl⟩
theorem last_at {out:List Pr} (h:0<out.length) (key:ByteArray):lastLt out key=lt (out[out.length - 1]'(by omega)).1 key:=by
 unfold lastLt
 rw[List.getLast?_eq_getElem?,List.getElem?_eq_getElem (by omega)]
theorem p96 (w:Wd) (fr:ByteArray) (mo:Int) (s:SC) (v:Nat) (key val:ByteArray) (hl:s.out.length≤256):∃v',Runs Fs2 96 [.ptr 4600304 0,.n (.str key),.n (.str val)] (hSc w fr mo s v) (.tup []) (hSc w fr mo (takeS fr mo s (key,val)) v'):=by
 have key':∃r H',Runs Fs2 96 [.ptr 4600304 0,.n (.str key),.n (.str val)] (hSc w fr mo s v) r H'∧r = .tup []∧∃v',H'=hSc w fr mo (takeS fr mo s (key,val)) v':=by
  refine vc_objs (R:=fun r H'=>r = .tup []∧∃v',H'=hSc w fr mo (takeS fr mo s (key,val)) v') fs96 rfl (by kernel_rfl) ?_
  show Vc Fs2 c96.body (argsQ c96 [.ptr 4600304 0,.n (.str key),.n (.str val)]) [(4600304,.box [.o (.sl 1 (blD w.base)),.o (.sl 1 (blD w.now)),.o (.sl 1 (sl_ w.pages)),.n (.int .i64 w.root),.n (.int .i64 w.gen),.n (.str fr),.n (.int .i64 mo),.n (.int .i64 s.se),.row 4690001 v,.n (.str s.nx),.n (.bool s.full),.n (.bool s.bad)]),(4690001,.row false false v 48 2 (psD s.out))] (endQH c96 [(4600304,.box [.o (.sl 1 (blD w.base)),.o (.sl 1 (blD w.now)),.o (.sl 1 (sl_ w.pages)),.n (.int .i64 w.root),.n (.int .i64 w.gen),.n (.str fr),.n (.int .i64 mo),.n (.int .i64 s.se),.row 4690001 v,.n (.str s.nx),.n (.bool s.full),.n (.bool s.bad)]),(4690001,.row false false v 48 2 (psD s.out))] _)
  rw[vc96h,(V96he _ _ _ _ _ _ _ _ _ _ _ _ _ _ _ _).down,psD_len]
  refine sel_intro (fun h=>⟨rfl,v,?_⟩) (fun hf => ?_)
  · rw[takeS,if_pos (.inl h)];rfl
  show sel (lt key fr) _ _
  refine sel_intro (fun h=>⟨rfl,v,?_⟩) (fun hfr=>⟨rfl,?_⟩)
  · rw[takeS,if_pos (.inr h)];rfl
  have hnot:¬(s.full=true∨lt (key,val).1 fr=true):=by rw[hf];simpa using hfr
  have rest:lastLt s.out key=true→sel ((s.out.length:Int)==mo)
      (AV.tup []=AV.tup []∧∃v',([hB 4600304 [.o (.sl 1 (blD w.base)),.o (.sl 1 (blD w.now)),.o (.sl 1 (sl_ w.pages)),.n (.int .i64 w.root),.n (.int .i64 w.gen),.n (.str fr),.n (.int .i64 mo),.n (.int .i64 s.se),.row 4690001 v,.n (.str key),.n (.bool true),.n (.bool s.bad)],hR 4690001 v 48 2 (psD s.out)]:Heap)=hSc w fr mo (takeS fr mo s (key,val)) v')
      ((rn 0)∧((rn 2)∨(@Eq LD [(Mir.D.rcd [(Mir.D.str key),(Mir.D.str val)])] []))∧(((rn v)∧(rn 48))∧(rn 2))∧(((s.out.length+(List.length [(Mir.D.rcd [(Mir.D.str key),(Mir.D.str val)])]))*32:Nat)≤140737488355328) ∧
        (AV.tup []=AV.tup []∧∃v',([hB 4600304 [.o (.sl 1 (blD w.base)),.o (.sl 1 (blD w.now)),.o (.sl 1 (sl_ w.pages)),.n (.int .i64 w.root),.n (.int .i64 w.gen),.n (.str fr),.n (.int .i64 mo),.n (.int .i64 s.se),.row 4690001 (v+1),.n (.str s.nx),.n (.bool s.full),.n (.bool s.bad)],hR 4690001 (v+1) 48 2 (psD s.out++[(Mir.D.rcd [(Mir.D.str key),(Mir.D.str val)])])]:Heap)=hSc w fr mo (takeS fr mo s (key,val)) v')):=fun hlast=>by
    refine sel_intro (fun h=>⟨rfl,v,?_⟩) (fun h=>⟨rfl,.inl rfl,⟨⟨rfl,rfl⟩,rfl⟩,by simp only[List.length_singleton];omega,rfl,v+1,?_⟩)
    · rw[takeS,if_neg hnot,if_neg (by rw[hlast];simp),if_pos (by simpa using h)];rfl
    · rw[takeS,if_neg hnot,if_neg (by rw[hlast];simp),if_neg (by simpa using h),psD_snoc];rfl
  refine sel_dec (fun hpos => ?_) (fun hpos=>⟨rfl,rest ?_⟩)
  · have hi:(IntKind.wrap .i64 ((s.out.length:Int) - 1)).toNat<s.out.length:=by rw[i64_in _ (by omega)];omega
    have e1:(IntKind.wrap .i64 ((s.out.length:Int) - 1)).toNat=s.out.length - 1:=by rw[i64_in _ (by omega)];omega
    refine ⟨⟨rfl,rfl⟩,by rw[i64_in _ (by omega)];omega,by rw[i64_in _ (by omega)];omega,⟨rfl,rfl⟩,_,psD_at hi,_,rfl,?_⟩
    have e2:lt (s.out[(IntKind.wrap .i64 ((s.out.length:Int) - 1)).toNat]'hi).1 key=lastLt s.out key:=by
      rw[last_at (by omega)];simp only[e1]
    show sel (!(lt (s.out[(IntKind.wrap .i64 ((s.out.length:Int) - 1)).toNat]'hi).1 key)) _ _
    rw[e2]
    refine sel_intro (fun h=>⟨rfl,v,?_⟩) (fun h=>⟨rfl,rest (by simpa using h)⟩)
    rw[takeS,if_neg hnot,if_pos (by simpa using h)];rfl
  · have:s.out=[]:=List.length_eq_zero_iff.1 (by omega)
    rw[this];rfl
 obtain ⟨r,H',hr,rfl,v',rfl⟩:=key'
 exact ⟨v',hr⟩
theorem p63i (n:Nd) (key:ByteArray) (hfit:NdFits n) (hs:Stands n) (hl:n.leaf=false):Runs Fs2 63 [ndV n,.n (.str key)] [] (.n (.int .i64 (kidI n key:Nat))) []:=by
 have g:=p63 n key hfit hs hl
 have e:((srch n.keys key:Nat):Int)+(if isAt n.keys key then 1 else 0)=(kidI n key:Nat):=by
  unfold kidI;split <;> simp
 rw[e]at g
 exact g
set_option maxRecDepth 10000 in
set_option maxHeartbeats 9200000 in
theorem p66 (w:Wd) (hf:WFits w) (hr:WRight w) (fr:ByteArray) (mo:Int) (hmo:0≤mo∧mo≤256):∀(f:Nat) (b d:Int) (s:SC) (v:Nat),d+f=10→1≤d→1≤f→SInv fr mo w.now.length s→s.bad=false →
   ∃v',Runs Fs2 66 [.ptr 4600304 0,.n (.int .i64 b),.n (.int .i64 d)] (hSc w fr mo s v) (.tup []) (hSc w fr mo (walkS (Hold w) w.now.length fr mo f b d s) v')
 | 0,b,d,s,v,_,_,hf1,_,_=>by omega
 | f+1,b,d,s,v,hdf,hd,_,hs,hb=>by
   have hn:=wr_now hr
   have hse:=hs.se
   have hse2:=hse.2 hb
   have hol:=hs.len
   have g28:=p62c fr mo { s with se:=s.se+1 } v w hf hr.2.1 b (d==1)
   have key:∃r H',Runs Fs2 66 [.ptr 4600304 0,.n (.int .i64 b),.n (.int .i64 d)] (hSc w fr mo s v) r H'∧r = .tup []∧∃v',H'=hSc w fr mo (walkS (Hold w) w.now.length fr mo (f+1) b d s) v':=by
    refine vc_objs (R:=fun r H'=>r = .tup []∧∃v',H'=hSc w fr mo (walkS (Hold w) w.now.length fr mo (f+1) b d s) v') fs66 rfl (by kernel_rfl) ?_
    show Vc Fs2 c66.body (argsQ c66 [.ptr 4600304 0,.n (.int .i64 b),.n (.int .i64 d)]) [(4600304,.box [.o (.sl 1 (blD w.base)),.o (.sl 1 (blD w.now)),.o (.sl 1 (sl_ w.pages)),.n (.int .i64 w.root),.n (.int .i64 w.gen),.n (.str fr),.n (.int .i64 mo),.n (.int .i64 s.se),.row 4690001 v,.n (.str s.nx),.n (.bool s.full),.n (.bool s.bad)]),(4690001,.row false false v 48 2 (psD s.out))] (endQH c66 [(4600304,.box [.o (.sl 1 (blD w.base)),.o (.sl 1 (blD w.now)),.o (.sl 1 (sl_ w.pages)),.n (.int .i64 w.root),.n (.int .i64 w.gen),.n (.str fr),.n (.int .i64 mo),.n (.int .i64 s.se),.row 4690001 v,.n (.str s.nx),.n (.bool s.full),.n (.bool s.bad)]),(4690001,.row false false v 48 2 (psD s.out))] _)
    rw[vc66h,(V66he _ _ _ _ _ _ _ _ _ _ _ _ _ _ _ _).down,i64_in (s.se+1) (by omega)]
    have bad:walkS (Hold w) w.now.length fr mo (f+1) b d s = { s with se:=s.se+1,bad:=true }→∃v',([hB 4600304 [.o (.sl 1 (blD w.base)),.o (.sl 1 (blD w.now)),.o (.sl 1 (sl_ w.pages)),.n (.int .i64 w.root),.n (.int .i64 w.gen),.n (.str fr),.n (.int .i64 mo),.n (.int .i64 (s.se+1)),.row 4690001 v,.n (.str s.nx),.n (.bool s.full),.n (.bool true)],hR 4690001 v 48 2 (psD s.out)]:Heap)=hSc w fr mo (walkS (Hold w) w.now.length fr mo (f+1) b d s) v':=fun e=>⟨v,by rw[e];rfl⟩
    cases hh:Hold w b (d==1) with
    | none=>
      rw[hh]at g28
      exact ⟨_,_,_,_,_,_,_,_,_,_,_,_,_,_,_,_,_,_,_,g28,sel_intro (fun _=>⟨rfl,bad (by rw[walkS,hh])⟩) (fun h=>by cases h)⟩
    | some n=>
      rw[hh]at g28
      have hok:=hold_ok hh
      have hk8:=hok.2.1
      have hfit:=(ndOK_fits hok).1
      have eq:walkS (Hold w) w.now.length fr mo (f+1) b d s=if d > 8∨s.se+1 > w.now.length then { s with se:=s.se+1,bad:=true }
        else if n.leaf then takesS fr mo { s with se:=s.se+1 } (n.keys.zip n.vals)
        else kidsS (fun c s=>walkS (Hold w) w.now.length fr mo f c (d+1) s) (n.kids.drop (kidI n fr)) { s with se:=s.se+1 }:=by
        rw[walkS,hh]
      refine ⟨_,_,_,_,_,_,_,_,_,_,_,_,_,_,_,_,_,_,_,g28,sel_intro (fun h=>by cases h) (fun _=>sel_dec (fun h=>⟨rfl,bad (by rw[eq,if_pos (.inl h)])⟩) (fun h8 => ?_))⟩
      rw[blD_len]
      refine sel_dec (fun h=>⟨rfl,bad (by rw[eq,if_pos (.inr h)])⟩) (fun hN => ?_)
      have hN:¬s.se+1 > (w.now.length:Int):=hN
      rw[if_neg (by omega)]at eq
      have hs1:SInv fr mo w.now.length { s with se:=s.se+1 }:=⟨hs.inc,hs.low,hs.len,hs.nx,hs.nf,by show 0≤s.se+1;omega,fun _=>by show s.se+1≤(w.now.length:Int);omega⟩
      rw[sl_len,il_len]
      cases hl:n.leaf with
      | true=>
        have hvl:n.vals.length=n.keys.length:=by
          rcases hok.1.2.2 with ⟨_,_,h,_⟩|⟨h,_⟩
          · exact h
          · rw[hl]at h;cases h
        rw[hl,if_pos rfl]at eq
        refine sel_intro (fun _ => ?_) (fun h=>by cases h)
        refine ⟨fun i S Q=>0≤i∧i≤n.keys.length∧∃(s':SC) (v':Nat),s'=takesS fr mo { s with se:=s.se+1 } ((n.keys.zip n.vals).take i.toNat)∧S=(blD w.base,blD w.now,sl_ w.pages,w.root,w.gen,fr,mo,s'.se,v',s'.nx,s'.full,s'.bad,())∧Q=(v',psD s'.out),fun i _ _=>(n.keys.length - i).toNat,⟨rfl,by omega,by omega,{ s with se:=s.se+1 },v,rfl,rfl,rfl⟩,?_⟩
        rintro i S Q ⟨h0,h1,s',v',hs',rfl,rfl⟩ _
        dsimp only
        refine sel_dec (fun hlt => ?_) (fun hge => ?_)
        · have hi:i.toNat<n.keys.length:=by omega
          have hv:i.toNat<n.vals.length:=by omega
          have hz:i.toNat<(n.keys.zip n.vals).length:=by rw[List.length_zip];omega
          have hi2:=takesS_inv (l:=(n.keys.zip n.vals).take i.toNat) hs1
          rw[←hs']at hi2
          have:=hi2.len
          obtain ⟨v'',g35⟩:=p96 w fr mo s' v' n.keys[i.toNat] n.vals[i.toNat] (by omega)
          refine ⟨rfl,h0,_,sl_at hi,_,rfl,rfl,h0,_,sl_at hv,_,rfl,_,_,_,_,_,_,_,_,_,_,_,_,_,_,g35,?_⟩
          repeat (refine And.intro rfl ?_)
          rw[i64_in _ (by omega)]
          refine ⟨⟨by omega,by omega,takeS fr mo s' (n.keys[i.toNat],n.vals[i.toNat]),v'',?_,rfl,rfl⟩,by first|omega|(dsimp only;omega)⟩
          rw[show (i+1).toNat=i.toNat+1 by omega,take_snoc hz,takesS_app,←hs',List.getElem_zip];rfl
        · refine ⟨rfl,v',?_⟩
          rw[List.take_of_length_le (by rw[List.length_zip];omega),←eq]at hs'
          rw[←hs'];rfl
      | false=>
        rw[hl,if_neg (by simp)]at eq
        have hk:=kid_lt hok.1 hl fr
        have h9:=(ndOK_fits hok).2.2.2
        have g29:=p63i n fr hfit hok.1 hl
        rw[ndV,hl]at g29
        refine sel_intro (fun h=>by cases h) (fun _=>⟨_,g29,?_⟩)
        refine ⟨fun i S Q=>0≤i∧i≤n.kids.length∧∃(s':SC) (v':Nat),SInv fr mo w.now.length s'∧S=(blD w.base,blD w.now,sl_ w.pages,w.root,w.gen,fr,mo,s'.se,v',s'.nx,s'.full,s'.bad,())∧Q=(v',psD s'.out)∧walkS (Hold w) w.now.length fr mo (f+1) b d s=kidsS (fun c s=>walkS (Hold w) w.now.length fr mo f c (d+1) s) (n.kids.drop i.toNat) s',fun i _ _=>(n.kids.length - i).toNat,
          ⟨rfl,by omega,by omega,{ s with se:=s.se+1 },v,hs1,rfl,rfl,eq⟩,?_⟩
        rintro i S Q ⟨h0,h1,s',v',hs',rfl,rfl,hinv⟩ _
        dsimp only
        rw[i64_in (d+1) (by omega),i64_in (i+1) (by omega)]
        refine sel_dec (fun hlt => ?_) (fun hge => ?_)
        · have hi:i.toNat<n.kids.length:=by omega
          rw[List.drop_eq_getElem_cons hi,kidsS]at hinv
          refine sel_intro (fun hfu=>sel_intro (fun hbd => ?_) (fun hbd => ?_)) (fun hfu => ?_)
          · have hfu:s'.full=false:=by simpa using hfu
            have hbd:s'.bad=false:=by simpa using hbd
            rw[if_neg (by rw[hfu,hbd];simp)]at hinv
            obtain ⟨v'',g⟩:=p66 w hf hr fr mo hmo f n.kids[i.toNat] (d+1) s' v' (by omega) (by omega) (by omega) hs' hbd
            refine ⟨rfl,h0,_,il_at hi,_,rfl,_,_,_,_,_,_,_,_,_,_,_,_,_,_,g,?_⟩
            repeat (refine And.intro rfl ?_)
            refine ⟨⟨by omega,by omega,_,v'',walkS_inv f _ (d+1) s' hs' hbd,rfl,rfl,?_⟩,by first|omega|(dsimp only;omega)⟩
            rw[hinv,show (i+1).toNat=i.toNat+1 by omega]
          · have hbd:s'.bad=true:=by simpa using hbd
            rw[if_pos (.inr hbd)]at hinv
            exact ⟨rfl,v',by rw[hinv];rfl⟩
          · have hfu:s'.full=true:=by simpa using hfu
            rw[if_pos (.inl hfu)]at hinv
            exact ⟨rfl,v',by rw[hinv];rfl⟩
        · rw[List.drop_of_length_le (by omega),kidsS]at hinv
          exact ⟨rfl,v',by rw[hinv];rfl⟩
   obtain ⟨r,H',hr',rfl,v',rfl⟩:=key
   exact ⟨v',hr'⟩
def scV (x:List Pr×ByteArray×Int):AV := .tup [.o (.sl 2 (psD x.1)),.n (.str x.2.1),.n (.int .i64 x.2.2)]
theorem p46 (w:Wd) (hf:WFits w) (fr:ByteArray) (mo:Int):Runs Fs2 46 [wdV w,.n (.str fr),.n (.int .i64 mo)] [] (scV (ScanW w fr mo)) []:=by
 have g24:=p48 w hf
 refine vc_eq fs46 rfl ?_
 rw[wdV,vc46,(V46e _ _ _ _ _ _ _ _).down]
 refine ⟨_,g24,?_⟩
 by_cases hr:WRight w
 · rw[decide_eq_true hr]
   refine sel_intro (fun h=>by cases h) (fun _=>sel_dec (fun h=>by rw[ScanW,if_pos (.inr (.inl (by omega)))];rfl) (fun h1=>sel_dec (fun h=>by rw[ScanW,if_pos (.inr (.inr (.inl h)))];rfl) (fun h2=>sel_dec (fun h=>by rw[ScanW,if_pos (.inr (.inr (.inr h)))];rfl) (fun h3 => ?_))))
   have hgo:ScanW w fr mo=if (if w.root=0 then sc0 else walkS (Hold w) w.now.length fr mo 9 w.root 1 sc0).bad=true then ([],empS,81) else ((if w.root=0 then sc0 else walkS (Hold w) w.now.length fr mo 9 w.root 1 sc0).out,(if w.root=0 then sc0 else walkS (Hold w) w.now.length fr mo 9 w.root 1 sc0).nx,0):=by
     rw[ScanW,if_neg (by
       rintro (h|h|h|h)
       · exact h hr
       · omega
       · omega
       · omega)]
   refine sel_intro (fun h => ?_) (fun h=>⟨rfl,?_⟩)
   · have h0:w.root≠0:=by simpa using h
     simp only[if_neg h0]at hgo
     obtain ⟨v',g⟩:=p66 w hf hr fr mo ⟨by omega,by omega⟩ 9 w.root 1 sc0 0 (by omega) (by omega) (by omega) (sc0_inv (by omega) (by omega)) rfl
     refine ⟨_,_,_,_,_,_,_,_,_,_,_,_,_,_,g,sel_intro (fun hb => ?_) (fun hb=>⟨rfl,?_⟩)⟩
     · rw[hgo,if_pos hb];rfl
     · rw[hgo,if_neg (by rw[hb];simp)];rfl
   · have h0:w.root=0:=by simpa using h
     simp only[if_pos h0]at hgo
     rw[hgo,if_neg (by simp[sc0])];rfl
 · rw[decide_eq_false hr]
   refine sel_intro (fun _ => ?_) (fun h=>by cases h)
   rw[ScanW,if_pos (.inl hr)];rfl
def filt (fr:ByteArray) (P:List Pr):List Pr:=P.filter fun p => !(lt p.1 fr)
def headK:List Pr→ByteArray
 | []=>empS
 | p :: _=>p.1
theorem scanR_eq {fr:ByteArray} {m:Nat}:∀ {P out:List Pr},out.length≤m→scanR fr m P out=(out++(filt fr P).take (m - out.length),headK ((filt fr P).drop (m - out.length)))
 | [],out,h=>by simp[scanR,filt,headK]
 | p :: P,out,h=>by
   rw[scanR]
   by_cases h1:lt p.1 fr=true
   · rw[if_pos h1,scanR_eq h]
     have:filt fr (p :: P)=filt fr P:=by rw[filt,List.filter_cons_of_neg (by rw[h1];simp)];rfl
     rw[this]
   · have h1:lt p.1 fr=false:=by simpa using h1
     have e:filt fr (p :: P)=p :: filt fr P:=by rw[filt,List.filter_cons_of_pos (by rw[h1];simp)];rfl
     rw[if_neg (by rw[h1];simp),e]
     by_cases h2:(out.length:Int)=m
     · rw[if_pos h2,show m - out.length=0 by omega];simp[headK]
     · rw[if_neg h2,scanR_eq (by simp;omega)]
       obtain ⟨k,hk⟩:∃k,m - out.length=k+1:=⟨m - out.length - 1,by omega⟩
       rw[hk,show m - (out++[p]).length=k by simp;omega]
       simp
theorem scanR_top (fr:ByteArray) (m:Nat) (P:List Pr):scanR fr m P []=((filt fr P).take m,headK ((filt fr P).drop m)):=by
 rw[scanR_eq (by simp)];simp
theorem filt_all (P:List Pr):filt empS P=P:=List.filter_eq_self.2 fun p _=>by rw[lt_nil];rfl
theorem filt_at {P:List Pr} (h:Inc P) {i:Nat} (hi:i<P.length):filt P[i].1 P=P.drop i:=by
 have e:P=P.take i++P.drop i:=(List.take_append_drop i P).symm
 have h2:Inc (P.take i++P.drop i):=by rw[←e];exact h
 have h3:=List.pairwise_append.1 h2
 have hd:=List.drop_eq_getElem_cons hi
 have hmem:P[i]∈P.drop i:=by rw[hd];exact List.mem_cons_self
 rw[show filt P[i].1 P=filt P[i].1 (P.take i++P.drop i) by rw[←e]]
 unfold filt
 rw[List.filter_append,List.filter_eq_nil_iff.2 (fun p hp=>by rw[h3.2.2 p hp _ hmem];simp),List.nil_append]
 refine List.filter_eq_self.2 fun p hp => ?_
 have h4:=h3.2.1
 rw[hd]at h4 hp
 rcases List.mem_cons.1 hp with rfl|hp
 · rw[lt_irr];rfl
 · rw[lt_asym ((List.pairwise_cons.1 h4).1 p hp)];rfl
def KSz (P:List Pr):Prop:=∀p∈P,1≤p.1.size∧p.1.size≤32
theorem KTr.ksz {R:Int→ByteArray→ByteArray→List Pr→List Int→Prop} (m:∀c lo hi P B,R c lo hi P B→KSz P):∀ {ks:List ByteArray} {cs:List Int} {lo hi:ByteArray} {P:List Pr} {B:List Int},
   KTr R lo hi ks cs P B→KSz P
 | [],[],_,_,_,_,h=>h.elim
 | [],[c],lo,hi,P,B,h=>m _ _ _ _ _ h
 | [],_ :: _ :: _,_,_,_,_,h=>h.elim
 | _ :: _,[],_,_,_,_,h=>h.elim
 | k :: ks,c :: cs,lo,hi,P,B,h=>by
   obtain ⟨P1,B1,P2,B2,h1,h2,rfl,rfl⟩:=h
   intro p hp
   rcases List.mem_append.1 hp with hp|hp
   · exact m _ _ _ _ _ h1 p hp
   · exact KTr.ksz m h2 p hp
theorem Tr.ksz {H:Hd} (ho:HOK H):∀ {h:Nat} {b:Int} {root:Bool} {lo hi:ByteArray} {P:List Pr} {B:List Int},Tr H h b root lo hi P B→KSz P
 | 0,_,_,_,_,_,_,h=>h.elim
 | h+1,b,root,lo,hi,P,B,ht=>by
   obtain ⟨n,hn,_,hh⟩:=ht
   rcases hh with ⟨_,_,_,rfl,_⟩|⟨_,C,rfl,h2⟩
   · intro p hp
     obtain ⟨i,hi,he⟩:=List.getElem_of_mem (zip_mem hp)
     have:=(ho _ _ _ hn).1.2.1 i hi hi
     rw[he]at this
     exact ⟨this.1,this.2.1⟩
   · exact KTr.ksz (fun c lo hi P B hc=>Tr.ksz ho hc) h2
theorem isTree_ksz {w:Wd} {h:Nat} {P:List Pr} {B:List Int} (ht:IsTree w h P B):KSz P:=by
 rcases ht with ⟨_,_,rfl,_⟩|⟨_,_,_,h3,_⟩
 · intro p hp;cases hp
 · exact h3.ksz (hold_hok w)
theorem isTree_inc {w:Wd} {h:Nat} {P:List Pr} {B:List Int} (ht:IsTree w h P B):Inc P:=by
 rcases ht with ⟨_,_,rfl,_⟩|⟨_,_,_,h3,_⟩
 · simp[Inc]
 · exact h3.inc (hold_hok w)
theorem isTree_len {w:Wd} (hn:w.now.length≤2048) {h:Nat} {P:List Pr} {B:List Int} (ht:IsTree w h P B):B.length≤w.now.length∧P.length≤9*B.length:=by
 have he:=tree_full ht
 have hi:=treeW_inv hn
 rw[he]at hi
 refine ⟨nodup_bound _ B hi.nd fun b hb => ?_,hi.ps⟩
 have:∃r n,Hold w b r=some n:=by
  rcases ht with ⟨_,_,_,rfl⟩|⟨_,_,_,h3,_⟩
  · cases hb
  · exact h3.held b hb
 obtain ⟨r,n,hh⟩:=this
 have:=hold_rg hn hh
 omega
theorem headK_nil {P:List Pr} (h:KSz P) (hk:headK P=empS):P=[]:=by
 cases P with
 | nil=>rfl
 | cons p r=>
   have:=(h p (by simp)).1
   rw[show p.1=empS from hk]at this
   exact absurd this (by decide)
end Go.Proofs.YtclgengkohbjjaaGreatDoor.M
