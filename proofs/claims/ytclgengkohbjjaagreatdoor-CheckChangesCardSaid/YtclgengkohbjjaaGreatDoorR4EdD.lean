import Derived.Test.YtclgengkohbjjaaGreatDoorR4Enc
namespace Go.Proofs.YtclgengkohbjjaaGreatDoor.M
set_option linter.unusedVariables false
set_option linter.unusedSimpArgs false
open Go Go.Mir
set_option linter.unusedVariables false
abbrev TR:=Int→ByteArray→ByteArray→List Pr→List Int→Prop
def KSeg (R:TR):ByteArray→ByteArray→List ByteArray→List Int→List Pr→List Int→Prop
 | lo,hi,[],[],P,B=>lo=hi∧P=[]∧B=[]
 | lo,hi,k :: ks,c :: cs,P,B=>∃P1 B1 P2 B2,R c lo k P1 B1∧KSeg R k hi ks cs P2 B2∧P=P1++P2∧B=B1++B2
 | _,_,_,_,_,_=>False
theorem ktr_split {R:TR}:∀ {i:Nat} {ks:List ByteArray} {cs:List Int} {lo hi:ByteArray} {P:List Pr} {B:List Int},KTr R lo hi ks cs P B→i≤ks.length →
   ∃mid P1 B1 P2 B2,KSeg R lo mid (ks.take i) (cs.take i) P1 B1∧KTr R mid hi (ks.drop i) (cs.drop i) P2 B2∧P=P1++P2∧B=B1++B2
 | 0,ks,cs,lo,hi,P,B,h,_=>⟨lo,[],[],P,B,by simp[KSeg],by simpa using h,rfl,rfl⟩
 | i+1,[],cs,_,_,_,_,h,hi=>by simp at hi
 | i+1,k :: ks,[],_,_,_,_,h,_=>h.elim
 | i+1,k :: ks,c :: cs,lo,hi,P,B,h,hle=>by
   obtain ⟨P1,B1,P2,B2,h1,h2,rfl,rfl⟩:=h
   obtain ⟨mid,Q1,C1,Q2,C2,g1,g2,rfl,rfl⟩:=ktr_split (i:=i) h2 (by simpa using hle)
   exact ⟨mid,P1++Q1,B1++C1,Q2,C2,⟨P1,B1,Q1,C1,h1,g1,rfl,rfl⟩,g2,by simp,by simp⟩
theorem ktr_join {R:TR}:∀ {ks1 ks2:List ByteArray} {cs1 cs2:List Int} {lo mid hi:ByteArray} {P1 P2:List Pr} {B1 B2:List Int},KSeg R lo mid ks1 cs1 P1 B1→KTr R mid hi ks2 cs2 P2 B2→KTr R lo hi (ks1++ks2) (cs1++cs2) (P1++P2) (B1++B2)
 | [],ks2,[],cs2,lo,mid,hi,P1,P2,B1,B2,h1,h2=>by
   obtain ⟨rfl,rfl,rfl⟩:=h1
   exact h2
 | [],_,_ :: _,_,_,_,_,_,_,_,_,h1,_=>h1.elim
 | _ :: _,_,[],_,_,_,_,_,_,_,_,h1,_=>h1.elim
 | k :: ks1,ks2,c :: cs1,cs2,lo,mid,hi,P1,P2,B1,B2,h1,h2=>by
   obtain ⟨Q1,C1,Q2,C2,g1,g2,rfl,rfl⟩:=h1
   exact ⟨Q1,C1,Q2++P2,C2++B2,g1,ktr_join g2 h2,by simp,by simp⟩
theorem kseg_mono {R S:TR}:∀ {ks:List ByteArray} {cs:List Int} {lo hi:ByteArray} {P:List Pr} {B:List Int},(∀c lo hi P B',(∀x∈B',x∈B)→R c lo hi P B'→S c lo hi P B')→KSeg R lo hi ks cs P B→KSeg S lo hi ks cs P B
 | [],[],_,_,_,_,_,h=>h
 | [],_ :: _,_,_,_,_,_,h=>h
 | _ :: _,[],_,_,_,_,_,h=>h
 | k :: ks,c :: cs,lo,hi,P,B,m,h=>by
   obtain ⟨P1,B1,P2,B2,h1,h2,rfl,rfl⟩:=h
   exact ⟨P1,B1,P2,B2,m _ _ _ _ _ (fun x hx=>List.mem_append_left _ hx) h1,kseg_mono (fun c lo hi P B' hB h=>m c lo hi P B' (fun x hx=>List.mem_append_right _ (hB x hx)) h) h2,rfl,rfl⟩
theorem ktr_len {R:TR}:∀ {ks:List ByteArray} {cs:List Int} {lo hi:ByteArray} {P:List Pr} {B:List Int},KTr R lo hi ks cs P B→cs.length=ks.length+1
 | [],[],_,_,_,_,h=>h.elim
 | [],[c],_,_,_,_,_=>rfl
 | [],_ :: _ :: _,_,_,_,_,h=>h.elim
 | _ :: _,[],_,_,_,_,h=>h.elim
 | k :: ks,c :: cs,lo,hi,P,B,h=>by
   obtain ⟨P1,B1,P2,B2,h1,h2,rfl,rfl⟩:=h
   simp[ktr_len h2]
theorem kseg_end {R:TR}:∀ {ks:List ByteArray} {cs:List Int} {lo hi:ByteArray} {P:List Pr} {B:List Int},KSeg R lo hi ks cs P B→hi=(ks.getLast?).getD lo
 | [],[],_,_,_,_,h=>h.1.symm
 | [],_ :: _,_,_,_,_,h=>h.elim
 | _ :: _,[],_,_,_,_,h=>h.elim
 | k :: ks,c :: cs,lo,hi,P,B,h=>by
   obtain ⟨P1,B1,P2,B2,h1,h2,rfl,rfl⟩:=h
   rw[kseg_end h2,List.getLast?_cons]
   cases ks.getLast? <;> rfl
theorem kseg_low {R:TR} (m:∀c lo hi P B,R c lo hi P B→∀p∈P,within p.1 lo hi=true):∀ {ks:List ByteArray} {cs:List Int} {lo hi:ByteArray} {P:List Pr} {B:List Int},Rise ks→(∀k∈ks,k≠empS)→KSeg R lo hi ks cs P B→∀p∈P,lt p.1 hi=true
 | [],[],_,_,_,_,_,_,h=>by obtain ⟨_,rfl,_⟩:=h;intro p hp;cases hp
 | [],_ :: _,_,_,_,_,_,_,h=>h.elim
 | _ :: _,[],_,_,_,_,_,_,h=>h.elim
 | k :: ks,c :: cs,lo,hi,P,B,hr,he,h=>by
   obtain ⟨P1,B1,P2,B2,h1,h2,rfl,rfl⟩:=h
   obtain ⟨r1,r2⟩:=List.pairwise_cons.1 hr
   intro p hp
   rcases List.mem_append.1 hp with hp|hp
   · have hpk:lt p.1 k=true:=by
       rcases (within_iff.1 (m _ _ _ _ _ h1 p hp)).2 with h|h
       · exact absurd h (he k (by simp))
       · exact h
     have hend:=kseg_end h2
     cases hx:ks.getLast? with
     | none=>rw[hx]at hend;rw[hend];exact hpk
     | some z=>
       rw[hx]at hend
       rw[hend]
       exact lt_trans hpk (r1 z (List.mem_of_getLast? hx))
   · exact kseg_low m r2 (fun k hk=>he k (List.mem_cons_of_mem _ hk)) h2 p hp
theorem kok_iff {l:List ByteArray}:KOK l ↔ (Rise l∧∀k∈l,1≤k.size∧k.size≤32):=by
 refine ⟨fun h=>⟨kok_rise h,kok_size h⟩,fun ⟨h1,h2⟩ j hj _ => ?_⟩
 have:=h2 _ (List.getElem_mem hj)
 exact ⟨this.1,this.2,fun h0=>List.pairwise_iff_getElem.1 h1 (j - 1) j (by omega) hj (by omega)⟩
def insAt {α:Type} (l:List α) (i:Nat) (x:α):List α:=l.take i++x :: l.drop i
theorem insAt_len {α:Type} {l:List α} {i:Nat} (x:α) (h:i≤l.length):(insAt l i x).length=l.length+1:=by
 simp[insAt];omega
theorem insAt_mem {α:Type} {l:List α} {i:Nat} {x y:α}:y∈insAt l i x ↔ y=x∨y∈l:=by
 have e:y∈l ↔ y∈l.take i∨y∈l.drop i:=by rw[←List.mem_append,List.take_append_drop]
 unfold insAt
 rw[List.mem_append,List.mem_cons,e]
 constructor
 · rintro (h|h|h)
   · exact .inr (.inl h)
   · exact .inl h
   · exact .inr (.inr h)
 · rintro (h|h|h)
   · exact .inr (.inl h)
   · exact .inl h
   · exact .inr (.inr h)
theorem rise_ins {l:List ByteArray} {i:Nat} {x:ByteArray} (h:Rise l) (h1:∀k∈l.take i,lt k x=true) (h2:∀k∈l.drop i,lt x k=true):Rise (insAt l i x):=by
 have e:Rise (l.take i++l.drop i):=by rw[List.take_append_drop];exact h
 obtain ⟨a,b,c⟩:=List.pairwise_append.1 e
 refine List.pairwise_append.2 ⟨a,List.pairwise_cons.2 ⟨h2,b⟩,fun p hp q hq => ?_⟩
 rcases List.mem_cons.1 hq with rfl|hq
 · exact h1 p hp
 · exact c p hp q hq
theorem take_mem {α:Type} {l:List α} {i:Nat} {x:α} (h:x∈l.take i):∃(j:Nat) (hj:j<l.length),j<i∧l[j]=x:=by
 obtain ⟨j,hj,rfl⟩:=List.getElem_of_mem h
 rw[List.length_take]at hj
 exact ⟨j,by omega,by omega,by simp⟩
theorem drop_mem {α:Type} {l:List α} {i:Nat} {x:α} (h:x∈l.drop i):∃(j:Nat) (hj:j<l.length),i≤j∧l[j]=x:=by
 obtain ⟨j,hj,rfl⟩:=List.getElem_of_mem h
 rw[List.length_drop]at hj
 exact ⟨i+j,by omega,by omega,by simp⟩
theorem srch_take {l:List ByteArray} {x:ByteArray}:∀k∈l.take (srch l x),lt k x=true:=fun k hk=>by
 obtain ⟨j,hj,hjs,rfl⟩:=take_mem hk
 exact (srch_at l x).2.1 j hj hjs
theorem srch_drop {l:List ByteArray} {x:ByteArray} (h:Rise l) (hn:isAt l x=false):∀k∈l.drop (srch l x),lt x k=true:=fun k hk=>by
 obtain ⟨j,hj,hjs,rfl⟩:=drop_mem hk
 have h0:srch l x<l.length:=by omega
 have h1:=(srch_at l x).2.2 h0
 have hne:l[srch l x]≠x:=fun e=>by
   rw[isAt,List.getElem?_eq_getElem h0,e]at hn
   simp at hn
 have h2:lt x l[srch l x]=true:=by
   rcases nlt_iff.1 h1 with e|e
   · exact absurd e hne
   · exact e
 by_cases e:j=srch l x
 · subst e;exact h2
 · exact lt_trans h2 (List.pairwise_iff_getElem.1 h _ _ h0 hj (by omega))
theorem kidOf_take {l:List ByteArray} {x:ByteArray}:∀k∈l.take (kidOf l x),lt x k=false:=by
 induction l with
 | nil=>intro k hk;cases hk
 | cons y r ih=>
   intro k hk
   unfold kidOf at hk
   split at hk
   · cases hk
   · rename_i hy
     rw[List.take_succ_cons]at hk
     rcases List.mem_cons.1 hk with rfl|hk
     · simpa using hy
     · exact ih k hk
theorem kidOf_drop {l:List ByteArray} {x:ByteArray} (h:Rise l):∀k∈l.drop (kidOf l x),lt x k=true:=by
 induction l with
 | nil=>intro k hk;simp[kidOf]at hk
 | cons y r ih=>
   obtain ⟨h1,h2⟩:=List.pairwise_cons.1 h
   intro k hk
   unfold kidOf at hk
   split at hk
   · rename_i hy
     rw[List.drop_zero]at hk
     rcases List.mem_cons.1 hk with rfl|hk
     · exact hy
     · exact lt_trans hy (h1 k hk)
   · rw[List.drop_succ_cons]at hk
     exact ih h2 k hk
def withP (key val:ByteArray) (P:List Pr):List Pr:=P.filter (fun p=>lt p.1 key)++(key,val) :: P.filter (fun p=>lt key p.1)
def wioP (key:ByteArray) (P:List Pr):List Pr:=P.filter (fun p=>lt p.1 key)++P.filter (fun p=>lt key p.1)
theorem filt_lo {key:ByteArray} {P:List Pr} (h:∀p∈P,lt p.1 key=true):P.filter (fun p=>lt p.1 key)=P∧P.filter (fun p=>lt key p.1)=[]:=
 ⟨List.filter_eq_self.2 h,List.filter_eq_nil_iff.2 fun p hp=>by rw[lt_asym (h p hp)];simp⟩
theorem filt_hi {key:ByteArray} {P:List Pr} (h:∀p∈P,lt key p.1=true):P.filter (fun p=>lt p.1 key)=[]∧P.filter (fun p=>lt key p.1)=P:=
 ⟨List.filter_eq_nil_iff.2 fun p hp=>by rw[lt_asym (h p hp)];simp,List.filter_eq_self.2 h⟩
theorem withP_mid {key val:ByteArray} {P1 P2 P3:List Pr} (h1:∀p∈P1,lt p.1 key=true) (h3:∀p∈P3,lt key p.1=true):withP key val (P1++(P2++P3))=P1++(withP key val P2++P3):=by
 unfold withP
 rw[List.filter_append,List.filter_append,List.filter_append,List.filter_append,(filt_lo h1).1,(filt_lo h1).2,(filt_hi h3).1,(filt_hi h3).2]
 simp
theorem wioP_mid {key:ByteArray} {P1 P2 P3:List Pr} (h1:∀p∈P1,lt p.1 key=true) (h3:∀p∈P3,lt key p.1=true):wioP key (P1++(P2++P3))=P1++(wioP key P2++P3):=by
 unfold wioP
 rw[List.filter_append,List.filter_append,List.filter_append,List.filter_append,(filt_lo h1).1,(filt_lo h1).2,(filt_hi h3).1,(filt_hi h3).2]
 simp
theorem zip_ins {ks vs:List ByteArray} {i:Nat} {k v:ByteArray} (hl:vs.length=ks.length) (hi:i≤ks.length):(insAt ks i k).zip (insAt vs i v)=(ks.take i).zip (vs.take i)++(k,v) :: (ks.drop i).zip (vs.drop i):=by
 unfold insAt
 rw[List.zip_append (by simp;omega),List.zip_cons_cons]
theorem zip_split {ks vs:List ByteArray} (i:Nat) (hl:vs.length=ks.length):ks.zip vs=(ks.take i).zip (vs.take i)++(ks.drop i).zip (vs.drop i):=by
 rw[←List.zip_append (by simp;omega),List.take_append_drop,List.take_append_drop]
theorem zip_fst {ks vs:List ByteArray} {p:Pr} (h:p∈ks.zip vs):p.1∈ks:=(List.of_mem_zip (a:=p.1) (b:=p.2) h).1
theorem leaf_ins {ks vs:List ByteArray} {key val:ByteArray} (hr:Rise ks) (hl:vs.length=ks.length) (hn:isAt ks key=false):(insAt ks (srch ks key) key).zip (insAt vs (srch ks key) val)=withP key val (ks.zip vs):=by
 have hi:=srch_le ks key
 rw[zip_ins hl hi,withP,zip_split (srch ks key) hl]
 have h1:∀p∈(ks.take (srch ks key)).zip (vs.take (srch ks key)),lt p.1 key=true:=fun p hp=>srch_take _ (zip_fst hp)
 have h2:∀p∈(ks.drop (srch ks key)).zip (vs.drop (srch ks key)),lt key p.1=true:=fun p hp=>srch_drop hr hn _ (zip_fst hp)
 rw[List.filter_append,List.filter_append,(filt_lo h1).1,(filt_lo h1).2,(filt_hi h2).1,(filt_hi h2).2]
 simp
theorem at_eq {ks:List ByteArray} {key:ByteArray} (h:isAt ks key=true):∃hi:srch ks key<ks.length,ks[srch ks key]=key:=by
 have:=of_decide_eq_true h
 obtain ⟨h2,h3⟩:=List.getElem?_eq_some_iff.1 this
 exact ⟨h2,h3⟩
theorem drop_at {ks:List ByteArray} {key:ByteArray} (hr:Rise ks) (h:isAt ks key=true):ks.drop (srch ks key)=key :: ks.drop (srch ks key+1)∧∀k∈ks.drop (srch ks key+1),lt key k=true:=by
 obtain ⟨hi,he⟩:=at_eq h
 refine ⟨by rw[List.drop_eq_getElem_cons hi,he],fun k hk => ?_⟩
 obtain ⟨j,hj,hjs,rfl⟩:=drop_mem hk
 have:=List.pairwise_iff_getElem.1 hr _ _ hi hj (by omega)
 rw[he]at this;exact this
theorem leaf_set {ks vs:List ByteArray} {key val:ByteArray} (hr:Rise ks) (hl:vs.length=ks.length) (hn:isAt ks key=true):ks.zip (vs.set (srch ks key) val)=withP key val (ks.zip vs):=by
 obtain ⟨hi,he⟩:=at_eq hn
 obtain ⟨hd,hg⟩:=drop_at hr hn
 have hvi:srch ks key<vs.length:=by omega
 have h1:∀p∈(ks.take (srch ks key)).zip (vs.take (srch ks key)),lt p.1 key=true:=fun p hp=>srch_take _ (zip_fst hp)
 have h2:∀p∈(ks.drop (srch ks key+1)).zip (vs.drop (srch ks key+1)),lt key p.1=true:=fun p hp=>hg _ (zip_fst hp)
 rw[withP,zip_split (srch ks key) hl,zip_split (vs:=vs.set (srch ks key) val) (srch ks key) (by simpa using hl),hd,List.drop_eq_getElem_cons hvi,List.drop_eq_getElem_cons (show srch ks key<(vs.set (srch ks key) val).length by simpa using hvi)]
 simp only[List.zip_cons_cons,List.getElem_set_self,List.take_set_of_le (Nat.le_refl _),List.drop_set_of_lt (Nat.lt_succ_self _)]
 rw[List.filter_append,List.filter_append,(filt_lo h1).1,(filt_lo h1).2]
 have h3:lt key key=false:=lt_irr key
 simp only[List.filter_cons,h3,(filt_hi h2).1,(filt_hi h2).2]
 simp
def delAt {α:Type} (l:List α) (i:Nat):List α:=l.take i++l.drop (i+1)
theorem leaf_del {ks vs:List ByteArray} {key:ByteArray} (hr:Rise ks) (hl:vs.length=ks.length) (hn:isAt ks key=true):(delAt ks (srch ks key)).zip (delAt vs (srch ks key))=wioP key (ks.zip vs):=by
 obtain ⟨hi,he⟩:=at_eq hn
 obtain ⟨hd,hg⟩:=drop_at hr hn
 have hvi:srch ks key<vs.length:=by omega
 have h1:∀p∈(ks.take (srch ks key)).zip (vs.take (srch ks key)),lt p.1 key=true:=fun p hp=>srch_take _ (zip_fst hp)
 have h2:∀p∈(ks.drop (srch ks key+1)).zip (vs.drop (srch ks key+1)),lt key p.1=true:=fun p hp=>hg _ (zip_fst hp)
 rw[wioP,zip_split (srch ks key) hl,hd,List.drop_eq_getElem_cons hvi,delAt,delAt,List.zip_append (by simp;omega),List.zip_cons_cons]
 rw[List.filter_append,List.filter_append,(filt_lo h1).1,(filt_lo h1).2]
 have h3:lt key key=false:=lt_irr key
 simp only[List.filter_cons,h3,(filt_hi h2).1,(filt_hi h2).2]
 simp
theorem delAt_len {α:Type} {l:List α} {i:Nat} (h:i<l.length):(delAt l i).length+1=l.length:=by
 simp[delAt];omega
theorem delAt_mem {α:Type} {l:List α} {i:Nat} {x:α} (h:x∈delAt l i):x∈l:=by
 rcases List.mem_append.1 h with h|h
 · exact List.mem_of_mem_take h
 · exact List.mem_of_mem_drop h
theorem rise_del {l:List ByteArray} (i:Nat) (h:Rise l):Rise (delAt l i):=by
 have e:Rise (l.take i++l.drop i):=by rw[List.take_append_drop];exact h
 obtain ⟨a,b,c⟩:=List.pairwise_append.1 e
 have hsub:∀x∈l.drop (i+1),x∈l.drop i:=fun x hx=>by
  rw[←List.drop_drop]at hx;exact List.mem_of_mem_drop hx
 refine List.pairwise_append.2 ⟨a,?_,fun p hp q hq=>c p hp q (hsub q hq)⟩
 rw[←List.drop_drop];exact b.drop
def freeAt (w:Wd) (i:Nat):Bool := !(tr w.base i) && !(tr w.now i)
def cntUp (w:Wd):Nat→Nat
 | 0=>0
 | i+1=>cntUp w i+if freeAt w i then 1 else 0
def cnt (w:Wd):Nat:=cntUp w w.now.length
def ffUp (w:Wd):Nat→Option Nat
 | 0=>none
 | i+1=>match ffUp w i with
   | some j=>some j
   | none=>if freeAt w i then some i else none
def firstFree (w:Wd):Option Nat:=ffUp w w.now.length
theorem ffUp_some {w:Wd}:∀ {i j:Nat},ffUp w i=some j→j<i∧freeAt w j=true∧∀k,k<j→freeAt w k=false
 | 0,j,h=>by cases h
 | i+1,j,h=>by
   unfold ffUp at h
   cases hx:ffUp w i with
   | some k=>
     rw[hx]at h
     obtain rfl:k=j:=by simpa using h
     obtain ⟨h1,h2,h3⟩:=ffUp_some hx
     exact ⟨by omega,h2,h3⟩
   | none=>
     rw[hx]at h
     dsimp only at h
     split at h
     · rename_i hf
       obtain rfl:i=j:=by simpa using h
       refine ⟨by omega,hf,fun k hk => ?_⟩
       have hn:∀(m:Nat),ffUp w m=none→∀k,k<m→freeAt w k=false:=fun m=>by
        induction m with
        | zero=>intro _ k hk;omega
        | succ m ih=>
          intro hm k hk
          unfold ffUp at hm
          cases hy:ffUp w m with
          | some z=>rw[hy]at hm;cases hm
          | none=>
            rw[hy]at hm
            dsimp only at hm
            split at hm
            · cases hm
            · rename_i hg
              by_cases e:k=m
              · subst e;simpa using hg
              · exact ih hy k (by omega)
       exact hn i hx k hk
     · cases h
theorem ffUp_none {w:Wd}:∀ {i:Nat},ffUp w i=none→∀k,k<i→freeAt w k=false
 | 0,_,k,hk=>by omega
 | i+1,h,k,hk=>by
   unfold ffUp at h
   cases hx:ffUp w i with
   | some z=>rw[hx]at h;cases h
   | none=>
     rw[hx]at h
     dsimp only at h
     split at h
     · cases h
     · rename_i hg
       by_cases e:k=i
       · subst e;simpa using hg
       · exact ffUp_none hx k (by omega)
theorem cntUp_zero {w:Wd}:∀ {i:Nat},(∀k,k<i→freeAt w k=false)→cntUp w i=0
 | 0,_=>rfl
 | i+1,h=>by
   rw[cntUp,cntUp_zero fun k hk=>h k (by omega),h i (by omega)];rfl
theorem cnt_none {w:Wd} (h:firstFree w=none):cnt w=0:=cntUp_zero (ffUp_none h)
theorem cntUp_less {w x:Wd} {b:Nat} (h:∀j,j≠b→freeAt w j=freeAt x j):∀i,cntUp w i≤cntUp x i+if b<i then 1 else 0
 | 0=>by simp[cntUp]
 | i+1=>by
   have ih:=cntUp_less h i
   unfold cntUp
   by_cases e:i=b
   · subst e
     rw[if_neg (by omega)]at ih
     rw[if_pos (show i<i+1 by omega)]
     split <;> split <;> omega
   · rw[h i e]
     by_cases hb:b<i
     · rw[if_pos hb]at ih
       rw[if_pos (show b<i+1 by omega)]
       omega
     · rw[if_neg hb]at ih
       rw[if_neg (show ¬b<i+1 by omega)]
       omega
theorem cntUp_more {w x:Wd} (h:∀j,freeAt w j=true→freeAt x j=true):∀i,cntUp w i≤cntUp x i
 | 0=>Nat.le_refl _
 | i+1=>by
   have ih:=cntUp_more h i
   unfold cntUp
   by_cases hf:freeAt w i=true
   · rw[hf,h i hf];simp;omega
   · rw[if_neg hf];omega
structure Fr (w x:Wd) (O N W:List Int):Prop where
 base:x.base=w.base
 gen:x.gen=w.gen
 root:x.root=w.root
 nlen:x.now.length=w.now.length
 plen:x.pages.length=w.pages.length
 now:∀i:Nat,i<w.now.length→tr x.now i=((tr w.now i && !decide ((i:Int)∈O))||decide ((i:Int)∈N))
 page:∀b:Int,0≤b→b∉W→pgAt x b=pgAt w b
 wr:∀b∈W,b∈N∧10≤b∧b<w.now.length∧tr w.base b.toNat=false∧(b∈O∨tr w.now b.toNat=false)∧∃n,NdOK n true∧pgAt x b=pageB w.gen n
 kept:∀b∈N,b∈W∨b∈O
theorem Fr.refl (w:Wd):Fr w w [] [] []:=⟨rfl,rfl,rfl,rfl,rfl,fun i _=>by simp,fun _ _ _=>rfl,fun b h=>(by cases h),fun b h=>(by cases h)⟩
theorem Fr.trans {w x y:Wd} {O N W O' N' W':List Int} (h:Fr w x O N W) (g:Fr x y O' N' W') (hd:∀b∈N,b∉O'):Fr w y (O++O') (N++N') (W++W') where
 base:=g.base.trans h.base
 gen:=g.gen.trans h.gen
 root:=g.root.trans h.root
 nlen:=g.nlen.trans h.nlen
 plen:=g.plen.trans h.plen
 now i hi:=by
  rw[g.now i (by rw[h.nlen];exact hi),h.now i hi]
  simp only[List.mem_append]
  by_cases hN:(i:Int)∈N
  · have:=hd _ hN
    simp[hN,this]
  · by_cases h1:(i:Int)∈O <;> by_cases h2:(i:Int)∈O' <;> by_cases h3:(i:Int)∈N' <;> simp[hN,h1,h2,h3]
 page b hb hn:=by
  rw[List.mem_append]at hn
  rw[g.page b hb fun e=>hn (.inr e),h.page b hb fun e=>hn (.inl e)]
 wr b hb:=by
  rw[List.mem_append]at hb
  by_cases h2:b∈W'
  · obtain ⟨a1,a2,a3,a4,a5,n,a6,a7⟩:=g.wr b h2
    rw[h.nlen]at a3
    refine ⟨List.mem_append_right _ a1,a2,a3,by rw[←h.base];exact a4,?_,n,a6,by rw[a7,h.gen]⟩
    rcases a5 with a5|a5
    · exact .inl (List.mem_append_right _ a5)
    · rw[h.now b.toNat (by omega),show ((b.toNat:Nat):Int)=b by omega]at a5
      simp only[Bool.or_eq_false_iff,Bool.and_eq_false_iff,Bool.not_eq_false',decide_eq_true_eq]at a5
      rcases a5.1 with a6|a6
      · exact .inr a6
      · exact .inl (List.mem_append_left _ a6)
  · have hb:=hb.resolve_right h2
    obtain ⟨a1,a2,a3,a4,a5,n,a6,a7⟩:=h.wr b hb
    refine ⟨List.mem_append_left _ a1,a2,a3,a4,?_,n,a6,by rw[g.page b (by omega) h2];exact a7⟩
    rcases a5 with a5|a5
    · exact .inl (List.mem_append_left _ a5)
    · exact .inr a5
 kept b hb:=by
  rcases List.mem_append.1 hb with hb|hb
  · rcases h.kept b hb with e|e
    · exact .inl (List.mem_append_left _ e)
    · exact .inr (List.mem_append_left _ e)
  · rcases g.kept b hb with e|e
    · exact .inl (List.mem_append_right _ e)
    · exact .inr (List.mem_append_right _ e)
theorem Fr.keep {w x:Wd} {O N W:List Int} (h:Fr w x O N W) (E:List Int) (hE:∀b∈E,tr w.now b.toNat=true∧b∉O∧0≤b):Fr w x (O++E) (N++E) W where
 base:=h.base
 gen:=h.gen
 root:=h.root
 nlen:=h.nlen
 plen:=h.plen
 now i hi:=by
  rw[h.now i hi]
  simp only[List.mem_append]
  by_cases h1:(i:Int)∈E
  · obtain ⟨a,b,_⟩:=hE _ h1
    rw[show (i:Int).toNat=i by omega]at a
    simp[h1,a,b]
  · simp[h1]
 page:=h.page
 wr b hb:=by
  obtain ⟨a1,a2,a3,a4,a5,a6⟩:=h.wr b hb
  refine ⟨List.mem_append_left _ a1,a2,a3,a4,?_,a6⟩
  rcases a5 with a5|a5
  · exact .inl (List.mem_append_left _ a5)
  · exact .inr a5
 kept b hb:=by
  rcases List.mem_append.1 hb with hb|hb
  · rcases h.kept b hb with e|e
    · exact .inl e
    · exact .inr (List.mem_append_left _ e)
  · exact .inr (List.mem_append_right _ hb)
theorem Fr.congr {w x:Wd} {O N W O' N':List Int} (h:Fr w x O N W) (hO:∀b,b∈O ↔ b∈O') (hN:∀b,b∈N ↔ b∈N'):Fr w x O' N' W where
 base:=h.base
 gen:=h.gen
 root:=h.root
 nlen:=h.nlen
 plen:=h.plen
 now i hi:=by
  rw[h.now i hi]
  simp only[hO,hN]
 page:=h.page
 wr b hb:=by
  obtain ⟨a1,a2,a3,a4,a5,a6⟩:=h.wr b hb
  exact ⟨(hN b).1 a1,a2,a3,a4,a5.imp (hO b).1 id,a6⟩
 kept b hb:=(h.kept b ((hN b).2 hb)).imp id (hO b).1
theorem Fr.hold {w x:Wd} {O N W:List Int} (h:Fr w x O N W) {b:Int} {r:Bool} {n:Nd} (hb:b∉O) (hh:Hold w b r=some n):Hold x b r=some n:=by
 have ht:=hold_tr hh
 have h0:10≤b∧b<w.now.length:=by
  unfold Hold at hh
  split at hh
  · cases hh
  · omega
 have hW:b∉W:=fun e=>by
  rcases (h.wr b e).2.2.2.2.1 with e2|e2
  · exact hb e2
  · rw[ht]at e2;cases e2
 have hnow:tr x.now b.toNat=true:=by
  rw[h.now b.toNat (by omega),show ((b.toNat:Nat):Int)=b by omega,ht]
  simp[hb]
 rw[←hh]
 unfold Hold
 rw[h.nlen,h.plen,hnow,ht,h.page b (by omega) hW,h.gen]
theorem Fr.used {w x:Wd} {O N W:List Int} (h:Fr w x O N W) {b:Int} (hb:b∈N) (h0:0≤b) (h1:b<w.now.length):tr x.now b.toNat=true:=by
 rw[h.now b.toNat (by omega),show ((b.toNat:Nat):Int)=b by omega]
 simp[hb]
theorem Fr.right {w x:Wd} {O N W:List Int} (h:Fr w x O N W) (hr:WRight w) (hO:∀b∈O,10≤b) (hs:∀s∈x.pages,s.size≤4096):WRight x:=by
 obtain ⟨⟨a1,a2,a3,a4⟩,a5,a6,a7,a8,a9⟩:=hr
 refine ⟨⟨by rw[h.base,h.nlen];exact a1,by rw[h.nlen];exact a2,by rw[h.nlen];exact a3,fun j hj=>⟨by rw[h.base];exact (a4 j hj).1,?_⟩⟩,by rw[h.plen,h.nlen];exact a5,by rw[h.gen];exact a6,by rw[h.gen];exact a7,by rw[h.root,h.nlen];exact a8,hs⟩
 rw[h.now j (by omega),(a4 j hj).2]
 have:(j:Int)∉O:=fun e=>by have:=hO _ e;omega
 simp[this]
structure Ed where
 w:Wd
 bad:Int
noncomputable def storeE (e:Ed) (n:Nd):Int×Ed:=
 if e.bad≠0 then (0,e) else if ¬NdOK n true then (0,{ e with bad:=81 }) else match firstFree e.w with
 | none=>(0,{ e with bad:=60 })
 | some b=>((b:Int),{ e with w := { e.w with now:=e.w.now.set b true,pages:=e.w.pages.set b (pageB e.w.gen n) } })
noncomputable def loadE (e:Ed) (b d:Int):Nd×Ed:=
 if e.bad≠0 then (nd0,e) else match Hold e.w b (d==1) with
 | none=>(nd0,{ e with bad:=81 })
 | some n=>if d > 8 then (nd0,{ e with bad:=81 }) else (n,e)
noncomputable def dropE (e:Ed) (b:Int):Ed:=
 if e.bad≠0 then e else if b<10∨b≥e.w.now.length∨tr e.w.now b.toNat=false then { e with bad:=81 } else { e with w := { e.w with now:=e.w.now.set b.toNat false } }
theorem tr_set {l:List Bool} {j:Nat} {v:Bool} (hj:j<l.length) (i:Nat):tr (l.set j v) i=if i=j then v else tr l i:=by
 unfold tr
 by_cases e:i=j
 · subst e;rw[if_pos rfl,List.getElem?_set_self hj];rfl
 · rw[if_neg e,List.getElem?_set_ne (fun h=>e h.symm)]
theorem pgAt_set {w:Wd} {j:Nat} {s:ByteArray} (hj:j<w.pages.length) (b:Int):pgAt { w with pages:=w.pages.set j s } b=if b.toNat=j then s else pgAt w b:=by
 unfold pgAt
 dsimp only
 by_cases e:b.toNat=j
 · rw[if_pos e,e,List.getElem?_set_self hj];rfl
 · rw[if_neg e,List.getElem?_set_ne (fun h=>e h.symm)]
theorem ndPage_size {n:Nd} (hok:NdOK n true) {g:Int} (h0:0≤g) (h1:g≤1099511627776):(pageB g n).size≤4096:=by
 rcases getP_cases (pageB g n) with ⟨e,he,h⟩|⟨k,g',b,h,_,hs,_⟩
 · rw[pageB,get_self (page_ok hok h0 h1)]at h
   simp[pErr,pg]at h
   exact absurd h.2.symm he
 · exact hs
theorem store_ok {e:Ed} {n:Nd} (he:e.bad=0) (hr:WRight e.w) (hok:NdOK n true):((storeE e n).2.bad=60∧cnt e.w=0∧(storeE e n).2.w=e.w) ∨
   ((storeE e n).2.bad=0∧WRight (storeE e n).2.w∧Fr e.w (storeE e n).2.w [] [(storeE e n).1] [(storeE e n).1]∧cnt e.w≤cnt (storeE e n).2.w+1∧tr e.w.now (storeE e n).1.toNat=false ∧
     ∀r,NdOK n r→Hold (storeE e n).2.w (storeE e n).1 r=some n):=by
 unfold storeE
 rw[if_neg (by rw[he];simp),if_neg (by simpa using hok)]
 cases hf:firstFree e.w with
 | none=>exact .inl ⟨rfl,cnt_none hf,rfl⟩
 | some b=>
   dsimp only
   obtain ⟨h1,h2,h3⟩:=ffUp_some hf
   obtain ⟨⟨a1,a2,a3,a4⟩,a5,a6,a7,a8,a9⟩:=id hr
   have hfb:tr e.w.base b=false∧tr e.w.now b=false:=by
     unfold freeAt at h2
     simpa using h2
   have h10:10≤b:=Classical.byContradiction fun hc=>by
     have:=(a4 b (by omega)).2
     rw[hfb.2]at this;cases this
   have hpb:b<e.w.pages.length:=by omega
   have hfr:Fr e.w { e.w with now:=e.w.now.set b true,pages:=e.w.pages.set b (pageB e.w.gen n) } [] [(b:Int)] [(b:Int)]:=by
     refine ⟨rfl,rfl,rfl,by simp,by simp,fun i hi => ?_,fun x hx hn => ?_,fun x hx => ?_,fun x hx => .inl hx⟩
     · dsimp only
       rw[tr_set h1]
       by_cases e1:i=b
       · simp[e1]
       · rw[if_neg e1]
         have:¬(i:Int)=b:=by omega
         simp[this]
     · have:x≠b:=by simpa using hn
       show pgAt { e.w with pages:=e.w.pages.set b (pageB e.w.gen n) } x=_
       rw[pgAt_set hpb,if_neg (by omega)]
     · obtain rfl:x=b:=by simpa using hx
       refine ⟨by simp,by omega,by omega,hfb.1,.inr hfb.2,n,hok,?_⟩
       show pgAt { e.w with pages:=e.w.pages.set b (pageB e.w.gen n) } (b:Int)=_
       rw[pgAt_set hpb,if_pos (by simp)]
   have hw:WRight { e.w with now:=e.w.now.set b true,pages:=e.w.pages.set b (pageB e.w.gen n) }:=by
     refine hfr.right hr (fun x hx=>by cases hx) fun s hs => ?_
     rcases List.mem_or_eq_of_mem_set hs with hs|rfl
     · exact a9 s hs
     · exact ndPage_size hok (by omega) a7
   refine .inr ⟨he,hw,hfr,?_,by simpa using hfb.2,fun r hnr => ?_⟩
   · have:=cntUp_less (w:=e.w) (x := { e.w with now:=e.w.now.set b true,pages:=e.w.pages.set b (pageB e.w.gen n) }) (b:=b) (fun j hj=>by
       unfold freeAt
       dsimp only
       rw[tr_set h1,if_neg hj]) e.w.now.length
     rw[if_pos h1]at this
     have hl:cnt { e.w with now:=e.w.now.set b true,pages:=e.w.pages.set b (pageB e.w.gen n) } = cntUp { e.w with now:=e.w.now.set b true,pages:=e.w.pages.set b (pageB e.w.gen n) } e.w.now.length:=by
       unfold cnt;simp
     rw[hl];exact this
   · refine hold_store hw (by omega) (by simp;omega) ?_ (g:=e.w.gen) ?_ (by omega) (Int.le_refl _) hnr
     · dsimp only
       rw[tr_set h1,if_pos (by simp)]
     · show pgAt { e.w with pages:=e.w.pages.set b (pageB e.w.gen n) } (b:Int)=_
       rw[pgAt_set hpb,if_pos (by simp)]
theorem drop_ok {e:Ed} {b:Int} {r:Bool} {n:Nd} (he:e.bad=0) (hr:WRight e.w) (hh:Hold e.w b r=some n):(dropE e b).bad=0∧WRight (dropE e b).w∧Fr e.w (dropE e b).w [b] [] []∧cnt e.w≤cnt (dropE e b).w:=by
 have ht:=hold_tr hh
 have hrg:=hold_rg (wr_now hr) hh
 have hbi:b.toNat<e.w.now.length:=by omega
 unfold dropE
 rw[if_neg (by rw[he];simp),if_neg (by rw[ht];simp;omega)]
 have hfr:Fr e.w { e.w with now:=e.w.now.set b.toNat false } [b] [] []:=by
   refine ⟨rfl,rfl,rfl,by simp,rfl,fun i hi => ?_,fun x hx hn=>rfl,fun x hx=>(by cases hx),fun x hx=>(by cases hx)⟩
   dsimp only
   rw[tr_set hbi]
   by_cases e1:i=b.toNat
   · have:(i:Int)=b:=by omega
     simp[e1,this]
     omega
   · rw[if_neg e1]
     have:(i:Int)≠b:=by omega
     simp[this]
 refine ⟨he,hfr.right hr (fun x hx => ?_) hr.2.2.2.2.2,hfr,?_⟩
 · obtain rfl:x=b:=by simpa using hx
   omega
 · have:=cntUp_more (w:=e.w) (x := { e.w with now:=e.w.now.set b.toNat false }) (fun j hj=>by
     unfold freeAt at hj ⊢
     dsimp only
     rw[tr_set hbi]
     split
     · simp only[Bool.and_eq_true]at hj
       rw[hj.1];rfl
     · exact hj) e.w.now.length
   have hl:cnt { e.w with now:=e.w.now.set b.toNat false } = cntUp { e.w with now:=e.w.now.set b.toNat false } e.w.now.length:=by
     unfold cnt;simp
   rw[hl];exact this
theorem set_split {α:Type} {l:List α} {i:Nat} (h:i<l.length) (x:α):l.set i x=l.take i++x :: l.drop (i+1):=by
 rw[List.set_eq_take_append_cons_drop,if_pos h]
theorem ins_set {α:Type} {l:List α} {i:Nat} (h:i<l.length) (x y:α):insAt (l.set i x) (i+1) y=l.take i++x :: y :: l.drop (i+1):=by
 have hl:(l.take i++[x]).length=i+1:=by rw[List.length_append,List.length_take];simp;omega
 have e:l.set i x=(l.take i++[x])++l.drop (i+1):=by rw[set_split h];simp
 rw[insAt,e,List.take_left' hl,List.drop_left' hl]
 simp
theorem kseg_ktr {R:TR} {k:ByteArray}:∀ {ks:List ByteArray} {cs:List Int} {lo hi:ByteArray} {P:List Pr} {B:List Int},KSeg R lo hi (ks++[k]) cs P B→hi=k∧KTr R lo k ks cs P B
 | [],[],_,_,_,_,h=>h.elim
 | [],[c],lo,hi,P,B,h=>by
   obtain ⟨P1,B1,P2,B2,h1,⟨rfl,rfl,rfl⟩,rfl,rfl⟩:=h
   exact ⟨rfl,by simpa[KTr] using h1⟩
 | [],c :: d :: cs,lo,hi,P,B,h=>by
   obtain ⟨P1,B1,P2,B2,h1,h2,_⟩:=h
   exact h2.elim
 | y :: ks,[],_,_,_,_,h=>h.elim
 | y :: ks,c :: cs,lo,hi,P,B,h=>by
   obtain ⟨P1,B1,P2,B2,h1,h2,rfl,rfl⟩:=h
   obtain ⟨e,h3⟩:=kseg_ktr (ks:=ks) h2
   exact ⟨e,P1,B1,P2,B2,h1,h3,rfl,rfl⟩
theorem ktr_at {R:TR} {key:ByteArray} (mw:∀c lo hi P B,R c lo hi P B→∀p∈P,within p.1 lo hi=true) {ks:List ByteArray} {cs:List Int} {lo hi:ByteArray} {P:List Pr} {B:List Int} (h:KTr R lo hi ks cs P B)
   (hr:Rise ks) (he:∀k∈ks,k≠empS) (hw:∀k∈ks,within k lo hi=true) (hk:within key lo hi=true):
   ∃c lo' hi' P1 P2 P3 B1 B2 B3,cs[kidOf ks key]?=some c∧R c lo' hi' P2 B2∧within key lo' hi'=true∧P=P1++(P2++P3)∧B=B1++(B2++B3)∧(∀p∈P1,lt p.1 key=true)∧(∀p∈P3,lt key p.1=true) ∧
     (∀s,lt lo' s=true→within s lo' hi'=true→(∀k∈ks.take (kidOf ks key),lt k s=true)∧(∀k∈ks.drop (kidOf ks key),lt s k=true)∧within s lo hi=true) ∧
     ∀S:TR,(∀c lo hi P B',(∀x∈B',x∈B1∨x∈B3)→R c lo hi P B'→S c lo hi P B') →
       (∀c' P' B',S c' lo' hi' P' B'→KTr S lo hi ks (cs.set (kidOf ks key) c') (P1++(P'++P3)) (B1++(B'++B3))) ∧
       (∀l r s Pl Bl Pr Br,S l lo' s Pl Bl→S r s hi' Pr Br→KTr S lo hi (insAt ks (kidOf ks key) s) (insAt (cs.set (kidOf ks key) l) (kidOf ks key+1) r) (P1++((Pl++Pr)++P3)) (B1++((Bl++Br)++B3))):=by
 have hlen:=ktr_len h
 have hle:=kidOf_le ks key
 obtain ⟨mid,P1,B1,PP,BB,s1,s2,rfl,rfl⟩:=ktr_split h hle
 have hend:=kseg_end s1
 have hic:kidOf ks key<cs.length:=by omega
 have ht:=kidOf_take (l:=ks) (x:=key)
 have hd:=kidOf_drop (x:=key) hr
 have hrs:Rise (ks.take (kidOf ks key)++ks.drop (kidOf ks key)):=by rw[List.take_append_drop];exact hr
 obtain ⟨ra,rb,rc⟩:=List.pairwise_append.1 hrs
 have hmid:lt key mid=false:=by
   rw[hend]
   cases hx:(ks.take (kidOf ks key)).getLast? with
   | none=>exact (within_iff.1 hk).1
   | some z=>exact ht z (List.mem_of_getLast? hx)
 have hlow:lt mid lo=false:=by
   rw[hend]
   cases hx:(ks.take (kidOf ks key)).getLast? with
   | none=>exact lt_irr lo
   | some z=>exact (within_iff.1 (hw z (List.mem_of_mem_take (List.mem_of_getLast? hx)))).1
 have hp1:∀p∈P1,lt p.1 key=true:=fun p hp=>lt_nlt (kseg_low mw ra (fun k hk=>he k (List.mem_of_mem_take hk)) s1 p hp) hmid
 have htk:∀s,lt mid s=true→∀k∈ks.take (kidOf ks key),lt k s=true:=fun s hs k hkm=>by
   cases hx:(ks.take (kidOf ks key)).getLast? with
   | none=>rw[List.getLast?_eq_none_iff.1 hx]at hkm;cases hkm
   | some z=>
     rw[hx]at hend
     obtain ⟨l',hl'⟩:=List.getLast?_eq_some_iff.1 hx
     have hz:mid=z:=hend
     rw[hl']at hkm ra
     rcases List.mem_append.1 hkm with h2|h2
     · exact lt_trans ((List.pairwise_append.1 ra).2.2 k h2 z (by simp)) (hz▸hs)
     · obtain rfl:k=z:=by simpa using h2
       exact hz▸hs
 have hget:cs[kidOf ks key]?=some cs[kidOf ks key]:=List.getElem?_eq_getElem hic
 have hcd:cs.drop (kidOf ks key)=cs[kidOf ks key] :: cs.drop (kidOf ks key+1):=List.drop_eq_getElem_cons hic
 rw[hcd]at s2
 cases hkd:ks.drop (kidOf ks key) with
 | nil=>
   rw[hkd]at s2
   have hcl:cs.drop (kidOf ks key+1)=[]:=by
     have:(ks.drop (kidOf ks key)).length=0:=by rw[hkd];rfl
     rw[List.length_drop]at this
     exact List.drop_of_length_le (by omega)
   rw[hcl]at s2
   have s2:R cs[kidOf ks key] mid hi PP BB:=s2
   have hks:ks.take (kidOf ks key)=ks:=by
     have:=List.take_append_drop (kidOf ks key) ks
     rw[hkd,List.append_nil]at this;exact this
   refine ⟨_,mid,hi,P1,PP,[],B1,BB,[],hget,s2,within_iff.2 ⟨hmid,(within_iff.1 hk).2⟩,by simp,by simp,hp1,by simp,fun s hs hws=>⟨htk s hs,by simp,within_low hws hlow⟩,fun S m=>⟨fun c' P' B' hc => ?_,fun l r s Pl Bl Pr Br hl hr' => ?_⟩⟩
   · have s1':=kseg_mono (S:=S) (fun c lo hi P B' hB hx=>m c lo hi P B' (fun x hx' => .inl (hB x hx')) hx) s1
     have:=ktr_join (ks2:=[]) (cs2:=[c']) s1' (show KTr S mid hi [] [c'] P' B' from hc)
     rw[set_split hic,hcl]
     rw[hks,List.append_nil]at this
     simpa using this
   · have s1':=kseg_mono (S:=S) (fun c lo hi P B' hB hx=>m c lo hi P B' (fun x hx' => .inl (hB x hx')) hx) s1
     have:=ktr_join (ks2:=[s]) (cs2:=[l,r]) s1' (show KTr S mid hi [s] [l,r] (Pl++Pr) (Bl++Br) from ⟨Pl,Bl,Pr,Br,hl,hr',rfl,rfl⟩)
     rw[ins_set hic,hcl,insAt,hkd]
     simpa using this
 | cons k ks3=>
   rw[hkd]at s2 rc rb hd
   obtain ⟨P2,B2,P3,B3,t1,t2,rfl,rfl⟩:=s2
   have hkin:k∈ks:=List.mem_of_mem_drop (i:=kidOf ks key) (by rw[hkd];simp)
   have hkk:lt key k=true:=hd k (by simp)
   have hkrest:=(List.pairwise_cons.1 rb)
   have hwk:=hw k hkin
   have hin:∀x∈ks3,within x k hi=true:=fun x hx=>within_iff.2 ⟨lt_asym (hkrest.1 x hx),(within_iff.1 (hw x (List.mem_of_mem_drop (i:=kidOf ks key) (by rw[hkd];simp[hx])))).2⟩
   have hp3:∀p∈P3,lt key p.1=true:=fun p hp=>by
     have:=KTr.within mw hkrest.2 (fun x hx=>he x (List.mem_of_mem_drop (i:=kidOf ks key) (by rw[hkd];simp[hx]))) hin t2 p hp
     exact lt_nlt hkk (within_iff.1 this).1
   refine ⟨_,mid,k,P1,P2,P3,B1,B2,B3,hget,t1,within_iff.2 ⟨hmid,.inr hkk⟩,rfl,rfl,hp1,hp3,fun s hs hws=>⟨htk s hs,fun x hx => ?_,?_⟩,fun S m=>⟨fun c' P' B' hc => ?_,fun l r s Pl Bl Pr Br hl hr' => ?_⟩⟩
   · have hsk:lt s k=true:=by
       rcases (within_iff.1 hws).2 with e|e
       · exact absurd e (he k hkin)
       · exact e
     rcases List.mem_cons.1 hx with rfl|hx
     · exact hsk
     · exact lt_trans hsk (hkrest.1 x hx)
   · exact within_high (within_low hws hlow) (he k hkin) hwk
   · have s1':=kseg_mono (S:=S) (fun c lo hi P B' hB hx=>m c lo hi P B' (fun x hx' => .inl (hB x hx')) hx) s1
     have t2':=KTr.mono (S:=S) (fun c lo hi P B' hB hx=>m c lo hi P B' (fun x hx' => .inr (hB x hx')) hx) t2
     have:=ktr_join (ks2:=k :: ks3) (cs2:=c' :: cs.drop (kidOf ks key+1)) s1' (show KTr S mid hi (k :: ks3) (c' :: cs.drop (kidOf ks key+1)) (P'++P3) (B'++B3) from ⟨P',B',P3,B3,hc,t2',rfl,rfl⟩)
     rw[set_split hic]
     rw[←hkd,List.take_append_drop]at this
     exact this
   · have s1':=kseg_mono (S:=S) (fun c lo hi P B' hB hx=>m c lo hi P B' (fun x hx' => .inl (hB x hx')) hx) s1
     have t2':=KTr.mono (S:=S) (fun c lo hi P B' hB hx=>m c lo hi P B' (fun x hx' => .inr (hB x hx')) hx) t2
     have:=ktr_join (ks2:=s :: k :: ks3) (cs2:=l :: r :: cs.drop (kidOf ks key+1)) s1' (show KTr S mid hi (s :: k :: ks3) (l :: r :: cs.drop (kidOf ks key+1)) ((Pl++Pr)++P3) ((Bl++Br)++B3) from ⟨Pl,Bl,Pr++P3,Br++B3,hl,⟨Pr,Br,P3,B3,hr',t2',rfl,rfl⟩,by simp,by simp⟩)
     rw[ins_set hic,insAt,hkd]
     exact this
def Cont (H:Hd) (h:Nat) (lo hi:ByteArray) (n:Nd) (P:List Pr) (B:List Int):Prop:=
 (∀k∈n.keys,within k lo hi=true)∧((n.leaf=true∧h=0∧n.keys≠[]∧P=n.keys.zip n.vals∧B=[])∨(n.leaf=false∧KTr (fun c lo hi P B=>Tr H h c false lo hi P B) lo hi n.keys n.kids P B))
theorem tr_of {H:Hd} {h:Nat} {b:Int} {root:Bool} {lo hi:ByteArray} {n:Nd} {P:List Pr} {B:List Int} (h1:H b root=some n) (h2:Cont H h lo hi n P B):Tr H (h+1) b root lo hi P (b :: B):=by
 obtain ⟨hw,⟨a1,a2,a3,a4,rfl⟩|⟨a1,a2⟩⟩:=h2
 · exact ⟨n,h1,hw,.inl ⟨a1,a2,a3,a4,rfl⟩⟩
 · exact ⟨n,h1,hw,.inr ⟨a1,B,rfl,a2⟩⟩
theorem tr_get {H:Hd} {h:Nat} {b:Int} {root:Bool} {lo hi:ByteArray} {P:List Pr} {B:List Int} (ht:Tr H (h+1) b root lo hi P B):∃n B0,H b root=some n∧Cont H h lo hi n P B0∧B=b :: B0:=by
 obtain ⟨n,hn,hw,⟨a1,a2,a3,a4,rfl⟩|⟨a1,B',rfl,a2⟩⟩:=ht
 · exact ⟨n,[],hn,⟨hw,.inl ⟨a1,a2,a3,a4,rfl⟩⟩,rfl⟩
 · exact ⟨n,B',hn,⟨hw,.inr ⟨a1,a2⟩⟩,rfl⟩
theorem Cont.frame {H G:Hd} {h:Nat} {lo hi:ByteArray} {n:Nd} {P:List Pr} {B:List Int} (hc:Cont H h lo hi n P B) (f:∀x∈B,∀r n,H x r=some n→G x r=some n):Cont G h lo hi n P B:=by
 obtain ⟨hw,a|⟨a1,a2⟩⟩:=hc
 · exact ⟨hw,.inl a⟩
 · exact ⟨hw,.inr ⟨a1,KTr.mono (fun c lo hi P B' hB hx=>Tr.frame (fun x hx'=>f x (hB x hx')) hx) a2⟩⟩
theorem Cont.held {H:Hd} {h:Nat} {lo hi:ByteArray} {n:Nd} {P:List Pr} {B:List Int} (hc:Cont H h lo hi n P B):∀x∈B,∃r n,H x r=some n:=by
 obtain ⟨_,⟨_,_,_,_,rfl⟩|⟨_,a2⟩⟩:=hc
 · intro x hx;cases hx
 · exact KTr.mem (Q:=fun x=>∃r n,H x r=some n) (fun c lo hi P B hc=>Tr.held hc) a2
structure Spl where
 left:Int
 right:Int
 key:ByteArray
 two:Bool
def spl0:Spl:=⟨0,0,empS,false⟩
def cutL (n:Nd):Nd:=if n.leaf then ⟨true,n.keys.take 4,n.vals.take 4,[]⟩ else ⟨false,n.keys.take 4,[],n.kids.take 5⟩
def cutR (n:Nd):Nd:=if n.leaf then ⟨true,n.keys.drop 4,n.vals.drop 4,[]⟩ else ⟨false,n.keys.drop 5,[],n.kids.drop 5⟩
def cutK (n:Nd):ByteArray:=(n.keys[4]?).getD empS
theorem rise_take {l:List ByteArray} (i:Nat) (h:Rise l):Rise (l.take i):=h.take
theorem rise_drop {l:List ByteArray} (i:Nat) (h:Rise l):Rise (l.drop i):=h.drop
theorem cut_ok {H:Hd} {h:Nat} {lo hi:ByteArray} {n:Nd} {P:List Pr} {B:List Int} (hs:Stands n) (h9:n.keys.length=9) (hc:Cont H h lo hi n P B):
   NdOK (cutL n) false∧NdOK (cutR n) false∧within (cutK n) lo hi=true∧lt lo (cutK n)=true∧1≤(cutK n).size∧(cutK n).size≤32 ∧
     ∃Pl Bl Pr Br,Cont H h lo (cutK n) (cutL n) Pl Bl∧Cont H h (cutK n) hi (cutR n) Pr Br∧P=Pl++Pr∧B=Bl++Br:=by
 obtain ⟨hw,hc⟩:=hc
 obtain ⟨_,hkk,hsv⟩:=hs
 obtain ⟨hr,hsz⟩:=kok_iff.1 hkk
 have i4:4<n.keys.length:=by omega
 have i3:3<n.keys.length:=by omega
 have ek:cutK n=n.keys[4]:=by rw[cutK,List.getElem?_eq_getElem i4];rfl
 have hk4:=hsz _ (List.getElem_mem i4)
 have hlt:lt lo n.keys[4]=true:=by
   have h3:=(within_iff.1 (hw _ (List.getElem_mem i3))).1
   exact nlt_lt h3 (List.pairwise_iff_getElem.1 hr 3 4 i3 i4 (by omega))
 have htake:∀k∈n.keys.take 4,within k lo n.keys[4]=true:=fun k hk=>by
   obtain ⟨j,hj,hjs,rfl⟩:=take_mem hk
   exact within_iff.2 ⟨(within_iff.1 (hw _ (List.getElem_mem hj))).1,.inr (List.pairwise_iff_getElem.1 hr j 4 hj i4 hjs)⟩
 have hdrop:∀i,4≤i→∀k∈n.keys.drop i,within k n.keys[4] hi=true:=fun i hi4 k hk=>by
   obtain ⟨j,hj,hjs,rfl⟩:=drop_mem hk
   refine within_iff.2 ⟨?_,(within_iff.1 (hw _ (List.getElem_mem hj))).2⟩
   by_cases e:j=4
   · subst e;exact lt_irr _
   · exact lt_asym (List.pairwise_iff_getElem.1 hr 4 j i4 hj (by omega))
 have kokT:∀i,KOK (n.keys.take i):=fun i=>kok_iff.2 ⟨rise_take i hr,fun k hk=>hsz k (List.mem_of_mem_take hk)⟩
 have kokD:∀i,KOK (n.keys.drop i):=fun i=>kok_iff.2 ⟨rise_drop i hr,fun k hk=>hsz k (List.mem_of_mem_drop hk)⟩
 rw[ek]
 cases hl:n.leaf with
 | true=>
   rcases hsv with ⟨_,v1,v2,v3⟩|⟨h,_⟩
   · have eL:cutL n=⟨true,n.keys.take 4,n.vals.take 4,[]⟩:=by rw[cutL,if_pos hl]
     have eR:cutR n=⟨true,n.keys.drop 4,n.vals.drop 4,[]⟩:=by rw[cutR,if_pos hl]
     rcases hc with ⟨_,c2,c3,c4,c5⟩|⟨h,_⟩
     · rw[eL,eR]
       refine ⟨⟨⟨by simp;omega,kokT 4,.inl ⟨rfl,rfl,by simp;omega,fun v hv=>v3 v (List.mem_of_mem_take hv)⟩⟩,by simp;omega,.inr (by simp;omega)⟩,⟨⟨by simp;omega,kokD 4,.inl ⟨rfl,rfl,by simp;omega,fun v hv=>v3 v (List.mem_of_mem_drop hv)⟩⟩,by simp;omega,.inr (by simp;omega)⟩,hw _ (List.getElem_mem i4),hlt,hk4.1,hk4.2,_,[],_,[],
         ⟨htake,.inl ⟨rfl,c2,fun e => ?_,rfl,rfl⟩⟩,⟨hdrop 4 (by omega),.inl ⟨rfl,c2,fun e => ?_,rfl,rfl⟩⟩,?_,by simpa using c5⟩
       · have:=congrArg List.length e
         rw[List.length_take,h9]at this;simp at this
       · have:=congrArg List.length e
         rw[List.length_drop,h9]at this;simp at this
       · rw[c4];exact zip_split 4 v2
     · rw[hl]at h;cases h
   · rw[hl]at h;cases h
 | false=>
   rcases hsv with ⟨h,_⟩|⟨_,v1,v2,v3,v4⟩
   · rw[hl]at h;cases h
   · have eL:cutL n=⟨false,n.keys.take 4,[],n.kids.take 5⟩:=by rw[cutL,if_neg (by rw[hl];simp)]
     have eR:cutR n=⟨false,n.keys.drop 5,[],n.kids.drop 5⟩:=by rw[cutR,if_neg (by rw[hl];simp)]
     rcases hc with ⟨h,_⟩|⟨_,c2⟩
     · rw[hl]at h;cases h
     · rw[eL,eR]
       obtain ⟨mid,P1,B1,P2,B2,s1,s2,rfl,rfl⟩:=ktr_split (i:=5) c2 (by omega)
       have e5:n.keys.take 5=n.keys.take 4++[n.keys[4]]:=take_snoc i4
       rw[e5]at s1
       obtain ⟨rfl,s3⟩:=kseg_ktr s1
       exact ⟨⟨⟨by simp;omega,kokT 4,.inr ⟨rfl,rfl,by simp;omega,by simp;omega,fun b hb=>v4 b (List.mem_of_mem_take hb)⟩⟩,by simp;omega,.inr (by simp;omega)⟩,⟨⟨by simp;omega,kokD 5,.inr ⟨rfl,rfl,by simp;omega,by simp;omega,fun b hb=>v4 b (List.mem_of_mem_drop hb)⟩⟩,by simp;omega,.inr (by simp;omega)⟩,hw _ (List.getElem_mem i4),hlt,hk4.1,hk4.2,P1,B1,P2,B2,
         ⟨htake,.inr ⟨rfl,s3⟩⟩,⟨hdrop 5 (by omega),.inr ⟨rfl,s2⟩⟩,rfl,rfl⟩
noncomputable def keepE (e:Ed) (n:Nd):Spl×Ed:=
 if n.keys.length≤8 then (⟨(storeE e n).1,0,empS,false⟩,(storeE e n).2)
 else if ¬(Stands n∧n.keys.length=9) then (spl0,{ e with bad:=81 })
 else (⟨(storeE e (cutL n)).1,(storeE (storeE e (cutL n)).2 (cutR n)).1,cutK n,true⟩,(storeE (storeE e (cutL n)).2 (cutR n)).2)
def SplOK (H:Hd) (h:Nat) (root:Bool) (lo hi:ByteArray) (s:Spl) (P:List Pr) (B:List Int):Prop:=
 (s.two=false∧Tr H h s.left root lo hi P B) ∨
 (s.two=true∧within s.key lo hi=true∧lt lo s.key=true∧1≤s.key.size∧s.key.size≤32∧∃Pl Bl Pr Br,Tr H h s.left false lo s.key Pl Bl∧Tr H h s.right false s.key hi Pr Br∧P=Pl++Pr∧B=Bl++Br)
theorem store_bad {e:Ed} {n:Nd} (he:e.bad≠0):storeE e n=(0,e):=by rw[storeE,if_pos he]
theorem ndok_up {n:Nd} {r:Bool} (h:NdOK n r):NdOK n true:=⟨h.1,h.2.1,.inl rfl⟩
theorem Fr.new {w x:Wd} {N W:List Int} (h:Fr w x [] N W) {b:Int} (hb:b∈W):tr w.now b.toNat=false:=by
 rcases (h.wr b hb).2.2.2.2.1 with e|e
 · cases e
 · exact e
theorem keep_ok {e:Ed} {n:Nd} {h:Nat} {root:Bool} {lo hi:ByteArray} {P:List Pr} {B0:List Int} (he:e.bad=0) (hr:WRight e.w) (hs:Stands n) (h9:n.keys.length≤9) (h4:root=true∨4≤n.keys.length)
   (hc:Cont (Hold e.w) h lo hi n P B0) (hu:B0.Nodup):
   ((keepE e n).2.bad=60∧cnt e.w<2)∨((keepE e n).2.bad=0∧WRight (keepE e n).2.w∧cnt e.w≤cnt (keepE e n).2.w+2∧∃B X,Fr e.w (keepE e n).2.w [] X X∧B.Nodup∧(∀b,b∈B ↔ b∈X∨b∈B0)∧SplOK (Hold (keepE e n).2.w) (h+1) root lo hi (keepE e n).1 P B):=by
 have hB0:∀x∈B0,tr e.w.now x.toNat=true:=fun x hx=>by
   obtain ⟨r,m,hm⟩:=hc.held x hx
   exact hold_tr hm
 unfold keepE
 by_cases h8:n.keys.length≤8
 · rw[if_pos h8]
   have hok:NdOK n root:=⟨hs,h8,h4⟩
   rcases store_ok he hr (ndok_up hok) with ⟨a1,a2,_⟩|⟨a1,a2,a3,a4,a5,a6⟩
   · exact .inl ⟨a1,by omega⟩
   · refine .inr ⟨a1,a2,by dsimp only;omega,(storeE e n).1 :: B0,[(storeE e n).1],a3,List.nodup_cons.2 ⟨fun hx => ?_,hu⟩,fun b=>by simp,.inl ⟨rfl,tr_of (a6 _ hok) (hc.frame fun x hx r m hm=>a3.hold (by simp) hm)⟩⟩
     rw[hB0 _ hx]at a5;cases a5
 · rw[if_neg h8,if_neg (by simp;exact ⟨hs,by omega⟩)]
   obtain ⟨k1,k2,k3,k4,k5,k6,Pl,Bl,Pr,Br,c1,c2,rfl,rfl⟩:=cut_ok hs (by omega) hc
   rcases store_ok he hr (ndok_up k1) with ⟨a1,a2,_⟩|⟨a1,a2,a3,a4,a5,a6⟩
   · rw[store_bad (e:=(storeE e (cutL n)).2) (n:=cutR n) (by rw[a1];decide)]
     exact .inl ⟨a1,by omega⟩
   · rcases store_ok a1 a2 (ndok_up k2) with ⟨b1,b2,_⟩|⟨b1,b2,b3,b4,b5,b6⟩
     · exact .inl ⟨b1,by omega⟩
     · generalize (storeE e (cutL n)).1=l at a3 a5 a6 ⊢
       have hl1:tr (storeE e (cutL n)).2.w.now l.toNat=true:=hold_tr (a6 _ k1)
       have hB1:∀x∈Bl++Br,tr (storeE e (cutL n)).2.w.now x.toNat=true:=fun x hx=>by
         obtain ⟨r,m,hm⟩:=hc.held x hx
         exact hold_tr (a3.hold (by simp) hm)
       generalize (storeE e (cutL n)).2=e1 at a1 a2 a3 a4 a6 b1 b2 b3 b4 b5 b6 hl1 hB1 ⊢
       generalize (storeE e1 (cutR n)).1=r at b3 b5 b6 ⊢
       generalize (storeE e1 (cutR n)).2=e2 at b1 b2 b3 b4 b6 ⊢
       have hfr:=a3.trans b3 (by simp)
       have hlr:l≠r:=fun h=>by rw[h]at hl1;rw[hl1]at b5;cases b5
       have hlB:l∉Bl++Br:=fun hx=>by rw[hB0 _ hx]at a5;cases a5
       have hrB:r∉Bl++Br:=fun hx=>by rw[hB1 _ hx]at b5;cases b5
       refine .inr ⟨b1,b2,by omega,(l :: Bl)++(r :: Br),_,hfr,?_,fun b => ?_,.inr ⟨rfl,k3,k4,k5,k6,Pl,l :: Bl,Pr,r :: Br,tr_of (b3.hold (by simp) (a6 _ k1)) (c1.frame fun x hx r m hm=>b3.hold (by simp) (a3.hold (by simp) hm)),tr_of (b6 _ k2) (c2.frame fun x hx r m hm=>b3.hold (by simp) (a3.hold (by simp) hm)),rfl,rfl⟩⟩
       · obtain ⟨u1,u2,u3⟩:=List.nodup_append.1 hu
         simp only[List.mem_append,not_or]at hlB hrB
         refine List.nodup_append.2 ⟨List.nodup_cons.2 ⟨hlB.1,u1⟩,List.nodup_cons.2 ⟨hrB.2,u2⟩,fun x hx y hy => ?_⟩
         rcases List.mem_cons.1 hx with rfl|hx <;> rcases List.mem_cons.1 hy with rfl|hy
         · exact hlr
         · rintro rfl;exact hlB.2 hy
         · rintro rfl;exact hrB.1 hx
         · exact u3 x hx y hy
       · simp only[List.mem_append,List.mem_cons,List.not_mem_nil,or_false]
         constructor
         · rintro ((h|h)|(h|h)) <;> simp[h]
         · rintro ((h|h)|(h|h)) <;> simp[h]
noncomputable def leafPut (n:Nd) (key val:ByteArray):Nd:=
 if isAt n.keys key then ⟨n.leaf,n.keys,n.vals.set (srch n.keys key) val,n.kids⟩ else ⟨n.leaf,insAt n.keys (srch n.keys key) key,insAt n.vals (srch n.keys key) val,n.kids⟩
def innerPut (n:Nd) (i:Nat) (s:Spl):Nd:=
 if s.two then ⟨n.leaf,insAt n.keys i s.key,n.vals,insAt (n.kids.set i s.left) (i+1) s.right⟩ else ⟨n.leaf,n.keys,n.vals,n.kids.set i s.left⟩
noncomputable def putE (key val:ByteArray):Nat→Ed→Int→Int→Spl×Ed
 | 0,e,_,_=>(spl0,{ e with bad:=81 })
 | f+1,e,b,d=>
   let n:=(loadE e b d).1
   let e1:=(loadE e b d).2
   if e1.bad≠0 then (spl0,e1) else
   let e2:=dropE e1 b
   if n.leaf then keepE e2 (leafPut n key val) else
   let i:=kidOf n.keys key
   let r:=putE key val f e2 ((n.kids[i]?).getD 0) (d+1)
   if r.2.bad≠0 then (spl0,r.2) else keepE r.2 (innerPut n i r.1)
theorem leafPut_ok {H:Hd} {h:Nat} {lo hi key val:ByteArray} {n:Nd} {P:List Pr} {B:List Int} (hk:1≤key.size∧key.size≤32) (hv:val.size≤200) (hs:Stands n) (h8:n.keys.length≤8) (hl:n.leaf=true) (hw:within key lo hi=true) (hc:Cont H h lo hi n P B):
   Stands (leafPut n key val)∧(leafPut n key val).keys.length≤9∧n.keys.length≤(leafPut n key val).keys.length∧Cont H h lo hi (leafPut n key val) (withP key val P) B:=by
 have hr:=(kok_iff.1 hs.2.1).1
 have hz:=(kok_iff.1 hs.2.1).2
 obtain ⟨s1,s2,⟨_,v1,v2,v3⟩|⟨hx,_⟩⟩:=hs
 · obtain ⟨c1,⟨_,c3,c4,rfl,rfl⟩|⟨hx,_⟩⟩:=hc
   · unfold leafPut
     cases ha:isAt n.keys key with
     | true=>
       rw[if_pos rfl]
       refine ⟨⟨s1,s2,.inl ⟨hl,v1,by simpa using v2,fun v hx => ?_⟩⟩,s1,Nat.le_refl _,c1,.inl ⟨hl,c3,c4,(leaf_set hr v2 ha).symm,rfl⟩⟩
       rcases List.mem_or_eq_of_mem_set hx with h|rfl
       · exact v3 v h
       · exact hv
     | false=>
       rw[if_neg (by simp)]
       have hi:=srch_le n.keys key
       have hlen:=insAt_len key hi
       have hlenv:=insAt_len (l:=n.vals) (i:=srch n.keys key) val (by omega)
       have hri:=rise_ins hr (fun k hk=>srch_take k hk) (srch_drop hr ha)
       refine ⟨⟨by dsimp only;omega,kok_iff.2 ⟨hri,fun k hx => ?_⟩,.inl ⟨hl,v1,by dsimp only;omega,fun v hx => ?_⟩⟩,by dsimp only;omega,by dsimp only;omega,fun k hx => ?_,.inl ⟨hl,c3,fun e => ?_,(leaf_ins hr v2 ha).symm,rfl⟩⟩
       · rcases insAt_mem.1 hx with rfl|h
         · exact hk
         · exact hz k h
       · rcases insAt_mem.1 hx with rfl|h
         · exact hv
         · exact v3 v h
       · rcases insAt_mem.1 hx with rfl|h
         · exact hw
         · exact c1 k h
       · have:=congrArg List.length e
         dsimp only at this
         rw[hlen]at this;simp at this
   · rw[hl]at hx;cases hx
 · rw[hl]at hx;cases hx
end Go.Proofs.YtclgengkohbjjaaGreatDoor.M
