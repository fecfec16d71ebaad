import Derived.Test.YtclgengkohbjjaaGreatDoorR4EdH
namespace Go.Proofs.YtclgengkohbjjaaGreatDoor.M
set_option linter.unusedVariables false
set_option linter.unusedSimpArgs false
open Go Go.Mir
set_option linter.unusedVariables false
def oneN (n:Nd) (l:Nat) (c:Int):Nd:=⟨n.leaf,n.keys.take l++n.keys.drop (l+1),n.vals,n.kids.take l++c :: n.kids.drop (l+2)⟩
def twoN (n:Nd) (l:Nat) (x:Int) (k:ByteArray) (y:Int):Nd:=⟨n.leaf,n.keys.take l++k :: n.keys.drop (l+1),n.vals,n.kids.take l++x :: y :: n.kids.drop (l+2)⟩
def cutAt (a b:Nd):Nat:=if a.keys.length > b.keys.length then a.keys.length - 1 else a.keys.length+1
noncomputable def joinE (e:Ed) (n:Nd) (l:Nat) (a b:Nd):Nd×Ed:=
 let j:=joinN a ((n.keys[l]?).getD empS) b
 if Stands a∧Stands b∧Stands j∧j.keys.length≤8 then (oneN n l (storeE e j).1,(storeE e j).2)
 else (twoN n l (storeE e (splL j (cutAt a b))).1 (splK j (cutAt a b)) (storeE (storeE e (splL j (cutAt a b))).2 (splR j (cutAt a b))).1,(storeE (storeE e (splL j (cutAt a b))).2 (splR j (cutAt a b))).2)
theorem seg_end {R:TR} {ks:List ByteArray} {cs:List Int} {lo mid:ByteArray} {P:List Pr} {B:List Int} (h:KSeg R lo mid ks cs P B) (hr:Rise ks) (hw:∀k∈ks,lt k lo=false):(∀k∈ks,lt mid k=false)∧lt mid lo=false:=by
 have hend:=kseg_end h
 cases hx:ks.getLast? with
 | none=>
   rw[hx]at hend
   have hend:mid=lo:=hend
   rw[List.getLast?_eq_none_iff.1 hx,hend]
   exact ⟨fun k hk=>(by cases hk),lt_irr lo⟩
 | some z=>
   rw[hx]at hend
   have hend:mid=z:=hend
   obtain ⟨l',rfl⟩:=List.getLast?_eq_some_iff.1 hx
   refine ⟨fun k hk => ?_,by rw[hend];exact hw z (by simp)⟩
   rw[hend]
   rcases List.mem_append.1 hk with h2|h2
   · exact lt_asym ((List.pairwise_append.1 hr).2.2 k h2 z (by simp))
   · obtain rfl:k=z:=by simpa using h2
     exact lt_irr _
theorem tail_end {R:TR} {lo:ByteArray} {kr:List ByteArray} {cr:List Int} {hi' hi:ByteArray} {P:List Pr} {B:List Int} (h:Tail R hi' hi kr cr P B) (hr:Rise kr) (he:∀k∈kr,k≠empS) (hw:∀k∈kr,within k lo hi=true) {s mid:ByteArray} (hs:within s mid hi'=true) (hm:lt mid lo=false):(∀k∈kr,lt s k=true)∧within s lo hi=true:=by
 rcases h with ⟨rfl,_,rfl,_⟩|⟨kr',rfl,_⟩
 · exact ⟨fun k hk=>(by cases hk),within_low hs hm⟩
 · have h1:=(within_iff.1 hs).2.resolve_left (he hi' (by simp))
   refine ⟨fun k hk => ?_,within_high (within_low hs hm) (he hi' (by simp)) (hw hi' (by simp))⟩
   rcases List.mem_cons.1 hk with rfl|hk
   · exact h1
   · exact lt_trans h1 ((List.pairwise_cons.1 hr).1 k hk)
theorem rise_mid {ks:List ByteArray} {l:Nat} {s:ByteArray} (hr:Rise ks) (h1:∀k∈ks.take l,lt k s=true) (h2:∀k∈ks.drop (l+1),lt s k=true):Rise (ks.take l++s :: ks.drop (l+1)):=by
 refine rise_app (rise_take l hr) (List.pairwise_cons.2 ⟨h2,rise_drop (l+1) hr⟩) fun x hx y hy => ?_
 rcases List.mem_cons.1 hy with rfl|hy
 · exact h1 x hx
 · exact lt_trans (h1 x hx) (h2 y hy)
theorem rise_cut {ks:List ByteArray} {l:Nat} (hr:Rise ks):Rise (ks.take l++ks.drop (l+1)):=by
 refine rise_app (rise_take l hr) (rise_drop (l+1) hr) fun x hx y hy => ?_
 obtain ⟨i,hi,hil,rfl⟩:=take_mem hx
 obtain ⟨j,hj,hjl,rfl⟩:=drop_mem hy
 exact List.pairwise_iff_getElem.1 hr i j hi hj (by omega)
theorem cr_leaf {H:Hd} {h:Nat} {lo hi:ByteArray} {n:Nd} {P:List Pr} {B:List Int} (hc:CR H h lo hi n P B) (hk:n.keys≠[]) {b:Int} {r:Bool} (hh:H b r=some n):Tr H (h+1) b r lo hi P (b :: B):=tr_of hh (hc.cont hk)
theorem kseg_mem {R:TR} {Q:Int→Prop} (h:∀c lo hi P B,R c lo hi P B→∀x∈B,Q x):∀ {ks:List ByteArray} {cs:List Int} {lo hi:ByteArray} {P:List Pr} {B:List Int},KSeg R lo hi ks cs P B→∀x∈B,Q x
 | [],[],_,_,_,_,hk=>fun x hx=>by obtain ⟨_,_,rfl⟩:=hk;cases hx
 | [],_ :: _,_,_,_,_,hk=>hk.elim
 | _ :: _,[],_,_,_,_,hk=>hk.elim
 | k :: ks,c :: cs,lo,hi,P,B,hk=>fun x hx=>by
   obtain ⟨P1,B1,P2,B2,h1,h2,rfl,rfl⟩:=hk
   rcases List.mem_append.1 hx with hx|hx
   · exact h _ _ _ _ _ h1 x hx
   · exact kseg_mem h h2 x hx
theorem tail_mem {R:TR} {Q:Int→Prop} (h:∀c lo hi P B,R c lo hi P B→∀x∈B,Q x) {kr:List ByteArray} {cr:List Int} {hi' hi:ByteArray} {P:List Pr} {B:List Int} (ht:Tail R hi' hi kr cr P B):∀x∈B,Q x:=by
 rcases ht with ⟨_,_,_,_,rfl⟩|⟨kr',_,hk⟩
 · intro x hx;cases hx
 · exact KTr.mem h hk
set_option maxHeartbeats 1000000 in
theorem core_ok {e:Ed} {n a b:Nd} {l j:Nat} {lo mid hi' hi:ByteArray} {P1 Pa Pb P3:List Pr} {B1 Ba Bb B3:List Int} (he:e.bad=0) (hr:WRight e.w)
   (hl:l<n.keys.length) (nv:n.vals=[]) (nl:n.leaf=false) (nk:KOK n.keys) (nw:∀k∈n.keys,within k lo hi=true)
   (hseg:KSeg (fun c lo hi P B=>Tr (Hold e.w) (j+1) c false lo hi P B) lo mid (n.keys.take l) (n.kids.take l) P1 B1)
   (htl:Tail (fun c lo hi P B=>Tr (Hold e.w) (j+1) c false lo hi P B) hi' hi (n.keys.drop (l+1)) (n.kids.drop (l+2)) P3 B3)
   (hkw:within n.keys[l] mid hi'=true) (ha:CR (Hold e.w) j mid n.keys[l] a Pa Ba) (hb:CR (Hold e.w) j n.keys[l] hi' b Pb Bb) (hab:a.leaf=b.leaf)
   (hsz:(a.keys.length=3∧4≤b.keys.length∧b.keys.length≤8)∨(b.keys.length=3∧4≤a.keys.length∧a.keys.length≤8))
   (hu:(B1++((Ba++Bb)++B3)).Nodup):
   ((joinE e n l a b).2.bad=60∧cnt e.w<2)∨((joinE e n l a b).2.bad=0∧WRight (joinE e n l a b).2.w∧cnt e.w≤cnt (joinE e n l a b).2.w+2∧(joinE e n l a b).1.leaf=false∧n.keys.length≤(joinE e n l a b).1.keys.length+1∧(joinE e n l a b).1.keys.length≤n.keys.length ∧
     ∃X B',Fr e.w (joinE e n l a b).2.w [] X X∧B'.Nodup∧(∀x,x∈B' ↔ x∈X∨x∈B1++((Ba++Bb)++B3))∧CR (Hold (joinE e n l a b).2.w) (j+1) lo hi (joinE e n l a b).1 (P1++((Pa++Pb)++P3)) B'):=by
 obtain ⟨kr,kz⟩:=kok_iff.1 nk
 have hke:∀k∈n.keys,k≠empS:=fun k hk e=>by have:=(kz k hk).1;rw[e]at this;exact absurd this (by decide)
 obtain ⟨hm1,hm2⟩:=seg_end hseg (rise_take l kr) (fun k hk=>(within_iff.1 (nw k (List.mem_of_mem_take hk))).1)
 have htail:∀s,within s mid hi'=true→(∀k∈n.keys.drop (l+1),lt s k=true)∧within s lo hi=true:=fun s hs=>
   tail_end htl (rise_drop _ kr) (fun k hk=>hke k (List.mem_of_mem_drop hk)) (fun k hk=>nw k (List.mem_of_mem_drop hk)) hs hm2
 obtain ⟨hj,hjl⟩:=join_ok (hold_hok e.w) (kz _ (List.getElem_mem hl)) hkw ha hb hab
 have hheld:∀x∈B1++((Ba++Bb)++B3),tr e.w.now x.toNat=true:=fun x hx=>by
   have:∃r m,Hold e.w x r=some m:=by
     rcases List.mem_append.1 hx with hx|hx
     · exact kseg_mem (fun c lo hi P B hc=>Tr.held hc) hseg x hx
     · rcases List.mem_append.1 hx with hx|hx
       · exact hj.held x hx
       · exact tail_mem (fun c lo hi P B hc=>Tr.held hc) htl x hx
   obtain ⟨r,m,hm⟩:=this
   exact hold_tr hm
 have hlenj:(joinN a n.keys[l] b).keys.length=a.keys.length+b.keys.length+(if a.leaf then 0 else 1):=by
   unfold joinN
   cases a.leaf <;> simp <;> omega
 have ek:(n.keys[l]?).getD empS=n.keys[l]:=by rw[List.getElem?_eq_getElem hl];rfl
 unfold joinE
 rw[ek]
 dsimp only
 by_cases hone:Stands a∧Stands b∧Stands (joinN a n.keys[l] b)∧(joinN a n.keys[l] b).keys.length≤8
 · rw[if_pos hone]
   have hok:NdOK (joinN a n.keys[l] b) false:=⟨hone.2.2.1,hone.2.2.2,.inr (by omega)⟩
   rcases store_ok he hr (ndok_up hok) with ⟨a1,a2,_⟩|⟨a1,a2,a3,a4,a5,a6⟩
   · exact .inl ⟨a1,by omega⟩
   · have fr:∀(x:Int) (r:Bool) (m:Nd),Hold e.w x r=some m→Hold (storeE e (joinN a n.keys[l] b)).2.w x r=some m:=fun x r m hm=>a3.hold (by simp) hm
     generalize (storeE e (joinN a n.keys[l] b)).1=s at a3 a5 a6 ⊢
     generalize (storeE e (joinN a n.keys[l] b)).2=e' at a1 a2 a3 a4 a6 fr ⊢
     have hs:s∉B1++((Ba++Bb)++B3):=fun hx=>by rw[hheld _ hx]at a5;cases a5
     have hT:=cr_leaf (hj.frame fun x _ r m hm=>fr x r m hm) (List.ne_nil_of_length_pos (by omega)) (a6 false hok)
     have hk:=ktr_re (S:=fun c lo hi P B=>Tr (Hold e'.w) (j+1) c false lo hi P B) (m:=[]) (cm:=[s]) (kseg_mono (fun c lo hi P B' _ hx=>Tr.frame (fun x _=>fr x) hx) hseg) hT (htl.mono (fun c lo hi P B' _ hx=>Tr.frame (fun x _=>fr x) hx))
     refine .inr ⟨a1,a2,by omega,nl,?_,?_,_,_,a3,?_,fun x => ?_,fun k hk => ?_,kok_iff.2 ⟨rise_cut kr,fun k hk => ?_⟩,.inr ⟨nl,nv,hk⟩⟩
     · simp[oneN];omega
     · simp[oneN];omega
     · exact (List.perm_middle.nodup_iff).2 (List.nodup_cons.2 ⟨hs,hu⟩)
     · simp only[List.mem_append,List.mem_cons,List.not_mem_nil,or_false]
       constructor
       · rintro (h|(h|h|h)|h) <;> simp[h]
       · rintro (h|h|(h|h)|h) <;> simp[h]
     · rcases List.mem_append.1 hk with h|h
       · exact nw k (List.mem_of_mem_take h)
       · exact nw k (List.mem_of_mem_drop h)
     · rcases List.mem_append.1 hk with h|h
       · exact kz k (List.mem_of_mem_take h)
       · exact kz k (List.mem_of_mem_drop h)
 · rw[if_neg hone]
   have sa:Stands a:=ha.stands hr (by omega) (.inr (by omega))
   have sb:Stands b:=hb.stands hr (by omega) (.inr (by omega))
   have h9:9≤(joinN a n.keys[l] b).keys.length:=Classical.byContradiction fun hc=>hone ⟨sa,sb,hj.stands hr (by omega) (.inr (by omega)),by omega⟩
   have hc1:4≤cutAt a b∧cutAt a b≤8∧cutAt a b<(joinN a n.keys[l] b).keys.length:=by
     unfold cutAt
     split at hlenj <;> split <;> omega
   have hc2:4≤(joinN a n.keys[l] b).keys.length - (if (joinN a n.keys[l] b).leaf then cutAt a b else cutAt a b+1)∧(joinN a n.keys[l] b).keys.length - (if (joinN a n.keys[l] b).leaf then cutAt a b else cutAt a b+1)≤8:=by
     rw[hjl]
     unfold cutAt
     cases hal:a.leaf <;> rw[hal]at hlenj <;> simp only[if_true,if_false,Bool.false_eq_true]at hlenj ⊢ <;> split <;> omega
   obtain ⟨k1,k2,k3,k4,k5,k6,k7,k8,k9,k10,Pl,Bl,Pr,Br,c1,c2,hP,hB⟩:=spl_ok hj hc1.2.2 (by omega)
   generalize joinN a n.keys[l] b=jn at *
   generalize cutAt a b=c at *
   have ll:(splL jn c).keys.length=c:=by rw[k9,List.length_take];omega
   have lr:(splR jn c).keys.length=jn.keys.length - (if jn.leaf then c else c+1):=by rw[k10,List.length_drop]
   have okl:NdOK (splL jn c) false:=⟨c1.stands hr (by omega) (.inr (by omega)),by omega,.inr (by omega)⟩
   have okr:NdOK (splR jn c) false:=⟨c2.stands hr (by omega) (.inr (by omega)),by omega,.inr (by omega)⟩
   rcases store_ok he hr (ndok_up okl) with ⟨a1,a2,_⟩|⟨a1,a2,a3,a4,a5,a6⟩
   · rw[store_bad (e:=(storeE e (splL jn c)).2) (n:=splR jn c) (by rw[a1];decide)]
     exact .inl ⟨a1,by omega⟩
   · rcases store_ok a1 a2 (ndok_up okr) with ⟨b1,b2,_⟩|⟨b1,b2,b3,b4,b5,b6⟩
     · exact .inl ⟨b1,by omega⟩
     · generalize (storeE e (splL jn c)).1=s at a3 a5 a6 ⊢
       generalize (storeE e (splL jn c)).2=e1 at a1 a2 a3 a4 a6 b1 b2 b3 b4 b5 b6 ⊢
       have hs1:tr e1.w.now s.toNat=true:=hold_tr (a6 _ okl)
       have hh1:∀x∈B1++((Ba++Bb)++B3),tr e1.w.now x.toNat=true:=fun x hx=>by
         have h0:∃r m,Hold e.w x r=some m:=by
           rcases List.mem_append.1 hx with hx|hx
           · exact kseg_mem (fun c lo hi P B hc=>Tr.held hc) hseg x hx
           · rcases List.mem_append.1 hx with hx|hx
             · exact hj.held x hx
             · exact tail_mem (fun c lo hi P B hc=>Tr.held hc) htl x hx
         obtain ⟨r,m,hm⟩:=h0
         exact hold_tr (a3.hold (by simp) hm)
       generalize (storeE e1 (splR jn c)).1=t at b3 b5 b6 ⊢
       generalize (storeE e1 (splR jn c)).2=e2 at b1 b2 b3 b4 b6 ⊢
       have fr:∀(x:Int) (r:Bool) (m:Nd),Hold e.w x r=some m→Hold e2.w x r=some m:=fun x r m hm=>b3.hold (by simp) (a3.hold (by simp) hm)
       have hs:s∉B1++((Ba++Bb)++B3):=fun hx=>by rw[hheld _ hx]at a5;cases a5
       have ht:t∉B1++((Ba++Bb)++B3):=fun hx=>by rw[hh1 _ hx]at b5;cases b5
       have hst:s≠t:=fun h=>by rw[h]at hs1;rw[hs1]at b5;cases b5
       have hT1:=cr_leaf (c1.frame fun x _ r m hm=>fr x r m hm) (List.ne_nil_of_length_pos (by omega)) (b3.hold (by simp) (a6 false okl))
       have hT2:=cr_leaf (c2.frame fun x _ r m hm=>fr x r m hm) (List.ne_nil_of_length_pos (by omega)) (b6 false okr)
       obtain ⟨g1,g2⟩:=htail _ k1
       have hk:=ktr_re (S:=fun c lo hi P B=>Tr (Hold e2.w) (j+1) c false lo hi P B) (m:=[splK jn c]) (cm:=[s,t]) (kseg_mono (fun c lo hi P B' _ hx=>Tr.frame (fun x _=>fr x) hx) hseg)
         (show KTr (fun c lo hi P B=>Tr (Hold e2.w) (j+1) c false lo hi P B) mid hi' [splK jn c] [s,t] (Pl++Pr) ((s :: Bl)++(t :: Br)) from ⟨_,_,_,_,hT1,hT2,rfl,rfl⟩) (htl.mono (fun c lo hi P B' _ hx=>Tr.frame (fun x _=>fr x) hx))
       rw[hB]at hu hs ht
       rw[hP,hB]
       refine .inr ⟨b1,b2,by omega,nl,?_,?_,_,_,a3.trans b3 (by simp),?_,fun x => ?_,fun k hk => ?_,kok_iff.2 ⟨rise_mid kr (fun k hk=>nlt_lt (hm1 k hk) k2) g1,fun k hk => ?_⟩,.inr ⟨nl,nv,hk⟩⟩
       · simp[twoN];omega
       · simp[twoN];omega
       · have e1:B1++(((s :: Bl)++(t :: Br))++B3)=B1++s :: (Bl++t :: (Br++B3)):=by simp
         have e2:B1++(Bl++t :: (Br++B3))=(B1++Bl)++t :: (Br++B3):=by simp
         have e3:(B1++Bl)++(Br++B3)=B1++((Bl++Br)++B3):=by simp
         rw[e1]
         refine (List.perm_middle.nodup_iff).2 (List.nodup_cons.2 ⟨fun hx => ?_,?_⟩)
         · have hx:s∈B1∨s∈Bl∨s=t∨s∈Br∨s∈B3:=by simpa using hx
           refine hs ?_
           rcases hx with h|h|h|h|h
           · simp[h]
           · simp[h]
           · exact absurd h hst
           · simp[h]
           · simp[h]
         · rw[e2]
           refine (List.perm_middle.nodup_iff).2 (List.nodup_cons.2 ⟨?_,?_⟩)
           · rw[e3];exact ht
           · rw[e3];exact hu
       · simp only[List.mem_append,List.mem_cons,List.not_mem_nil,or_false]
         constructor
         · rintro (h|((h|h)|(h|h))|h) <;> simp[h]
         · rintro ((h|h)|h|(h|h)|h) <;> simp[h]
       · rcases List.mem_append.1 hk with h|h
         · exact nw k (List.mem_of_mem_take h)
         · rcases List.mem_cons.1 h with rfl|h
           · exact g2
           · exact nw k (List.mem_of_mem_drop h)
       · rcases List.mem_append.1 hk with h|h
         · exact kz k (List.mem_of_mem_take h)
         · rcases List.mem_cons.1 h with rfl|h
           · exact ⟨k3,k4⟩
           · exact kz k (List.mem_of_mem_drop h)
noncomputable def failE (e:Ed):Ed:=if e.bad=0 then { e with bad:=81 } else e
noncomputable def fillE (e:Ed) (n:Nd) (i:Nat) (kid:Nd) (d:Int):Nd×Ed:=
 let l:=i - 1
 let o:=if l=i then i+1 else l
 let r:=loadE e ((n.kids[o]?).getD 0) (d+1)
 if r.2.bad≠0∨r.1.leaf≠kid.leaf then (nd0,failE r.2) else
 let e2:=dropE r.2 ((n.kids[o]?).getD 0)
 if l=i then joinE e2 n l kid r.1 else joinE e2 n l r.1 kid
noncomputable def aftE (e:Ed) (n:Nd) (i:Nat) (kid:Nd) (d:Int):Nd×Ed:=
 if 4≤kid.keys.length then (⟨n.leaf,n.keys,n.vals,n.kids.set i (storeE e kid).1⟩,(storeE e kid).2) else fillE e n i kid d
def witN (n:Nd) (i:Nat):Nd:=⟨n.leaf,delAt n.keys i,delAt n.vals i,n.kids⟩
noncomputable def remE (key:ByteArray):Nat→Ed→Int→Int→Nd×Ed
 | 0,e,_,_=>(nd0,{ e with bad:=81 })
 | f+1,e,b,d=>
   let n:=(loadE e b d).1
   let e1:=(loadE e b d).2
   if e1.bad≠0 then (nd0,e1) else
   let e2:=dropE e1 b
   if n.leaf then (if isAt n.keys key then (witN n (srch n.keys key),e2) else (nd0,{ e2 with bad:=80 })) else
   let i:=kidOf n.keys key
   let r:=remE key f e2 ((n.kids[i]?).getD 0) (d+1)
   if r.2.bad≠0 then (nd0,r.2) else aftE r.2 n i r.1 d
theorem cr_level {H:Hd} {j:Nat} {lo hi:ByteArray} {n:Nd} {P:List Pr} {B:List Int} (h:CR H j lo hi n P B):n.leaf=decide (j=0):=by
 obtain ⟨_,_,⟨a1,a2,_⟩|⟨a1,_,a3⟩⟩:=h
 · rw[a1,decide_eq_true a2]
 · rw[a1]
   cases j with
   | succ j=>simp
   | zero=>
     have:∀ {ks:List ByteArray} {cs:List Int} {lo hi:ByteArray} {P:List Pr} {B:List Int},KTr (fun c lo hi P B=>Tr H 0 c false lo hi P B) lo hi ks cs P B→False:=fun {ks cs lo hi P B} hk=>by
      have hl:=ktr_len hk
      cases cs with
      | nil=>simp at hl
      | cons c cs=>exact ktr_mem (Q:=fun _=>False) (fun c lo hi P B ht=>ht.elim) hk c (by simp)
     exact (this a3).elim
theorem set_left {α:Type} {l:List α} {i:Nat} {c s:α} (h:l[i+1]?=some c):l.set i s=l.take i++s :: c :: l.drop (i+2):=by
 obtain ⟨hi,rfl⟩:=List.getElem?_eq_some_iff.1 h
 rw[set_split (by omega),List.drop_eq_getElem_cons hi]
theorem set_right {α:Type} {l:List α} {i:Nat} {c s:α} (h:l[i]?=some c) (hi:i+1<l.length):l.set (i+1) s=l.take i++c :: s :: l.drop (i+2):=by
 obtain ⟨h0,rfl⟩:=List.getElem?_eq_some_iff.1 h
 rw[set_split hi,take_snoc h0,List.append_assoc]
 rfl
theorem split_at {α:Type} {l:List α} {i:Nat} (h:i<l.length):l=l.take i++l[i] :: l.drop (i+1):=by
 rw[←List.drop_eq_getElem_cons h,List.take_append_drop]
theorem st_ok {e:Ed} {n kid:Nd} {i j:Nat} {lo hi klo khi:ByteArray} {Pk P':List Pr} {Bk B1 B3:List Int} (he:e.bad=0) (hr:WRight e.w) (nv:n.vals=[]) (nl:n.leaf=false) (nk:KOK n.keys) (nw:∀k∈n.keys,within k lo hi=true)
   (hk:CR (Hold e.w) j klo khi kid Pk Bk) (h4:4≤kid.keys.length) (h8:kid.keys.length≤8) (hu:(B1++(Bk++B3)).Nodup) (hh:∀x∈B1++(Bk++B3),tr e.w.now x.toNat=true)
   (mk:∀(G:Hd) (s:Int),(∀x r m,Hold e.w x r=some m→G x r=some m)→Tr G (j+1) s false klo khi Pk (s :: Bk)→KTr (fun c lo hi P B=>Tr G (j+1) c false lo hi P B) lo hi n.keys (n.kids.set i s) P' (B1++((s :: Bk)++B3))):
   ((storeE e kid).2.bad=60∧cnt e.w<2)∨((storeE e kid).2.bad=0∧WRight (storeE e kid).2.w∧cnt e.w≤cnt (storeE e kid).2.w+2 ∧
     ∃X B',Fr e.w (storeE e kid).2.w [] X X∧B'.Nodup∧(∀x,x∈B' ↔ x∈X∨x∈B1++(Bk++B3))∧CR (Hold (storeE e kid).2.w) (j+1) lo hi ⟨n.leaf,n.keys,n.vals,n.kids.set i (storeE e kid).1⟩ P' B'):=by
 have hok:NdOK kid false:=⟨hk.stands hr (by omega) (.inr (by omega)),h8,.inr h4⟩
 rcases store_ok he hr (ndok_up hok) with ⟨a1,a2,_⟩|⟨a1,a2,a3,a4,a5,a6⟩
 · exact .inl ⟨a1,by omega⟩
 · have fr:∀(x:Int) (r:Bool) (m:Nd),Hold e.w x r=some m→Hold (storeE e kid).2.w x r=some m:=fun x r m hm=>a3.hold (by simp) hm
   generalize (storeE e kid).1=s at a3 a5 a6 ⊢
   generalize (storeE e kid).2=e' at a1 a2 a3 a4 a6 fr ⊢
   have hs:s∉B1++(Bk++B3):=fun hx=>by rw[hh _ hx]at a5;cases a5
   have hT:=cr_leaf (hk.frame fun x _ r m hm=>fr x r m hm) (List.ne_nil_of_length_pos (by omega)) (a6 false hok)
   refine .inr ⟨a1,a2,by omega,_,_,a3,?_,fun x => ?_,nw,nk,.inr ⟨nl,nv,mk _ s fr hT⟩⟩
   · exact (List.perm_middle.nodup_iff).2 (List.nodup_cons.2 ⟨hs,hu⟩)
   · simp only[List.mem_append,List.mem_cons,List.not_mem_nil,or_false]
     constructor
     · rintro (h|(h|h)|h) <;> simp[h]
     · rintro (h|h|h|h) <;> simp[h]
set_option maxHeartbeats 1000000 in
theorem aftL {e:Ed} {n kid:Nd} {j:Nat} {d c2:Int} {lo mid hi' hi:ByteArray} {P1 Pa Pb P3:List Pr} {B1 Ba Bb B3:List Int} (he:e.bad=0) (hr:WRight e.w)
   (hl:0<n.keys.length) (nv:n.vals=[]) (nl:n.leaf=false) (nk:KOK n.keys) (nw:∀k∈n.keys,within k lo hi=true)
   (hseg:KSeg (fun c lo hi P B=>Tr (Hold e.w) (j+1) c false lo hi P B) lo mid (n.keys.take 0) (n.kids.take 0) P1 B1)
   (htl:Tail (fun c lo hi P B=>Tr (Hold e.w) (j+1) c false lo hi P B) hi' hi (n.keys.drop (0+1)) (n.kids.drop (0+2)) P3 B3)
   (hkw:within n.keys[0] mid hi'=true) (ha:CR (Hold e.w) j mid n.keys[0] kid Pa Ba) (hc2:n.kids[0+1]?=some c2) (hb:Tr (Hold e.w) (j+1) c2 false n.keys[0] hi' Pb Bb)
   (h3:3≤kid.keys.length) (h8:kid.keys.length≤8) (hd1:1≤d) (hd:d+1≤8) (hu:(B1++((Ba++Bb)++B3)).Nodup):
   ((aftE e n 0 kid d).2.bad=60∧cnt e.w<2)∨((aftE e n 0 kid d).2.bad=0∧WRight (aftE e n 0 kid d).2.w∧cnt e.w≤cnt (aftE e n 0 kid d).2.w+2∧(aftE e n 0 kid d).1.leaf=false∧n.keys.length≤(aftE e n 0 kid d).1.keys.length+1∧(aftE e n 0 kid d).1.keys.length≤n.keys.length ∧
     ∃D S X B',(∀x,x∈Bb ↔ x∈D∨x∈S)∧(∀x∈S,x∉D)∧Fr e.w (aftE e n 0 kid d).2.w D X X∧B'.Nodup∧(∀x,x∈B' ↔ x∈X∨x∈B1++((Ba++S)++B3))∧CR (Hold (aftE e n 0 kid d).2.w) (j+1) lo hi (aftE e n 0 kid d).1 (P1++((Pa++Pb)++P3)) B'):=by
 have hheld:∀x∈B1++((Ba++Bb)++B3),∃r m,Hold e.w x r=some m:=fun x hx=>by
   rcases List.mem_append.1 hx with hx|hx
   · exact kseg_mem (fun c lo hi P B hc=>Tr.held hc) hseg x hx
   · rcases List.mem_append.1 hx with hx|hx
     · rcases List.mem_append.1 hx with hx|hx
       · exact ha.held x hx
       · exact hb.held x hx
     · exact tail_mem (fun c lo hi P B hc=>Tr.held hc) htl x hx
 unfold aftE
 by_cases h4:4≤kid.keys.length
 · rw[if_pos h4]
   have e1:B1++((Ba++Bb)++B3)=B1++(Ba++(Bb++B3)):=by simp
   have hst:=st_ok (i:=0) (n:=n) (lo:=lo) (hi:=hi) (P':=P1++((Pa++Pb)++P3)) (B1:=B1) (B3:=Bb++B3) he hr nv nl nk nw ha h4 h8 (by rw[←e1];exact hu) (fun x hx=>by
     obtain ⟨r,m,hm⟩:=hheld x (by rw[e1];exact hx)
     exact hold_tr hm) (fun G s fr hT=>by
       have hk:=ktr_re (S:=fun c lo hi P B=>Tr G (j+1) c false lo hi P B) (m:=[n.keys[0]]) (cm:=[s,c2]) (kseg_mono (fun c lo hi P B' _ hx=>Tr.frame (fun x _=>fr x) hx) hseg)
         (show KTr (fun c lo hi P B=>Tr G (j+1) c false lo hi P B) mid hi' [n.keys[0]] [s,c2] (Pa++Pb) ((s :: Ba)++Bb) from ⟨_,_,_,_,hT,Tr.frame (fun x _=>fr x) hb,rfl,rfl⟩) (htl.mono (fun c lo hi P B' _ hx=>Tr.frame (fun x _=>fr x) hx))
       have e2:n.keys.take 0++([n.keys[0]]++n.keys.drop (0+1))=n.keys:=(split_at hl).symm
       have e3:n.kids.take 0++([s,c2]++n.kids.drop (0+2))=n.kids.set 0 s:=(set_left hc2).symm
       have e4:B1++(((s :: Ba)++Bb)++B3)=B1++((s :: Ba)++(Bb++B3)):=by simp
       rw[e2,e3,e4]at hk
       exact hk)
   rcases hst with hst|⟨a1,a2,a3,X,B',a4,a5,a6,a7⟩
   · exact .inl hst
   · exact .inr ⟨a1,a2,a3,nl,by dsimp only;omega,Nat.le_refl _,[],Bb,X,B',fun x=>by simp,fun x _=>by simp,a4,a5,fun x=>by rw[a6,e1],a7⟩
 · rw[if_neg h4]
   obtain ⟨m,Bo,hm,hcm,rfl⟩:=tr_get hb
   have hmok:=hold_ok hm
   unfold fillE
   dsimp only
   rw[show (0 - 1:Nat)=0 from rfl,if_pos rfl,if_pos rfl,hc2]
   simp only[Option.getD_some]
   have e2:(d+1==1)=false:=by simp;omega
   rw[load_ok he (by rw[e2];exact hm) hd]
   dsimp only
   have hb':=hcm.cr hmok.1
   rw[if_neg (by rw[cr_level ha,cr_level hb',he];simp)]
   obtain ⟨d1,d2,d3,d4⟩:=drop_ok he hr hm
   have hne:∀x,x∈B1++((Ba++Bo)++B3)→x≠c2:=fun x hx e=>by
     subst e
     have hp:(B1++((Ba++x :: Bo)++B3)).Perm (x :: (B1++((Ba++Bo)++B3))):=by
       have h1:B1++((Ba++x :: Bo)++B3)=(B1++Ba)++x :: (Bo++B3):=by simp
       have h2:B1++((Ba++Bo)++B3)=(B1++Ba)++(Bo++B3):=by simp
       rw[h1,h2];exact List.perm_middle
     exact (List.nodup_cons.1 (hp.nodup_iff.1 hu)).1 hx
   have fr:∀(x:Int),x∈B1++((Ba++Bo)++B3)→∀(r:Bool) (m:Nd),Hold e.w x r=some m→Hold (dropE e c2).w x r=some m:=fun x hx r m hm=>d3.hold (by simpa using hne x hx) hm
   have hu':(B1++((Ba++Bo)++B3)).Nodup:=by
     have h1:B1++((Ba++c2 :: Bo)++B3)=(B1++Ba)++c2 :: (Bo++B3):=by simp
     have h2:B1++((Ba++Bo)++B3)=(B1++Ba)++(Bo++B3):=by simp
     rw[h1]at hu
     rw[h2]
     exact (List.nodup_cons.1 (List.perm_middle.nodup_iff.1 hu)).2
   generalize dropE e c2=e2 at d1 d2 d3 d4 fr ⊢
   have hcore:=core_ok (l:=0) (a:=kid) (b:=m) d1 d2 hl nv nl nk nw
     (kseg_mono (fun c lo hi P B' hB hx=>Tr.frame (fun x hx'=>fr x (by simp[hB x hx'])) hx) hseg) (htl.mono (fun c lo hi P B' hB hx=>Tr.frame (fun x hx'=>fr x (by simp[hB x hx'])) hx)) hkw
     (ha.frame fun x hx=>fr x (by simp[hx])) (hb'.frame fun x hx=>fr x (by simp[hx])) (by rw[cr_level ha,cr_level hb'])
     (.inl ⟨by omega,hmok.2.2.resolve_left (by simp),hmok.2.1⟩) hu'
   rcases hcore with ⟨a1,a2⟩|⟨a1,a2,a3,a4,a5,a6,X,B',a7,a8,a9,a10⟩
   · exact .inl ⟨a1,by omega⟩
   · refine .inr ⟨a1,a2,by omega,a4,a5,a6,[c2],Bo,X,B',fun x=>by simp,fun x hx => ?_,?_,a8,a9,a10⟩
     · have:=hne x (by simp[hx])
       simpa using this
     · have:=d3.trans a7 (by simp)
       simpa using this
set_option maxHeartbeats 1000000 in
theorem aftR {e:Ed} {n kid:Nd} {l j:Nat} {d c1:Int} {lo mid hi' hi:ByteArray} {P1 Pa Pb P3:List Pr} {B1 Ba Bb B3:List Int} (he:e.bad=0) (hr:WRight e.w)
   (hl:l<n.keys.length) (hll:n.kids.length=n.keys.length+1) (nv:n.vals=[]) (nl:n.leaf=false) (nk:KOK n.keys) (nw:∀k∈n.keys,within k lo hi=true)
   (hseg:KSeg (fun c lo hi P B=>Tr (Hold e.w) (j+1) c false lo hi P B) lo mid (n.keys.take l) (n.kids.take l) P1 B1)
   (htl:Tail (fun c lo hi P B=>Tr (Hold e.w) (j+1) c false lo hi P B) hi' hi (n.keys.drop (l+1)) (n.kids.drop (l+2)) P3 B3)
   (hkw:within n.keys[l] mid hi'=true) (hb:Tr (Hold e.w) (j+1) c1 false mid n.keys[l] Pa Ba) (hc1:n.kids[l]?=some c1) (ha:CR (Hold e.w) j n.keys[l] hi' kid Pb Bb)
   (h3:3≤kid.keys.length) (h8:kid.keys.length≤8) (hd1:1≤d) (hd:d+1≤8) (hu:(B1++((Ba++Bb)++B3)).Nodup):
   ((aftE e n (l+1) kid d).2.bad=60∧cnt e.w<2)∨((aftE e n (l+1) kid d).2.bad=0∧WRight (aftE e n (l+1) kid d).2.w∧cnt e.w≤cnt (aftE e n (l+1) kid d).2.w+2∧(aftE e n (l+1) kid d).1.leaf=false∧n.keys.length≤(aftE e n (l+1) kid d).1.keys.length+1∧(aftE e n (l+1) kid d).1.keys.length≤n.keys.length ∧
     ∃D S X B',(∀x,x∈Ba ↔ x∈D∨x∈S)∧(∀x∈S,x∉D)∧Fr e.w (aftE e n (l+1) kid d).2.w D X X∧B'.Nodup∧(∀x,x∈B' ↔ x∈X∨x∈B1++((S++Bb)++B3))∧CR (Hold (aftE e n (l+1) kid d).2.w) (j+1) lo hi (aftE e n (l+1) kid d).1 (P1++((Pa++Pb)++P3)) B'):=by
 have hheld:∀x∈B1++((Ba++Bb)++B3),∃r m,Hold e.w x r=some m:=fun x hx=>by
   rcases List.mem_append.1 hx with hx|hx
   · exact kseg_mem (fun c lo hi P B hc=>Tr.held hc) hseg x hx
   · rcases List.mem_append.1 hx with hx|hx
     · rcases List.mem_append.1 hx with hx|hx
       · exact hb.held x hx
       · exact ha.held x hx
     · exact tail_mem (fun c lo hi P B hc=>Tr.held hc) htl x hx
 unfold aftE
 by_cases h4:4≤kid.keys.length
 · rw[if_pos h4]
   have e1:B1++((Ba++Bb)++B3)=(B1++Ba)++(Bb++B3):=by simp
   have hst:=st_ok (i:=l+1) (n:=n) (lo:=lo) (hi:=hi) (P':=P1++((Pa++Pb)++P3)) (B1:=B1++Ba) (B3:=B3) he hr nv nl nk nw ha h4 h8 (by rw[←e1];exact hu) (fun x hx=>by
     obtain ⟨r,m,hm⟩:=hheld x (by rw[e1];exact hx)
     exact hold_tr hm) (fun G s fr hT=>by
       have hk:=ktr_re (S:=fun c lo hi P B=>Tr G (j+1) c false lo hi P B) (m:=[n.keys[l]]) (cm:=[c1,s]) (kseg_mono (fun c lo hi P B' _ hx=>Tr.frame (fun x _=>fr x) hx) hseg)
         (show KTr (fun c lo hi P B=>Tr G (j+1) c false lo hi P B) mid hi' [n.keys[l]] [c1,s] (Pa++Pb) (Ba++(s :: Bb)) from ⟨_,_,_,_,Tr.frame (fun x _=>fr x) hb,hT,rfl,rfl⟩) (htl.mono (fun c lo hi P B' _ hx=>Tr.frame (fun x _=>fr x) hx))
       have e2:n.keys.take l++([n.keys[l]]++n.keys.drop (l+1))=n.keys:=(split_at hl).symm
       have e3:n.kids.take l++([c1,s]++n.kids.drop (l+2))=n.kids.set (l+1) s:=(set_right hc1 (by omega)).symm
       have e4:B1++((Ba++(s :: Bb))++B3)=(B1++Ba)++((s :: Bb)++B3):=by simp
       rw[e2,e3,e4]at hk
       exact hk)
   rcases hst with hst|⟨a1,a2,a3,X,B',a4,a5,a6,a7⟩
   · exact .inl hst
   · exact .inr ⟨a1,a2,a3,nl,by dsimp only;omega,Nat.le_refl _,[],Ba,X,B',fun x=>by simp,fun x _=>by simp,a4,a5,fun x=>by rw[a6,e1],a7⟩
 · rw[if_neg h4]
   obtain ⟨m,Bo,hm,hcm,rfl⟩:=tr_get hb
   have hmok:=hold_ok hm
   unfold fillE
   dsimp only
   rw[show (l+1 - 1:Nat)=l from rfl,if_neg (show ¬l=l+1 by omega),if_neg (show ¬l=l+1 by omega),hc1]
   simp only[Option.getD_some]
   have e2:(d+1==1)=false:=by simp;omega
   rw[load_ok he (by rw[e2];exact hm) hd]
   dsimp only
   have hb':=hcm.cr hmok.1
   rw[if_neg (by rw[cr_level ha,cr_level hb',he];simp)]
   obtain ⟨d1,d2,d3,d4⟩:=drop_ok he hr hm
   have hne:∀x,x∈B1++((Bo++Bb)++B3)→x≠c1:=fun x hx e=>by
     subst e
     have hp:(B1++((x :: Bo++Bb)++B3)).Perm (x :: (B1++((Bo++Bb)++B3))):=by
       have h1:B1++((x :: Bo++Bb)++B3)=B1++x :: ((Bo++Bb)++B3):=by simp
       have h2:B1++((Bo++Bb)++B3)=B1++((Bo++Bb)++B3):=rfl
       rw[h1];exact List.perm_middle
     exact (List.nodup_cons.1 (hp.nodup_iff.1 hu)).1 hx
   have fr:∀(x:Int),x∈B1++((Bo++Bb)++B3)→∀(r:Bool) (m:Nd),Hold e.w x r=some m→Hold (dropE e c1).w x r=some m:=fun x hx r m hm=>d3.hold (by simpa using hne x hx) hm
   have hu':(B1++((Bo++Bb)++B3)).Nodup:=by
     have h1:B1++((c1 :: Bo++Bb)++B3)=B1++c1 :: ((Bo++Bb)++B3):=by simp
     have h2:B1++((Bo++Bb)++B3)=B1++((Bo++Bb)++B3):=rfl
     rw[h1]at hu
     exact (List.nodup_cons.1 (List.perm_middle.nodup_iff.1 hu)).2
   generalize dropE e c1=e2 at d1 d2 d3 d4 fr ⊢
   have hcore:=core_ok (l:=l) (a:=m) (b:=kid) d1 d2 hl nv nl nk nw
     (kseg_mono (fun c lo hi P B' hB hx=>Tr.frame (fun x hx'=>fr x (by simp[hB x hx'])) hx) hseg) (htl.mono (fun c lo hi P B' hB hx=>Tr.frame (fun x hx'=>fr x (by simp[hB x hx'])) hx)) hkw
     (hb'.frame fun x hx=>fr x (by simp[hx])) (ha.frame fun x hx=>fr x (by simp[hx])) (by rw[cr_level ha,cr_level hb'])
     (.inr ⟨by omega,hmok.2.2.resolve_left (by simp),hmok.2.1⟩) hu'
   rcases hcore with ⟨a1,a2⟩|⟨a1,a2,a3,a4,a5,a6,X,B',a7,a8,a9,a10⟩
   · exact .inl ⟨a1,by omega⟩
   · refine .inr ⟨a1,a2,by omega,a4,a5,a6,[c1],Bo,X,B',fun x=>by simp,fun x hx => ?_,?_,a8,a9,a10⟩
     · have:=hne x (by simp[hx])
       simpa using this
     · have:=d3.trans a7 (by simp)
       simpa using this
theorem comp_ok {w w1 w3 w4:Wd} {b:Int} {B0 B1 Bk Bk' Bo B3 D S X W B':List Int} (d3:Fr w w1 [b] [] []) (a4:Fr w1 w3 Bk Bk' W) (g:Fr w3 w4 D X X) (hheld:∀x∈b :: B0,tr w.now x.toNat=true∧10≤x) (hub:b∉B0)
   (hB0:∀x,x∈B0 ↔ x∈B1∨x∈Bk∨x∈Bo∨x∈B3) (hdk:∀x∈Bk,x∉B1∧x∉Bo∧x∉B3) (hdo:∀x∈Bo,x∉B1∧x∉B3) (hdk':∀x∈Bk',x∉Bo) (hDS:∀x,x∈Bo ↔ x∈D∨x∈S) (hS:∀x∈S,x∉D)
   (hB':∀x,x∈B' ↔ x∈X∨x∈Bk'∨x∈B1∨x∈S∨x∈B3):∃W',Fr w w4 (b :: B0) B' W':=by
 have h1:=(d3.trans a4 (by simp)).trans g (fun x hx hD=>by
   have hx:x∈Bk':=by simpa using hx
   exact hdk' x hx ((hDS x).2 (.inl hD)))
 have h2:=h1.keep (B1++(S++B3)) (fun x hx=>by
   have hx:x∈B1∨x∈S∨x∈B3:=by simpa using hx
   have hm:x∈B0:=(hB0 x).2 (by
     rcases hx with h|h|h
     · exact .inl h
     · exact .inr (.inr (.inl ((hDS x).2 (.inr h))))
     · exact .inr (.inr (.inr h)))
   refine ⟨(hheld x (by simp[hm])).1,fun hxo => ?_,by have:=(hheld x (by simp[hm])).2;omega⟩
   have hxb:x≠b:=fun e=>hub (e▸hm)
   have hxo:x∈Bk∨x∈D:=by simpa[hxb] using hxo
   rcases hxo with h|h
   · obtain ⟨u1,u2,u3⟩:=hdk x h
     rcases hx with h|h|h
     · exact u1 h
     · exact u2 ((hDS x).2 (.inr h))
     · exact u3 h
   · obtain ⟨u1,u2⟩:=hdo x ((hDS x).2 (.inl h))
     rcases hx with h5|h5|h5
     · exact u1 h5
     · exact hS x h5 h
     · exact u2 h5)
 refine ⟨_,h2.congr (fun x => ?_) (fun x => ?_)⟩
 · simp only[List.mem_append,List.mem_cons,List.not_mem_nil,or_false,hB0,hDS]
   constructor
   · rintro (((h|h)|h)|(h|h|h)) <;> simp[h]
   · rintro (h|h|h|(h|h)|h) <;> simp[h]
 · rw[hB']
   simp only[List.mem_append,List.nil_append]
   constructor
   · rintro ((h|h)|(h|h|h)) <;> simp[h]
   · rintro (h|h|h|h|h) <;> simp[h]
theorem tail_gt {R:TR} (mw:∀c lo hi P B,R c lo hi P B→∀p∈P,within p.1 lo hi=true) {key hi' hi lo:ByteArray} {kr:List ByteArray} {cr:List Int} {P:List Pr} {B:List Int} (h:Tail R hi' hi kr cr P B) (hr:Rise kr) (he:∀k∈kr,k≠empS) (hw:∀k∈kr,within k lo hi=true) (hk:∀k∈kr,lt key k=true):∀p∈P,lt key p.1=true:=by
 rcases h with ⟨_,_,_,rfl,_⟩|⟨kr',rfl,h2⟩
 · intro p hp;cases hp
 · obtain ⟨r1,r2⟩:=List.pairwise_cons.1 hr
   have hin:∀x∈kr',within x hi' hi=true:=fun x hx=>within_iff.2 ⟨lt_asym (r1 x hx),(within_iff.1 (hw x (by simp[hx]))).2⟩
   intro p hp
   have:=KTr.within mw r2 (fun x hx=>he x (by simp[hx])) hin h2 p hp
   exact lt_nlt (hk hi' (by simp)) (within_iff.1 this).1
theorem tail_hi {R:TR} {x lo hi' hi:ByteArray} {kr:List ByteArray} {cr:List Int} {P:List Pr} {B:List Int} (h:Tail R hi' hi kr cr P B) (hk:∀k∈kr,lt x k=true) (hw:within x lo hi=true):hi'=empS∨lt x hi'=true:=by
 rcases h with ⟨_,_,rfl,_,_⟩|⟨kr',rfl,_⟩
 · exact (within_iff.1 hw).2
 · exact .inr (hk hi' (by simp))
theorem in_zip {ks vs:List ByteArray} {k:ByteArray} (h:k∈ks) (hl:vs.length=ks.length):∃p∈ks.zip vs,p.1=k:=by
 obtain ⟨i,hi,rfl⟩:=List.getElem_of_mem h
 exact ⟨(ks[i],vs[i]'(by omega)),List.mem_iff_getElem.2 ⟨i,by simp;omega,by simp⟩,rfl⟩
theorem not_at {ks:List ByteArray} {key:ByteArray} (hr:Rise ks) (h:isAt ks key=false):key∉ks:=fun hk=>by
 rw[←List.take_append_drop (srch ks key) ks]at hk
 rcases List.mem_append.1 hk with hk|hk
 · have:=srch_take _ hk;rw[lt_irr]at this;cases this
 · have:=srch_drop hr h _ hk;rw[lt_irr]at this;cases this
def RemOK (key:ByteArray) (h:Nat) (e:Ed) (b d:Int) (lo hi:ByteArray) (P:List Pr) (B:List Int) (r:Nd×Ed):Prop:=
 ((∀p∈P,p.1≠key)∧r.2.bad=80)∨((∃p∈P,p.1=key)∧((r.2.bad=60∧cnt e.w<2*h)∨(r.2.bad=0∧WRight r.2.w∧cnt e.w≤cnt r.2.w+2*h∧(∃n,Hold e.w b (d==1)=some n∧r.1.leaf=n.leaf∧n.keys.length≤r.1.keys.length+1)∧r.1.keys.length≤8 ∧
   ∃B' W,Fr e.w r.2.w B B' W∧B'.Nodup∧CR (Hold r.2.w) h lo hi r.1 (wioP key P) B')))
theorem rem_leaf {key:ByteArray} {h:Nat} {e e1:Ed} {b d:Int} {lo hi:ByteArray} {n:Nd} {P:List Pr} {B0:List Int} (hn:Hold e.w b (d==1)=some n) (hok:NdOK n (d==1)) (hl:n.leaf=true) (d1:e1.bad=0) (d2:WRight e1.w) (d3:Fr e.w e1.w [b] [] []) (d4:cnt e.w≤cnt e1.w) (hc:CR (Hold e1.w) h lo hi n P B0):
   RemOK key h e b d lo hi P (b :: B0) (if isAt n.keys key then (witN n (srch n.keys key),e1) else (nd0,{ e1 with bad:=80 })):=by
 obtain ⟨c1,c2,⟨_,c3,c4,c5,c6,rfl,rfl⟩|⟨hx,_⟩⟩:=hc
 · obtain ⟨kr,kz⟩:=kok_iff.1 c2
   cases ha:isAt n.keys key with
   | true=>
     rw[if_pos rfl]
     obtain ⟨hi',he⟩:=at_eq ha
     have hlen:=delAt_len hi'
     have hlv:=delAt_len (l:=n.vals) (i:=srch n.keys key) (by omega)
     refine .inr ⟨in_zip (he▸List.getElem_mem hi') c5,.inr ⟨d1,d2,by dsimp only;omega,⟨n,hn,rfl,by simp only[witN];omega⟩,by simp only[witN];have:=hok.2.1;omega,[],[],d3,List.nodup_nil,fun k hk=>c1 k (delAt_mem hk),kok_iff.2 ⟨rise_del _ kr,fun k hk=>kz k (delAt_mem hk)⟩,.inl ⟨hl,c3,c4,?_,fun v hv=>c6 v (delAt_mem hv),(leaf_del kr c5 ha).symm,rfl⟩⟩⟩
     simp only[witN];omega
   | false=>
     rw[if_neg (by simp)]
     exact .inl ⟨fun p hp e=>not_at kr ha (e▸zip_fst hp),rfl⟩
 · rw[hl]at hx;cases hx
theorem mem_mix (a b c d e:Prop):(a∨b∨(c∨d)∨e) ↔ (a∨c∨b∨d∨e):=by
 constructor
 · rintro (h|h|(h|h)|h) <;> simp[h]
 · rintro (h|h|h|h|h) <;> simp[h]
theorem mem_mix2 (b c d e:Prop):(b∨(c∨d)∨e) ↔ (b∨d∨c∨e):=by
 constructor
 · rintro (h|(h|h)|h) <;> simp[h]
 · rintro (h|h|h|h) <;> simp[h]
theorem mem_mix3 (a b c d e:Prop):(a∨b∨(c∨d)∨e) ↔ (a∨d∨b∨c∨e):=by
 constructor
 · rintro (h|h|(h|h)|h) <;> simp[h]
 · rintro (h|h|h|h|h) <;> simp[h]
theorem rem_join {key:ByteArray} {i j:Nat} {e e1:Ed} {b c d:Int} {lo hi klo khi:ByteArray} {n:Nd} {P1 Pk P3:List Pr} {B0 Bk:List Int} {r:Nd×Ed} (hn:Hold e.w b (d==1)=some n) (hok:NdOK n (d==1)) (hl:n.leaf=false) (hd:(d+1==1)=false) (d4:cnt e.w≤cnt e1.w)
   (hp1:∀p∈P1,lt p.1 key=true) (hp3:∀p∈P3,lt key p.1=true) (ih:RemOK key j e1 c (d+1) klo khi Pk Bk r)
   (aft:r.2.bad=0→WRight r.2.w→3≤r.1.keys.length→r.1.keys.length≤8→∀Bk' W,Fr e1.w r.2.w Bk Bk' W→Bk'.Nodup→CR (Hold r.2.w) j klo khi r.1 (wioP key Pk) Bk' →
     ((aftE r.2 n i r.1 d).2.bad=60∧cnt r.2.w<2)∨((aftE r.2 n i r.1 d).2.bad=0∧WRight (aftE r.2 n i r.1 d).2.w∧cnt r.2.w≤cnt (aftE r.2 n i r.1 d).2.w+2∧(aftE r.2 n i r.1 d).1.leaf=false∧n.keys.length≤(aftE r.2 n i r.1 d).1.keys.length+1∧(aftE r.2 n i r.1 d).1.keys.length≤n.keys.length ∧
       ∃B' W,Fr e.w (aftE r.2 n i r.1 d).2.w (b :: B0) B' W∧B'.Nodup∧CR (Hold (aftE r.2 n i r.1 d).2.w) (j+1) lo hi (aftE r.2 n i r.1 d).1 (P1++(wioP key Pk++P3)) B')):
   RemOK key (j+1) e b d lo hi (P1++(Pk++P3)) (b :: B0) (if r.2.bad≠0 then (nd0,r.2) else aftE r.2 n i r.1 d):=by
 rcases ih with ⟨a1,a2⟩|⟨⟨p,hp,hpk⟩,a2⟩
 · rw[if_pos (by rw[a2];decide)]
   refine .inl ⟨fun p hp => ?_,a2⟩
   rcases List.mem_append.1 hp with hp|hp
   · exact lt_ne (hp1 p hp)
   · rcases List.mem_append.1 hp with hp|hp
     · exact a1 p hp
     · exact (lt_ne (hp3 p hp)).symm
 · have hthere:∃p∈P1++(Pk++P3),p.1=key:=⟨p,by simp[hp],hpk⟩
   rcases a2 with ⟨a1,a2⟩|⟨a1,a2,a3,⟨m,a4,_,a5⟩,a6,Bk',W,a7,a8,a9⟩
   · rw[if_pos (by rw[a1];decide)]
     exact .inr ⟨hthere,.inl ⟨a1,by omega⟩⟩
   · rw[if_neg (by rw[a1];simp)]
     rw[hd]at a4
     have h4:=(hold_ok a4).2.2.resolve_left (by simp)
     rcases aft a1 a2 (by omega) a6 Bk' W a7 a8 a9 with ⟨g1,g2⟩|⟨g1,g2,g3,g4,g5,g6,B',W',g7,g8,g9⟩
     · exact .inr ⟨hthere,.inl ⟨g1,by omega⟩⟩
     · exact .inr ⟨hthere,.inr ⟨g1,g2,by omega,⟨n,hn,by rw[g4,hl],g5⟩,by have:=hok.2.1;omega,B',W',g7,g8,by rw[wioP_mid hp1 hp3];exact g9⟩⟩
set_option maxHeartbeats 2000000 in
theorem rem_ok {key:ByteArray}:∀(f h:Nat) (e:Ed) (b d:Int) (lo hi:ByteArray) (P:List Pr) (B:List Int),e.bad=0→WRight e.w→Tr (Hold e.w) (h+1) b (d==1) lo hi P B→B.Nodup→within key lo hi=true→1≤d→d+h≤8→h+1≤f→RemOK key h e b d lo hi P B (remE key f e b d)
 | 0,h,e,b,d,lo,hi,P,B,_,_,_,_,_,_,_,hf=>by omega
 | f+1,h,e,b,d,lo,hi,P,B,he,hr,ht,hu,hw,hd,h8,hf=>by
   have hnow:=wr_now hr
   have hheld:=tr_held ht hnow
   have hth:=ht.held
   obtain ⟨n,B0,hn,hc,rfl⟩:=tr_get ht
   have hok:=hold_ok hn
   obtain ⟨ub,u0⟩:=List.nodup_cons.1 hu
   have hcr:=hc.cr hok.1
   unfold remE
   rw[load_ok he hn (by omega)]
   dsimp only
   rw[if_neg (by rw[he];simp)]
   obtain ⟨d1,d2,d3,d4⟩:=drop_ok he hr hn
   generalize dropE e b=e1 at d1 d2 d3 d4 ⊢
   have hb0:∀x∈B0,x∉[b]:=fun x hx hxb=>by
     obtain rfl:x=b:=by simpa using hxb
     exact ub hx
   have hc1:CR (Hold e1.w) h lo hi n P B0:=hcr.frame fun x hx r m hm=>d3.hold (hb0 x hx) hm
   cases hl:n.leaf with
   | true=>
     rw[if_pos rfl]
     exact rem_leaf hn hok hl d1 d2 d3 d4 hc1
   | false=>
     rw[if_neg (by simp)]
     have hlev:=cr_level hc1
     obtain ⟨c1,ck,⟨hx,_⟩|⟨_,nv,c2⟩⟩:=hc1
     · rw[hl]at hx;cases hx
     obtain ⟨j,rfl⟩:∃j,h=j+1:=by
       cases h with
       | zero=>rw[hl]at hlev;simp at hlev
       | succ j=>exact ⟨j,rfl⟩
     obtain ⟨kr,kz⟩:=kok_iff.1 ck
     have hke:∀k∈n.keys,k≠empS:=fun k hk e=>by have:=(kz k hk).1;rw[e]at this;exact absurd this (by decide)
     have hk1:1≤n.keys.length:=by
       rcases hok.1.2.2 with ⟨hx,_⟩|⟨_,_,h,_⟩
       · rw[hl]at hx;cases hx
       · exact h
     have hkl:=ktr_len c2
     have e2:(d+1==1)=false:=by simp;omega
     have mw:∀c lo hi P B,Tr (Hold e1.w) (j+1) c false lo hi P B→∀p∈P,within p.1 lo hi=true:=fun c lo hi P B hc=>hc.within (hold_hok _)
     have hkt:=kidOf_take (l:=n.keys) (x:=key)
     have hkd:=kidOf_drop (x:=key) kr
     have hle:=kidOf_le n.keys key
     cases hi0:kidOf n.keys key with
     | zero=>
       rw[hi0]at hkd
       obtain ⟨mid,hi',cA,cB,P1,Pa,Pb,P3,B1,Ba,Bb,B3,q1,q2,q3,q4,rfl,rfl,q7,q8⟩:=ktr_two (l:=0) c2 (by omega)
       have q7':lo=mid∧P1=[]∧B1=[]:=by simpa[KSeg] using q7
       have h0d:n.keys[0]∈n.keys.drop 0:=by rw[List.drop_zero];exact List.getElem_mem _
       have hkey0:lt key n.keys[0]=true:=hkd _ h0d
       have hwk:within key mid n.keys[0]=true:=within_iff.2 ⟨q7'.1▸(within_iff.1 hw).1,.inr hkey0⟩
       have hdr:∀k∈n.keys.drop (0+1),lt n.keys[0] k=true:=fun k hk=>by
         obtain ⟨i,hi,hil,rfl⟩:=drop_mem hk
         exact List.pairwise_iff_getElem.1 kr 0 i _ hi (by omega)
       have hkw:within n.keys[0] mid hi'=true:=within_iff.2 ⟨q7'.1▸(within_iff.1 (c1 _ (List.getElem_mem _))).1,tail_hi q8 hdr (c1 _ (List.getElem_mem _))⟩
       have hp3:∀p∈Pb++P3,lt key p.1=true:=fun p hp=>by
         rcases List.mem_append.1 hp with hp|hp
         · exact lt_nlt hkey0 (within_iff.1 (mw _ _ _ _ _ q4 p hp)).1
         · exact tail_gt mw q8 (rise_drop _ kr) (fun k hk=>hke k (List.mem_of_mem_drop hk)) (fun k hk=>c1 k (List.mem_of_mem_drop hk)) (fun k hk=>lt_trans hkey0 (hdr k hk)) p hp
       have hp1:∀p∈P1,lt p.1 key=true:=fun p hp=>by rw[q7'.2.1]at hp;cases hp
       rw[q1]
       simp only[Option.getD_some]
       obtain ⟨n1,n2,n3⟩:=List.nodup_append.1 u0
       obtain ⟨n4,n5,n6⟩:=List.nodup_append.1 n2
       obtain ⟨n7,n8,n9⟩:=List.nodup_append.1 n4
       have ih:=rem_ok f j e1 cA (d+1) mid n.keys[0] Pa Ba d1 d2 (by rw[e2];exact q3) n7 hwk (by omega) (by omega) (by omega)
       generalize remE key f e1 cA (d+1)=r at ih ⊢
       have eP:P1++((Pa++Pb)++P3)=P1++(Pa++(Pb++P3)):=by simp
       rw[eP]
       refine rem_join hn hok hl e2 d4 hp1 hp3 ih fun a1 a2 a3 a4 Ba' W a5 a6 a7 => ?_
       have hda:∀x∈Ba,x∉B1∧x∉Bb∧x∉B3:=fun x hx=>⟨fun h=>n3 x h x (by simp[hx]) rfl,fun h=>n9 x hx x h rfl,fun h=>n6 x (by simp[hx]) x h rfl⟩
       have hdb:∀x∈Bb,x∉B1∧x∉B3:=fun x hx=>⟨fun h=>n3 x h x (by simp[hx]) rfl,fun h=>n6 x (by simp[hx]) x h rfl⟩
       have fr:∀(x:Int),x∉Ba→∀(r0:Bool) (m:Nd),Hold e1.w x r0=some m→Hold r.2.w x r0=some m:=fun x hx r0 m hm=>a5.hold hx hm
       have hnew:∀x∈Ba',x∉B1∧x∉Bb∧x∉B3:=fun x hx=>by
         have key2:x∉Ba→x∈B1++((Ba++Bb)++B3)→False:=fun hxa hm=>by
           have h2:=a5.fresh hx hxa
           obtain ⟨r0,m,hm2⟩:=hth x (by simp only[List.mem_cons];exact .inr hm)
           rw[hold_tr (d3.hold (hb0 x hm) hm2)]at h2;cases h2
         refine ⟨fun h=>key2 (fun h'=>(hda x h').1 h) (by simp[h]),fun h=>key2 (fun h'=>(hda x h').2.1 h) (by simp[h]),fun h=>key2 (fun h'=>(hda x h').2.2 h) (by simp[h])⟩
       have hu':(B1++((Ba'++Bb)++B3)).Nodup:=by
         refine List.nodup_append.2 ⟨n1,List.nodup_append.2 ⟨List.nodup_append.2 ⟨a6,n8,fun x hx y hy e => ?_⟩,n5,fun x hx y hy e => ?_⟩,fun x hx y hy e => ?_⟩
         · subst e;exact (hnew x hx).2.1 hy
         · subst e
           rcases List.mem_append.1 hx with hx|hx
           · exact (hnew x hx).2.2 hy
           · exact (hdb x hx).2 hy
         · subst e
           have hy:x∈Ba'∨x∈Bb∨x∈B3:=by simpa using hy
           rcases hy with hy|hy|hy
           · exact (hnew x hy).1 hx
           · exact (hdb x hy).1 hx
           · exact n3 x hx x (by simp[hy]) rfl
       have haft:=aftL (e:=r.2) (d:=d) a1 a2 (by omega) nv hl ck c1
         (kseg_mono (fun c lo hi P B' hB hx=>Tr.frame (fun x hx'=>fr x (fun h=>(hda x h).1 (hB x hx'))) hx) q7)
         (q8.mono (fun c lo hi P B' hB hx=>Tr.frame (fun x hx'=>fr x (fun h=>(hda x h).2.2 (hB x hx'))) hx)) hkw a7 q2
         (Tr.frame (fun x hx'=>fr x (fun h=>(hda x h).2.1 hx')) q4) a3 a4 hd (by omega) hu'
       rcases haft with g|⟨g1,g2,g3,g4,g5,g6,D,S,X,B',g7,g8,g9,g10,g11,g12⟩
       · exact .inl g
       · have eP2:P1++((wioP key Pa++Pb)++P3)=P1++(wioP key Pa++(Pb++P3)):=by simp
         rw[eP2]at g12
         obtain ⟨W',hW⟩:=comp_ok (B1:=B1) (B3:=B3) d3 a5 g9 hheld ub (fun x=>by simp[or_assoc]) hda hdb (fun x hx=>(hnew x hx).2.1) g7 g8 (fun x=>by rw[g11];simp only[List.mem_append];exact mem_mix _ _ _ _ _)
         exact .inr ⟨g1,g2,g3,g4,g5,g6,B',W',hW,g10,g12⟩
     | succ l=>
       rw[hi0]at hkd hkt hle
       have hl0:l<n.keys.length:=by omega
       obtain ⟨mid,hi',cA,cB,P1,Pa,Pb,P3,B1,Ba,Bb,B3,q1,q2,q3,q4,rfl,rfl,q7,q8⟩:=ktr_two (l:=l) c2 hl0
       have h0d:n.keys[l]∈n.keys.take (l+1):=by rw[take_snoc hl0];exact List.mem_append_right _ (List.mem_singleton_self _)
       have hkey0:lt key n.keys[l]=false:=hkt _ h0d
       have hwk:within key n.keys[l] hi'=true:=within_iff.2 ⟨hkey0,tail_hi q8 hkd hw⟩
       have hdr:∀k∈n.keys.drop (l+1),lt n.keys[l] k=true:=fun k hk=>by
         obtain ⟨i,hi,hil,rfl⟩:=drop_mem hk
         exact List.pairwise_iff_getElem.1 kr l i _ hi (by omega)
       have hmid:lt mid n.keys[l]=true:=by
         obtain ⟨p,hp⟩:=List.exists_mem_of_ne_nil _ (tr_ne (hold_hok _) _ _ _ _ _ _ q3)
         obtain ⟨g1,g2⟩:=within_iff.1 (mw _ _ _ _ _ q3 p hp)
         exact nlt_lt g1 (g2.resolve_left (hke _ (List.getElem_mem _)))
       have hkw:within n.keys[l] mid hi'=true:=within_iff.2 ⟨lt_asym hmid,tail_hi q8 hdr (c1 _ (List.getElem_mem _))⟩
       have hp3:∀p∈P3,lt key p.1=true:=fun p hp=>
         tail_gt mw q8 (rise_drop _ kr) (fun k hk=>hke k (List.mem_of_mem_drop hk)) (fun k hk=>c1 k (List.mem_of_mem_drop hk)) hkd p hp
       have hp1:∀p∈P1++Pa,lt p.1 key=true:=fun p hp=>by
         rcases List.mem_append.1 hp with hp|hp
         · exact lt_nlt (lt_trans (kseg_low mw (rise_take _ kr) (fun k hk=>hke k (List.mem_of_mem_take hk)) q7 p hp) hmid) hkey0
         · exact lt_nlt ((within_iff.1 (mw _ _ _ _ _ q3 p hp)).2.resolve_left (hke _ (List.getElem_mem _))) hkey0
       rw[q2]
       simp only[Option.getD_some]
       obtain ⟨n1,n2,n3⟩:=List.nodup_append.1 u0
       obtain ⟨n4,n5,n6⟩:=List.nodup_append.1 n2
       obtain ⟨n7,n8,n9⟩:=List.nodup_append.1 n4
       have ih:=rem_ok f j e1 cB (d+1) n.keys[l] hi' Pb Bb d1 d2 (by rw[e2];exact q4) n8 hwk (by omega) (by omega) (by omega)
       generalize remE key f e1 cB (d+1)=r at ih ⊢
       have eP:P1++((Pa++Pb)++P3)=(P1++Pa)++(Pb++P3):=by simp
       rw[eP]
       refine rem_join hn hok hl e2 d4 hp1 hp3 ih fun a1 a2 a3 a4 Bb' W a5 a6 a7 => ?_
       have hda:∀x∈Bb,x∉B1∧x∉Ba∧x∉B3:=fun x hx=>⟨fun h=>n3 x h x (by simp[hx]) rfl,fun h=>n9 x h x hx rfl,fun h=>n6 x (by simp[hx]) x h rfl⟩
       have hdb:∀x∈Ba,x∉B1∧x∉B3:=fun x hx=>⟨fun h=>n3 x h x (by simp[hx]) rfl,fun h=>n6 x (by simp[hx]) x h rfl⟩
       have fr:∀(x:Int),x∉Bb→∀(r0:Bool) (m:Nd),Hold e1.w x r0=some m→Hold r.2.w x r0=some m:=fun x hx r0 m hm=>a5.hold hx hm
       have hnew:∀x∈Bb',x∉B1∧x∉Ba∧x∉B3:=fun x hx=>by
         have key2:x∉Bb→x∈B1++((Ba++Bb)++B3)→False:=fun hxa hm=>by
           have h2:=a5.fresh hx hxa
           obtain ⟨r0,m,hm2⟩:=hth x (by simp only[List.mem_cons];exact .inr hm)
           rw[hold_tr (d3.hold (hb0 x hm) hm2)]at h2;cases h2
         refine ⟨fun h=>key2 (fun h'=>(hda x h').1 h) (by simp[h]),fun h=>key2 (fun h'=>(hda x h').2.1 h) (by simp[h]),fun h=>key2 (fun h'=>(hda x h').2.2 h) (by simp[h])⟩
       have hu':(B1++((Ba++Bb')++B3)).Nodup:=by
         refine List.nodup_append.2 ⟨n1,List.nodup_append.2 ⟨List.nodup_append.2 ⟨n7,a6,fun x hx y hy e => ?_⟩,n5,fun x hx y hy e => ?_⟩,fun x hx y hy e => ?_⟩
         · subst e;exact (hnew x hy).2.1 hx
         · subst e
           rcases List.mem_append.1 hx with hx|hx
           · exact (hdb x hx).2 hy
           · exact (hnew x hx).2.2 hy
         · subst e
           have hy:x∈Ba∨x∈Bb'∨x∈B3:=by simpa using hy
           rcases hy with hy|hy|hy
           · exact (hdb x hy).1 hx
           · exact (hnew x hy).1 hx
           · exact n3 x hx x (by simp[hy]) rfl
       have haft:=aftR (e:=r.2) (d:=d) a1 a2 hl0 hkl nv hl ck c1
         (kseg_mono (fun c lo hi P B' hB hx=>Tr.frame (fun x hx'=>fr x (fun h=>(hda x h).1 (hB x hx'))) hx) q7)
         (q8.mono (fun c lo hi P B' hB hx=>Tr.frame (fun x hx'=>fr x (fun h=>(hda x h).2.2 (hB x hx'))) hx)) hkw
         (Tr.frame (fun x hx'=>fr x (fun h=>(hda x h).2.1 hx')) q3) q1 a7 a3 a4 hd (by omega) hu'
       rcases haft with g|⟨g1,g2,g3,g4,g5,g6,D,S,X,B',g7,g8,g9,g10,g11,g12⟩
       · exact .inl g
       · have eP2:P1++((Pa++wioP key Pb)++P3)=(P1++Pa)++(wioP key Pb++P3):=by simp
         rw[eP2]at g12
         obtain ⟨W',hW⟩:=comp_ok (B1:=B1) (B3:=B3) d3 a5 g9 hheld ub (fun x=>by simp only[List.mem_append];exact mem_mix2 _ _ _ _) hda hdb (fun x hx=>(hnew x hx).2.1) g7 g8 (fun x=>by rw[g11];simp only[List.mem_append];exact mem_mix3 _ _ _ _ _)
         exact .inr ⟨g1,g2,g3,g4,g5,g6,B',W',hW,g10,g12⟩
def isKeyP (key:ByteArray):Prop:=1≤key.size∧key.size≤32
instance (key:ByteArray):Decidable (isKeyP key):=by unfold isKeyP;infer_instance
noncomputable def delR (w:Wd) (key:ByteArray):Int×Ed:=
 let r:=remE key 9 ⟨w,0⟩ w.root 1
 if r.2.bad≠0 then (0,r.2) else if r.1.keys≠[] then storeE r.2 r.1 else if r.1.leaf then (0,r.2) else ((r.1.kids[0]?).getD 0,r.2)
noncomputable def delW (w:Wd) (key:ByteArray):Wd×Int:=
 if ¬(WRight w∧isKeyP key) then (wd0,1) else if w.root=0 then (wd0,80) else endE (setRoot (delR w key))
theorem hold_up {w:Wd} {b:Int} {n:Nd} (h:Hold w b false=some n):Hold w b true=some n:=by
 unfold Hold at h ⊢
 split at h
 · cases h
 · rename_i h1
   rw[if_neg h1]
   rcases getP_cases (pgAt w b) with ⟨e,he,h'⟩|⟨k,g,s,h',_⟩
   · rw[h',hPage_err he]at h;cases h
   · rw[h',hPage_ok]at h ⊢
     split at h
     · cases h
     rename_i h2
     rw[if_neg h2]
     split at h
     · cases h
     rename_i h3
     rw[if_neg h3]
     split at h
     · rename_i hk
       rw[if_pos (ndok_up hk)];exact h
     · cases h
theorem tr_up {w:Wd} {h:Nat} {b:Int} {lo hi:ByteArray} {P:List Pr} {B:List Int} (ht:Tr (Hold w) h b false lo hi P B):Tr (Hold w) h b true lo hi P B:=by
 cases h with
 | zero=>exact ht.elim
 | succ h=>
   obtain ⟨n,B0,h1,h2,rfl⟩:=tr_get ht
   exact tr_of (hold_up h1) h2
theorem delR_tree {w:Wd} {key:ByteArray} {h:Nat} {P:List Pr} {B:List Int} (hr:WRight w) (h0:w.root≠0) (hT:Tr (Hold w) (h+1) w.root true empS empS P B) (hu:B.Nodup) (h8:h+1≤8):
   ((∀p∈P,p.1≠key)∧(delR w key).2.bad=80)∨((∃p∈P,p.1=key)∧(((delR w key).2.bad=60∧cnt w<2*h+1)∨((delR w key).2.bad=0∧WRight (delR w key).2.w∧cnt w≤cnt (delR w key).2.w+(2*h+1) ∧
     ∃h' B' W,Fr w (delR w key).2.w B B' W∧h'≤h+1∧B'.Nodup∧(((delR w key).1=0∧h'=0∧wioP key P=[]∧B'=[])∨(1≤h'∧Tr (Hold (delR w key).2.w) h' (delR w key).1 true empS empS (wioP key P) B'))))):=by
 have hrem:=rem_ok (key:=key) 9 h ⟨w,0⟩ w.root 1 empS empS P B rfl hr hT hu (empS_within key) (by omega) (by omega) (by omega)
 unfold delR
 dsimp only
 generalize remE key 9 ⟨w,0⟩ w.root 1=r at hrem ⊢
 rcases hrem with ⟨a1,a2⟩|⟨hthere,⟨a1,a2⟩|⟨a1,a2,a3,a4,a5,B',W,a6,a7,a8⟩⟩
 · rw[if_pos (by rw[a2];decide)]
   exact .inl ⟨a1,a2⟩
 · rw[if_pos (by rw[a1];decide)]
   simp only at a2
   exact .inr ⟨hthere,.inl ⟨a1,by omega⟩⟩
 · rw[if_neg (by rw[a1];simp)]
   simp only at a3 a6
   refine .inr ⟨hthere,?_⟩
   by_cases hk:r.1.keys=[]
   · rw[if_neg (by simpa using hk)]
     obtain ⟨c1,c2,⟨x1,x2,x3,x4,x5,x6,x7⟩|⟨x1,x2,x3⟩⟩:=a8
     · rw[if_pos x1]
       subst x7
       refine .inr ⟨a1,a2,by dsimp only;omega,0,[],W,a6,by omega,List.nodup_nil,.inl ⟨rfl,rfl,?_,rfl⟩⟩
       rw[x6,hk];rfl
     · rw[if_neg (by rw[x1];simp)]
       rw[hk]at x3
       have hl:=ktr_len x3
       cases hkids:r.1.kids with
       | nil=>rw[hkids]at hl;simp at hl
       | cons c cs=>
         rw[hkids]at hl x3
         have:cs=[]:=by
          cases cs with
          | nil=>rfl
          | cons=>simp at hl
         subst this
         have hTc:Tr (Hold r.2.w) h c false empS empS (wioP key P) B':=x3
         have hh:1≤h:=by
          cases h with
          | zero=>exact hTc.elim
          | succ=>omega
         exact .inr ⟨a1,a2,by dsimp only;omega,h,B',W,a6,by omega,a7,.inr ⟨hh,tr_up hTc⟩⟩
   · rw[if_pos hk]
     have hlen:=List.length_pos_iff.2 hk
     have hok:NdOK r.1 true:=⟨a8.stands a2 (by omega) (.inr (by omega)),a5,.inl rfl⟩
     rcases store_ok a1 a2 hok with ⟨b1,b2,_⟩|⟨b1,b2,b3,b4,b5,b6⟩
     · exact .inl ⟨b1,by omega⟩
     · have hs:(storeE r.2 r.1).1∉B':=fun hx=>by
         obtain ⟨r0,m,hm⟩:=a8.held _ hx
         rw[hold_tr hm]at b5;cases b5
       refine .inr ⟨b1,b2,by omega,h+1,_,_,(a6.trans b3 (by simp)).congr (O':=B) (N':=(storeE r.2 r.1).1 :: B') (fun x=>by simp) (fun x=>by simp[or_comm]),by omega,List.nodup_cons.2 ⟨hs,a7⟩,.inr ⟨by omega,cr_leaf (a8.frame fun x hx r m hm=>b3.hold (by simp) hm) hk (b6 _ hok)⟩⟩
theorem delW_tree {w:Wd} {key:ByteArray} {h:Nat} {P:List Pr} {B:List Int} (hr:WRight w) (hp:isKeyP key) (ht:IsTree w h P B):
   ((∀p∈P,p.1≠key)∧delW w key=(wd0,80))∨((∃p∈P,p.1=key)∧((delW w key=(wd0,60)∧cnt w<2*h+1)∨∃x,delW w key=(x,0)∧WRight x∧cnt w≤cnt x+(2*h+1)∧∃h' B' W,Fq w x B B' W∧h'≤h∧IsTree x h' (wioP key P) B')):=by
 unfold delW
 rw[if_neg (by simp;exact ⟨hr,hp⟩)]
 rcases id ht with ⟨h0,rfl,rfl,rfl⟩|⟨h0,h1,h8,hT,hu⟩
 · rw[if_pos h0]
   exact .inl ⟨fun p hp=>(by cases hp),rfl⟩
 · rw[if_neg h0]
   obtain ⟨j,rfl⟩:∃j,h=j+1:=⟨h - 1,by omega⟩
   have hx:=delR_tree (key:=key) hr h0 hT hu h8
   generalize delR w key=r at hx ⊢
   rcases hx with ⟨a1,a2⟩|⟨hthere,⟨a1,a2⟩|⟨a1,a2,a3,h',B',W,a4,a5,a6,a7⟩⟩
   · exact .inl ⟨a1,by rw[endE_bad (by rw[a2];decide),a2]⟩
   · exact .inr ⟨hthere,.inl ⟨by rw[endE_bad (by rw[a1];decide),a1],by omega⟩⟩
   · refine .inr ⟨hthere,.inr ⟨_,endE_ok a1,wright_root a2 ?_,(cnt_root r.2.w r.1)▸(by omega),h',B',W,a4.q _,a5,?_⟩⟩
     · rcases a7 with ⟨b1,_⟩|⟨b1,b2⟩
       · exact .inl b1
       · obtain ⟨r0,m,hm⟩:=b2.held _ b2.root_mem
         have:=hold_rg (wr_now a2) hm
         exact .inr ⟨this.1,this.2.1⟩
     · rcases a7 with ⟨b1,b2,b3,b4⟩|⟨b1,b2⟩
       · exact .inl ⟨b1,b2,b3,b4⟩
       · obtain ⟨r0,m,hm⟩:=b2.held _ b2.root_mem
         have:=hold_rg (wr_now a2) hm
         refine .inr ⟨?_,b1,by omega,b2,a6⟩
         show r.1≠0
         omega
end Go.Proofs.YtclgengkohbjjaaGreatDoor.M
