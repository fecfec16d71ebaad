import Derived.Test.YtclgengkohbjjaaGreatDoorR4EdA
namespace Go.Proofs.YtclgengkohbjjaaGreatDoor.M
set_option linter.unusedVariables false
set_option linter.unusedSimpArgs false
open Go Go.Mir
set_option linter.unusedVariables false
def freeAt (w:Wd) (i:Nat):Bool := !(tr w.base i) && !(tr w.now i)
def cntUp (w:Wd):Nat→Nat
 | 0=>0
 | i+1=>cntUp w i+if freeAt w i then 1 else 0
def cnt (w:Wd):Nat:=cntUp w w.now.length
def ffUp (w:Wd):Nat→Option Nat
 | 0=>none
 | i+1=>match ffUp w i with
   | some j=>some j
   | none=>if freeAt w i then some i else none
def firstFree (w:Wd):Option Nat:=ffUp w w.now.length
theorem ffUp_some {w:Wd}:∀ {i j:Nat},ffUp w i=some j→j<i∧freeAt w j=true∧∀k,k<j→freeAt w k=false
 | 0,j,h=>by cases h
 | i+1,j,h=>by
   unfold ffUp at h
   cases hx:ffUp w i with
   | some k=>
     rw[hx]at h
     obtain rfl:k=j:=by simpa using h
     obtain ⟨h1,h2,h3⟩:=ffUp_some hx
     exact ⟨by omega,h2,h3⟩
   | none=>
     rw[hx]at h
     dsimp only at h
     split at h
     · rename_i hf
       obtain rfl:i=j:=by simpa using h
       refine ⟨by omega,hf,fun k hk => ?_⟩
       have hn:∀(m:Nat),ffUp w m=none→∀k,k<m→freeAt w k=false:=fun m=>by
        induction m with
        | zero=>intro _ k hk;omega
        | succ m ih=>
          intro hm k hk
          unfold ffUp at hm
          cases hy:ffUp w m with
          | some z=>rw[hy]at hm;cases hm
          | none=>
            rw[hy]at hm
            dsimp only at hm
            split at hm
            · cases hm
            · rename_i hg
              by_cases e:k=m
              · subst e;simpa using hg
              · exact ih hy k (by omega)
       exact hn i hx k hk
     · cases h
theorem ffUp_none {w:Wd}:∀ {i:Nat},ffUp w i=none→∀k,k<i→freeAt w k=false
 | 0,_,k,hk=>by omega
 | i+1,h,k,hk=>by
   unfold ffUp at h
   cases hx:ffUp w i with
   | some z=>rw[hx]at h;cases h
   | none=>
     rw[hx]at h
     dsimp only at h
     split at h
     · cases h
     · rename_i hg
       by_cases e:k=i
       · subst e;simpa using hg
       · exact ffUp_none hx k (by omega)
theorem cntUp_zero {w:Wd}:∀ {i:Nat},(∀k,k<i→freeAt w k=false)→cntUp w i=0
 | 0,_=>rfl
 | i+1,h=>by
   rw[cntUp,cntUp_zero fun k hk=>h k (by omega),h i (by omega)];rfl
theorem cnt_none {w:Wd} (h:firstFree w=none):cnt w=0:=cntUp_zero (ffUp_none h)
theorem cntUp_less {w x:Wd} {b:Nat} (h:∀j,j≠b→freeAt w j=freeAt x j):∀i,cntUp w i≤cntUp x i+if b<i then 1 else 0
 | 0=>by simp[cntUp]
 | i+1=>by
   have ih:=cntUp_less h i
   unfold cntUp
   by_cases e:i=b
   · subst e
     rw[if_neg (by omega)]at ih
     rw[if_pos (show i<i+1 by omega)]
     split <;> split <;> omega
   · rw[h i e]
     by_cases hb:b<i
     · rw[if_pos hb]at ih
       rw[if_pos (show b<i+1 by omega)]
       omega
     · rw[if_neg hb]at ih
       rw[if_neg (show ¬b<i+1 by omega)]
       omega
theorem cntUp_more {w x:Wd} (h:∀j,freeAt w j=true→freeAt x j=true):∀i,cntUp w i≤cntUp x i
 | 0=>Nat.le_refl _
 | i+1=>by
   have ih:=cntUp_more h i
   unfold cntUp
   by_cases hf:freeAt w i=true
   · rw[hf,h i hf];simp;omega
   · rw[if_neg hf];omega
structure Fr (w x:Wd) (O N W:List Int):Prop where
 base:x.base=w.base
 gen:x.gen=w.gen
 root:x.root=w.root
 nlen:x.now.length=w.now.length
 plen:x.pages.length=w.pages.length
 now:∀i:Nat,i<w.now.length→tr x.now i=((tr w.now i && !decide ((i:Int)∈O))||decide ((i:Int)∈N))
 page:∀b:Int,0≤b→b∉W→pgAt x b=pgAt w b
 wr:∀b∈W,b∈N∧10≤b∧b<w.now.length∧tr w.base b.toNat=false∧(b∈O∨tr w.now b.toNat=false)∧∃n,NdOK n true∧pgAt x b=pageB w.gen n
 kept:∀b∈N,b∈W∨b∈O
theorem Fr.refl (w:Wd):Fr w w [] [] []:=⟨rfl,rfl,rfl,rfl,rfl,fun i _=>by simp,fun _ _ _=>rfl,fun b h=>(by cases h),fun b h=>(by cases h)⟩
theorem Fr.trans {w x y:Wd} {O N W O' N' W':List Int} (h:Fr w x O N W) (g:Fr x y O' N' W') (hd:∀b∈N,b∉O'):Fr w y (O++O') (N++N') (W++W') where
 base:=g.base.trans h.base
 gen:=g.gen.trans h.gen
 root:=g.root.trans h.root
 nlen:=g.nlen.trans h.nlen
 plen:=g.plen.trans h.plen
 now i hi:=by
  rw[g.now i (by rw[h.nlen];exact hi),h.now i hi]
  simp only[List.mem_append]
  by_cases hN:(i:Int)∈N
  · have:=hd _ hN
    simp[hN,this]
  · by_cases h1:(i:Int)∈O <;> by_cases h2:(i:Int)∈O' <;> by_cases h3:(i:Int)∈N' <;> simp[hN,h1,h2,h3]
 page b hb hn:=by
  rw[List.mem_append]at hn
  rw[g.page b hb fun e=>hn (.inr e),h.page b hb fun e=>hn (.inl e)]
 wr b hb:=by
  rw[List.mem_append]at hb
  by_cases h2:b∈W'
  · obtain ⟨a1,a2,a3,a4,a5,n,a6,a7⟩:=g.wr b h2
    rw[h.nlen]at a3
    refine ⟨List.mem_append_right _ a1,a2,a3,by rw[←h.base];exact a4,?_,n,a6,by rw[a7,h.gen]⟩
    rcases a5 with a5|a5
    · exact .inl (List.mem_append_right _ a5)
    · rw[h.now b.toNat (by omega),show ((b.toNat:Nat):Int)=b by omega]at a5
      simp only[Bool.or_eq_false_iff,Bool.and_eq_false_iff,Bool.not_eq_false',decide_eq_true_eq]at a5
      rcases a5.1 with a6|a6
      · exact .inr a6
      · exact .inl (List.mem_append_left _ a6)
  · have hb:=hb.resolve_right h2
    obtain ⟨a1,a2,a3,a4,a5,n,a6,a7⟩:=h.wr b hb
    refine ⟨List.mem_append_left _ a1,a2,a3,a4,?_,n,a6,by rw[g.page b (by omega) h2];exact a7⟩
    rcases a5 with a5|a5
    · exact .inl (List.mem_append_left _ a5)
    · exact .inr a5
 kept b hb:=by
  rcases List.mem_append.1 hb with hb|hb
  · rcases h.kept b hb with e|e
    · exact .inl (List.mem_append_left _ e)
    · exact .inr (List.mem_append_left _ e)
  · rcases g.kept b hb with e|e
    · exact .inl (List.mem_append_right _ e)
    · exact .inr (List.mem_append_right _ e)
theorem Fr.keep {w x:Wd} {O N W:List Int} (h:Fr w x O N W) (E:List Int) (hE:∀b∈E,tr w.now b.toNat=true∧b∉O∧0≤b):Fr w x (O++E) (N++E) W where
 base:=h.base
 gen:=h.gen
 root:=h.root
 nlen:=h.nlen
 plen:=h.plen
 now i hi:=by
  rw[h.now i hi]
  simp only[List.mem_append]
  by_cases h1:(i:Int)∈E
  · obtain ⟨a,b,_⟩:=hE _ h1
    rw[show (i:Int).toNat=i by omega]at a
    simp[h1,a,b]
  · simp[h1]
 page:=h.page
 wr b hb:=by
  obtain ⟨a1,a2,a3,a4,a5,a6⟩:=h.wr b hb
  refine ⟨List.mem_append_left _ a1,a2,a3,a4,?_,a6⟩
  rcases a5 with a5|a5
  · exact .inl (List.mem_append_left _ a5)
  · exact .inr a5
 kept b hb:=by
  rcases List.mem_append.1 hb with hb|hb
  · rcases h.kept b hb with e|e
    · exact .inl e
    · exact .inr (List.mem_append_left _ e)
  · exact .inr (List.mem_append_right _ hb)
theorem Fr.congr {w x:Wd} {O N W O' N':List Int} (h:Fr w x O N W) (hO:∀b,b∈O ↔ b∈O') (hN:∀b,b∈N ↔ b∈N'):Fr w x O' N' W where
 base:=h.base
 gen:=h.gen
 root:=h.root
 nlen:=h.nlen
 plen:=h.plen
 now i hi:=by
  rw[h.now i hi]
  simp only[hO,hN]
 page:=h.page
 wr b hb:=by
  obtain ⟨a1,a2,a3,a4,a5,a6⟩:=h.wr b hb
  exact ⟨(hN b).1 a1,a2,a3,a4,a5.imp (hO b).1 id,a6⟩
 kept b hb:=(h.kept b ((hN b).2 hb)).imp id (hO b).1
theorem Fr.hold {w x:Wd} {O N W:List Int} (h:Fr w x O N W) {b:Int} {r:Bool} {n:Nd} (hb:b∉O) (hh:Hold w b r=some n):Hold x b r=some n:=by
 have ht:=hold_tr hh
 have h0:10≤b∧b<w.now.length:=by
  unfold Hold at hh
  split at hh
  · cases hh
  · omega
 have hW:b∉W:=fun e=>by
  rcases (h.wr b e).2.2.2.2.1 with e2|e2
  · exact hb e2
  · rw[ht]at e2;cases e2
 have hnow:tr x.now b.toNat=true:=by
  rw[h.now b.toNat (by omega),show ((b.toNat:Nat):Int)=b by omega,ht]
  simp[hb]
 rw[←hh]
 unfold Hold
 rw[h.nlen,h.plen,hnow,ht,h.page b (by omega) hW,h.gen]
theorem Fr.used {w x:Wd} {O N W:List Int} (h:Fr w x O N W) {b:Int} (hb:b∈N) (h0:0≤b) (h1:b<w.now.length):tr x.now b.toNat=true:=by
 rw[h.now b.toNat (by omega),show ((b.toNat:Nat):Int)=b by omega]
 simp[hb]
theorem Fr.right {w x:Wd} {O N W:List Int} (h:Fr w x O N W) (hr:WRight w) (hO:∀b∈O,10≤b) (hs:∀s∈x.pages,s.size≤4096):WRight x:=by
 obtain ⟨⟨a1,a2,a3,a4⟩,a5,a6,a7,a8,a9⟩:=hr
 refine ⟨⟨by rw[h.base,h.nlen];exact a1,by rw[h.nlen];exact a2,by rw[h.nlen];exact a3,fun j hj=>⟨by rw[h.base];exact (a4 j hj).1,?_⟩⟩,by rw[h.plen,h.nlen];exact a5,by rw[h.gen];exact a6,by rw[h.gen];exact a7,by rw[h.root,h.nlen];exact a8,hs⟩
 rw[h.now j (by omega),(a4 j hj).2]
 have:(j:Int)∉O:=fun e=>by have:=hO _ e;omega
 simp[this]
structure Ed where
 w:Wd
 bad:Int
noncomputable def storeE (e:Ed) (n:Nd):Int×Ed:=
 if e.bad≠0 then (0,e) else if ¬NdOK n true then (0,{ e with bad:=81 }) else match firstFree e.w with
 | none=>(0,{ e with bad:=60 })
 | some b=>((b:Int),{ e with w := { e.w with now:=e.w.now.set b true,pages:=e.w.pages.set b (pageB e.w.gen n) } })
noncomputable def loadE (e:Ed) (b d:Int):Nd×Ed:=
 if e.bad≠0 then (nd0,e) else match Hold e.w b (d==1) with
 | none=>(nd0,{ e with bad:=81 })
 | some n=>if d > 8 then (nd0,{ e with bad:=81 }) else (n,e)
noncomputable def dropE (e:Ed) (b:Int):Ed:=
 if e.bad≠0 then e else if b<10∨b≥e.w.now.length∨tr e.w.now b.toNat=false then { e with bad:=81 } else { e with w := { e.w with now:=e.w.now.set b.toNat false } }
theorem tr_set {l:List Bool} {j:Nat} {v:Bool} (hj:j<l.length) (i:Nat):tr (l.set j v) i=if i=j then v else tr l i:=by
 unfold tr
 by_cases e:i=j
 · subst e;rw[if_pos rfl,List.getElem?_set_self hj];rfl
 · rw[if_neg e,List.getElem?_set_ne (fun h=>e h.symm)]
theorem pgAt_set {w:Wd} {j:Nat} {s:ByteArray} (hj:j<w.pages.length) (b:Int):pgAt { w with pages:=w.pages.set j s } b=if b.toNat=j then s else pgAt w b:=by
 unfold pgAt
 dsimp only
 by_cases e:b.toNat=j
 · rw[if_pos e,e,List.getElem?_set_self hj];rfl
 · rw[if_neg e,List.getElem?_set_ne (fun h=>e h.symm)]
theorem ndPage_size {n:Nd} (hok:NdOK n true) {g:Int} (h0:0≤g) (h1:g≤1099511627776):(pageB g n).size≤4096:=by
 rcases getP_cases (pageB g n) with ⟨e,he,h⟩|⟨k,g',b,h,_,hs,_⟩
 · rw[pageB,get_self (page_ok hok h0 h1)]at h
   simp[pErr,pg]at h
   exact absurd h.2.symm he
 · exact hs
theorem store_ok {e:Ed} {n:Nd} (he:e.bad=0) (hr:WRight e.w) (hok:NdOK n true):((storeE e n).2.bad=60∧cnt e.w=0∧(storeE e n).2.w=e.w) ∨
   ((storeE e n).2.bad=0∧WRight (storeE e n).2.w∧Fr e.w (storeE e n).2.w [] [(storeE e n).1] [(storeE e n).1]∧cnt e.w≤cnt (storeE e n).2.w+1∧tr e.w.now (storeE e n).1.toNat=false ∧
     ∀r,NdOK n r→Hold (storeE e n).2.w (storeE e n).1 r=some n):=by
 unfold storeE
 rw[if_neg (by rw[he];simp),if_neg (by simpa using hok)]
 cases hf:firstFree e.w with
 | none=>exact .inl ⟨rfl,cnt_none hf,rfl⟩
 | some b=>
   dsimp only
   obtain ⟨h1,h2,h3⟩:=ffUp_some hf
   obtain ⟨⟨a1,a2,a3,a4⟩,a5,a6,a7,a8,a9⟩:=id hr
   have hfb:tr e.w.base b=false∧tr e.w.now b=false:=by
     unfold freeAt at h2
     simpa using h2
   have h10:10≤b:=Classical.byContradiction fun hc=>by
     have:=(a4 b (by omega)).2
     rw[hfb.2]at this;cases this
   have hpb:b<e.w.pages.length:=by omega
   have hfr:Fr e.w { e.w with now:=e.w.now.set b true,pages:=e.w.pages.set b (pageB e.w.gen n) } [] [(b:Int)] [(b:Int)]:=by
     refine ⟨rfl,rfl,rfl,by simp,by simp,fun i hi => ?_,fun x hx hn => ?_,fun x hx => ?_,fun x hx => .inl hx⟩
     · dsimp only
       rw[tr_set h1]
       by_cases e1:i=b
       · simp[e1]
       · rw[if_neg e1]
         have:¬(i:Int)=b:=by omega
         simp[this]
     · have:x≠b:=by simpa using hn
       show pgAt { e.w with pages:=e.w.pages.set b (pageB e.w.gen n) } x=_
       rw[pgAt_set hpb,if_neg (by omega)]
     · obtain rfl:x=b:=by simpa using hx
       refine ⟨by simp,by omega,by omega,hfb.1,.inr hfb.2,n,hok,?_⟩
       show pgAt { e.w with pages:=e.w.pages.set b (pageB e.w.gen n) } (b:Int)=_
       rw[pgAt_set hpb,if_pos (by simp)]
   have hw:WRight { e.w with now:=e.w.now.set b true,pages:=e.w.pages.set b (pageB e.w.gen n) }:=by
     refine hfr.right hr (fun x hx=>by cases hx) fun s hs => ?_
     rcases List.mem_or_eq_of_mem_set hs with hs|rfl
     · exact a9 s hs
     · exact ndPage_size hok (by omega) a7
   refine .inr ⟨he,hw,hfr,?_,by simpa using hfb.2,fun r hnr => ?_⟩
   · have:=cntUp_less (w:=e.w) (x := { e.w with now:=e.w.now.set b true,pages:=e.w.pages.set b (pageB e.w.gen n) }) (b:=b) (fun j hj=>by
       unfold freeAt
       dsimp only
       rw[tr_set h1,if_neg hj]) e.w.now.length
     rw[if_pos h1]at this
     have hl:cnt { e.w with now:=e.w.now.set b true,pages:=e.w.pages.set b (pageB e.w.gen n) } = cntUp { e.w with now:=e.w.now.set b true,pages:=e.w.pages.set b (pageB e.w.gen n) } e.w.now.length:=by
       unfold cnt;simp
     rw[hl];exact this
   · refine hold_store hw (by omega) (by simp;omega) ?_ (g:=e.w.gen) ?_ (by omega) (Int.le_refl _) hnr
     · dsimp only
       rw[tr_set h1,if_pos (by simp)]
     · show pgAt { e.w with pages:=e.w.pages.set b (pageB e.w.gen n) } (b:Int)=_
       rw[pgAt_set hpb,if_pos (by simp)]
theorem drop_ok {e:Ed} {b:Int} {r:Bool} {n:Nd} (he:e.bad=0) (hr:WRight e.w) (hh:Hold e.w b r=some n):(dropE e b).bad=0∧WRight (dropE e b).w∧Fr e.w (dropE e b).w [b] [] []∧cnt e.w≤cnt (dropE e b).w:=by
 have ht:=hold_tr hh
 have hrg:=hold_rg (wr_now hr) hh
 have hbi:b.toNat<e.w.now.length:=by omega
 unfold dropE
 rw[if_neg (by rw[he];simp),if_neg (by rw[ht];simp;omega)]
 have hfr:Fr e.w { e.w with now:=e.w.now.set b.toNat false } [b] [] []:=by
   refine ⟨rfl,rfl,rfl,by simp,rfl,fun i hi => ?_,fun x hx hn=>rfl,fun x hx=>(by cases hx),fun x hx=>(by cases hx)⟩
   dsimp only
   rw[tr_set hbi]
   by_cases e1:i=b.toNat
   · have:(i:Int)=b:=by omega
     simp[e1,this]
     omega
   · rw[if_neg e1]
     have:(i:Int)≠b:=by omega
     simp[this]
 refine ⟨he,hfr.right hr (fun x hx => ?_) hr.2.2.2.2.2,hfr,?_⟩
 · obtain rfl:x=b:=by simpa using hx
   omega
 · have:=cntUp_more (w:=e.w) (x := { e.w with now:=e.w.now.set b.toNat false }) (fun j hj=>by
     unfold freeAt at hj ⊢
     dsimp only
     rw[tr_set hbi]
     split
     · simp only[Bool.and_eq_true]at hj
       rw[hj.1];rfl
     · exact hj) e.w.now.length
   have hl:cnt { e.w with now:=e.w.now.set b.toNat false } = cntUp { e.w with now:=e.w.now.set b.toNat false } e.w.now.length:=by
     unfold cnt;simp
   rw[hl];exact this
theorem set_split {α:Type} {l:List α} {i:Nat} (h:i<l.length) (x:α):l.set i x=l.take i++x :: l.drop (i+1):=by
 rw[List.set_eq_take_append_cons_drop,if_pos h]
theorem ins_set {α:Type} {l:List α} {i:Nat} (h:i<l.length) (x y:α):insAt (l.set i x) (i+1) y=l.take i++x :: y :: l.drop (i+1):=by
 have hl:(l.take i++[x]).length=i+1:=by rw[List.length_append,List.length_take];simp;omega
 have e:l.set i x=(l.take i++[x])++l.drop (i+1):=by rw[set_split h];simp
 rw[insAt,e,List.take_left' hl,List.drop_left' hl]
 simp
theorem kseg_ktr {R:TR} {k:ByteArray}:∀ {ks:List ByteArray} {cs:List Int} {lo hi:ByteArray} {P:List Pr} {B:List Int},KSeg R lo hi (ks++[k]) cs P B→hi=k∧KTr R lo k ks cs P B
 | [],[],_,_,_,_,h=>h.elim
 | [],[c],lo,hi,P,B,h=>by
   obtain ⟨P1,B1,P2,B2,h1,⟨rfl,rfl,rfl⟩,rfl,rfl⟩:=h
   exact ⟨rfl,by simpa[KTr] using h1⟩
 | [],c :: d :: cs,lo,hi,P,B,h=>by
   obtain ⟨P1,B1,P2,B2,h1,h2,_⟩:=h
   exact h2.elim
 | y :: ks,[],_,_,_,_,h=>h.elim
 | y :: ks,c :: cs,lo,hi,P,B,h=>by
   obtain ⟨P1,B1,P2,B2,h1,h2,rfl,rfl⟩:=h
   obtain ⟨e,h3⟩:=kseg_ktr (ks:=ks) h2
   exact ⟨e,P1,B1,P2,B2,h1,h3,rfl,rfl⟩
theorem ktr_at {R:TR} {key:ByteArray} (mw:∀c lo hi P B,R c lo hi P B→∀p∈P,within p.1 lo hi=true) {ks:List ByteArray} {cs:List Int} {lo hi:ByteArray} {P:List Pr} {B:List Int} (h:KTr R lo hi ks cs P B)
   (hr:Rise ks) (he:∀k∈ks,k≠empS) (hw:∀k∈ks,within k lo hi=true) (hk:within key lo hi=true):
   ∃c lo' hi' P1 P2 P3 B1 B2 B3,cs[kidOf ks key]?=some c∧R c lo' hi' P2 B2∧within key lo' hi'=true∧P=P1++(P2++P3)∧B=B1++(B2++B3)∧(∀p∈P1,lt p.1 key=true)∧(∀p∈P3,lt key p.1=true) ∧
     (∀s,lt lo' s=true→within s lo' hi'=true→(∀k∈ks.take (kidOf ks key),lt k s=true)∧(∀k∈ks.drop (kidOf ks key),lt s k=true)∧within s lo hi=true) ∧
     ∀S:TR,(∀c lo hi P B',(∀x∈B',x∈B1∨x∈B3)→R c lo hi P B'→S c lo hi P B') →
       (∀c' P' B',S c' lo' hi' P' B'→KTr S lo hi ks (cs.set (kidOf ks key) c') (P1++(P'++P3)) (B1++(B'++B3))) ∧
       (∀l r s Pl Bl Pr Br,S l lo' s Pl Bl→S r s hi' Pr Br→KTr S lo hi (insAt ks (kidOf ks key) s) (insAt (cs.set (kidOf ks key) l) (kidOf ks key+1) r) (P1++((Pl++Pr)++P3)) (B1++((Bl++Br)++B3))):=by
 have hlen:=ktr_len h
 have hle:=kidOf_le ks key
 obtain ⟨mid,P1,B1,PP,BB,s1,s2,rfl,rfl⟩:=ktr_split h hle
 have hend:=kseg_end s1
 have hic:kidOf ks key<cs.length:=by omega
 have ht:=kidOf_take (l:=ks) (x:=key)
 have hd:=kidOf_drop (x:=key) hr
 have hrs:Rise (ks.take (kidOf ks key)++ks.drop (kidOf ks key)):=by rw[List.take_append_drop];exact hr
 obtain ⟨ra,rb,rc⟩:=List.pairwise_append.1 hrs
 have hmid:lt key mid=false:=by
   rw[hend]
   cases hx:(ks.take (kidOf ks key)).getLast? with
   | none=>exact (within_iff.1 hk).1
   | some z=>exact ht z (List.mem_of_getLast? hx)
 have hlow:lt mid lo=false:=by
   rw[hend]
   cases hx:(ks.take (kidOf ks key)).getLast? with
   | none=>exact lt_irr lo
   | some z=>exact (within_iff.1 (hw z (List.mem_of_mem_take (List.mem_of_getLast? hx)))).1
 have hp1:∀p∈P1,lt p.1 key=true:=fun p hp=>lt_nlt (kseg_low mw ra (fun k hk=>he k (List.mem_of_mem_take hk)) s1 p hp) hmid
 have htk:∀s,lt mid s=true→∀k∈ks.take (kidOf ks key),lt k s=true:=fun s hs k hkm=>by
   cases hx:(ks.take (kidOf ks key)).getLast? with
   | none=>rw[List.getLast?_eq_none_iff.1 hx]at hkm;cases hkm
   | some z=>
     rw[hx]at hend
     obtain ⟨l',hl'⟩:=List.getLast?_eq_some_iff.1 hx
     have hz:mid=z:=hend
     rw[hl']at hkm ra
     rcases List.mem_append.1 hkm with h2|h2
     · exact lt_trans ((List.pairwise_append.1 ra).2.2 k h2 z (by simp)) (hz▸hs)
     · obtain rfl:k=z:=by simpa using h2
       exact hz▸hs
 have hget:cs[kidOf ks key]?=some cs[kidOf ks key]:=List.getElem?_eq_getElem hic
 have hcd:cs.drop (kidOf ks key)=cs[kidOf ks key] :: cs.drop (kidOf ks key+1):=List.drop_eq_getElem_cons hic
 rw[hcd]at s2
 cases hkd:ks.drop (kidOf ks key) with
 | nil=>
   rw[hkd]at s2
   have hcl:cs.drop (kidOf ks key+1)=[]:=by
     have:(ks.drop (kidOf ks key)).length=0:=by rw[hkd];rfl
     rw[List.length_drop]at this
     exact List.drop_of_length_le (by omega)
   rw[hcl]at s2
   have s2:R cs[kidOf ks key] mid hi PP BB:=s2
   have hks:ks.take (kidOf ks key)=ks:=by
     have:=List.take_append_drop (kidOf ks key) ks
     rw[hkd,List.append_nil]at this;exact this
   refine ⟨_,mid,hi,P1,PP,[],B1,BB,[],hget,s2,within_iff.2 ⟨hmid,(within_iff.1 hk).2⟩,by simp,by simp,hp1,by simp,fun s hs hws=>⟨htk s hs,by simp,within_low hws hlow⟩,fun S m=>⟨fun c' P' B' hc => ?_,fun l r s Pl Bl Pr Br hl hr' => ?_⟩⟩
   · have s1':=kseg_mono (S:=S) (fun c lo hi P B' hB hx=>m c lo hi P B' (fun x hx' => .inl (hB x hx')) hx) s1
     have:=ktr_join (ks2:=[]) (cs2:=[c']) s1' (show KTr S mid hi [] [c'] P' B' from hc)
     rw[set_split hic,hcl]
     rw[hks,List.append_nil]at this
     simpa using this
   · have s1':=kseg_mono (S:=S) (fun c lo hi P B' hB hx=>m c lo hi P B' (fun x hx' => .inl (hB x hx')) hx) s1
     have:=ktr_join (ks2:=[s]) (cs2:=[l,r]) s1' (show KTr S mid hi [s] [l,r] (Pl++Pr) (Bl++Br) from ⟨Pl,Bl,Pr,Br,hl,hr',rfl,rfl⟩)
     rw[ins_set hic,hcl,insAt,hkd]
     simpa using this
 | cons k ks3=>
   rw[hkd]at s2 rc rb hd
   obtain ⟨P2,B2,P3,B3,t1,t2,rfl,rfl⟩:=s2
   have hkin:k∈ks:=List.mem_of_mem_drop (i:=kidOf ks key) (by rw[hkd];simp)
   have hkk:lt key k=true:=hd k (by simp)
   have hkrest:=(List.pairwise_cons.1 rb)
   have hwk:=hw k hkin
   have hin:∀x∈ks3,within x k hi=true:=fun x hx=>within_iff.2 ⟨lt_asym (hkrest.1 x hx),(within_iff.1 (hw x (List.mem_of_mem_drop (i:=kidOf ks key) (by rw[hkd];simp[hx])))).2⟩
   have hp3:∀p∈P3,lt key p.1=true:=fun p hp=>by
     have:=KTr.within mw hkrest.2 (fun x hx=>he x (List.mem_of_mem_drop (i:=kidOf ks key) (by rw[hkd];simp[hx]))) hin t2 p hp
     exact lt_nlt hkk (within_iff.1 this).1
   refine ⟨_,mid,k,P1,P2,P3,B1,B2,B3,hget,t1,within_iff.2 ⟨hmid,.inr hkk⟩,rfl,rfl,hp1,hp3,fun s hs hws=>⟨htk s hs,fun x hx => ?_,?_⟩,fun S m=>⟨fun c' P' B' hc => ?_,fun l r s Pl Bl Pr Br hl hr' => ?_⟩⟩
   · have hsk:lt s k=true:=by
       rcases (within_iff.1 hws).2 with e|e
       · exact absurd e (he k hkin)
       · exact e
     rcases List.mem_cons.1 hx with rfl|hx
     · exact hsk
     · exact lt_trans hsk (hkrest.1 x hx)
   · exact within_high (within_low hws hlow) (he k hkin) hwk
   · have s1':=kseg_mono (S:=S) (fun c lo hi P B' hB hx=>m c lo hi P B' (fun x hx' => .inl (hB x hx')) hx) s1
     have t2':=KTr.mono (S:=S) (fun c lo hi P B' hB hx=>m c lo hi P B' (fun x hx' => .inr (hB x hx')) hx) t2
     have:=ktr_join (ks2:=k :: ks3) (cs2:=c' :: cs.drop (kidOf ks key+1)) s1' (show KTr S mid hi (k :: ks3) (c' :: cs.drop (kidOf ks key+1)) (P'++P3) (B'++B3) from ⟨P',B',P3,B3,hc,t2',rfl,rfl⟩)
     rw[set_split hic]
     rw[←hkd,List.take_append_drop]at this
     exact this
   · have s1':=kseg_mono (S:=S) (fun c lo hi P B' hB hx=>m c lo hi P B' (fun x hx' => .inl (hB x hx')) hx) s1
     have t2':=KTr.mono (S:=S) (fun c lo hi P B' hB hx=>m c lo hi P B' (fun x hx' => .inr (hB x hx')) hx) t2
     have:=ktr_join (ks2:=s :: k :: ks3) (cs2:=l :: r :: cs.drop (kidOf ks key+1)) s1' (show KTr S mid hi (s :: k :: ks3) (l :: r :: cs.drop (kidOf ks key+1)) ((Pl++Pr)++P3) ((Bl++Br)++B3) from ⟨Pl,Bl,Pr++P3,Br++B3,hl,⟨Pr,Br,P3,B3,hr',t2',rfl,rfl⟩,by simp,by simp⟩)
     rw[ins_set hic,insAt,hkd]
     exact this
def Cont (H:Hd) (h:Nat) (lo hi:ByteArray) (n:Nd) (P:List Pr) (B:List Int):Prop:=
 (∀k∈n.keys,within k lo hi=true)∧((n.leaf=true∧h=0∧n.keys≠[]∧P=n.keys.zip n.vals∧B=[])∨(n.leaf=false∧KTr (fun c lo hi P B=>Tr H h c false lo hi P B) lo hi n.keys n.kids P B))
theorem tr_of {H:Hd} {h:Nat} {b:Int} {root:Bool} {lo hi:ByteArray} {n:Nd} {P:List Pr} {B:List Int} (h1:H b root=some n) (h2:Cont H h lo hi n P B):Tr H (h+1) b root lo hi P (b :: B):=by
 obtain ⟨hw,⟨a1,a2,a3,a4,rfl⟩|⟨a1,a2⟩⟩:=h2
 · exact ⟨n,h1,hw,.inl ⟨a1,a2,a3,a4,rfl⟩⟩
 · exact ⟨n,h1,hw,.inr ⟨a1,B,rfl,a2⟩⟩
theorem tr_get {H:Hd} {h:Nat} {b:Int} {root:Bool} {lo hi:ByteArray} {P:List Pr} {B:List Int} (ht:Tr H (h+1) b root lo hi P B):∃n B0,H b root=some n∧Cont H h lo hi n P B0∧B=b :: B0:=by
 obtain ⟨n,hn,hw,⟨a1,a2,a3,a4,rfl⟩|⟨a1,B',rfl,a2⟩⟩:=ht
 · exact ⟨n,[],hn,⟨hw,.inl ⟨a1,a2,a3,a4,rfl⟩⟩,rfl⟩
 · exact ⟨n,B',hn,⟨hw,.inr ⟨a1,a2⟩⟩,rfl⟩
theorem Cont.frame {H G:Hd} {h:Nat} {lo hi:ByteArray} {n:Nd} {P:List Pr} {B:List Int} (hc:Cont H h lo hi n P B) (f:∀x∈B,∀r n,H x r=some n→G x r=some n):Cont G h lo hi n P B:=by
 obtain ⟨hw,a|⟨a1,a2⟩⟩:=hc
 · exact ⟨hw,.inl a⟩
 · exact ⟨hw,.inr ⟨a1,KTr.mono (fun c lo hi P B' hB hx=>Tr.frame (fun x hx'=>f x (hB x hx')) hx) a2⟩⟩
theorem Cont.held {H:Hd} {h:Nat} {lo hi:ByteArray} {n:Nd} {P:List Pr} {B:List Int} (hc:Cont H h lo hi n P B):∀x∈B,∃r n,H x r=some n:=by
 obtain ⟨_,⟨_,_,_,_,rfl⟩|⟨_,a2⟩⟩:=hc
 · intro x hx;cases hx
 · exact KTr.mem (Q:=fun x=>∃r n,H x r=some n) (fun c lo hi P B hc=>Tr.held hc) a2
structure Spl where
 left:Int
 right:Int
 key:ByteArray
 two:Bool
def spl0:Spl:=⟨0,0,empS,false⟩
def cutL (n:Nd):Nd:=if n.leaf then ⟨true,n.keys.take 4,n.vals.take 4,[]⟩ else ⟨false,n.keys.take 4,[],n.kids.take 5⟩
def cutR (n:Nd):Nd:=if n.leaf then ⟨true,n.keys.drop 4,n.vals.drop 4,[]⟩ else ⟨false,n.keys.drop 5,[],n.kids.drop 5⟩
def cutK (n:Nd):ByteArray:=(n.keys[4]?).getD empS
theorem rise_take {l:List ByteArray} (i:Nat) (h:Rise l):Rise (l.take i):=h.take
theorem rise_drop {l:List ByteArray} (i:Nat) (h:Rise l):Rise (l.drop i):=h.drop
theorem cut_ok {H:Hd} {h:Nat} {lo hi:ByteArray} {n:Nd} {P:List Pr} {B:List Int} (hs:Stands n) (h9:n.keys.length=9) (hc:Cont H h lo hi n P B):
   NdOK (cutL n) false∧NdOK (cutR n) false∧within (cutK n) lo hi=true∧lt lo (cutK n)=true∧1≤(cutK n).size∧(cutK n).size≤32 ∧
     ∃Pl Bl Pr Br,Cont H h lo (cutK n) (cutL n) Pl Bl∧Cont H h (cutK n) hi (cutR n) Pr Br∧P=Pl++Pr∧B=Bl++Br:=by
 obtain ⟨hw,hc⟩:=hc
 obtain ⟨_,hkk,hsv⟩:=hs
 obtain ⟨hr,hsz⟩:=kok_iff.1 hkk
 have i4:4<n.keys.length:=by omega
 have i3:3<n.keys.length:=by omega
 have ek:cutK n=n.keys[4]:=by rw[cutK,List.getElem?_eq_getElem i4];rfl
 have hk4:=hsz _ (List.getElem_mem i4)
 have hlt:lt lo n.keys[4]=true:=by
   have h3:=(within_iff.1 (hw _ (List.getElem_mem i3))).1
   exact nlt_lt h3 (List.pairwise_iff_getElem.1 hr 3 4 i3 i4 (by omega))
 have htake:∀k∈n.keys.take 4,within k lo n.keys[4]=true:=fun k hk=>by
   obtain ⟨j,hj,hjs,rfl⟩:=take_mem hk
   exact within_iff.2 ⟨(within_iff.1 (hw _ (List.getElem_mem hj))).1,.inr (List.pairwise_iff_getElem.1 hr j 4 hj i4 hjs)⟩
 have hdrop:∀i,4≤i→∀k∈n.keys.drop i,within k n.keys[4] hi=true:=fun i hi4 k hk=>by
   obtain ⟨j,hj,hjs,rfl⟩:=drop_mem hk
   refine within_iff.2 ⟨?_,(within_iff.1 (hw _ (List.getElem_mem hj))).2⟩
   by_cases e:j=4
   · subst e;exact lt_irr _
   · exact lt_asym (List.pairwise_iff_getElem.1 hr 4 j i4 hj (by omega))
 have kokT:∀i,KOK (n.keys.take i):=fun i=>kok_iff.2 ⟨rise_take i hr,fun k hk=>hsz k (List.mem_of_mem_take hk)⟩
 have kokD:∀i,KOK (n.keys.drop i):=fun i=>kok_iff.2 ⟨rise_drop i hr,fun k hk=>hsz k (List.mem_of_mem_drop hk)⟩
 rw[ek]
 cases hl:n.leaf with
 | true=>
   rcases hsv with ⟨_,v1,v2,v3⟩|⟨h,_⟩
   · have eL:cutL n=⟨true,n.keys.take 4,n.vals.take 4,[]⟩:=by rw[cutL,if_pos hl]
     have eR:cutR n=⟨true,n.keys.drop 4,n.vals.drop 4,[]⟩:=by rw[cutR,if_pos hl]
     rcases hc with ⟨_,c2,c3,c4,c5⟩|⟨h,_⟩
     · rw[eL,eR]
       refine ⟨⟨⟨by simp;omega,kokT 4,.inl ⟨rfl,rfl,by simp;omega,fun v hv=>v3 v (List.mem_of_mem_take hv)⟩⟩,by simp;omega,.inr (by simp;omega)⟩,⟨⟨by simp;omega,kokD 4,.inl ⟨rfl,rfl,by simp;omega,fun v hv=>v3 v (List.mem_of_mem_drop hv)⟩⟩,by simp;omega,.inr (by simp;omega)⟩,hw _ (List.getElem_mem i4),hlt,hk4.1,hk4.2,_,[],_,[],
         ⟨htake,.inl ⟨rfl,c2,fun e => ?_,rfl,rfl⟩⟩,⟨hdrop 4 (by omega),.inl ⟨rfl,c2,fun e => ?_,rfl,rfl⟩⟩,?_,by simpa using c5⟩
       · have:=congrArg List.length e
         rw[List.length_take,h9]at this;simp at this
       · have:=congrArg List.length e
         rw[List.length_drop,h9]at this;simp at this
       · rw[c4];exact zip_split 4 v2
     · rw[hl]at h;cases h
   · rw[hl]at h;cases h
 | false=>
   rcases hsv with ⟨h,_⟩|⟨_,v1,v2,v3,v4⟩
   · rw[hl]at h;cases h
   · have eL:cutL n=⟨false,n.keys.take 4,[],n.kids.take 5⟩:=by rw[cutL,if_neg (by rw[hl];simp)]
     have eR:cutR n=⟨false,n.keys.drop 5,[],n.kids.drop 5⟩:=by rw[cutR,if_neg (by rw[hl];simp)]
     rcases hc with ⟨h,_⟩|⟨_,c2⟩
     · rw[hl]at h;cases h
     · rw[eL,eR]
       obtain ⟨mid,P1,B1,P2,B2,s1,s2,rfl,rfl⟩:=ktr_split (i:=5) c2 (by omega)
       have e5:n.keys.take 5=n.keys.take 4++[n.keys[4]]:=take_snoc i4
       rw[e5]at s1
       obtain ⟨rfl,s3⟩:=kseg_ktr s1
       exact ⟨⟨⟨by simp;omega,kokT 4,.inr ⟨rfl,rfl,by simp;omega,by simp;omega,fun b hb=>v4 b (List.mem_of_mem_take hb)⟩⟩,by simp;omega,.inr (by simp;omega)⟩,⟨⟨by simp;omega,kokD 5,.inr ⟨rfl,rfl,by simp;omega,by simp;omega,fun b hb=>v4 b (List.mem_of_mem_drop hb)⟩⟩,by simp;omega,.inr (by simp;omega)⟩,hw _ (List.getElem_mem i4),hlt,hk4.1,hk4.2,P1,B1,P2,B2,
         ⟨htake,.inr ⟨rfl,s3⟩⟩,⟨hdrop 5 (by omega),.inr ⟨rfl,s2⟩⟩,rfl,rfl⟩
noncomputable def keepE (e:Ed) (n:Nd):Spl×Ed:=
 if n.keys.length≤8 then (⟨(storeE e n).1,0,empS,false⟩,(storeE e n).2)
 else if ¬(Stands n∧n.keys.length=9) then (spl0,{ e with bad:=81 })
 else (⟨(storeE e (cutL n)).1,(storeE (storeE e (cutL n)).2 (cutR n)).1,cutK n,true⟩,(storeE (storeE e (cutL n)).2 (cutR n)).2)
def SplOK (H:Hd) (h:Nat) (root:Bool) (lo hi:ByteArray) (s:Spl) (P:List Pr) (B:List Int):Prop:=
 (s.two=false∧Tr H h s.left root lo hi P B) ∨
 (s.two=true∧within s.key lo hi=true∧lt lo s.key=true∧1≤s.key.size∧s.key.size≤32∧∃Pl Bl Pr Br,Tr H h s.left false lo s.key Pl Bl∧Tr H h s.right false s.key hi Pr Br∧P=Pl++Pr∧B=Bl++Br)
theorem store_bad {e:Ed} {n:Nd} (he:e.bad≠0):storeE e n=(0,e):=by rw[storeE,if_pos he]
theorem ndok_up {n:Nd} {r:Bool} (h:NdOK n r):NdOK n true:=⟨h.1,h.2.1,.inl rfl⟩
theorem Fr.new {w x:Wd} {N W:List Int} (h:Fr w x [] N W) {b:Int} (hb:b∈W):tr w.now b.toNat=false:=by
 rcases (h.wr b hb).2.2.2.2.1 with e|e
 · cases e
 · exact e
theorem keep_ok {e:Ed} {n:Nd} {h:Nat} {root:Bool} {lo hi:ByteArray} {P:List Pr} {B0:List Int} (he:e.bad=0) (hr:WRight e.w) (hs:Stands n) (h9:n.keys.length≤9) (h4:root=true∨4≤n.keys.length)
   (hc:Cont (Hold e.w) h lo hi n P B0) (hu:B0.Nodup):
   ((keepE e n).2.bad=60∧cnt e.w<2)∨((keepE e n).2.bad=0∧WRight (keepE e n).2.w∧cnt e.w≤cnt (keepE e n).2.w+2∧∃B X,Fr e.w (keepE e n).2.w [] X X∧B.Nodup∧(∀b,b∈B ↔ b∈X∨b∈B0)∧SplOK (Hold (keepE e n).2.w) (h+1) root lo hi (keepE e n).1 P B):=by
 have hB0:∀x∈B0,tr e.w.now x.toNat=true:=fun x hx=>by
   obtain ⟨r,m,hm⟩:=hc.held x hx
   exact hold_tr hm
 unfold keepE
 by_cases h8:n.keys.length≤8
 · rw[if_pos h8]
   have hok:NdOK n root:=⟨hs,h8,h4⟩
   rcases store_ok he hr (ndok_up hok) with ⟨a1,a2,_⟩|⟨a1,a2,a3,a4,a5,a6⟩
   · exact .inl ⟨a1,by omega⟩
   · refine .inr ⟨a1,a2,by dsimp only;omega,(storeE e n).1 :: B0,[(storeE e n).1],a3,List.nodup_cons.2 ⟨fun hx => ?_,hu⟩,fun b=>by simp,.inl ⟨rfl,tr_of (a6 _ hok) (hc.frame fun x hx r m hm=>a3.hold (by simp) hm)⟩⟩
     rw[hB0 _ hx]at a5;cases a5
 · rw[if_neg h8,if_neg (by simp;exact ⟨hs,by omega⟩)]
   obtain ⟨k1,k2,k3,k4,k5,k6,Pl,Bl,Pr,Br,c1,c2,rfl,rfl⟩:=cut_ok hs (by omega) hc
   rcases store_ok he hr (ndok_up k1) with ⟨a1,a2,_⟩|⟨a1,a2,a3,a4,a5,a6⟩
   · rw[store_bad (e:=(storeE e (cutL n)).2) (n:=cutR n) (by rw[a1];decide)]
     exact .inl ⟨a1,by omega⟩
   · rcases store_ok a1 a2 (ndok_up k2) with ⟨b1,b2,_⟩|⟨b1,b2,b3,b4,b5,b6⟩
     · exact .inl ⟨b1,by omega⟩
     · generalize (storeE e (cutL n)).1=l at a3 a5 a6 ⊢
       have hl1:tr (storeE e (cutL n)).2.w.now l.toNat=true:=hold_tr (a6 _ k1)
       have hB1:∀x∈Bl++Br,tr (storeE e (cutL n)).2.w.now x.toNat=true:=fun x hx=>by
         obtain ⟨r,m,hm⟩:=hc.held x hx
         exact hold_tr (a3.hold (by simp) hm)
       generalize (storeE e (cutL n)).2=e1 at a1 a2 a3 a4 a6 b1 b2 b3 b4 b5 b6 hl1 hB1 ⊢
       generalize (storeE e1 (cutR n)).1=r at b3 b5 b6 ⊢
       generalize (storeE e1 (cutR n)).2=e2 at b1 b2 b3 b4 b6 ⊢
       have hfr:=a3.trans b3 (by simp)
       have hlr:l≠r:=fun h=>by rw[h]at hl1;rw[hl1]at b5;cases b5
       have hlB:l∉Bl++Br:=fun hx=>by rw[hB0 _ hx]at a5;cases a5
       have hrB:r∉Bl++Br:=fun hx=>by rw[hB1 _ hx]at b5;cases b5
       refine .inr ⟨b1,b2,by omega,(l :: Bl)++(r :: Br),_,hfr,?_,fun b => ?_,.inr ⟨rfl,k3,k4,k5,k6,Pl,l :: Bl,Pr,r :: Br,tr_of (b3.hold (by simp) (a6 _ k1)) (c1.frame fun x hx r m hm=>b3.hold (by simp) (a3.hold (by simp) hm)),tr_of (b6 _ k2) (c2.frame fun x hx r m hm=>b3.hold (by simp) (a3.hold (by simp) hm)),rfl,rfl⟩⟩
       · obtain ⟨u1,u2,u3⟩:=List.nodup_append.1 hu
         simp only[List.mem_append,not_or]at hlB hrB
         refine List.nodup_append.2 ⟨List.nodup_cons.2 ⟨hlB.1,u1⟩,List.nodup_cons.2 ⟨hrB.2,u2⟩,fun x hx y hy => ?_⟩
         rcases List.mem_cons.1 hx with rfl|hx <;> rcases List.mem_cons.1 hy with rfl|hy
         · exact hlr
         · rintro rfl;exact hlB.2 hy
         · rintro rfl;exact hrB.1 hx
         · exact u3 x hx y hy
       · simp only[List.mem_append,List.mem_cons,List.not_mem_nil,or_false]
         constructor
         · rintro ((h|h)|(h|h)) <;> simp[h]
         · rintro ((h|h)|(h|h)) <;> simp[h]
noncomputable def leafPut (n:Nd) (key val:ByteArray):Nd:=
 if isAt n.keys key then ⟨n.leaf,n.keys,n.vals.set (srch n.keys key) val,n.kids⟩ else ⟨n.leaf,insAt n.keys (srch n.keys key) key,insAt n.vals (srch n.keys key) val,n.kids⟩
def innerPut (n:Nd) (i:Nat) (s:Spl):Nd:=
 if s.two then ⟨n.leaf,insAt n.keys i s.key,n.vals,insAt (n.kids.set i s.left) (i+1) s.right⟩ else ⟨n.leaf,n.keys,n.vals,n.kids.set i s.left⟩
noncomputable def putE (key val:ByteArray):Nat→Ed→Int→Int→Spl×Ed
 | 0,e,_,_=>(spl0,{ e with bad:=81 })
 | f+1,e,b,d=>
   let n:=(loadE e b d).1
   let e1:=(loadE e b d).2
   if e1.bad≠0 then (spl0,e1) else
   let e2:=dropE e1 b
   if n.leaf then keepE e2 (leafPut n key val) else
   let i:=kidOf n.keys key
   let r:=putE key val f e2 ((n.kids[i]?).getD 0) (d+1)
   if r.2.bad≠0 then (spl0,r.2) else keepE r.2 (innerPut n i r.1)
theorem leafPut_ok {H:Hd} {h:Nat} {lo hi key val:ByteArray} {n:Nd} {P:List Pr} {B:List Int} (hk:1≤key.size∧key.size≤32) (hv:val.size≤200) (hs:Stands n) (h8:n.keys.length≤8) (hl:n.leaf=true) (hw:within key lo hi=true) (hc:Cont H h lo hi n P B):
   Stands (leafPut n key val)∧(leafPut n key val).keys.length≤9∧n.keys.length≤(leafPut n key val).keys.length∧Cont H h lo hi (leafPut n key val) (withP key val P) B:=by
 have hr:=(kok_iff.1 hs.2.1).1
 have hz:=(kok_iff.1 hs.2.1).2
 obtain ⟨s1,s2,⟨_,v1,v2,v3⟩|⟨hx,_⟩⟩:=hs
 · obtain ⟨c1,⟨_,c3,c4,rfl,rfl⟩|⟨hx,_⟩⟩:=hc
   · unfold leafPut
     cases ha:isAt n.keys key with
     | true=>
       rw[if_pos rfl]
       refine ⟨⟨s1,s2,.inl ⟨hl,v1,by simpa using v2,fun v hx => ?_⟩⟩,s1,Nat.le_refl _,c1,.inl ⟨hl,c3,c4,(leaf_set hr v2 ha).symm,rfl⟩⟩
       rcases List.mem_or_eq_of_mem_set hx with h|rfl
       · exact v3 v h
       · exact hv
     | false=>
       rw[if_neg (by simp)]
       have hi:=srch_le n.keys key
       have hlen:=insAt_len key hi
       have hlenv:=insAt_len (l:=n.vals) (i:=srch n.keys key) val (by omega)
       have hri:=rise_ins hr (fun k hk=>srch_take k hk) (srch_drop hr ha)
       refine ⟨⟨by dsimp only;omega,kok_iff.2 ⟨hri,fun k hx => ?_⟩,.inl ⟨hl,v1,by dsimp only;omega,fun v hx => ?_⟩⟩,by dsimp only;omega,by dsimp only;omega,fun k hx => ?_,.inl ⟨hl,c3,fun e => ?_,(leaf_ins hr v2 ha).symm,rfl⟩⟩
       · rcases insAt_mem.1 hx with rfl|h
         · exact hk
         · exact hz k h
       · rcases insAt_mem.1 hx with rfl|h
         · exact hv
         · exact v3 v h
       · rcases insAt_mem.1 hx with rfl|h
         · exact hw
         · exact c1 k h
       · have:=congrArg List.length e
         dsimp only at this
         rw[hlen]at this;simp at this
   · rw[hl]at hx;cases hx
 · rw[hl]at hx;cases hx
theorem innerPut_ok {G:Hd} {h i:Nat} {lo hi lo' hi':ByteArray} {n:Nd} {s:Spl} {P1 P2 P3:List Pr} {B1 B2 B3:List Int} (hs:Stands n) (h8:n.keys.length≤8) (hl:n.leaf=false) (hw:∀k∈n.keys,within k lo hi=true) (hic:i≤n.keys.length)
   (hsp:SplOK G h false lo' hi' s P2 B2)
   (hsep:∀s,lt lo' s=true→within s lo' hi'=true→(∀k∈n.keys.take i,lt k s=true)∧(∀k∈n.keys.drop i,lt s k=true)∧within s lo hi=true)
   (hS1:∀c' P' B',Tr G h c' false lo' hi' P' B'→KTr (fun c lo hi P B=>Tr G h c false lo hi P B) lo hi n.keys (n.kids.set i c') (P1++(P'++P3)) (B1++(B'++B3)))
   (hS2:∀l r s Pl Bl Pr Br,Tr G h l false lo' s Pl Bl→Tr G h r false s hi' Pr Br→KTr (fun c lo hi P B=>Tr G h c false lo hi P B) lo hi (insAt n.keys i s) (insAt (n.kids.set i l) (i+1) r) (P1++((Pl++Pr)++P3)) (B1++((Bl++Br)++B3)))
   (hrg:∀c lo hi P B,Tr G h c false lo hi P B→10≤c∧c<2048):
   Stands (innerPut n i s)∧(innerPut n i s).keys.length≤9∧n.keys.length≤(innerPut n i s).keys.length∧Cont G h lo hi (innerPut n i s) (P1++(P2++P3)) (B1++(B2++B3)):=by
 have hr:=(kok_iff.1 hs.2.1).1
 have hz:=(kok_iff.1 hs.2.1).2
 obtain ⟨s1,s2,⟨hx,_⟩|⟨_,v1,v2,v3,v4⟩⟩:=hs
 · rw[hl]at hx;cases hx
 unfold innerPut
 rcases hsp with ⟨ht,hT⟩|⟨ht,k1,k2,k3,k4,Pl,Bl,Pr,Br,t1,t2,rfl,rfl⟩
 · rw[ht,if_neg (by simp)]
   refine ⟨⟨s1,s2,.inr ⟨hl,v1,v2,by simpa using v3,fun b hb => ?_⟩⟩,s1,Nat.le_refl _,hw,.inr ⟨hl,hS1 _ _ _ hT⟩⟩
   rcases List.mem_or_eq_of_mem_set hb with h|rfl
   · exact v4 b h
   · exact hrg _ _ _ _ _ hT
 · rw[ht,if_pos rfl]
   obtain ⟨g1,g2,g3⟩:=hsep _ k2 k1
   have hlen:=insAt_len s.key hic
   have hlk:=insAt_len (l:=n.kids.set i s.left) (i:=i+1) s.right (by simp;omega)
   rw[List.length_set]at hlk
   refine ⟨⟨by dsimp only;omega,kok_iff.2 ⟨rise_ins hr g1 g2,fun k hx => ?_⟩,.inr ⟨hl,v1,by dsimp only;omega,by dsimp only;omega,fun b hb => ?_⟩⟩,by dsimp only;omega,by dsimp only;omega,fun k hx => ?_,.inr ⟨hl,hS2 _ _ _ _ _ _ _ t1 t2⟩⟩
   · rcases insAt_mem.1 hx with rfl|h
     · exact ⟨k3,k4⟩
     · exact hz k h
   · rcases insAt_mem.1 hb with rfl|h
     · exact hrg _ _ _ _ _ t2
     · rcases List.mem_or_eq_of_mem_set h with h|rfl
       · exact v4 b h
       · exact hrg _ _ _ _ _ t1
   · rcases insAt_mem.1 hx with rfl|h
     · exact g3
     · exact hw k h
theorem tr_rg {w:Wd} (hn:w.now.length≤2048) {h:Nat} {c:Int} {r:Bool} {lo hi:ByteArray} {P:List Pr} {B:List Int} (ht:Tr (Hold w) h c r lo hi P B):10≤c∧c<2048:=by
 cases h with
 | zero=>exact ht.elim
 | succ h=>
   obtain ⟨n,B0,h1,_,_⟩:=tr_get ht
   have:=hold_rg hn h1
   omega
theorem load_ok {e:Ed} {b d:Int} {n:Nd} (he:e.bad=0) (hn:Hold e.w b (d==1)=some n) (hd:d≤8):loadE e b d=(n,e):=by
 unfold loadE
 rw[if_neg (by rw[he];simp),hn]
 dsimp only
 rw[if_neg (by omega)]
theorem tr_held {w:Wd} {h:Nat} {c:Int} {r:Bool} {lo hi:ByteArray} {P:List Pr} {B:List Int} (ht:Tr (Hold w) h c r lo hi P B) (hn:w.now.length≤2048):∀x∈B,tr w.now x.toNat=true∧10≤x:=fun x hx=>by
 obtain ⟨r,m,hm⟩:=ht.held x hx
 exact ⟨hold_tr hm,(hold_rg hn hm).1⟩
theorem Fr.fresh {w x:Wd} {O N W:List Int} (h:Fr w x O N W) {b:Int} (hb:b∈N) (hO:b∉O):tr w.now b.toNat=false:=by
 rcases h.kept b hb with e|e
 · exact ((h.wr b e).2.2.2.2.1).resolve_left hO
 · exact absurd e hO
set_option maxHeartbeats 1000000 in
theorem put_ok {key val:ByteArray} (hk:1≤key.size∧key.size≤32) (hv:val.size≤200):∀(f h:Nat) (e:Ed) (b d:Int) (lo hi:ByteArray) (P:List Pr) (B:List Int),e.bad=0→WRight e.w→Tr (Hold e.w) h b (d==1) lo hi P B→B.Nodup→within key lo hi=true→1≤d→d - 1+h≤8→h≤f →
   ((putE key val f e b d).2.bad=60∧cnt e.w<2*h)∨((putE key val f e b d).2.bad=0∧WRight (putE key val f e b d).2.w∧cnt e.w≤cnt (putE key val f e b d).2.w+2*h∧∃B' W,Fr e.w (putE key val f e b d).2.w B B' W∧B'.Nodup∧SplOK (Hold (putE key val f e b d).2.w) h (d==1) lo hi (putE key val f e b d).1 (withP key val P) B')
 | f,0,e,b,d,lo,hi,P,B,_,_,ht,_,_,_,_,_=>ht.elim
 | 0,h+1,e,b,d,lo,hi,P,B,_,_,ht,_,_,_,_,hf=>by omega
 | f+1,h+1,e,b,d,lo,hi,P,B,he,hr,ht,hu,hw,hd,h8,hf=>by
   have hnow:=wr_now hr
   have hheld:=tr_held ht hnow
   obtain ⟨n,B0,hn,hc,rfl⟩:=tr_get ht
   have hok:=hold_ok hn
   obtain ⟨ub,u0⟩:=List.nodup_cons.1 hu
   unfold putE
   rw[load_ok he hn (by omega)]
   dsimp only
   rw[if_neg (by rw[he];simp)]
   obtain ⟨d1,d2,d3,d4⟩:=drop_ok he hr hn
   generalize dropE e b=e1 at d1 d2 d3 d4 ⊢
   have hc1:Cont (Hold e1.w) h lo hi n P B0:=hc.frame fun x hx r m hm=>d3.hold (by
     intro hxb
     obtain rfl:x=b:=by simpa using hxb
     exact ub hx) hm
   cases hl:n.leaf with
   | true=>
     rw[if_pos rfl]
     obtain ⟨p1,p2,p3,p4⟩:=leafPut_ok hk hv hok.1 hok.2.1 hl hw hc1
     rcases keep_ok (root:=d==1) d1 d2 p1 p2 (hok.2.2.imp id fun h=>by omega) p4 u0 with ⟨a1,a2⟩|⟨a1,a2,a3,B',X,a4,a5,a6,a7⟩
     · exact .inl ⟨a1,by omega⟩
     · have hfr:=(d3.trans a4 (by simp)).keep B0 (fun x hx=>⟨(hheld x (by simp[hx])).1,fun hxb=>by
         obtain rfl:x=b:=by simpa using hxb
         exact ub hx,by have:=(hheld x (by simp[hx])).2;omega⟩)
       exact .inr ⟨a1,a2,by omega,B',_,hfr.congr (fun x=>by simp) (fun x=>by rw[a6];simp),a5,a7⟩
   | false=>
     rw[if_neg (by simp)]
     obtain ⟨c1,⟨hx,_⟩|⟨_,c2⟩⟩:=hc1
     · rw[hl]at hx;cases hx
     obtain ⟨kr,kz⟩:=kok_iff.1 hok.1.2.1
     obtain ⟨c,lo',hi',P1,P2,P3,B1,B2,B3,q1,q2,q3,rfl,rfl,q6,q7,q8,q9⟩:=ktr_at (key:=key) (fun c lo hi P B hc=>hc.within (hold_hok _)) c2 kr (fun k hk e=>by have:=(kz k hk).1;rw[e]at this;exact absurd this (by decide)) c1 hw
     rw[q1]
     simp only[Option.getD_some]
     have e2:(d+1==1)=false:=by simp;omega
     have ih:=put_ok hk hv f h e1 c (d+1) lo' hi' P2 B2 d1 d2 (by rw[e2];exact q2) (by
       exact (List.nodup_append.1 (List.nodup_append.1 u0).2.1).1) q3 (by omega) (by omega) (by omega)
     rw[e2]at ih
     generalize putE key val f e1 c (d+1)=r at ih ⊢
     rcases ih with ⟨a1,a2⟩|⟨a1,a2,a3,B',W,a4,a5,a6⟩
     · rw[if_pos (by rw[a1];decide)]
       exact .inl ⟨a1,by omega⟩
     · rw[if_neg (by rw[a1];simp)]
       have hd13:∀x,x∈B1∨x∈B3→x∉B2:=fun x hx hx2=>by
         obtain ⟨n1,n2,n3⟩:=List.nodup_append.1 u0
         obtain ⟨n4,n5,n6⟩:=List.nodup_append.1 n2
         rcases hx with hx|hx
         · exact n3 x hx x (by simp[hx2]) rfl
         · exact n6 x hx2 x hx rfl
       obtain ⟨hS1,hS2⟩:=q9 (fun c lo hi P B=>Tr (Hold r.2.w) h c false lo hi P B) (fun c lo hi P B' hB hT=>Tr.frame (fun x hx r m hm=>a4.hold (hd13 x (hB x hx)) hm) hT)
       have hnow3:=wr_now a2
       obtain ⟨p1,p2,p3,p4⟩:=innerPut_ok hok.1 hok.2.1 hl c1 (kidOf_le _ _) a6 q8 hS1 hS2 (fun c lo hi P B hT=>tr_rg hnow3 hT)
       have hsib:∀x,x∈B1∨x∈B3→x∉B':=fun x hx hx2=>by
         have h1:=(hheld x (by rcases hx with h|h <;> simp[h])).1
         have h2:=(a4.fresh hx2 (hd13 x hx))
         have hxb:x≠b:=fun e=>by
           subst e
           exact ub (by rcases hx with h|h <;> simp[h])
         have hx10:=(hheld x (by rcases hx with h|h <;> simp[h])).2
         obtain ⟨r0,m,hm⟩:=ht.held x (by rcases hx with h|h <;> simp[h])
         have h3:=hold_tr (d3.hold (by simpa using hxb) hm)
         rw[h3]at h2;cases h2
       have hnd:(B1++(B'++B3)).Nodup:=by
         obtain ⟨n1,n2,n3⟩:=List.nodup_append.1 u0
         obtain ⟨n4,n5,n6⟩:=List.nodup_append.1 n2
         refine List.nodup_append.2 ⟨n1,List.nodup_append.2 ⟨a5,n5,fun x hx y hy e => ?_⟩,fun x hx y hy e => ?_⟩
         · subst e;exact hsib x (.inr hy) hx
         · subst e
           rcases List.mem_append.1 hy with hy|hy
           · exact hsib x (.inl hx) hy
           · exact n3 x hx x (by simp[hy]) rfl
       rcases keep_ok (root:=d==1) a1 a2 p1 p2 (hok.2.2.imp id fun h=>by omega) p4 hnd with ⟨g1,g2⟩|⟨g1,g2,g3,B'',X,g4,g5,g6,g7⟩
       · exact .inl ⟨g1,by omega⟩
       · have hfr:=((d3.trans a4 (by simp)).trans g4 (by simp)).keep (B1++B3) (fun x hx=>by
           have hx:=List.mem_append.1 hx
           have hm:x∈b :: (B1++(B2++B3)):=by rcases hx with h|h <;> simp[h]
           refine ⟨(hheld x hm).1,fun hxo => ?_,by have:=(hheld x hm).2;omega⟩
           have hxb:x≠b:=fun e=>by
             subst e
             exact ub (by rcases hx with h|h <;> simp[h])
           have:x∈B2:=by simpa[hxb] using hxo
           exact hd13 x hx this)
         refine .inr ⟨g1,g2,by omega,B'',_,hfr.congr (fun x => ?_) (fun x => ?_),g5,?_⟩
         · simp only[List.mem_append,List.mem_cons,List.not_mem_nil,or_false]
           constructor
           · rintro ((h|h)|(h|h)) <;> simp[h]
           · rintro (h|h|h|h) <;> simp[h]
         · rw[g6]
           simp only[List.mem_append,List.nil_append]
           constructor
           · rintro ((h|h)|(h|h)) <;> simp[h]
           · rintro (h|h|h|h) <;> simp[h]
         · rw[withP_mid q6 q7];exact g7
structure Inv (w:Wd) (e:Ed):Prop where
 right:WRight e.w
 base:e.w.base=w.base
 gen:e.w.gen=w.gen
 root:e.w.root=w.root
 nlen:e.w.now.length=w.now.length
 page:∀b:Int,0≤b→tr w.base b.toNat=true→pgAt e.w b=pgAt w b
 bad:e.bad=0∨e.bad=60∨e.bad=81
theorem Inv.start {w:Wd} (h:WRight w):Inv w ⟨w,0⟩:=⟨h,rfl,rfl,rfl,rfl,fun _ _ _=>rfl,.inl rfl⟩
theorem Inv.tree {w:Wd} {e:Ed} (h:Inv w e):Inv w { e with bad:=81 }:=⟨h.right,h.base,h.gen,h.root,h.nlen,h.page,.inr (.inr rfl)⟩
theorem Inv.step {w:Wd} {e e':Ed} {O N W:List Int} (h:Inv w e) (f:Fr e.w e'.w O N W) (hr:WRight e'.w) (hb:e'.bad=0∨e'.bad=60∨e'.bad=81):Inv w e' where
 right:=hr
 base:=f.base.trans h.base
 gen:=f.gen.trans h.gen
 root:=f.root.trans h.root
 nlen:=f.nlen.trans h.nlen
 page b hb ht:=by
  rw[f.page b hb fun hw => ?_,h.page b hb ht]
  have:=(f.wr b hw).2.2.2.1
  rw[h.base,ht]at this;cases this
 bad:=hb
def Blk (w:Wd) (b:Int):Prop:=10≤b∧b<w.now.length
theorem store_inv {w:Wd} {e:Ed} {n:Nd} (h:Inv w e):Inv w (storeE e n).2∧((storeE e n).2.bad=0→e.bad=0∧Blk w (storeE e n).1):=by
 by_cases he:e.bad=0
 · by_cases hok:NdOK n true
   · rcases store_ok he h.right hok with ⟨a1,a2,a3⟩|⟨a1,a2,a3,a4,a5,a6⟩
     · refine ⟨⟨by rw[a3];exact h.right,by rw[a3];exact h.base,by rw[a3];exact h.gen,by rw[a3];exact h.root,by rw[a3];exact h.nlen,by rw[a3];exact h.page,.inr (.inl a1)⟩,fun hb => ?_⟩
       rw[a1]at hb;cases hb
     · refine ⟨h.step a3 a2 (.inl a1),fun _=>⟨he,?_⟩⟩
       have:=a3.wr (storeE e n).1 (by simp)
       rw[h.nlen]at this
       exact ⟨this.2.1,this.2.2.1⟩
   · unfold storeE
     rw[if_neg (by rw[he];simp),if_pos hok]
     exact ⟨h.tree,fun hb=>by cases hb⟩
 · rw[store_bad he]
   exact ⟨h,fun hb=>absurd hb he⟩
theorem load_inv {w:Wd} {e:Ed} {b d:Int} (h:Inv w e):Inv w (loadE e b d).2∧((loadE e b d).2.bad=0→e.bad=0∧(loadE e b d).2=e∧Hold e.w b (d==1)=some (loadE e b d).1∧d≤8):=by
 unfold loadE
 by_cases he:e.bad=0
 · rw[if_neg (by rw[he];simp)]
   cases hh:Hold e.w b (d==1) with
   | none=>exact ⟨h.tree,fun hb=>by cases hb⟩
   | some n=>
     dsimp only
     by_cases hd:d > 8
     · rw[if_pos hd];exact ⟨h.tree,fun hb=>by cases hb⟩
     · rw[if_neg hd];exact ⟨h,fun _=>⟨he,rfl,rfl,by omega⟩⟩
 · rw[if_pos he]
   exact ⟨h,fun hb=>absurd hb he⟩
theorem drop_inv {w:Wd} {e:Ed} {b:Int} {r:Bool} {n:Nd} (h:Inv w e) (he:e.bad=0) (hh:Hold e.w b r=some n):Inv w (dropE e b)∧(dropE e b).bad=0:=by
 obtain ⟨a1,a2,a3,a4⟩:=drop_ok he h.right hh
 exact ⟨h.step a3 a2 (.inl a1),a1⟩
theorem keep_inv {w:Wd} {e:Ed} {n:Nd} (h:Inv w e):Inv w (keepE e n).2∧((keepE e n).2.bad=0→Blk w (keepE e n).1.left∧((keepE e n).1.two=true→Blk w (keepE e n).1.right)):=by
 unfold keepE
 by_cases h8:n.keys.length≤8
 · rw[if_pos h8]
   obtain ⟨a1,a2⟩:=store_inv (n:=n) h
   exact ⟨a1,fun hb=>⟨(a2 hb).2,fun h=>by cases h⟩⟩
 · rw[if_neg h8]
   by_cases hs:Stands n∧n.keys.length=9
   · rw[if_neg (by simpa using hs)]
     obtain ⟨a1,a2⟩:=store_inv (n:=cutL n) h
     obtain ⟨b1,b2⟩:=store_inv (n:=cutR n) a1
     exact ⟨b1,fun hb=>⟨(a2 (b2 hb).1).2,fun _=>(b2 hb).2⟩⟩
   · rw[if_pos hs]
     exact ⟨h.tree,fun hb=>by cases hb⟩
theorem put_inv {w:Wd} {key val:ByteArray}:∀(f:Nat) (e:Ed) (b d:Int),Inv w e →
   Inv w (putE key val f e b d).2∧((putE key val f e b d).2.bad=0→Blk w (putE key val f e b d).1.left∧((putE key val f e b d).1.two=true→Blk w (putE key val f e b d).1.right))
 | 0,e,b,d,h=>⟨h.tree,fun hb=>by cases hb⟩
 | f+1,e,b,d,h=>by
   unfold putE
   dsimp only
   obtain ⟨a1,a2⟩:=load_inv (b:=b) (d:=d) h
   by_cases hb:(loadE e b d).2.bad=0
   · rw[if_neg (by rw[hb];simp)]
     obtain ⟨c1,c2,c3,c4⟩:=a2 hb
     rw[c2]
     generalize (loadE e b d).1=n at c3 ⊢
     obtain ⟨d1,d2⟩:=drop_inv h c1 c3
     by_cases hl:n.leaf=true
     · rw[if_pos hl];exact keep_inv d1
     · rw[if_neg hl]
       have ih:=put_inv (key:=key) (val:=val) f (dropE e b) ((n.kids[kidOf n.keys key]?).getD 0) (d+1) d1
       by_cases hr:(putE key val f (dropE e b) ((n.kids[kidOf n.keys key]?).getD 0) (d+1)).2.bad=0
       · rw[if_neg (by rw[hr];simp)];exact keep_inv ih.1
       · rw[if_pos hr];exact ⟨ih.1,fun hb=>absurd hb hr⟩
   · rw[if_pos hb]
     exact ⟨a1,fun h=>absurd h hb⟩
def wd0:Wd:=⟨[],[],[],0,0⟩
noncomputable def endE (e:Ed):Wd×Int:=if e.bad≠0 then (wd0,e.bad) else (e.w,0)
noncomputable def setRoot (r:Int×Ed):Ed := { r.2 with w := { r.2.w with root:=r.1 } }
def isPair (key val:ByteArray):Prop:=1≤key.size∧key.size≤32∧val.size≤200
instance (key val:ByteArray):Decidable (isPair key val):=by unfold isPair;infer_instance
noncomputable def putR (w:Wd) (key val:ByteArray):Int×Ed:=
 if w.root=0 then storeE ⟨w,0⟩ ⟨true,[key],[val],[]⟩ else
 let r:=putE key val 9 ⟨w,0⟩ w.root 1
 if r.1.two=true then storeE r.2 ⟨false,[r.1.key],[],[r.1.left,r.1.right]⟩ else (r.1.left,r.2)
noncomputable def putW (w:Wd) (key val:ByteArray):Wd×Int:=
 if ¬(WRight w∧isPair key val) then (wd0,1) else endE (setRoot (putR w key val))
def Fq (w x:Wd) (O N W:List Int):Prop:=Fr w { x with root:=w.root } O N W
theorem Fr.q {w x:Wd} {O N W:List Int} (h:Fr w x O N W) (r:Int):Fq w { x with root:=r } O N W:=by
 unfold Fq
 have e:({ { x with root:=r } with root:=w.root }:Wd)=x:=by
  obtain ⟨b,n,p,r0,g⟩:=x
  have:=h.root
  simp only at this
  simp[this]
 rw[e];exact h
theorem wright_root {w:Wd} {r:Int} (h:WRight w) (hr:r=0∨(10≤r∧r<w.now.length)):WRight { w with root:=r }:=by
 obtain ⟨a1,a2,a3,a4,a5,a6⟩:=h
 exact ⟨a1,a2,a3,a4,hr,a6⟩
theorem empS_within (key:ByteArray):within key empS empS=true:=within_iff.2 ⟨lt_nil key,.inl rfl⟩
def pw5:Nat→Nat
 | 0=>1
 | n+1=>5*pw5 n
theorem ktr_blocks {R:TR} {m:Nat} (h:∀c lo hi P B,R c lo hi P B→m≤B.length):∀ {ks:List ByteArray} {cs:List Int} {lo hi:ByteArray} {P:List Pr} {B:List Int},KTr R lo hi ks cs P B→m*cs.length≤B.length
 | [],[],_,_,_,_,hk=>hk.elim
 | [],[c],_,_,_,_,hk=>by have:=h _ _ _ _ _ hk;simpa using this
 | [],_ :: _ :: _,_,_,_,_,hk=>hk.elim
 | _ :: _,[],_,_,_,_,hk=>hk.elim
 | k :: ks,c :: cs,lo,hi,P,B,hk=>by
   obtain ⟨P1,B1,P2,B2,h1,h2,rfl,rfl⟩:=hk
   have g1:=h _ _ _ _ _ h1
   have g2:=ktr_blocks h h2
   rw[List.length_append,List.length_cons,Nat.mul_add]
   omega
theorem tr_blocks {H:Hd} (ho:HOK H):∀(h:Nat) (b:Int) (lo hi:ByteArray) (P:List Pr) (B:List Int),Tr H (h+1) b false lo hi P B→pw5 h≤B.length
 | 0,b,lo,hi,P,B,ht=>by
   have:=List.length_pos_of_mem ht.root_mem
   simp only[pw5];omega
 | h+1,b,lo,hi,P,B,ht=>by
   obtain ⟨n,B0,hn,⟨_,⟨_,hx,_⟩|⟨hl,hk⟩⟩,rfl⟩:=tr_get ht
   · omega
   · have:=ktr_blocks (m:=pw5 h) (fun c lo hi P B hc=>tr_blocks ho h c lo hi P B hc) hk
     have hlen:=ktr_len hk
     have h4:=(ho _ _ _ hn).2.2
     have h4:4≤n.keys.length:=h4.resolve_left (by simp)
     have:pw5 h*5≤pw5 h*n.kids.length:=Nat.mul_le_mul_left _ (by omega)
     simp only[pw5,List.length_cons]
     omega
theorem root_blocks {H:Hd} (ho:HOK H) {h:Nat} {b:Int} {lo hi:ByteArray} {P:List Pr} {B:List Int} (ht:Tr H (h+2) b true lo hi P B):2*pw5 h<B.length:=by
 obtain ⟨n,B0,hn,⟨_,⟨_,hx,_⟩|⟨hl,hk⟩⟩,rfl⟩:=tr_get ht
 · omega
 · have:=ktr_blocks (m:=pw5 h) (fun c lo hi P B hc=>tr_blocks ho h c lo hi P B hc) hk
   have hlen:=ktr_len hk
   have h1:1≤n.keys.length:=by
    rcases (ho _ _ _ hn).1.2.2 with ⟨h,_⟩|⟨_,_,h,_⟩
    · rw[hl]at h;cases h
    · exact h
   have:pw5 h*2≤pw5 h*n.kids.length:=Nat.mul_le_mul_left _ (by omega)
   rw[List.length_cons]
   omega
theorem pw5_up {i j:Nat} (h:i≤j):pw5 i≤pw5 j:=by
 induction h with
 | refl=>exact Nat.le_refl _
 | step _ ih=>simp only[pw5];omega
theorem nodup_len:∀ {n:Nat} {B:List Int},B.Nodup→(∀x∈B,0≤x∧x<n)→B.length≤n
 | 0,[],_,_=>Nat.le_refl _
 | 0,x :: B,_,h=>by have:=h x (by simp);omega
 | n+1,B,hu,h=>by
   have h1:=nodup_len (n:=n) (hu.erase (n:Int)) fun x hx=>by
    have hm:=h x (List.mem_of_mem_erase hx)
    have hne:x≠n:=fun e=>by
     subst e
     exact (List.Nodup.not_mem_erase hu) hx
    omega
   have h2:=List.length_erase (a:=(n:Int)) (l:=B)
   split at h2 <;> omega
theorem isTree_low {w:Wd} (hr:WRight w) {h:Nat} {P:List Pr} {B:List Int} (ht:IsTree w h P B):h≤6:=by
 rcases ht with ⟨_,rfl,_⟩|⟨_,_,_,ht,hu⟩
 · omega
 · refine Classical.byContradiction fun hc => ?_
   obtain ⟨j,rfl⟩:∃j,h=j+2:=⟨h - 2,by omega⟩
   have h1:=root_blocks (hold_hok w) ht
   have hn:=wr_now hr
   have h2:=nodup_len hu (n:=2048) fun x hx=>by
    obtain ⟨r,m,hm⟩:=ht.held x hx
    have:=hold_rg hn hm
    omega
   have h3:=pw5_up (show 5≤j by omega)
   have h4:pw5 5=3125:=by decide
   omega
end Go.Proofs.YtclgengkohbjjaaGreatDoor.M
