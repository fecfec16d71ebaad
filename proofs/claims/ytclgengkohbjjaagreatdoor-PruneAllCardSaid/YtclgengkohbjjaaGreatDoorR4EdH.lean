import Derived.Test.YtclgengkohbjjaaGreatDoorR4EdA
namespace Go.Proofs.YtclgengkohbjjaaGreatDoor.M
set_option linter.unusedVariables false
set_option linter.unusedSimpArgs false
open Go Go.Mir
set_option linter.unusedVariables false
def freeAt (w:Wd) (i:Nat):Bool := !(tr w.base i) && !(tr w.now i)
def cntUp (w:Wd):Nat→Nat
 | 0=>0
 | i+1=>cntUp w i+if freeAt w i then 1 else 0
def cnt (w:Wd):Nat:=cntUp w w.now.length
def ffUp (w:Wd):Nat→Option Nat
 | 0=>none
 | i+1=>match ffUp w i with
   | some j=>some j
   | none=>if freeAt w i then some i else none
def firstFree (w:Wd):Option Nat:=ffUp w w.now.length
theorem ffUp_some {w:Wd}:∀ {i j:Nat},ffUp w i=some j→j<i∧freeAt w j=true∧∀k,k<j→freeAt w k=false
 | 0,j,h=>by cases h
 | i+1,j,h=>by
   unfold ffUp at h
   cases hx:ffUp w i with
   | some k=>
     rw[hx]at h
     obtain rfl:k=j:=by simpa using h
     obtain ⟨h1,h2,h3⟩:=ffUp_some hx
     exact ⟨by omega,h2,h3⟩
   | none=>
     rw[hx]at h
     dsimp only at h
     split at h
     · rename_i hf
       obtain rfl:i=j:=by simpa using h
       refine ⟨by omega,hf,fun k hk => ?_⟩
       have hn:∀(m:Nat),ffUp w m=none→∀k,k<m→freeAt w k=false:=fun m=>by
        induction m with
        | zero=>intro _ k hk;omega
        | succ m ih=>
          intro hm k hk
          unfold ffUp at hm
          cases hy:ffUp w m with
          | some z=>rw[hy]at hm;cases hm
          | none=>
            rw[hy]at hm
            dsimp only at hm
            split at hm
            · cases hm
            · rename_i hg
              by_cases e:k=m
              · subst e;simpa using hg
              · exact ih hy k (by omega)
       exact hn i hx k hk
     · cases h
theorem ffUp_none {w:Wd}:∀ {i:Nat},ffUp w i=none→∀k,k<i→freeAt w k=false
 | 0,_,k,hk=>by omega
 | i+1,h,k,hk=>by
   unfold ffUp at h
   cases hx:ffUp w i with
   | some z=>rw[hx]at h;cases h
   | none=>
     rw[hx]at h
     dsimp only at h
     split at h
     · cases h
     · rename_i hg
       by_cases e:k=i
       · subst e;simpa using hg
       · exact ffUp_none hx k (by omega)
theorem cntUp_zero {w:Wd}:∀ {i:Nat},(∀k,k<i→freeAt w k=false)→cntUp w i=0
 | 0,_=>rfl
 | i+1,h=>by
   rw[cntUp,cntUp_zero fun k hk=>h k (by omega),h i (by omega)];rfl
theorem cnt_none {w:Wd} (h:firstFree w=none):cnt w=0:=cntUp_zero (ffUp_none h)
theorem cntUp_less {w x:Wd} {b:Nat} (h:∀j,j≠b→freeAt w j=freeAt x j):∀i,cntUp w i≤cntUp x i+if b<i then 1 else 0
 | 0=>by simp[cntUp]
 | i+1=>by
   have ih:=cntUp_less h i
   unfold cntUp
   by_cases e:i=b
   · subst e
     rw[if_neg (by omega)]at ih
     rw[if_pos (show i<i+1 by omega)]
     split <;> split <;> omega
   · rw[h i e]
     by_cases hb:b<i
     · rw[if_pos hb]at ih
       rw[if_pos (show b<i+1 by omega)]
       omega
     · rw[if_neg hb]at ih
       rw[if_neg (show ¬b<i+1 by omega)]
       omega
theorem cntUp_more {w x:Wd} (h:∀j,freeAt w j=true→freeAt x j=true):∀i,cntUp w i≤cntUp x i
 | 0=>Nat.le_refl _
 | i+1=>by
   have ih:=cntUp_more h i
   unfold cntUp
   by_cases hf:freeAt w i=true
   · rw[hf,h i hf];simp;omega
   · rw[if_neg hf];omega
structure Fr (w x:Wd) (O N W:List Int):Prop where
 base:x.base=w.base
 gen:x.gen=w.gen
 root:x.root=w.root
 nlen:x.now.length=w.now.length
 plen:x.pages.length=w.pages.length
 now:∀i:Nat,i<w.now.length→tr x.now i=((tr w.now i && !decide ((i:Int)∈O))||decide ((i:Int)∈N))
 page:∀b:Int,0≤b→b∉W→pgAt x b=pgAt w b
 wr:∀b∈W,b∈N∧10≤b∧b<w.now.length∧tr w.base b.toNat=false∧(b∈O∨tr w.now b.toNat=false)∧∃n,NdOK n true∧pgAt x b=pageB w.gen n
 kept:∀b∈N,b∈W∨b∈O
theorem Fr.refl (w:Wd):Fr w w [] [] []:=⟨rfl,rfl,rfl,rfl,rfl,fun i _=>by simp,fun _ _ _=>rfl,fun b h=>(by cases h),fun b h=>(by cases h)⟩
theorem Fr.trans {w x y:Wd} {O N W O' N' W':List Int} (h:Fr w x O N W) (g:Fr x y O' N' W') (hd:∀b∈N,b∉O'):Fr w y (O++O') (N++N') (W++W') where
 base:=g.base.trans h.base
 gen:=g.gen.trans h.gen
 root:=g.root.trans h.root
 nlen:=g.nlen.trans h.nlen
 plen:=g.plen.trans h.plen
 now i hi:=by
  rw[g.now i (by rw[h.nlen];exact hi),h.now i hi]
  simp only[List.mem_append]
  by_cases hN:(i:Int)∈N
  · have:=hd _ hN
    simp[hN,this]
  · by_cases h1:(i:Int)∈O <;> by_cases h2:(i:Int)∈O' <;> by_cases h3:(i:Int)∈N' <;> simp[hN,h1,h2,h3]
 page b hb hn:=by
  rw[List.mem_append]at hn
  rw[g.page b hb fun e=>hn (.inr e),h.page b hb fun e=>hn (.inl e)]
 wr b hb:=by
  rw[List.mem_append]at hb
  by_cases h2:b∈W'
  · obtain ⟨a1,a2,a3,a4,a5,n,a6,a7⟩:=g.wr b h2
    rw[h.nlen]at a3
    refine ⟨List.mem_append_right _ a1,a2,a3,by rw[←h.base];exact a4,?_,n,a6,by rw[a7,h.gen]⟩
    rcases a5 with a5|a5
    · exact .inl (List.mem_append_right _ a5)
    · rw[h.now b.toNat (by omega),show ((b.toNat:Nat):Int)=b by omega]at a5
      simp only[Bool.or_eq_false_iff,Bool.and_eq_false_iff,Bool.not_eq_false',decide_eq_true_eq]at a5
      rcases a5.1 with a6|a6
      · exact .inr a6
      · exact .inl (List.mem_append_left _ a6)
  · have hb:=hb.resolve_right h2
    obtain ⟨a1,a2,a3,a4,a5,n,a6,a7⟩:=h.wr b hb
    refine ⟨List.mem_append_left _ a1,a2,a3,a4,?_,n,a6,by rw[g.page b (by omega) h2];exact a7⟩
    rcases a5 with a5|a5
    · exact .inl (List.mem_append_left _ a5)
    · exact .inr a5
 kept b hb:=by
  rcases List.mem_append.1 hb with hb|hb
  · rcases h.kept b hb with e|e
    · exact .inl (List.mem_append_left _ e)
    · exact .inr (List.mem_append_left _ e)
  · rcases g.kept b hb with e|e
    · exact .inl (List.mem_append_right _ e)
    · exact .inr (List.mem_append_right _ e)
theorem Fr.keep {w x:Wd} {O N W:List Int} (h:Fr w x O N W) (E:List Int) (hE:∀b∈E,tr w.now b.toNat=true∧b∉O∧0≤b):Fr w x (O++E) (N++E) W where
 base:=h.base
 gen:=h.gen
 root:=h.root
 nlen:=h.nlen
 plen:=h.plen
 now i hi:=by
  rw[h.now i hi]
  simp only[List.mem_append]
  by_cases h1:(i:Int)∈E
  · obtain ⟨a,b,_⟩:=hE _ h1
    rw[show (i:Int).toNat=i by omega]at a
    simp[h1,a,b]
  · simp[h1]
 page:=h.page
 wr b hb:=by
  obtain ⟨a1,a2,a3,a4,a5,a6⟩:=h.wr b hb
  refine ⟨List.mem_append_left _ a1,a2,a3,a4,?_,a6⟩
  rcases a5 with a5|a5
  · exact .inl (List.mem_append_left _ a5)
  · exact .inr a5
 kept b hb:=by
  rcases List.mem_append.1 hb with hb|hb
  · rcases h.kept b hb with e|e
    · exact .inl e
    · exact .inr (List.mem_append_left _ e)
  · exact .inr (List.mem_append_right _ hb)
theorem Fr.congr {w x:Wd} {O N W O' N':List Int} (h:Fr w x O N W) (hO:∀b,b∈O ↔ b∈O') (hN:∀b,b∈N ↔ b∈N'):Fr w x O' N' W where
 base:=h.base
 gen:=h.gen
 root:=h.root
 nlen:=h.nlen
 plen:=h.plen
 now i hi:=by
  rw[h.now i hi]
  simp only[hO,hN]
 page:=h.page
 wr b hb:=by
  obtain ⟨a1,a2,a3,a4,a5,a6⟩:=h.wr b hb
  exact ⟨(hN b).1 a1,a2,a3,a4,a5.imp (hO b).1 id,a6⟩
 kept b hb:=(h.kept b ((hN b).2 hb)).imp id (hO b).1
theorem Fr.hold {w x:Wd} {O N W:List Int} (h:Fr w x O N W) {b:Int} {r:Bool} {n:Nd} (hb:b∉O) (hh:Hold w b r=some n):Hold x b r=some n:=by
 have ht:=hold_tr hh
 have h0:10≤b∧b<w.now.length:=by
  unfold Hold at hh
  split at hh
  · cases hh
  · omega
 have hW:b∉W:=fun e=>by
  rcases (h.wr b e).2.2.2.2.1 with e2|e2
  · exact hb e2
  · rw[ht]at e2;cases e2
 have hnow:tr x.now b.toNat=true:=by
  rw[h.now b.toNat (by omega),show ((b.toNat:Nat):Int)=b by omega,ht]
  simp[hb]
 rw[←hh]
 unfold Hold
 rw[h.nlen,h.plen,hnow,ht,h.page b (by omega) hW,h.gen]
theorem Fr.used {w x:Wd} {O N W:List Int} (h:Fr w x O N W) {b:Int} (hb:b∈N) (h0:0≤b) (h1:b<w.now.length):tr x.now b.toNat=true:=by
 rw[h.now b.toNat (by omega),show ((b.toNat:Nat):Int)=b by omega]
 simp[hb]
theorem Fr.right {w x:Wd} {O N W:List Int} (h:Fr w x O N W) (hr:WRight w) (hO:∀b∈O,10≤b) (hs:∀s∈x.pages,s.size≤4096):WRight x:=by
 obtain ⟨⟨a1,a2,a3,a4⟩,a5,a6,a7,a8,a9⟩:=hr
 refine ⟨⟨by rw[h.base,h.nlen];exact a1,by rw[h.nlen];exact a2,by rw[h.nlen];exact a3,fun j hj=>⟨by rw[h.base];exact (a4 j hj).1,?_⟩⟩,by rw[h.plen,h.nlen];exact a5,by rw[h.gen];exact a6,by rw[h.gen];exact a7,by rw[h.root,h.nlen];exact a8,hs⟩
 rw[h.now j (by omega),(a4 j hj).2]
 have:(j:Int)∉O:=fun e=>by have:=hO _ e;omega
 simp[this]
structure Ed where
 w:Wd
 bad:Int
noncomputable def storeE (e:Ed) (n:Nd):Int×Ed:=
 if e.bad≠0 then (0,e) else if ¬NdOK n true then (0,{ e with bad:=81 }) else match firstFree e.w with
 | none=>(0,{ e with bad:=60 })
 | some b=>((b:Int),{ e with w := { e.w with now:=e.w.now.set b true,pages:=e.w.pages.set b (pageB e.w.gen n) } })
noncomputable def loadE (e:Ed) (b d:Int):Nd×Ed:=
 if e.bad≠0 then (nd0,e) else match Hold e.w b (d==1) with
 | none=>(nd0,{ e with bad:=81 })
 | some n=>if d > 8 then (nd0,{ e with bad:=81 }) else (n,e)
noncomputable def dropE (e:Ed) (b:Int):Ed:=
 if e.bad≠0 then e else if b<10∨b≥e.w.now.length∨tr e.w.now b.toNat=false then { e with bad:=81 } else { e with w := { e.w with now:=e.w.now.set b.toNat false } }
theorem tr_set {l:List Bool} {j:Nat} {v:Bool} (hj:j<l.length) (i:Nat):tr (l.set j v) i=if i=j then v else tr l i:=by
 unfold tr
 by_cases e:i=j
 · subst e;rw[if_pos rfl,List.getElem?_set_self hj];rfl
 · rw[if_neg e,List.getElem?_set_ne (fun h=>e h.symm)]
theorem pgAt_set {w:Wd} {j:Nat} {s:ByteArray} (hj:j<w.pages.length) (b:Int):pgAt { w with pages:=w.pages.set j s } b=if b.toNat=j then s else pgAt w b:=by
 unfold pgAt
 dsimp only
 by_cases e:b.toNat=j
 · rw[if_pos e,e,List.getElem?_set_self hj];rfl
 · rw[if_neg e,List.getElem?_set_ne (fun h=>e h.symm)]
theorem ndPage_size {n:Nd} (hok:NdOK n true) {g:Int} (h0:0≤g) (h1:g≤1099511627776):(pageB g n).size≤4096:=by
 rcases getP_cases (pageB g n) with ⟨e,he,h⟩|⟨k,g',b,h,_,hs,_⟩
 · rw[pageB,get_self (page_ok hok h0 h1)]at h
   simp[pErr,pg]at h
   exact absurd h.2.symm he
 · exact hs
theorem store_ok {e:Ed} {n:Nd} (he:e.bad=0) (hr:WRight e.w) (hok:NdOK n true):((storeE e n).2.bad=60∧cnt e.w=0∧(storeE e n).2.w=e.w) ∨
   ((storeE e n).2.bad=0∧WRight (storeE e n).2.w∧Fr e.w (storeE e n).2.w [] [(storeE e n).1] [(storeE e n).1]∧cnt e.w≤cnt (storeE e n).2.w+1∧tr e.w.now (storeE e n).1.toNat=false ∧
     ∀r,NdOK n r→Hold (storeE e n).2.w (storeE e n).1 r=some n):=by
 unfold storeE
 rw[if_neg (by rw[he];simp),if_neg (by simpa using hok)]
 cases hf:firstFree e.w with
 | none=>exact .inl ⟨rfl,cnt_none hf,rfl⟩
 | some b=>
   dsimp only
   obtain ⟨h1,h2,h3⟩:=ffUp_some hf
   obtain ⟨⟨a1,a2,a3,a4⟩,a5,a6,a7,a8,a9⟩:=id hr
   have hfb:tr e.w.base b=false∧tr e.w.now b=false:=by
     unfold freeAt at h2
     simpa using h2
   have h10:10≤b:=Classical.byContradiction fun hc=>by
     have:=(a4 b (by omega)).2
     rw[hfb.2]at this;cases this
   have hpb:b<e.w.pages.length:=by omega
   have hfr:Fr e.w { e.w with now:=e.w.now.set b true,pages:=e.w.pages.set b (pageB e.w.gen n) } [] [(b:Int)] [(b:Int)]:=by
     refine ⟨rfl,rfl,rfl,by simp,by simp,fun i hi => ?_,fun x hx hn => ?_,fun x hx => ?_,fun x hx => .inl hx⟩
     · dsimp only
       rw[tr_set h1]
       by_cases e1:i=b
       · simp[e1]
       · rw[if_neg e1]
         have:¬(i:Int)=b:=by omega
         simp[this]
     · have:x≠b:=by simpa using hn
       show pgAt { e.w with pages:=e.w.pages.set b (pageB e.w.gen n) } x=_
       rw[pgAt_set hpb,if_neg (by omega)]
     · obtain rfl:x=b:=by simpa using hx
       refine ⟨by simp,by omega,by omega,hfb.1,.inr hfb.2,n,hok,?_⟩
       show pgAt { e.w with pages:=e.w.pages.set b (pageB e.w.gen n) } (b:Int)=_
       rw[pgAt_set hpb,if_pos (by simp)]
   have hw:WRight { e.w with now:=e.w.now.set b true,pages:=e.w.pages.set b (pageB e.w.gen n) }:=by
     refine hfr.right hr (fun x hx=>by cases hx) fun s hs => ?_
     rcases List.mem_or_eq_of_mem_set hs with hs|rfl
     · exact a9 s hs
     · exact ndPage_size hok (by omega) a7
   refine .inr ⟨he,hw,hfr,?_,by simpa using hfb.2,fun r hnr => ?_⟩
   · have:=cntUp_less (w:=e.w) (x := { e.w with now:=e.w.now.set b true,pages:=e.w.pages.set b (pageB e.w.gen n) }) (b:=b) (fun j hj=>by
       unfold freeAt
       dsimp only
       rw[tr_set h1,if_neg hj]) e.w.now.length
     rw[if_pos h1]at this
     have hl:cnt { e.w with now:=e.w.now.set b true,pages:=e.w.pages.set b (pageB e.w.gen n) } = cntUp { e.w with now:=e.w.now.set b true,pages:=e.w.pages.set b (pageB e.w.gen n) } e.w.now.length:=by
       unfold cnt;simp
     rw[hl];exact this
   · refine hold_store hw (by omega) (by simp;omega) ?_ (g:=e.w.gen) ?_ (by omega) (Int.le_refl _) hnr
     · dsimp only
       rw[tr_set h1,if_pos (by simp)]
     · show pgAt { e.w with pages:=e.w.pages.set b (pageB e.w.gen n) } (b:Int)=_
       rw[pgAt_set hpb,if_pos (by simp)]
theorem drop_ok {e:Ed} {b:Int} {r:Bool} {n:Nd} (he:e.bad=0) (hr:WRight e.w) (hh:Hold e.w b r=some n):(dropE e b).bad=0∧WRight (dropE e b).w∧Fr e.w (dropE e b).w [b] [] []∧cnt e.w≤cnt (dropE e b).w:=by
 have ht:=hold_tr hh
 have hrg:=hold_rg (wr_now hr) hh
 have hbi:b.toNat<e.w.now.length:=by omega
 unfold dropE
 rw[if_neg (by rw[he];simp),if_neg (by rw[ht];simp;omega)]
 have hfr:Fr e.w { e.w with now:=e.w.now.set b.toNat false } [b] [] []:=by
   refine ⟨rfl,rfl,rfl,by simp,rfl,fun i hi => ?_,fun x hx hn=>rfl,fun x hx=>(by cases hx),fun x hx=>(by cases hx)⟩
   dsimp only
   rw[tr_set hbi]
   by_cases e1:i=b.toNat
   · have:(i:Int)=b:=by omega
     simp[e1,this]
     omega
   · rw[if_neg e1]
     have:(i:Int)≠b:=by omega
     simp[this]
 refine ⟨he,hfr.right hr (fun x hx => ?_) hr.2.2.2.2.2,hfr,?_⟩
 · obtain rfl:x=b:=by simpa using hx
   omega
 · have:=cntUp_more (w:=e.w) (x := { e.w with now:=e.w.now.set b.toNat false }) (fun j hj=>by
     unfold freeAt at hj ⊢
     dsimp only
     rw[tr_set hbi]
     split
     · simp only[Bool.and_eq_true]at hj
       rw[hj.1];rfl
     · exact hj) e.w.now.length
   have hl:cnt { e.w with now:=e.w.now.set b.toNat false } = cntUp { e.w with now:=e.w.now.set b.toNat false } e.w.now.length:=by
     unfold cnt;simp
   rw[hl];exact this
theorem set_split {α:Type} {l:List α} {i:Nat} (h:i<l.length) (x:α):l.set i x=l.take i++x :: l.drop (i+1):=by
 rw[List.set_eq_take_append_cons_drop,if_pos h]
theorem kseg_ktr {R:TR} {k:ByteArray}:∀ {ks:List ByteArray} {cs:List Int} {lo hi:ByteArray} {P:List Pr} {B:List Int},KSeg R lo hi (ks++[k]) cs P B→hi=k∧KTr R lo k ks cs P B
 | [],[],_,_,_,_,h=>h.elim
 | [],[c],lo,hi,P,B,h=>by
   obtain ⟨P1,B1,P2,B2,h1,⟨rfl,rfl,rfl⟩,rfl,rfl⟩:=h
   exact ⟨rfl,by simpa[KTr] using h1⟩
 | [],c :: d :: cs,lo,hi,P,B,h=>by
   obtain ⟨P1,B1,P2,B2,h1,h2,_⟩:=h
   exact h2.elim
 | y :: ks,[],_,_,_,_,h=>h.elim
 | y :: ks,c :: cs,lo,hi,P,B,h=>by
   obtain ⟨P1,B1,P2,B2,h1,h2,rfl,rfl⟩:=h
   obtain ⟨e,h3⟩:=kseg_ktr (ks:=ks) h2
   exact ⟨e,P1,B1,P2,B2,h1,h3,rfl,rfl⟩
def Cont (H:Hd) (h:Nat) (lo hi:ByteArray) (n:Nd) (P:List Pr) (B:List Int):Prop:=
 (∀k∈n.keys,within k lo hi=true)∧((n.leaf=true∧h=0∧n.keys≠[]∧P=n.keys.zip n.vals∧B=[])∨(n.leaf=false∧KTr (fun c lo hi P B=>Tr H h c false lo hi P B) lo hi n.keys n.kids P B))
theorem tr_of {H:Hd} {h:Nat} {b:Int} {root:Bool} {lo hi:ByteArray} {n:Nd} {P:List Pr} {B:List Int} (h1:H b root=some n) (h2:Cont H h lo hi n P B):Tr H (h+1) b root lo hi P (b :: B):=by
 obtain ⟨hw,⟨a1,a2,a3,a4,rfl⟩|⟨a1,a2⟩⟩:=h2
 · exact ⟨n,h1,hw,.inl ⟨a1,a2,a3,a4,rfl⟩⟩
 · exact ⟨n,h1,hw,.inr ⟨a1,B,rfl,a2⟩⟩
theorem tr_get {H:Hd} {h:Nat} {b:Int} {root:Bool} {lo hi:ByteArray} {P:List Pr} {B:List Int} (ht:Tr H (h+1) b root lo hi P B):∃n B0,H b root=some n∧Cont H h lo hi n P B0∧B=b :: B0:=by
 obtain ⟨n,hn,hw,⟨a1,a2,a3,a4,rfl⟩|⟨a1,B',rfl,a2⟩⟩:=ht
 · exact ⟨n,[],hn,⟨hw,.inl ⟨a1,a2,a3,a4,rfl⟩⟩,rfl⟩
 · exact ⟨n,B',hn,⟨hw,.inr ⟨a1,a2⟩⟩,rfl⟩
theorem Cont.frame {H G:Hd} {h:Nat} {lo hi:ByteArray} {n:Nd} {P:List Pr} {B:List Int} (hc:Cont H h lo hi n P B) (f:∀x∈B,∀r n,H x r=some n→G x r=some n):Cont G h lo hi n P B:=by
 obtain ⟨hw,a|⟨a1,a2⟩⟩:=hc
 · exact ⟨hw,.inl a⟩
 · exact ⟨hw,.inr ⟨a1,KTr.mono (fun c lo hi P B' hB hx=>Tr.frame (fun x hx'=>f x (hB x hx')) hx) a2⟩⟩
theorem Cont.held {H:Hd} {h:Nat} {lo hi:ByteArray} {n:Nd} {P:List Pr} {B:List Int} (hc:Cont H h lo hi n P B):∀x∈B,∃r n,H x r=some n:=by
 obtain ⟨_,⟨_,_,_,_,rfl⟩|⟨_,a2⟩⟩:=hc
 · intro x hx;cases hx
 · exact KTr.mem (Q:=fun x=>∃r n,H x r=some n) (fun c lo hi P B hc=>Tr.held hc) a2
structure Spl where
 left:Int
 right:Int
 key:ByteArray
 two:Bool
def spl0:Spl:=⟨0,0,empS,false⟩
def cutL (n:Nd):Nd:=if n.leaf then ⟨true,n.keys.take 4,n.vals.take 4,[]⟩ else ⟨false,n.keys.take 4,[],n.kids.take 5⟩
def cutR (n:Nd):Nd:=if n.leaf then ⟨true,n.keys.drop 4,n.vals.drop 4,[]⟩ else ⟨false,n.keys.drop 5,[],n.kids.drop 5⟩
def cutK (n:Nd):ByteArray:=(n.keys[4]?).getD empS
theorem rise_take {l:List ByteArray} (i:Nat) (h:Rise l):Rise (l.take i):=h.take
theorem rise_drop {l:List ByteArray} (i:Nat) (h:Rise l):Rise (l.drop i):=h.drop
noncomputable def keepE (e:Ed) (n:Nd):Spl×Ed:=
 if n.keys.length≤8 then (⟨(storeE e n).1,0,empS,false⟩,(storeE e n).2)
 else if ¬(Stands n∧n.keys.length=9) then (spl0,{ e with bad:=81 })
 else (⟨(storeE e (cutL n)).1,(storeE (storeE e (cutL n)).2 (cutR n)).1,cutK n,true⟩,(storeE (storeE e (cutL n)).2 (cutR n)).2)
theorem store_bad {e:Ed} {n:Nd} (he:e.bad≠0):storeE e n=(0,e):=by rw[storeE,if_pos he]
theorem ndok_up {n:Nd} {r:Bool} (h:NdOK n r):NdOK n true:=⟨h.1,h.2.1,.inl rfl⟩
theorem Fr.new {w x:Wd} {N W:List Int} (h:Fr w x [] N W) {b:Int} (hb:b∈W):tr w.now b.toNat=false:=by
 rcases (h.wr b hb).2.2.2.2.1 with e|e
 · cases e
 · exact e
noncomputable def leafPut (n:Nd) (key val:ByteArray):Nd:=
 if isAt n.keys key then ⟨n.leaf,n.keys,n.vals.set (srch n.keys key) val,n.kids⟩ else ⟨n.leaf,insAt n.keys (srch n.keys key) key,insAt n.vals (srch n.keys key) val,n.kids⟩
def innerPut (n:Nd) (i:Nat) (s:Spl):Nd:=
 if s.two then ⟨n.leaf,insAt n.keys i s.key,n.vals,insAt (n.kids.set i s.left) (i+1) s.right⟩ else ⟨n.leaf,n.keys,n.vals,n.kids.set i s.left⟩
noncomputable def putE (key val:ByteArray):Nat→Ed→Int→Int→Spl×Ed
 | 0,e,_,_=>(spl0,{ e with bad:=81 })
 | f+1,e,b,d=>
   let n:=(loadE e b d).1
   let e1:=(loadE e b d).2
   if e1.bad≠0 then (spl0,e1) else
   let e2:=dropE e1 b
   if n.leaf then keepE e2 (leafPut n key val) else
   let i:=kidOf n.keys key
   let r:=putE key val f e2 ((n.kids[i]?).getD 0) (d+1)
   if r.2.bad≠0 then (spl0,r.2) else keepE r.2 (innerPut n i r.1)
theorem tr_rg {w:Wd} (hn:w.now.length≤2048) {h:Nat} {c:Int} {r:Bool} {lo hi:ByteArray} {P:List Pr} {B:List Int} (ht:Tr (Hold w) h c r lo hi P B):10≤c∧c<2048:=by
 cases h with
 | zero=>exact ht.elim
 | succ h=>
   obtain ⟨n,B0,h1,_,_⟩:=tr_get ht
   have:=hold_rg hn h1
   omega
theorem load_ok {e:Ed} {b d:Int} {n:Nd} (he:e.bad=0) (hn:Hold e.w b (d==1)=some n) (hd:d≤8):loadE e b d=(n,e):=by
 unfold loadE
 rw[if_neg (by rw[he];simp),hn]
 dsimp only
 rw[if_neg (by omega)]
theorem tr_held {w:Wd} {h:Nat} {c:Int} {r:Bool} {lo hi:ByteArray} {P:List Pr} {B:List Int} (ht:Tr (Hold w) h c r lo hi P B) (hn:w.now.length≤2048):∀x∈B,tr w.now x.toNat=true∧10≤x:=fun x hx=>by
 obtain ⟨r,m,hm⟩:=ht.held x hx
 exact ⟨hold_tr hm,(hold_rg hn hm).1⟩
theorem Fr.fresh {w x:Wd} {O N W:List Int} (h:Fr w x O N W) {b:Int} (hb:b∈N) (hO:b∉O):tr w.now b.toNat=false:=by
 rcases h.kept b hb with e|e
 · exact ((h.wr b e).2.2.2.2.1).resolve_left hO
 · exact absurd e hO
structure Inv (w:Wd) (e:Ed):Prop where
 right:WRight e.w
 base:e.w.base=w.base
 gen:e.w.gen=w.gen
 root:e.w.root=w.root
 nlen:e.w.now.length=w.now.length
 page:∀b:Int,0≤b→tr w.base b.toNat=true→pgAt e.w b=pgAt w b
 bad:e.bad=0∨e.bad=60∨e.bad=81
theorem Inv.start {w:Wd} (h:WRight w):Inv w ⟨w,0⟩:=⟨h,rfl,rfl,rfl,rfl,fun _ _ _=>rfl,.inl rfl⟩
theorem Inv.tree {w:Wd} {e:Ed} (h:Inv w e):Inv w { e with bad:=81 }:=⟨h.right,h.base,h.gen,h.root,h.nlen,h.page,.inr (.inr rfl)⟩
theorem Inv.step {w:Wd} {e e':Ed} {O N W:List Int} (h:Inv w e) (f:Fr e.w e'.w O N W) (hr:WRight e'.w) (hb:e'.bad=0∨e'.bad=60∨e'.bad=81):Inv w e' where
 right:=hr
 base:=f.base.trans h.base
 gen:=f.gen.trans h.gen
 root:=f.root.trans h.root
 nlen:=f.nlen.trans h.nlen
 page b hb ht:=by
  rw[f.page b hb fun hw => ?_,h.page b hb ht]
  have:=(f.wr b hw).2.2.2.1
  rw[h.base,ht]at this;cases this
 bad:=hb
def Blk (w:Wd) (b:Int):Prop:=10≤b∧b<w.now.length
theorem store_inv {w:Wd} {e:Ed} {n:Nd} (h:Inv w e):Inv w (storeE e n).2∧((storeE e n).2.bad=0→e.bad=0∧Blk w (storeE e n).1):=by
 by_cases he:e.bad=0
 · by_cases hok:NdOK n true
   · rcases store_ok he h.right hok with ⟨a1,a2,a3⟩|⟨a1,a2,a3,a4,a5,a6⟩
     · refine ⟨⟨by rw[a3];exact h.right,by rw[a3];exact h.base,by rw[a3];exact h.gen,by rw[a3];exact h.root,by rw[a3];exact h.nlen,by rw[a3];exact h.page,.inr (.inl a1)⟩,fun hb => ?_⟩
       rw[a1]at hb;cases hb
     · refine ⟨h.step a3 a2 (.inl a1),fun _=>⟨he,?_⟩⟩
       have:=a3.wr (storeE e n).1 (by simp)
       rw[h.nlen]at this
       exact ⟨this.2.1,this.2.2.1⟩
   · unfold storeE
     rw[if_neg (by rw[he];simp),if_pos hok]
     exact ⟨h.tree,fun hb=>by cases hb⟩
 · rw[store_bad he]
   exact ⟨h,fun hb=>absurd hb he⟩
theorem load_inv {w:Wd} {e:Ed} {b d:Int} (h:Inv w e):Inv w (loadE e b d).2∧((loadE e b d).2.bad=0→e.bad=0∧(loadE e b d).2=e∧Hold e.w b (d==1)=some (loadE e b d).1∧d≤8):=by
 unfold loadE
 by_cases he:e.bad=0
 · rw[if_neg (by rw[he];simp)]
   cases hh:Hold e.w b (d==1) with
   | none=>exact ⟨h.tree,fun hb=>by cases hb⟩
   | some n=>
     dsimp only
     by_cases hd:d > 8
     · rw[if_pos hd];exact ⟨h.tree,fun hb=>by cases hb⟩
     · rw[if_neg hd];exact ⟨h,fun _=>⟨he,rfl,rfl,by omega⟩⟩
 · rw[if_pos he]
   exact ⟨h,fun hb=>absurd hb he⟩
theorem drop_inv {w:Wd} {e:Ed} {b:Int} {r:Bool} {n:Nd} (h:Inv w e) (he:e.bad=0) (hh:Hold e.w b r=some n):Inv w (dropE e b)∧(dropE e b).bad=0:=by
 obtain ⟨a1,a2,a3,a4⟩:=drop_ok he h.right hh
 exact ⟨h.step a3 a2 (.inl a1),a1⟩
theorem keep_inv {w:Wd} {e:Ed} {n:Nd} (h:Inv w e):Inv w (keepE e n).2∧((keepE e n).2.bad=0→Blk w (keepE e n).1.left∧((keepE e n).1.two=true→Blk w (keepE e n).1.right)):=by
 unfold keepE
 by_cases h8:n.keys.length≤8
 · rw[if_pos h8]
   obtain ⟨a1,a2⟩:=store_inv (n:=n) h
   exact ⟨a1,fun hb=>⟨(a2 hb).2,fun h=>by cases h⟩⟩
 · rw[if_neg h8]
   by_cases hs:Stands n∧n.keys.length=9
   · rw[if_neg (by simpa using hs)]
     obtain ⟨a1,a2⟩:=store_inv (n:=cutL n) h
     obtain ⟨b1,b2⟩:=store_inv (n:=cutR n) a1
     exact ⟨b1,fun hb=>⟨(a2 (b2 hb).1).2,fun _=>(b2 hb).2⟩⟩
   · rw[if_pos hs]
     exact ⟨h.tree,fun hb=>by cases hb⟩
theorem put_inv {w:Wd} {key val:ByteArray}:∀(f:Nat) (e:Ed) (b d:Int),Inv w e →
   Inv w (putE key val f e b d).2∧((putE key val f e b d).2.bad=0→Blk w (putE key val f e b d).1.left∧((putE key val f e b d).1.two=true→Blk w (putE key val f e b d).1.right))
 | 0,e,b,d,h=>⟨h.tree,fun hb=>by cases hb⟩
 | f+1,e,b,d,h=>by
   unfold putE
   dsimp only
   obtain ⟨a1,a2⟩:=load_inv (b:=b) (d:=d) h
   by_cases hb:(loadE e b d).2.bad=0
   · rw[if_neg (by rw[hb];simp)]
     obtain ⟨c1,c2,c3,c4⟩:=a2 hb
     rw[c2]
     generalize (loadE e b d).1=n at c3 ⊢
     obtain ⟨d1,d2⟩:=drop_inv h c1 c3
     by_cases hl:n.leaf=true
     · rw[if_pos hl];exact keep_inv d1
     · rw[if_neg hl]
       have ih:=put_inv (key:=key) (val:=val) f (dropE e b) ((n.kids[kidOf n.keys key]?).getD 0) (d+1) d1
       by_cases hr:(putE key val f (dropE e b) ((n.kids[kidOf n.keys key]?).getD 0) (d+1)).2.bad=0
       · rw[if_neg (by rw[hr];simp)];exact keep_inv ih.1
       · rw[if_pos hr];exact ⟨ih.1,fun hb=>absurd hb hr⟩
   · rw[if_pos hb]
     exact ⟨a1,fun h=>absurd h hb⟩
def wd0:Wd:=⟨[],[],[],0,0⟩
noncomputable def endE (e:Ed):Wd×Int:=if e.bad≠0 then (wd0,e.bad) else (e.w,0)
noncomputable def setRoot (r:Int×Ed):Ed := { r.2 with w := { r.2.w with root:=r.1 } }
def isPair (key val:ByteArray):Prop:=1≤key.size∧key.size≤32∧val.size≤200
instance (key val:ByteArray):Decidable (isPair key val):=by unfold isPair;infer_instance
noncomputable def putR (w:Wd) (key val:ByteArray):Int×Ed:=
 if w.root=0 then storeE ⟨w,0⟩ ⟨true,[key],[val],[]⟩ else
 let r:=putE key val 9 ⟨w,0⟩ w.root 1
 if r.1.two=true then storeE r.2 ⟨false,[r.1.key],[],[r.1.left,r.1.right]⟩ else (r.1.left,r.2)
noncomputable def putW (w:Wd) (key val:ByteArray):Wd×Int:=
 if ¬(WRight w∧isPair key val) then (wd0,1) else endE (setRoot (putR w key val))
def Fq (w x:Wd) (O N W:List Int):Prop:=Fr w { x with root:=w.root } O N W
theorem Fr.q {w x:Wd} {O N W:List Int} (h:Fr w x O N W) (r:Int):Fq w { x with root:=r } O N W:=by
 unfold Fq
 have e:({ { x with root:=r } with root:=w.root }:Wd)=x:=by
  obtain ⟨b,n,p,r0,g⟩:=x
  have:=h.root
  simp only at this
  simp[this]
 rw[e];exact h
theorem wright_root {w:Wd} {r:Int} (h:WRight w) (hr:r=0∨(10≤r∧r<w.now.length)):WRight { w with root:=r }:=by
 obtain ⟨a1,a2,a3,a4,a5,a6⟩:=h
 exact ⟨a1,a2,a3,a4,hr,a6⟩
theorem empS_within (key:ByteArray):within key empS empS=true:=within_iff.2 ⟨lt_nil key,.inl rfl⟩
theorem cnt_root (w:Wd) (r:Int):cnt { w with root:=r } = cnt w:=by
 have h:∀i,cntUp { w with root:=r } i=cntUp w i:=fun i=>by
  induction i with
  | zero=>rfl
  | succ i ih=>rw[cntUp,cntUp,ih];rfl
 exact h _
theorem endE_bad {r:Int×Ed} (h:r.2.bad≠0):endE (setRoot r)=(wd0,r.2.bad):=by
 unfold endE setRoot
 rw[if_pos (by exact h)]
theorem endE_ok {r:Int×Ed} (h:r.2.bad=0):endE (setRoot r)=({ r.2.w with root:=r.1 },0):=by
 unfold endE setRoot
 rw[if_neg (by simpa using h)]
theorem putW_any {w:Wd} {key val:ByteArray} (hr:WRight w) (hp:isPair key val):
   (putW w key val=(wd0,60)∨putW w key val=(wd0,81))∨∃x,putW w key val=(x,0)∧WRight x∧x.base=w.base∧x.gen=w.gen∧x.now.length=w.now.length∧x.pages.length=w.pages.length∧∀b:Int,0≤b→tr w.base b.toNat=true→pgAt x b=pgAt w b:=by
 unfold putW
 rw[if_neg (by simp;exact ⟨hr,hp⟩)]
 have hx:Inv w (putR w key val).2∧((putR w key val).2.bad=0→Blk w (putR w key val).1):=by
   unfold putR
   by_cases h0:w.root=0
   · rw[if_pos h0]
     obtain ⟨a1,a2⟩:=store_inv (n:=⟨true,[key],[val],[]⟩) (Inv.start hr)
     exact ⟨a1,fun hb=>(a2 hb).2⟩
   · rw[if_neg h0]
     dsimp only
     obtain ⟨a1,a2⟩:=put_inv (key:=key) (val:=val) 9 ⟨w,0⟩ w.root 1 (Inv.start hr)
     by_cases ht:(putE key val 9 ⟨w,0⟩ w.root 1).1.two=true
     · rw[if_pos ht]
       obtain ⟨b1,b2⟩:=store_inv (n:=⟨false,[(putE key val 9 ⟨w,0⟩ w.root 1).1.key],[],[(putE key val 9 ⟨w,0⟩ w.root 1).1.left,(putE key val 9 ⟨w,0⟩ w.root 1).1.right]⟩) a1
       exact ⟨b1,fun hb=>(b2 hb).2⟩
     · rw[if_neg ht]
       exact ⟨a1,fun hb=>(a2 hb).1⟩
 generalize putR w key val=r at hx ⊢
 obtain ⟨hi,hb⟩:=hx
 rcases hi.bad with e|e|e
 · refine .inr ⟨_,endE_ok e,wright_root hi.right (.inr ?_),hi.base,hi.gen,hi.nlen,?_,hi.page⟩
   · have:=hb e
     rw[hi.nlen];exact this
   · have h1:=hi.right.2.1
     have h2:=hr.2.1
     have h3:=hi.nlen
     show r.2.w.pages.length=_
     omega
 · exact .inl (.inl (by rw[endE_bad (by rw[e];decide),e]))
 · exact .inl (.inr (by rw[endE_bad (by rw[e];decide),e]))
theorem ktr_app {R:TR} {k hi:ByteArray} {ks2:List ByteArray} {cs2:List Int} {P2:List Pr} {B2:List Int} (h2:KTr R k hi ks2 cs2 P2 B2):∀ {ks1:List ByteArray} {cs1:List Int} {lo:ByteArray} {P1:List Pr} {B1:List Int},KTr R lo k ks1 cs1 P1 B1→KTr R lo hi (ks1++k :: ks2) (cs1++cs2) (P1++P2) (B1++B2)
 | [],[],_,_,_,h=>h.elim
 | [],[c],lo,P1,B1,h=>⟨P1,B1,P2,B2,h,h2,rfl,rfl⟩
 | [],_ :: _ :: _,_,_,_,h=>h.elim
 | _ :: _,[],_,_,_,h=>h.elim
 | y :: ks1,c :: cs1,lo,P1,B1,h=>by
   obtain ⟨Q1,C1,Q2,C2,g1,g2,rfl,rfl⟩:=h
   exact ⟨Q1,C1,Q2++P2,C2++B2,g1,ktr_app h2 g2,by simp,by simp⟩
def Tail (R:TR) (hi' hi:ByteArray) (kr:List ByteArray) (cr:List Int) (P:List Pr) (B:List Int):Prop:=
 (kr=[]∧cr=[]∧hi'=hi∧P=[]∧B=[])∨∃kr',kr=hi' :: kr'∧KTr R hi' hi kr' cr P B
theorem Tail.mono {R S:TR} {hi' hi:ByteArray} {kr:List ByteArray} {cr:List Int} {P:List Pr} {B:List Int} (m:∀c lo hi P B',(∀x∈B',x∈B)→R c lo hi P B'→S c lo hi P B') (h:Tail R hi' hi kr cr P B):Tail S hi' hi kr cr P B:=by
 rcases h with h|⟨kr',h1,h2⟩
 · exact .inl h
 · exact .inr ⟨kr',h1,KTr.mono m h2⟩
theorem ktr_two {R:TR} {ks:List ByteArray} {cs:List Int} {lo hi:ByteArray} {P:List Pr} {B:List Int} {l:Nat} (h:KTr R lo hi ks cs P B) (hl:l<ks.length):
   ∃mid hi' c1 c2 P1 Pa Pb P3 B1 Ba Bb B3,cs[l]?=some c1∧cs[l+1]?=some c2∧R c1 mid ks[l] Pa Ba∧R c2 ks[l] hi' Pb Bb∧P=P1++((Pa++Pb)++P3)∧B=B1++((Ba++Bb)++B3) ∧
    KSeg R lo mid (ks.take l) (cs.take l) P1 B1∧Tail R hi' hi (ks.drop (l+1)) (cs.drop (l+2)) P3 B3:=by
 have hlen:=ktr_len h
 obtain ⟨mid,P1,B1,PP,BB,s1,s2,rfl,rfl⟩:=ktr_split h (Nat.le_of_lt hl)
 have h1:l<cs.length:=by omega
 have h2:l+1<cs.length:=by omega
 rw[List.drop_eq_getElem_cons hl,List.drop_eq_getElem_cons h1]at s2
 obtain ⟨Pa,Ba,PQ,BQ,t1,t2,rfl,rfl⟩:=s2
 rw[List.drop_eq_getElem_cons h2]at t2
 cases hk:ks.drop (l+1) with
 | nil=>
   rw[hk]at t2
   have hc:cs.drop (l+1+1)=[]:=by
    have:(ks.drop (l+1)).length=0:=by rw[hk];rfl
    rw[List.length_drop]at this
    exact List.drop_of_length_le (by omega)
   rw[hc]at t2
   exact ⟨mid,hi,_,_,P1,Pa,PQ,[],B1,Ba,BQ,[],List.getElem?_eq_getElem h1,List.getElem?_eq_getElem h2,t1,t2,by simp,by simp,s1,.inl ⟨rfl,hc,rfl,rfl,rfl⟩⟩
 | cons k kr=>
   rw[hk]at t2
   obtain ⟨Pb,Bb,P3,B3,u1,u2,rfl,rfl⟩:=t2
   exact ⟨mid,k,_,_,P1,Pa,Pb,P3,B1,Ba,Bb,B3,List.getElem?_eq_getElem h1,List.getElem?_eq_getElem h2,t1,u1,by simp,by simp,s1,.inr ⟨kr,rfl,u2⟩⟩
theorem ktr_re {S:TR} {lo mid hi' hi:ByteArray} {k1 m kr:List ByteArray} {c1 cm cr:List Int} {P1 Pm P3:List Pr} {B1 Bm B3:List Int} (h1:KSeg S lo mid k1 c1 P1 B1) (h2:KTr S mid hi' m cm Pm Bm) (h3:Tail S hi' hi kr cr P3 B3):
   KTr S lo hi (k1++(m++kr)) (c1++(cm++cr)) (P1++(Pm++P3)) (B1++(Bm++B3)):=by
 refine ktr_join h1 ?_
 rcases h3 with ⟨rfl,rfl,rfl,rfl,rfl⟩|⟨kr',rfl,h4⟩
 · simpa using h2
 · exact ktr_app h4 h2
def CR (H:Hd) (h:Nat) (lo hi:ByteArray) (n:Nd) (P:List Pr) (B:List Int):Prop:=
 (∀k∈n.keys,within k lo hi=true)∧KOK n.keys ∧
 ((n.leaf=true∧h=0∧n.kids=[]∧n.vals.length=n.keys.length∧(∀v∈n.vals,v.size≤200)∧P=n.keys.zip n.vals∧B=[]) ∨
  (n.leaf=false∧n.vals=[]∧KTr (fun c lo hi P B=>Tr H h c false lo hi P B) lo hi n.keys n.kids P B))
theorem Cont.cr {H:Hd} {h:Nat} {lo hi:ByteArray} {n:Nd} {P:List Pr} {B:List Int} (hs:Stands n) (hc:Cont H h lo hi n P B):CR H h lo hi n P B:=by
 obtain ⟨s1,s2,s3⟩:=hs
 obtain ⟨c1,⟨c2,c3,c4,c5,c6⟩|⟨c2,c3⟩⟩:=hc
 · rcases s3 with ⟨_,v1,v2,v3⟩|⟨hx,_⟩
   · exact ⟨c1,s2,.inl ⟨c2,c3,v1,v2,v3,c5,c6⟩⟩
   · rw[c2]at hx;cases hx
 · rcases s3 with ⟨hx,_⟩|⟨_,v1,_⟩
   · rw[c2]at hx;cases hx
   · exact ⟨c1,s2,.inr ⟨c2,v1,c3⟩⟩
theorem CR.cont {H:Hd} {h:Nat} {lo hi:ByteArray} {n:Nd} {P:List Pr} {B:List Int} (hc:CR H h lo hi n P B) (hk:n.keys≠[]):Cont H h lo hi n P B:=by
 obtain ⟨c1,c2,⟨a1,a2,a3,a4,a5,a6,a7⟩|⟨a1,a2,a3⟩⟩:=hc
 · exact ⟨c1,.inl ⟨a1,a2,hk,a6,a7⟩⟩
 · exact ⟨c1,.inr ⟨a1,a3⟩⟩
theorem ktr_mem {R:TR} {Q:Int→Prop} (h:∀c lo hi P B,R c lo hi P B→Q c):∀ {ks:List ByteArray} {cs:List Int} {lo hi:ByteArray} {P:List Pr} {B:List Int},KTr R lo hi ks cs P B→∀c∈cs,Q c
 | [],[],_,_,_,_,hk=>hk.elim
 | [],[c],_,_,_,_,hk=>fun x hx=>by
   obtain rfl:x=c:=by simpa using hx
   exact h _ _ _ _ _ hk
 | [],_ :: _ :: _,_,_,_,_,hk=>hk.elim
 | _ :: _,[],_,_,_,_,hk=>hk.elim
 | k :: ks,c :: cs,lo,hi,P,B,hk=>fun x hx=>by
   obtain ⟨P1,B1,P2,B2,h1,h2,rfl,rfl⟩:=hk
   rcases List.mem_cons.1 hx with rfl|hx
   · exact h _ _ _ _ _ h1
   · exact ktr_mem h h2 x hx
theorem CR.stands {w:Wd} (hr:WRight w) {h:Nat} {lo hi:ByteArray} {n:Nd} {P:List Pr} {B:List Int} (hc:CR (Hold w) h lo hi n P B) (h9:n.keys.length≤9) (h1:n.leaf=true∨1≤n.keys.length):Stands n:=by
 obtain ⟨c1,c2,⟨a1,a2,a3,a4,a5,a6,a7⟩|⟨a1,a2,a3⟩⟩:=hc
 · exact ⟨h9,c2,.inl ⟨a1,a3,a4,a5⟩⟩
 · refine ⟨h9,c2,.inr ⟨a1,a2,?_,ktr_len a3,ktr_mem (fun c lo hi P B ht=>tr_rg (wr_now hr) ht) a3⟩⟩
   rcases h1 with h1|h1
   · rw[a1]at h1;cases h1
   · exact h1
theorem CR.frame {H G:Hd} {h:Nat} {lo hi:ByteArray} {n:Nd} {P:List Pr} {B:List Int} (hc:CR H h lo hi n P B) (f:∀x∈B,∀r n,H x r=some n→G x r=some n):CR G h lo hi n P B:=by
 obtain ⟨c1,c2,a|⟨a1,a2,a3⟩⟩:=hc
 · exact ⟨c1,c2,.inl a⟩
 · exact ⟨c1,c2,.inr ⟨a1,a2,KTr.mono (fun c lo hi P B' hB hx=>Tr.frame (fun x hx'=>f x (hB x hx')) hx) a3⟩⟩
theorem CR.held {H:Hd} {h:Nat} {lo hi:ByteArray} {n:Nd} {P:List Pr} {B:List Int} (hc:CR H h lo hi n P B):∀x∈B,∃r n,H x r=some n:=by
 obtain ⟨c1,c2,⟨_,_,_,_,_,_,rfl⟩|⟨a1,a2,a3⟩⟩:=hc
 · intro x hx;cases hx
 · exact KTr.mem (Q:=fun x=>∃r n,H x r=some n) (fun c lo hi P B hc=>Tr.held hc) a3
def joinN (a:Nd) (k:ByteArray) (b:Nd):Nd:=
 if a.leaf then ⟨true,a.keys++b.keys,a.vals++b.vals,[]⟩ else ⟨false,a.keys++k :: b.keys,[],a.kids++b.kids⟩
def splL (n:Nd) (c:Nat):Nd:=if n.leaf then ⟨true,n.keys.take c,n.vals.take c,[]⟩ else ⟨false,n.keys.take c,[],n.kids.take (c+1)⟩
def splR (n:Nd) (c:Nat):Nd:=if n.leaf then ⟨true,n.keys.drop c,n.vals.drop c,[]⟩ else ⟨false,n.keys.drop (c+1),[],n.kids.drop (c+1)⟩
def splK (n:Nd) (c:Nat):ByteArray:=(n.keys[c]?).getD empS
theorem rise_app {l1 l2:List ByteArray} (h1:Rise l1) (h2:Rise l2) (h:∀x∈l1,∀y∈l2,lt x y=true):Rise (l1++l2):=List.pairwise_append.2 ⟨h1,h2,h⟩
theorem ktr_ne {R:TR} (m:∀c lo hi P B,R c lo hi P B→P≠[]):∀ {ks:List ByteArray} {cs:List Int} {lo hi:ByteArray} {P:List Pr} {B:List Int},KTr R lo hi ks cs P B→P≠[]
 | [],[],_,_,_,_,hk=>hk.elim
 | [],[c],_,_,_,_,hk=>m _ _ _ _ _ hk
 | [],_ :: _ :: _,_,_,_,_,hk=>hk.elim
 | _ :: _,[],_,_,_,_,hk=>hk.elim
 | k :: ks,c :: cs,lo,hi,P,B,hk=>by
   obtain ⟨P1,B1,P2,B2,h1,h2,rfl,rfl⟩:=hk
   have:=m _ _ _ _ _ h1
   simp[this]
theorem tr_ne {H:Hd} (ho:HOK H):∀(h:Nat) (b:Int) (lo hi:ByteArray) (P:List Pr) (B:List Int),Tr H h b false lo hi P B→P≠[]
 | 0,_,_,_,_,_,ht=>ht.elim
 | h+1,b,lo,hi,P,B,ht=>by
   obtain ⟨n,B0,hn,⟨_,⟨hl,_,hk,hP,_⟩|⟨hl,hk⟩⟩,rfl⟩:=tr_get ht
   · rcases (ho _ _ _ hn).1.2.2 with ⟨_,_,hv,_⟩|⟨hx,_⟩
     · rw[hP]
       intro e
       have:=congrArg List.length e
       rw[List.length_zip,hv,Nat.min_self,List.length_nil]at this
       have h0:=List.length_pos_iff.2 hk
       omega
     · rw[hl]at hx;cases hx
   · exact ktr_ne (fun c lo hi P B hc=>tr_ne ho h c lo hi P B hc) hk
theorem ktr_lt {R:TR} (mw:∀c lo hi P B,R c lo hi P B→∀p∈P,within p.1 lo hi=true) (m:∀c lo hi P B,R c lo hi P B→P≠[]) {ks:List ByteArray} {cs:List Int} {lo hi:ByteArray} {P:List Pr} {B:List Int} (hr:Rise ks) (he:∀k∈ks,k≠empS) (h:KTr R lo hi ks cs P B):∀k∈ks,lt lo k=true:=by
 cases ks with
 | nil=>intro k hk;cases hk
 | cons k ks=>
   cases cs with
   | nil=>exact h.elim
   | cons c cs=>
     obtain ⟨P1,B1,P2,B2,h1,h2,rfl,rfl⟩:=h
     obtain ⟨p,hp⟩:=List.exists_mem_of_ne_nil _ (m _ _ _ _ _ h1)
     obtain ⟨g1,g2⟩:=within_iff.1 (mw _ _ _ _ _ h1 p hp)
     have g2:=g2.resolve_left (he k (by simp))
     have hk:lt lo k=true:=by
       rcases nlt_iff.1 g1 with e|e
       · first | exact e▸g2|exact e.symm▸g2
       · exact lt_trans e g2
     intro x hx
     rcases List.mem_cons.1 hx with rfl|hx
     · exact hk
     · exact lt_trans hk ((List.pairwise_cons.1 hr).1 x hx)
theorem join_ok {H:Hd} (ho:HOK H) {h:Nat} {lo k hi:ByteArray} {a b:Nd} {Pa Pb:List Pr} {Ba Bb:List Int} (hk:1≤k.size∧k.size≤32) (hw:within k lo hi=true) (ha:CR H h lo k a Pa Ba) (hb:CR H h k hi b Pb Bb) (hl:a.leaf=b.leaf):
   CR H h lo hi (joinN a k b) (Pa++Pb) (Ba++Bb)∧(joinN a k b).leaf=a.leaf:=by
 have hke:k≠empS:=fun e=>by have:=hk.1;rw[e]at this;exact absurd this (by decide)
 obtain ⟨a1,a2,a3⟩:=ha
 obtain ⟨b1,b2,b3⟩:=hb
 obtain ⟨ar,az⟩:=kok_iff.1 a2
 obtain ⟨br,bz⟩:=kok_iff.1 b2
 obtain ⟨w1,w2⟩:=within_iff.1 hw
 have ak:∀x∈a.keys,lt x k=true:=fun x hx=>by
   rcases (within_iff.1 (a1 x hx)).2 with e|e
   · exact absurd e hke
   · exact e
 have bk:∀x∈b.keys,lt x k=false:=fun x hx=>(within_iff.1 (b1 x hx)).1
 have aw:∀x∈a.keys,within x lo hi=true:=fun x hx=>within_high (a1 x hx) hke hw
 have bw:∀x∈b.keys,within x lo hi=true:=fun x hx=>within_low (b1 x hx) w1
 unfold joinN
 rcases a3 with ⟨x1,x2,x3,x4,x5,x6,x7⟩|⟨x1,x2,x3⟩
 · rw[x1]at hl ⊢
   rw[if_pos rfl]
   rcases b3 with ⟨y1,y2,y3,y4,y5,y6,y7⟩|⟨y1,_⟩
   · refine ⟨⟨fun x hx => ?_,kok_iff.2 ⟨rise_app ar br fun x hx y hy=>lt_nlt (ak x hx) (bk y hy),fun x hx => ?_⟩,.inl ⟨rfl,x2,rfl,by simp;omega,fun v hv => ?_,?_,by rw[x7,y7];rfl⟩⟩,rfl⟩
     · rcases List.mem_append.1 hx with h|h
       · exact aw x h
       · exact bw x h
     · rcases List.mem_append.1 hx with h|h
       · exact az x h
       · exact bz x h
     · rcases List.mem_append.1 hv with h|h
       · exact x5 v h
       · exact y5 v h
     · rw[x6,y6];exact (List.zip_append (by omega)).symm
   · rw[y1]at hl;cases hl
 · rw[x1]at hl ⊢
   rw[if_neg (by simp)]
   rcases b3 with ⟨y1,_⟩|⟨y1,y2,y3⟩
   · rw[y1]at hl;cases hl
   · have hbr:∀x∈b.keys,lt k x=true:=ktr_lt (fun c lo hi P B hc=>hc.within ho) (fun c lo hi P B hc=>tr_ne ho h c lo hi P B hc) br (fun x hx e=>by have:=(bz x hx).1;rw[e]at this;exact absurd this (by decide)) y3
     refine ⟨⟨fun x hx => ?_,kok_iff.2 ⟨rise_app ar (List.pairwise_cons.2 ⟨hbr,br⟩) fun x hx y hy => ?_,fun x hx => ?_⟩,.inr ⟨rfl,rfl,ktr_app y3 x3⟩⟩,rfl⟩
     · rcases List.mem_append.1 hx with h|h
       · exact aw x h
       · rcases List.mem_cons.1 h with rfl|h
         · exact hw
         · exact bw x h
     · rcases List.mem_cons.1 hy with rfl|hy
       · exact ak x hx
       · exact lt_trans (ak x hx) (hbr y hy)
     · rcases List.mem_append.1 hx with h|h
       · exact az x h
       · rcases List.mem_cons.1 h with rfl|h
         · exact hk
         · exact bz x h
theorem spl_ok {H:Hd} {h c:Nat} {lo hi:ByteArray} {n:Nd} {P:List Pr} {B:List Int} (hc:CR H h lo hi n P B) (i4:c<n.keys.length) (h1:1≤c):
   within (splK n c) lo hi=true∧lt lo (splK n c)=true∧1≤(splK n c).size∧(splK n c).size≤32∧(∀k∈n.keys.take c,lt k (splK n c)=true)∧splK n c∈n.keys∧(splL n c).leaf=n.leaf∧(splR n c).leaf=n.leaf∧(splL n c).keys=n.keys.take c∧(splR n c).keys=n.keys.drop (if n.leaf then c else c+1) ∧
     ∃Pl Bl Pr Br,CR H h lo (splK n c) (splL n c) Pl Bl∧CR H h (splK n c) hi (splR n c) Pr Br∧P=Pl++Pr∧B=Bl++Br:=by
 obtain ⟨hw,hkk,hc⟩:=hc
 obtain ⟨hr,hsz⟩:=kok_iff.1 hkk
 have i3:c - 1<n.keys.length:=by omega
 have ek:splK n c=n.keys[c]:=by rw[splK,List.getElem?_eq_getElem i4];rfl
 have hk4:=hsz _ (List.getElem_mem i4)
 have hlt:lt lo n.keys[c]=true:=by
   have h3:=(within_iff.1 (hw _ (List.getElem_mem i3))).1
   exact nlt_lt h3 (List.pairwise_iff_getElem.1 hr (c - 1) c i3 i4 (by omega))
 have hlow:∀k∈n.keys.take c,lt k n.keys[c]=true:=fun k hk=>by
   obtain ⟨j,hj,hjs,rfl⟩:=take_mem hk
   exact List.pairwise_iff_getElem.1 hr j c hj i4 hjs
 have htake:∀k∈n.keys.take c,within k lo n.keys[c]=true:=fun k hk=>by
   obtain ⟨j,hj,hjs,rfl⟩:=take_mem hk
   exact within_iff.2 ⟨(within_iff.1 (hw _ (List.getElem_mem hj))).1,.inr (List.pairwise_iff_getElem.1 hr j c hj i4 hjs)⟩
 have hdrop:∀i,c≤i→∀k∈n.keys.drop i,within k n.keys[c] hi=true:=fun i hi4 k hk=>by
   obtain ⟨j,hj,hjs,rfl⟩:=drop_mem hk
   refine within_iff.2 ⟨?_,(within_iff.1 (hw _ (List.getElem_mem hj))).2⟩
   by_cases e:j=c
   · subst e;exact lt_irr _
   · exact lt_asym (List.pairwise_iff_getElem.1 hr c j i4 hj (by omega))
 have kokT:∀i,KOK (n.keys.take i):=fun i=>kok_iff.2 ⟨rise_take i hr,fun k hk=>hsz k (List.mem_of_mem_take hk)⟩
 have kokD:∀i,KOK (n.keys.drop i):=fun i=>kok_iff.2 ⟨rise_drop i hr,fun k hk=>hsz k (List.mem_of_mem_drop hk)⟩
 rw[ek]
 refine ⟨hw _ (List.getElem_mem i4),hlt,hk4.1,hk4.2,hlow,List.getElem_mem i4,?_⟩
 rcases hc with ⟨x1,x2,x3,x4,x5,x6,x7⟩|⟨x1,x2,x3⟩
 · have eL:splL n c=⟨true,n.keys.take c,n.vals.take c,[]⟩:=by rw[splL,if_pos x1]
   have eR:splR n c=⟨true,n.keys.drop c,n.vals.drop c,[]⟩:=by rw[splR,if_pos x1]
   rw[eL,eR,x1,if_pos rfl]
   exact ⟨rfl,rfl,rfl,rfl,_,[],_,[],⟨htake,kokT c,.inl ⟨rfl,x2,rfl,by simp;omega,fun v hv=>x5 v (List.mem_of_mem_take hv),rfl,rfl⟩⟩,⟨hdrop c (Nat.le_refl _),kokD c,.inl ⟨rfl,x2,rfl,by simp;omega,fun v hv=>x5 v (List.mem_of_mem_drop hv),rfl,rfl⟩⟩,by rw[x6];exact zip_split c x4,by simpa using x7⟩
 · have eL:splL n c=⟨false,n.keys.take c,[],n.kids.take (c+1)⟩:=by rw[splL,if_neg (by rw[x1];simp)]
   have eR:splR n c=⟨false,n.keys.drop (c+1),[],n.kids.drop (c+1)⟩:=by rw[splR,if_neg (by rw[x1];simp)]
   rw[eL,eR,x1,if_neg (by simp)]
   obtain ⟨mid,P1,B1,P2,B2,s1,s2,rfl,rfl⟩:=ktr_split (i:=c+1) x3 (by omega)
   have e5:n.keys.take (c+1)=n.keys.take c++[n.keys[c]]:=take_snoc i4
   rw[e5]at s1
   obtain ⟨rfl,s3⟩:=kseg_ktr s1
   exact ⟨rfl,rfl,rfl,rfl,P1,B1,P2,B2,⟨htake,kokT c,.inr ⟨rfl,rfl,s3⟩⟩,⟨hdrop (c+1) (by omega),kokD (c+1),.inr ⟨rfl,rfl,s2⟩⟩,rfl,rfl⟩
end Go.Proofs.YtclgengkohbjjaaGreatDoor.M
