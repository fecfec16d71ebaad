import Derived.Test.YtclgengkohbjjaaGreatDoorR4Nget
import Derived.Test.YtclgengkohbjjaaGreatDoorMirO
import Derived.Test.YtclgengkohbjjaaGreatDoorR4L
namespace Go.Proofs.YtclgengkohbjjaaGreatDoor.M
set_option linter.unusedVariables false
set_option linter.unusedSimpArgs false
open Go Go.Mir
set_option linter.unusedVariables false
structure Wd where
 base:List Bool
 now:List Bool
 pages:List ByteArray
 root:Int
 gen:Int
def blD (l:List Bool):List Mir.D:=l.map .bool
theorem blD_len (l:List Bool):(blD l).length=l.length:=by simp[blD]
theorem blD_at {l:List Bool} {i:Nat} (h:i<l.length):(blD l)[i]?=some (.bool l[i]):=by simp[blD,h]
def wdV (w:Wd):AV := .agg [.o (.sl 1 (blD w.base)),.o (.sl 1 (blD w.now)),.o (.sl 1 (sl_ w.pages)),.n (.int .i64 w.root),.n (.int .i64 w.gen)]
structure WFits (w:Wd):Prop where
 b:Small w.base.length
 n:Small w.now.length
 p:Small w.pages.length
 s:∀x∈w.pages,Small x.size
def tr (l:List Bool) (i:Nat):Bool:=(l[i]?).getD false
theorem tr_at {l:List Bool} {i:Nat} (h:i<l.length):tr l i=l[i]:=by simp[tr,h]
theorem tr_out {l:List Bool} {i:Nat} (h:l.length≤i):tr l i=false:=by simp[tr,h]
def ARight (base now:List Bool):Prop:=base.length=now.length∧24≤now.length∧now.length≤2048∧∀j,j<10→tr base j=true∧tr now j=true
noncomputable instance (a b:List Bool):Decidable (ARight a b):=Classical.propDecidable _
def alV (a b:List Bool):AV := .agg [.o (.sl 1 (blD a)),.o (.sl 1 (blD b))]
theorem no_ar {a b:List Bool} (h:¬ARight a b):AV.n (D.bool false) = .n (.bool (decide (ARight a b))):=by rw[decide_eq_false h]
theorem p54 (a b:List Bool) (ha:Small a.length) (hb:Small b.length):Runs Fs2 54 [alV a b] [] (.n (.bool (decide (ARight a b)))) []:=by
 refine vc_eq fs54 rfl ?_
 rw[alV,vc54,(V54e _ _ _).down,blD_len,blD_len]
 refine sel_intro (fun h=>no_ar (by have:=of_decide_eq_true (show decide ((a.length:Int)≠b.length)=true by simpa using h);unfold ARight;omega)) (fun h => ?_)
 have hl:(a.length:Int)=b.length:=by simpa using h
 refine sel_dec (fun h=>no_ar (by unfold ARight;omega)) (fun h1=>sel_dec (fun h=>no_ar (by unfold ARight;omega)) (fun h2 => ?_))
 refine ⟨fun i=>0≤i∧i≤10∧∀j:Nat,(j:Int)<i→tr a j=true∧tr b j=true,fun i=>(10 - i).toNat,⟨rfl,by omega,by omega,fun j h=>by omega⟩,?_⟩
 rintro i ⟨h0,h10,hok⟩ _
 refine sel_dec (fun hlt => ?_) (fun hge => ?_)
 · have ia:i.toNat<a.length:=by omega
   have ib:i.toNat<b.length:=by omega
   have ea:=tr_at ia
   have eb:=tr_at ib
   refine ⟨rfl,h0,_,blD_at ia,_,rfl,sel_intro (fun hx=>no_ar fun hr => ?_) (fun hx=>⟨rfl,h0,_,blD_at ib,_,rfl,sel_intro (fun hy=>no_ar fun hr => ?_) (fun hy => ?_)⟩)⟩
   · have:=(hr.2.2.2 i.toNat (by omega)).1
     rw[ea]at this
     rw[this]at hx;cases hx
   · have:=(hr.2.2.2 i.toNat (by omega)).2
     rw[eb]at this
     rw[this]at hy;cases hy
   · repeat (refine And.intro rfl ?_)
     rw[i64_in _ (by omega)]
     refine ⟨⟨by omega,by omega,fun j hj => ?_⟩,by first|omega|(dsimp only;omega)⟩
     by_cases e:(j:Int)<i
     · exact hok j e
     · obtain rfl:j=i.toNat:=by omega
       rw[ea,eb]
       exact ⟨by simpa using hx,by simpa using hy⟩
 · rw[decide_eq_true ⟨by omega,by omega,by omega,fun j hj=>hok j (by omega)⟩]
def bls (L:List (List Bool)):List Mir.D:=L.map fun a => .sl 1 (blD a)
theorem bls_len (L:List (List Bool)):(bls L).length=L.length:=by simp[bls]
theorem bls_at {L:List (List Bool)} {i:Nat} (h:i<L.length):(bls L)[i]?=some (.sl 1 (blD L[i])):=by simp[bls,h]
theorem p136 (a:List Bool) (i:Int) (h0:0≤i):Runs Fs2 136 [.o (.sl 1 (blD a)),.n (.int .i64 i)] [] (.n (.bool (tr a i.toNat))) []:=by
 refine vc_eq fs136 rfl ?_
 rw[vc136,(V136e _ _ _).down,blD_len]
 refine sel_dec (fun h => ?_) (fun h => ?_)
 · have ia:i.toNat<a.length:=by omega
   exact ⟨rfl,h0,_,blD_at ia,_,rfl,by rw[tr_at ia]⟩
 · rw[tr_out (by omega)]
def h104 (i:Int):Heap:=[(9700401,.box [.n (.int .i64 i)])]
theorem p135 (a:List Bool) (i:Int) (h0:0≤i):Runs Fs2 135 [.o (.sl 1 (blD a)),.ptr 9700401 0] (h104 i) (.n (.bool (!(tr a i.toNat)))) (h104 i):=by
 refine vc_look fs135 rfl (by kernel_rfl) ?_
 rw[h104,vc135h,(V135he _ _ _).down]
 exact ⟨_,p136 a i h0,rfl,rfl⟩
theorem p157 (L:List (List Bool)) (hl:Small L.length) (i:Int) (h0:0≤i):∃r:Int,decide (r≥0)=L.any (fun a => !(tr a i.toNat))∧Runs Fs2 157 [.o (.sl 1 (bls L)),.fn 135 [.ptr 9700401 0]] (h104 i) (.n (.int .i64 r)) (h104 i):=by
 have key:∃r H',Runs Fs2 157 [.o (.sl 1 (bls L)),.fn 135 [.ptr 9700401 0]] (h104 i) r H'∧∃k:Int,r = .n (.int .i64 k)∧H'=h104 i∧decide (k≥0)=L.any (fun a => !(tr a i.toNat)):=by
  refine vc_objs (R:=fun r H'=>∃k:Int,r = .n (.int .i64 k)∧H'=h104 i∧decide (k≥0)=L.any (fun a => !(tr a i.toNat))) fs157 rfl (by kernel_rfl) ?_
  rw[h104,vc157h,(V157he _ _ _).down,bls_len]
  refine ⟨fun k=>0≤k∧k≤L.length∧∀(j:Nat) (h:j<L.length),(j:Int)<k→(!(tr L[j] i.toNat))=false,fun k=>(L.length - k).toNat,⟨rfl,by omega,by omega,fun j _ hj=>by omega⟩,?_⟩
  rintro k ⟨k0,k1,hok⟩ _
  refine sel_dec (fun h => ?_) (fun h=>⟨-1,rfl,rfl,?_⟩)
  · have hi:k.toNat<L.length:=by omega
    refine ⟨rfl,k0,_,bls_at hi,_,rfl,_,p135 _ i h0,sel_intro (fun hb=>⟨k,rfl,rfl,?_⟩) (fun hb => ?_)⟩
    · rw[decide_eq_true k0];exact (any_at (p:=fun a:List Bool => !(tr a i.toNat)) hi hb).symm
    · repeat (refine And.intro rfl ?_)
      rw[i64_in _ (by omega)]
      exact ⟨⟨by omega,by omega,step_up (p:=fun a:List Bool => !(tr a i.toNat)) k0 hi hb hok⟩,by first|omega|(dsimp only;omega)⟩
  · exact (any_up (p:=fun a:List Bool => !(tr a i.toNat)) k0 h hok).symm
 obtain ⟨r,H',hr,k,rfl,rfl,hk⟩:=key
 exact ⟨k,hk,hr⟩
theorem p134 (L:List (List Bool)) (hl:Small L.length) (i:Int) (h0:0≤i):Runs Fs2 134 [.o (.sl 1 (bls L)),.fn 135 [.ptr 9700401 0]] (h104 i) (.n (.bool (L.any fun a => !(tr a i.toNat)))) (h104 i):=by
 refine vc_look fs134 rfl (by kernel_rfl) ?_
 rw[h104,vc134h,(V134he _ _ _).down]
 obtain ⟨r,hr,h⟩:=p157 L hl i h0
 exact ⟨r,h,by rw[hr],rfl⟩
def longest (L:List (List Bool)):Nat:=L.foldl (fun n a=>max n a.length) 0
theorem longest_snoc (L:List (List Bool)) (a:List Bool):longest (L++[a])=max (longest L) a.length:=by simp[longest]
theorem mmI_max (a b:Nat):mmI true (a:Int) (b:Int)=(max a b:Nat):=by
 unfold mmI;simp only[if_true];split <;> omega
theorem p133 (L:List (List Bool)) (hl:Small L.length):Runs Fs2 133 [.o (.sl 1 (bls L))] [] (.n (.int .i64 (longest L))) []:=by
 refine vc_eq fs133 rfl ?_
 rw[vc133,(V133e _ _).down,bls_len]
 refine ⟨fun n k=>0≤k∧k≤L.length∧n=longest (L.take k.toNat),fun _ k=>(L.length - k).toNat,⟨rfl,by omega,by omega,rfl⟩,?_⟩
 rintro n k ⟨k0,k1,rfl⟩ _
 refine sel_dec (fun h => ?_) (fun h => ?_)
 · have hi:k.toNat<L.length:=by omega
   refine ⟨rfl,k0,_,bls_at hi,_,rfl,?_⟩
   repeat (refine And.intro rfl ?_)
   rw[i64_in _ (by omega),blD_len,mmI_max]
   refine ⟨⟨by omega,by omega,?_⟩,by first|omega|(dsimp only;omega)⟩
   rw[show (k+1).toNat=k.toNat+1 by omega,take_snoc hi,longest_snoc]
 · rw[List.take_of_length_le (by omega)]
def countUp (L:List (List Bool)):Nat→Nat
 | 0=>0
 | i+1=>countUp L i+if L.any (fun a => !(tr a i)) then 0 else 1
theorem countUp_le (L:List (List Bool)):∀i,countUp L i≤i
 | 0=>Nat.le_refl _
 | i+1=>by
   have:=countUp_le L i
   unfold countUp
   split <;> omega
theorem countUp_all (L:List (List Bool)):∀i,countUp L i=i ↔ ∀j,j<i→L.any (fun a => !(tr a j))=false
 | 0=>⟨fun _ j h=>by omega,fun _=>rfl⟩
 | i+1=>by
   have h1:=countUp_le L i
   have h2:=countUp_all L i
   unfold countUp
   constructor
   · intro h j hj
     cases hq:L.any (fun a => !(tr a i)) with
     | true=>rw[hq]at h;simp at h;omega
     | false=>
       rw[hq]at h
       simp at h
       by_cases e:j=i
       · subst e;exact hq
       · exact (h2.1 h) j (by omega)
   · intro h
     rw[h i (by omega),h2.2 fun j hj=>h j (by omega)]
     simp
theorem p97 (L:List (List Bool)) (hl:Small L.length) (hL:longest L≤2048):Runs Fs2 97 [.o (.sl 1 (bls L))] [] (.n (.int .i64 (countUp L (longest L)))) []:=by
 refine vc_eq fs97 rfl ?_
 rw[vc97,V97]
 refine ⟨_,p133 L hl,fun n i=>0≤i∧i≤longest L∧n=countUp L i.toNat,fun _ i=>(longest L - i).toNat,⟨rfl,by omega,by omega,rfl⟩,?_⟩
 rintro n i ⟨h0,h1,rfl⟩ _
 have hc:=countUp_le L i.toNat
 refine sel_dec (fun h => ?_) (fun h=>by rw[show i.toNat=longest L by omega])
 have e1:(i+1).toNat=i.toNat+1:=by omega
 refine ⟨_,p134 L hl i h0,sel_intro (fun hb => ?_) (fun hb => ?_)⟩
 · repeat (refine And.intro rfl ?_)
   rw[i64_in (_+1) (by omega),i64_in (i+1) (by omega)]
   refine ⟨⟨by omega,by omega,?_⟩,by first|omega|(dsimp only;omega)⟩
   rw[e1,countUp,if_neg (by simpa using hb)];rfl
 · repeat (refine And.intro rfl ?_)
   rw[i64_in (i+1) (by omega)]
   refine ⟨⟨by omega,by omega,?_⟩,by first|omega|(dsimp only;omega)⟩
   rw[e1,countUp,if_pos (by simpa using hb)];rfl
theorem blD_take (l:List Bool) (n:Nat):List.drop 0 (List.take n (blD l))=blD (l.take n):=by simp[blD,List.map_take]
theorem tr_take {l:List Bool} {n i:Nat} (h:i<n):tr (l.take n) i=tr l i:=by unfold tr;rw[List.getElem?_take_of_lt h]
theorem p67 (a b:List Bool) (ha:Small a.length) (hb:Small b.length):Runs Fs2 67 [alV a b] [] (.n (.bool (decide (ARight a b)))) []:=by
 refine vc_eq fs67 rfl ?_
 rw[alV,vc67,(V67e _ _ _).down,blD_len,blD_len]
 refine sel_intro (fun h=>no_ar (by have:=of_decide_eq_true (show decide ((a.length:Int)≠b.length)=true by simpa using h);unfold ARight;omega)) (fun h => ?_)
 have hl:(a.length:Int)=b.length:=by simpa using h
 refine sel_dec (fun h=>no_ar (by unfold ARight;omega)) (fun h1=>sel_dec (fun h=>no_ar (by unfold ARight;omega)) (fun h2 => ?_))
 rw[show Int.toNat 10=10 from rfl,blD_take,blD_take]
 have g:=p97 [a.take 10,b.take 10] (by simp) (by simp[longest];omega)
 have hlg:longest [a.take 10,b.take 10]=10:=by simp[longest];omega
 rw[hlg]at g
 refine ⟨rfl,by decide,by omega,rfl,by decide,by omega,rfl,_,g,?_⟩
 congr 2
 refine Bool.eq_iff_iff.2 ⟨fun h => ?_,fun h => ?_⟩
 · have hc:countUp [a.take 10,b.take 10] 10=10:=by have:=nat_eq h;omega
   have:=(countUp_all _ 10).1 hc
   refine decide_eq_true ⟨by omega,by omega,by omega,fun j hj => ?_⟩
   have h3:=this j hj
   simp only[List.any_cons,List.any_nil,Bool.or_false,Bool.or_eq_false_iff,Bool.not_eq_false',tr_take hj]at h3
   exact h3
 · have hr:=of_decide_eq_true h
   have:countUp [a.take 10,b.take 10] 10=10:=(countUp_all _ 10).2 fun j hj=>by
    obtain ⟨h3,h4⟩:=hr.2.2.2 j hj
    simp only[List.any_cons,List.any_nil,Bool.or_false,tr_take hj,h3,h4]
    rfl
   rw[this];rfl
def WRight (w:Wd):Prop:=ARight w.base w.now∧w.pages.length=w.now.length∧1≤w.gen∧w.gen≤1099511627776∧(w.root=0∨(10≤w.root∧w.root<w.now.length))∧∀s∈w.pages,s.size≤4096
noncomputable instance (w:Wd):Decidable (WRight w):=Classical.propDecidable _
theorem no_wr {w:Wd} (h:¬WRight w):AV.n (D.bool false) = .n (.bool (decide (WRight w))):=by rw[decide_eq_false h]
theorem p48 (w:Wd) (hf:WFits w):Runs Fs2 48 [wdV w] [] (.n (.bool (decide (WRight w)))) []:=by
 refine vc_eq fs48 rfl ?_
 rw[wdV,vc48,(V48e _ _ _ _ _ _).down,blD_len,sl_len]
 refine ⟨_,p67 w.base w.now hf.b hf.n,?_⟩
 by_cases ha:ARight w.base w.now
 · rw[decide_eq_true ha]
   refine sel_intro (fun h=>by cases h) (fun _ => ?_)
   refine sel_intro (fun h=>no_wr fun hr => ?_) (fun hp => ?_)
   · have h1:=hr.2.1
     have:(w.pages.length:Int)≠w.now.length:=by simpa using h
     omega
   have hp:(w.pages.length:Int)=w.now.length:=by simpa using hp
   refine sel_dec (fun h=>no_wr (by unfold WRight;omega)) (fun h1=>sel_dec (fun h=>no_wr (by unfold WRight;omega)) (fun h2 => ?_))
   have last:(w.root=0∨(10≤w.root∧w.root<w.now.length))→∃x:Bool,Runs Fs2 68 [.o (.sl 1 (sl_ w.pages)),.fn 69 []] [] (.n (.bool x)) []∧AV.n (D.bool (!x)) = .n (.bool (decide (WRight w))):=fun hr=>by
     refine ⟨_,p68p w.pages hf.p,?_⟩
     congr 2
     refine Bool.eq_iff_iff.2 ⟨fun h => ?_,fun h => ?_⟩
     · refine decide_eq_true ⟨ha,by omega,by omega,by omega,hr,fun s hs => ?_⟩
       have h3:(w.pages.any fun s=>decide ((s.size:Int) > 4096))=false:=by simpa using h
       have:=List.any_eq_false.1 h3 s hs
       have:¬(s.size:Int) > 4096:=by simpa using this
       omega
     · have h3:=(of_decide_eq_true h).2.2.2.2.2
       have:(w.pages.any fun s=>decide ((s.size:Int) > 4096))=false:=List.any_eq_false.2 fun s hs=>by
        have:=h3 s hs
        simp;omega
       rw[this];rfl
   refine sel_intro (fun h => ?_) (fun h=>last (.inl (by simpa using h)))
   have hr0:w.root≠0:=by simpa using h
   refine sel_dec (fun h=>no_wr (by unfold WRight;omega)) (fun h3=>sel_dec (fun h=>no_wr (by unfold WRight;omega)) (fun h4=>last (.inr (by omega))))
 · rw[decide_eq_false ha]
   exact sel_intro (fun _=>no_wr fun hr=>ha hr.1) (fun h=>by cases h)
theorem p18 (w:Wd) (hf:WFits w):Runs Fs2 18 [wdV w] [] (.n (.bool (decide (WRight w)))) []:=by
 refine vc_eq fs18 rfl ?_
 rw[wdV,vc18,(V18e _ _ _ _ _ _).down,blD_len,sl_len]
 refine ⟨_,p54 w.base w.now hf.b hf.n,?_⟩
 by_cases ha:ARight w.base w.now
 · rw[decide_eq_true ha]
   refine sel_intro (fun h=>by cases h) (fun _ => ?_)
   refine sel_intro (fun h=>no_wr fun hr => ?_) (fun hp => ?_)
   · have h1:=hr.2.1
     have:(w.pages.length:Int)≠w.now.length:=by simpa using h
     omega
   have hp:(w.pages.length:Int)=w.now.length:=by simpa using hp
   refine sel_dec (fun h=>no_wr (by unfold WRight;omega)) (fun h1=>sel_dec (fun h=>no_wr (by unfold WRight;omega)) (fun h2 => ?_))
   refine ⟨fun i=>0≤i∧i≤w.pages.length∧∀(j:Nat) (h:j<w.pages.length),(j:Int)<i→w.pages[j].size≤4096,fun i=>(w.pages.length - i).toNat,⟨rfl,by omega,by omega,fun j _ h=>by omega⟩,?_⟩
   rintro i ⟨h0,h3,hs⟩ _
   have hfp:=hf.p
   refine sel_dec (fun hlt => ?_) (fun hge => ?_)
   · have hi:i.toNat<w.pages.length:=by omega
     refine ⟨rfl,h0,_,sl_at hi,_,rfl,sel_dec (fun h=>no_wr fun hr => ?_) (fun h => ?_)⟩
     · have:=hr.2.2.2.2.2 _ (List.getElem_mem hi);omega
     · repeat (refine And.intro rfl ?_)
       rw[i64_in _ (by omega)]
       refine ⟨⟨by omega,by omega,fun j hj hji => ?_⟩,by first|omega|(dsimp only;omega)⟩
       by_cases e:(j:Int)<i
       · exact hs j hj e
       · obtain rfl:j=i.toNat:=by omega
         omega
   · have hs':∀s∈w.pages,s.size≤4096:=fun s hm=>by
       obtain ⟨j,hj,rfl⟩:=List.getElem_of_mem hm
       exact hs j hj (by omega)
     refine sel_intro (fun h => ?_) (fun h => ?_)
     · rw[decide_eq_true (p:=WRight w) ⟨ha,by omega,by omega,by omega,.inl (by simpa using h),hs'⟩]
     · have hr0:w.root≠0:=by simpa using h
       refine sel_dec (fun h3 => ?_) (fun h3=>no_wr (by unfold WRight;omega))
       congr 2
       simp only[decide_eq_decide]
       exact ⟨fun h=>⟨ha,by omega,by omega,by omega,.inr ⟨by omega,h⟩,hs'⟩,fun h=>by
         rcases h.2.2.2.2.1 with h|h
         · exact absurd h hr0
         · exact h.2⟩
 · rw[decide_eq_false ha]
   exact sel_intro (fun _=>no_wr fun hr=>ha hr.1) (fun h=>by cases h)
theorem nFin_cases (s:ByteArray) (n:Nd) (a:Int):nFin s n a=(nd0,4)∨(nFin s n a=(n,0)∧NdOK n true):=by
 unfold nFin
 by_cases hc:a≠s.size∨¬NdOK n true
 · rw[if_pos hc];exact .inl rfl
 · rw[if_neg hc];exact .inr ⟨rfl,Classical.byContradiction fun h2=>hc (.inr h2)⟩
theorem lf_err {s:ByteArray}:∀(m:Nat) (a:Int) (ks vs:List ByteArray) (e:Int),lfUp s m a ks vs = .inl e→e≠0
 | 0,a,ks,vs,e,h=>by simp[lfUp]at h
 | m+1,a,ks,vs,e,h=>by
   unfold lfUp at h
   split at h
   · rename_i h1;simp only[Sum.inl.injEq]at h;rw[←h];exact h1
   split at h
   · rename_i h1;simp only[Sum.inl.injEq]at h;rw[←h];exact h1
   · exact lf_err m _ _ _ e h
theorem in_err {s:ByteArray}:∀(m:Nat) (a:Int) (bs:List Int) (ks:List ByteArray) (e:Int),inUp s m a bs ks = .inl e→e≠0
 | 0,a,bs,ks,e,h=>by simp[inUp]at h
 | m+1,a,bs,ks,e,h=>by
   unfold inUp at h
   split at h
   · rename_i h1;simp only[Sum.inl.injEq]at h;rw[←h];exact h1
   split at h
   · rename_i h1;simp only[Sum.inl.injEq]at h;rw[←h];exact h1
   · exact in_err m _ _ _ e h
theorem nget_cases (k:Int) (s:ByteArray):((NGet k s).2=0∧NdOK (NGet k s).1 true∧(k=1∨k=2)∧(NGet k s).1.leaf=(k==1))∨((NGet k s).2≠0∧(NGet k s).1=nd0):=by
 unfold NGet
 by_cases h1:k≠1∧k≠2
 · rw[if_pos h1];exact .inr ⟨by simp,rfl⟩
 rw[if_neg h1]
 by_cases h2:(gT s 0 1).2.2≠0
 · rw[if_pos h2];exact .inr ⟨h2,rfl⟩
 rw[if_neg h2]
 have hk:k=1∨k=2:=by omega
 cases hl:(k==1) with
 | true=>
   rw[nc_true]
   cases hu:lfUp s (gT s 0 1).1.toNat (gT s 0 1).2.1 [] [] with
   | inl e=>exact .inr ⟨lf_err _ _ _ _ _ hu,rfl⟩
   | inr x=>
     obtain ⟨ks,vs,a⟩:=x
     dsimp only
     rcases nFin_cases s ⟨true,ks,vs,[]⟩ a with h|⟨h,hok⟩
     · rw[h];exact .inr ⟨by simp,rfl⟩
     · rw[h];exact .inl ⟨rfl,hok,hk,rfl⟩
 | false=>
   rw[nc_false]
   cases hu:inUp s (gT s 0 1).1.toNat (gT s 0 1).2.1 [] [] with
   | inl e=>exact .inr ⟨in_err _ _ _ _ _ hu,rfl⟩
   | inr x=>
     obtain ⟨bs,ks,a⟩:=x
     dsimp only
     split
     · rename_i h;exact .inr ⟨h,rfl⟩
     · rcases nFin_cases s ⟨false,ks,[],bs++[(gT s a 2).1]⟩ (gT s a 2).2.1 with h|⟨h,hok⟩
       · rw[h];exact .inr ⟨by simp,rfl⟩
       · rw[h];exact .inl ⟨rfl,hok,hk,rfl⟩
theorem nget_ok {k:Int} {s:ByteArray} (h:(NGet k s).2=0):NdOK (NGet k s).1 true∧(NGet k s).1.leaf=(k==1):=by
 rcases nget_cases k s with ⟨_,h1,_,h2⟩|⟨h1,_⟩
 · exact ⟨h1,h2⟩
 · exact absurd h h1
theorem ndOK_fits {n:Nd} {root:Bool} (h:NdOK n root):NdFits n∧n.keys.length≤8∧n.vals.length≤8∧n.kids.length≤9:=by
 obtain ⟨hs,h8,_⟩:=h
 rcases hs.2.2 with ⟨_,h1,h2,_⟩|⟨_,h1,_,h2,_⟩
 · rw[NdFits,h1];simp;omega
 · rw[NdFits,h1];simp;omega
noncomputable def hPage (p:AV) (gen:Int) (root:Bool):Option Nd:=
 match p with
 | .tup [.agg [.n (.int _ k),.n (.int _ g),.n (.str b)],.n (.int _ e)]=>
   if e≠0 then none else if g > gen then none else if (NGet k b).2≠0 then none else if NdOK (NGet k b).1 root then some (NGet k b).1 else none
 | _=>none
theorem hPage_err {e:Int} (he:e≠0) (gen:Int) (root:Bool):hPage (pErr e) gen root=none:=by
 simp only[hPage,pErr,pg,if_pos he]
theorem hPage_ok (k g:Int) (b:ByteArray) (gen:Int) (root:Bool):hPage (.tup [pg k g b,.n (.int .i64 0)]) gen root=if g > gen then none else if (NGet k b).2≠0 then none else if NdOK (NGet k b).1 root then some (NGet k b).1 else none:=by
 simp only[hPage,pg];rw[if_neg (by simp)]
def pgAt (w:Wd) (block:Int):ByteArray:=(w.pages[block.toNat]?).getD empS
noncomputable def Hold (w:Wd) (block:Int) (root:Bool):Option Nd:=
 if block<10∨block≥w.now.length∨block≥w.pages.length∨tr w.now block.toNat=false then none else hPage (GetPR (pgAt w block)) w.gen root
def hVN:Option Nd→AV
 | some n => .tup [ndN n,.n (.bool true)]
 | none => .tup [ndN nd0,.n (.bool false)]
def hV:Option Nd→AV
 | some n => .tup [ndV n,.n (.bool true)]
 | none => .tup [ndV nd0,.n (.bool false)]
theorem hold_no {w:Wd} {block:Int} {root:Bool} (h:block<10∨block≥w.now.length∨block≥w.pages.length∨tr w.now block.toNat=false):Hold w block root=none:=by rw[Hold,if_pos h]
theorem hold_go {w:Wd} {block:Int} {root:Bool} (h:¬(block<10∨block≥w.now.length∨block≥w.pages.length∨tr w.now block.toNat=false)):Hold w block root=hPage (GetPR (pgAt w block)) w.gen root:=by rw[Hold,if_neg h]
theorem kind_out {k:Int} (h:k∉[(1:Int),2]) (b:ByteArray):(NGet k b).2≠0:=by
 rw[NGet,if_pos (by simp at h;omega)];simp
theorem pgAt_get {w:Wd} {block:Int} (h:block.toNat<w.pages.length):w.pages[block.toNat]=pgAt w block:=by
 unfold pgAt;rw[List.getElem?_eq_getElem h];rfl
def h68b (w:Wd):Heap:=[(9900302,.box [.o (.sl 1 (blD w.base)),.o (.sl 1 (blD w.now)),.o (.sl 1 (sl_ w.pages)),.n (.int .i64 w.root),.n (.int .i64 w.gen),.n (.str (ByteArray.mk (List.toArray []))),.n (.int .i64 0),.n (.int .i64 0),.n .nil,.n (.str (ByteArray.mk (List.toArray []))),.n (.bool false),.n (.bool false)])]
theorem p62b (w:Wd) (hf:WFits w) (hp:w.pages.length=w.now.length) (block:Int) (root:Bool):Runs Fs2 62 [.ptr 9900302 0,.n (.int .i64 block),.n (.bool root)] (h68b w) (hVN (Hold w block root)) (h68b w):=by
 refine vc_look fs62 rfl (by kernel_rfl) ?_
 rw[h68b,vc62b,(V62be _ _ _ _ _ _ _ _).down,blD_len]
 refine sel_dec (fun h=>by rw[hold_no (.inl h)];exact ⟨rfl,rfl⟩) (fun h1=>sel_dec (fun h=>by rw[hold_no (.inr (.inl h))];exact ⟨rfl,rfl⟩) (fun h2 => ?_))
 have hi:block.toNat<w.now.length:=by omega
 have hj:block.toNat<w.pages.length:=by omega
 refine ⟨rfl,by omega,_,blD_at hi,_,rfl,?_⟩
 rw[←tr_at hi]
 refine sel_intro (fun h=>by rw[hold_no (.inr (.inr (.inr (by simpa using h))))];exact ⟨rfl,rfl⟩) (fun h4 => ?_)
 have h4:tr w.now block.toNat=true:=by simpa using h4
 rw[hold_go (by rw[h4];simp;omega)]
 refine ⟨rfl,by omega,_,sl_at hj,_,rfl,?_⟩
 rw[pgAt_get hj]
 have hsz:Small (pgAt w block).size:=by rw[←pgAt_get hj];exact hf.s _ (List.getElem_mem hj)
 refine ⟨rfl,?_⟩
 rcases getP_cases (pgAt w block) with ⟨e,he,h⟩|⟨k,g,b,h,hok,_⟩
 · have g1:=(p90_err _ hsz [1,2] e he h).up up2
   rw[h,hPage_err he]
   exact ⟨_,_,_,_,g1,sel_intro (fun _=>⟨rfl,rfl⟩) (fun h=>absurd (by simpa using h) he)⟩
 · have h53:=(p90_ok _ hsz [1,2] (by simp) k g b h).up up2
   rw[h,hPage_ok]
   by_cases hk:k∈[(1:Int),2]
   · rw[if_pos hk]at h53
     refine ⟨_,_,_,_,h53,sel_intro (fun h=>by cases h) (fun _=>sel_dec (fun hg=>by rw[if_pos hg];exact ⟨rfl,rfl⟩) (fun hg => ?_))⟩
     rw[if_neg hg]
     obtain ⟨_,_,_,_,hb⟩:=hok
     have g2:=p91 k b (by omega)
     refine ⟨_,_,_,_,_,g2,sel_intro (fun he=>by rw[if_pos (by simpa using he)];exact ⟨rfl,rfl⟩) (fun he => ?_)⟩
     have he:(NGet k b).2=0:=by simpa using he
     rw[if_neg (by rw[he];simp)]
     have hok2:=(nget_ok he).1
     refine ⟨_,p92 (NGet k b).1 root (ndOK_fits hok2).1,?_⟩
     by_cases hn:NdOK (NGet k b).1 root
     · rw[decide_eq_true hn,if_pos hn];exact ⟨rfl,rfl⟩
     · rw[decide_eq_false hn,if_neg hn];exact ⟨rfl,rfl⟩
   · rw[if_neg hk]at h53
     have hno:=kind_out hk b
     refine ⟨_,_,_,_,h53,sel_intro (fun _ => ?_) (fun h=>by cases h)⟩
     have:(if g > w.gen then none else if (NGet k b).2≠0 then none else if NdOK (NGet k b).1 root then some (NGet k b).1 else none)=(none:Option Nd):=by
       split
       · rfl
       · first | rfl|rw[if_pos hno]
     rw[this];exact ⟨rfl,rfl⟩
noncomputable def LoadR (w:Wd) (block:Int) (root:Bool):Nd×Int:=if WRight w then match Hold w block root with|some n=>(n,0)|none=>(nd0,81) else (nd0,1)
theorem p99 (w:Wd) (hf:WFits w) (block:Int) (root:Bool):Runs Fs2 99 [wdV w,.n (.int .i64 block),.n (.bool root)] [] (nduN (LoadR w block root)) []:=by
 have g41:=p48 w hf
 refine vc_eq fs99 rfl ?_
 rw[wdV,vc99,(V99e _ _ _ _ _ _ _ _).down]
 by_cases hr:WRight w
 · rw[decide_eq_true hr]at g41
   have g68:=p62b w hf hr.2.1 block root
   refine ⟨_,g41,sel_intro (fun h=>by cases h) (fun _ => ?_)⟩
   rw[LoadR,if_pos hr]
   cases hh:Hold w block root with
   | none=>
     rw[hh]at g68
     exact ⟨_,_,_,_,_,_,_,_,_,_,_,_,_,_,_,_,g68,sel_intro (fun _=>rfl) (fun h=>by cases h)⟩
   | some n=>
     rw[hh]at g68
     exact ⟨_,_,_,_,_,_,_,_,_,_,_,_,_,_,_,_,g68,sel_intro (fun h=>by cases h) (fun _=>rfl)⟩
 · rw[decide_eq_false hr]at g41
   refine ⟨_,g41,sel_intro (fun _ => ?_) (fun h=>by cases h)⟩
   rw[LoadR,if_neg hr];rfl
def newR (n:Nat):List Bool:=(List.range n).map fun i=>decide (i<10)
theorem newR_len (n:Nat):(newR n).length=n:=by simp[newR]
theorem newR_succ (n:Nat):newR (n+1)=newR n++[decide (n<10)]:=by simp[newR,List.range_succ]
theorem blD_snoc (l:List Bool) (b:Bool):blD l++[D.bool b]=blD (l++[b]):=by simp[blD]
theorem p60 (n:Nat) (hn:n≤2048):Runs Fs2 60 [.n (.int .i64 n)] [] (alV (newR n) (newR n)) []:=by
 refine vc_eq fs60 rfl ?_
 rw[vc60,(V60e _ _).down]
 refine ⟨fun i B r q=>0≤i∧i≤n∧B.1=r.1∧B.2.1=q.1∧r.2=blD (newR i.toNat)∧q.2=blD (newR i.toNat),fun i _ _ _=>(n - i).toNat,⟨rfl,by omega,by omega,rfl,rfl,rfl,rfl⟩,?_⟩
 rintro i ⟨va,vb,_⟩ ⟨ra,r⟩ ⟨qa,q⟩ ⟨h0,h1,rfl,rfl,rfl,rfl⟩ _
 dsimp only
 refine sel_dec (fun h => ?_) (fun h => ?_)
 · have e:decide (i<10)=decide (i.toNat<10):=by rw[decide_eq_decide];omega
   refine ⟨rfl,.inl rfl,⟨⟨rfl,rfl⟩,rfl⟩,by simp only[blD_len,newR_len,List.length_singleton];omega,rfl,.inl rfl,⟨⟨rfl,rfl⟩,rfl⟩,by simp only[blD_len,newR_len,List.length_singleton];omega,?_⟩
   repeat (refine And.intro rfl ?_)
   rw[i64_in _ (by omega),blD_snoc,e]
   refine ⟨⟨by omega,by omega,rfl,rfl,?_,?_⟩,by first|omega|(dsimp only;omega)⟩ <;>
    rw[show (i+1).toNat=i.toNat+1 by omega,newR_succ]
 · rw[show i.toNat=n by omega]
   exact ⟨rfl,rfl,rfl⟩
theorem hold_ok {w:Wd} {block:Int} {root:Bool} {n:Nd} (h:Hold w block root=some n):NdOK n root:=by
 unfold Hold at h
 split at h
 · cases h
 · rcases getP_cases (pgAt w block) with ⟨e,he,h'⟩|⟨k,g,b,h',_⟩
   · rw[h',hPage_err he]at h;cases h
   · rw[h',hPage_ok]at h
     split at h
     · cases h
     split at h
     · cases h
     split at h
     · rename_i hk
       simp only[Option.some.injEq]at h
       rw[←h];exact hk
     · cases h
def kidI (n:Nd) (key:ByteArray):Nat:=srch n.keys key+if isAt n.keys key then 1 else 0
theorem kid_lt {n:Nd} (hs:Stands n) (hl:n.leaf=false) (key:ByteArray):kidI n key<n.kids.length:=by
 rcases hs.2.2 with ⟨h,_⟩|⟨_,_,_,h,_⟩
 · rw[hl]at h;cases h
 · have h1:=srch_le n.keys key
   unfold kidI
   split
   · rename_i hat
     have:n.keys[srch n.keys key]?=some key:=of_decide_eq_true hat
     obtain ⟨h2,_⟩:=List.getElem?_eq_some_iff.1 this
     omega
   · omega
theorem at_lt {l:List ByteArray} {key:ByteArray} (h:isAt l key=true):srch l key<l.length:=by
 obtain ⟨h2,_⟩:=List.getElem?_eq_some_iff.1 (of_decide_eq_true h)
 exact h2
theorem sl_rep (n:Nat):List.replicate n (D.str (ByteArray.mk (List.toArray [])))=sl_ (List.replicate n empS):=by simp[sl_,empS]
abbrev Pr:=ByteArray×ByteArray
abbrev Hd:=Int→Bool→Option Nd
def HOK (H:Hd):Prop:=∀b r n,H b r=some n→NdOK n r
def within (k lo hi:ByteArray):Bool := !(lt k lo)&&(decide (hi=empS)||lt k hi)
theorem within_iff {k lo hi:ByteArray}:within k lo hi=true ↔ lt k lo=false∧(hi=empS∨lt k hi=true):=by
 unfold within
 simp only[Bool.and_eq_true,Bool.not_eq_true',Bool.or_eq_true,decide_eq_true_eq]
def KTr (R:Int→ByteArray→ByteArray→List Pr→List Int→Prop):ByteArray→ByteArray→List ByteArray→List Int→List Pr→List Int→Prop
 | lo,hi,[],[c],P,B=>R c lo hi P B
 | lo,hi,k :: ks,c :: cs,P,B=>∃P1 B1 P2 B2,R c lo k P1 B1∧KTr R k hi ks cs P2 B2∧P=P1++P2∧B=B1++B2
 | _,_,_,_,_,_=>False
def Tr (H:Hd):Nat→Int→Bool→ByteArray→ByteArray→List Pr→List Int→Prop
 | 0,_,_,_,_,_,_=>False
 | h+1,b,root,lo,hi,P,B=>∃n,H b root=some n∧(∀k∈n.keys,within k lo hi=true) ∧
    ((n.leaf=true∧h=0∧n.keys≠[]∧P=n.keys.zip n.vals∧B=[b]) ∨
     (n.leaf=false∧∃B',B=b :: B'∧KTr (fun c lo hi P B=>Tr H h c false lo hi P B) lo hi n.keys n.kids P B'))
theorem KTr.mono {R S:Int→ByteArray→ByteArray→List Pr→List Int→Prop}:∀ {ks:List ByteArray} {cs:List Int} {lo hi:ByteArray} {P:List Pr} {B:List Int},
   (∀c lo hi P B',(∀x∈B',x∈B)→R c lo hi P B'→S c lo hi P B')→KTr R lo hi ks cs P B→KTr S lo hi ks cs P B
 | [],[],_,_,_,_,_,h=>h
 | [],[c],lo,hi,P,B,m,h=>m c lo hi P B (fun _ h=>h) h
 | [],_ :: _ :: _,_,_,_,_,_,h=>h
 | _ :: _,[],_,_,_,_,_,h=>h
 | k :: ks,c :: cs,lo,hi,P,B,m,h=>by
   obtain ⟨P1,B1,P2,B2,h1,h2,rfl,rfl⟩:=h
   exact ⟨P1,B1,P2,B2,m _ _ _ _ _ (fun x hx=>List.mem_append_left _ hx) h1,KTr.mono (fun c lo hi P B' hB h=>m c lo hi P B' (fun x hx=>List.mem_append_right _ (hB x hx)) h) h2,rfl,rfl⟩
theorem Tr.frame {H G:Hd}:∀ {h:Nat} {b:Int} {root:Bool} {lo hi:ByteArray} {P:List Pr} {B:List Int},
   (∀x∈B,∀r n,H x r=some n→G x r=some n)→Tr H h b root lo hi P B→Tr G h b root lo hi P B
 | 0,_,_,_,_,_,_,_,h=>h
 | h+1,b,root,lo,hi,P,B,f,ht=>by
   obtain ⟨n,hn,hk,hh⟩:=ht
   rcases hh with ⟨h1,h2,h3,h4,rfl⟩|⟨h1,B',rfl,h2⟩
   · exact ⟨n,f b (by simp) _ _ hn,hk,.inl ⟨h1,h2,h3,h4,rfl⟩⟩
   · refine ⟨n,f b (by simp) _ _ hn,hk,.inr ⟨h1,B',rfl,KTr.mono (fun c lo hi P B'' hB hc=>Tr.frame (fun x hx=>f x (List.mem_cons_of_mem _ (hB x hx))) hc) h2⟩⟩
theorem KTr.one {R S:Int→ByteArray→ByteArray→List Pr→List Int→Prop} (m:∀c lo hi lo' hi' P B P' B',R c lo hi P B→S c lo' hi' P' B'→P=P'∧B=B'):∀ {ks:List ByteArray} {cs:List Int} {lo hi lo' hi':ByteArray} {P P':List Pr} {B B':List Int},
   KTr R lo hi ks cs P B→KTr S lo' hi' ks cs P' B'→P=P'∧B=B'
 | [],[],_,_,_,_,_,_,_,_,h,_=>h.elim
 | [],[c],lo,hi,_,_,P,P',B,B',h,h'=>m _ _ _ _ _ _ _ _ _ h h'
 | [],_ :: _ :: _,_,_,_,_,_,_,_,_,h,_=>h.elim
 | _ :: _,[],_,_,_,_,_,_,_,_,h,_=>h.elim
 | k :: ks,c :: cs,lo,hi,_,_,P,P',B,B',h,h'=>by
   obtain ⟨P1,B1,P2,B2,h1,h2,rfl,rfl⟩:=h
   obtain ⟨Q1,C1,Q2,C2,g1,g2,rfl,rfl⟩:=h'
   obtain ⟨rfl,rfl⟩:=m _ _ _ _ _ _ _ _ _ h1 g1
   obtain ⟨rfl,rfl⟩:=KTr.one m h2 g2
   exact ⟨rfl,rfl⟩
theorem Tr.one {H:Hd}:∀ {h h':Nat} {b:Int} {root:Bool} {lo hi lo' hi':ByteArray} {P P':List Pr} {B B':List Int},
   Tr H h b root lo hi P B→Tr H h' b root lo' hi' P' B'→P=P'∧B=B'
 | 0,_,_,_,_,_,_,_,_,_,_,_,h,_=>h.elim
 | _,0,_,_,_,_,_,_,_,_,_,_,_,h=>h.elim
 | h+1,h'+1,b,root,lo,hi,lo',hi',P,P',B,B',ht,ht'=>by
   obtain ⟨n,hn,_,hh⟩:=ht
   obtain ⟨n',hn',_,hh'⟩:=ht'
   rw[hn]at hn'
   obtain rfl:n=n':=by simpa using hn'
   rcases hh with ⟨h1,h2,h3,rfl,rfl⟩|⟨h1,C,rfl,h2⟩
   · rcases hh' with ⟨_,_,_,rfl,rfl⟩|⟨g1,_⟩
     · exact ⟨rfl,rfl⟩
     · rw[h1]at g1;cases g1
   · rcases hh' with ⟨g1,_⟩|⟨_,C',rfl,g2⟩
     · rw[h1]at g1;cases g1
     · obtain ⟨rfl,rfl⟩:=KTr.one (R:=fun c lo hi P B=>Tr H h c false lo hi P B) (S:=fun c lo hi P B=>Tr H h' c false lo hi P B) (fun c lo hi lo' hi' P B P' B' x y=>Tr.one x y) h2 g2
       exact ⟨rfl,rfl⟩
theorem KTr.mem {R:Int→ByteArray→ByteArray→List Pr→List Int→Prop} {Q:Int→Prop} (m:∀c lo hi P B,R c lo hi P B→∀x∈B,Q x):∀ {ks:List ByteArray} {cs:List Int} {lo hi:ByteArray} {P:List Pr} {B:List Int},
   KTr R lo hi ks cs P B→∀x∈B,Q x
 | [],[],_,_,_,_,h=>h.elim
 | [],[c],lo,hi,P,B,h=>m _ _ _ _ _ h
 | [],_ :: _ :: _,_,_,_,_,h=>h.elim
 | _ :: _,[],_,_,_,_,h=>h.elim
 | k :: ks,c :: cs,lo,hi,P,B,h=>by
   obtain ⟨P1,B1,P2,B2,h1,h2,rfl,rfl⟩:=h
   intro x hx
   rcases List.mem_append.1 hx with hx|hx
   · exact m _ _ _ _ _ h1 x hx
   · exact KTr.mem m h2 x hx
theorem Tr.held {H:Hd}:∀ {h:Nat} {b:Int} {root:Bool} {lo hi:ByteArray} {P:List Pr} {B:List Int},
   Tr H h b root lo hi P B→∀x∈B,∃r n,H x r=some n
 | 0,_,_,_,_,_,_,h=>h.elim
 | h+1,b,root,lo,hi,P,B,ht=>by
   obtain ⟨n,hn,_,hh⟩:=ht
   intro x hx
   rcases hh with ⟨_,_,_,_,rfl⟩|⟨_,C,rfl,h2⟩
   · obtain rfl:x=b:=by simpa using hx
     exact ⟨_,_,hn⟩
   · rcases List.mem_cons.1 hx with rfl|hx
     · exact ⟨_,_,hn⟩
     · exact KTr.mem (Q:=fun x=>∃r n,H x r=some n) (fun c lo hi P B hc=>Tr.held hc) h2 x hx
theorem within_low {k a b c:ByteArray} (h:within k b c=true) (hab:lt b a=false):within k a c=true:=by
 obtain ⟨h1,h2⟩:=within_iff.1 h
 refine within_iff.2 ⟨?_,h2⟩
 rcases nlt_iff.1 hab with rfl|hab
 · exact h1
 · rcases nlt_iff.1 h1 with rfl|h1
   · exact lt_asym hab
   · exact lt_asym (lt_trans hab h1)
theorem within_high {k lo a hi:ByteArray} (h:within k lo a=true) (ha:a≠empS) (hah:within a lo hi=true):within k lo hi=true:=by
 obtain ⟨h1,h2⟩:=within_iff.1 h
 obtain ⟨_,g2⟩:=within_iff.1 hah
 refine within_iff.2 ⟨h1,?_⟩
 rcases g2 with g2|g2
 · exact .inl g2
 · rcases h2 with h2|h2
   · exact absurd h2 ha
   · exact .inr (lt_trans h2 g2)
def Rise (ks:List ByteArray):Prop:=ks.Pairwise (fun a b=>lt a b=true)
theorem kok_rise {l:List ByteArray} (h:KOK l):Rise l:=List.pairwise_iff_getElem.2 fun i j hi hj hij=>kok_mono h i j hi hj hij
theorem kok_some {l:List ByteArray} (h:KOK l):∀k∈l,k≠empS:=fun k hk e=>by
 obtain ⟨i,hi,rfl⟩:=List.getElem_of_mem hk
 have:=(h i hi hi).1
 rw[e]at this
 exact absurd this (by decide)
theorem KTr.within {R:Int→ByteArray→ByteArray→List Pr→List Int→Prop} (m:∀c lo hi P B,R c lo hi P B→∀p∈P,within p.1 lo hi=true):∀ {ks:List ByteArray} {cs:List Int} {lo hi:ByteArray} {P:List Pr} {B:List Int},
   Rise ks→(∀k∈ks,k≠empS)→(∀k∈ks,within k lo hi=true)→KTr R lo hi ks cs P B→∀p∈P,within p.1 lo hi=true
 | [],[],_,_,_,_,_,_,_,h=>h.elim
 | [],[c],lo,hi,P,B,_,_,_,h=>m _ _ _ _ _ h
 | [],_ :: _ :: _,_,_,_,_,_,_,_,h=>h.elim
 | _ :: _,[],_,_,_,_,_,_,_,h=>h.elim
 | k :: ks,c :: cs,lo,hi,P,B,hr,he,hw,h=>by
   obtain ⟨P1,B1,P2,B2,h1,h2,rfl,rfl⟩:=h
   obtain ⟨r1,r2⟩:=List.pairwise_cons.1 hr
   have hk:=hw k (by simp)
   intro p hp
   rcases List.mem_append.1 hp with hp|hp
   · exact within_high (m _ _ _ _ _ h1 p hp) (he k (by simp)) hk
   · have:=KTr.within m r2 (fun k hk=>he k (List.mem_cons_of_mem _ hk)) (fun x hx=>within_iff.2 ⟨lt_asym (r1 x hx),(within_iff.1 (hw x (List.mem_cons_of_mem _ hx))).2⟩) h2 p hp
     exact within_low this (within_iff.1 hk).1
theorem zip_mem {n:Nd} {p:Pr} (h:p∈n.keys.zip n.vals):p.1∈n.keys:=(List.of_mem_zip (a:=p.1) (b:=p.2) h).1
theorem Tr.within {H:Hd} (ho:HOK H):∀ {h:Nat} {b:Int} {root:Bool} {lo hi:ByteArray} {P:List Pr} {B:List Int},
   Tr H h b root lo hi P B→∀p∈P,within p.1 lo hi=true
 | 0,_,_,_,_,_,_,h=>h.elim
 | h+1,b,root,lo,hi,P,B,ht=>by
   obtain ⟨n,hn,hw,hh⟩:=ht
   have hk:=(ho _ _ _ hn).1.2.1
   rcases hh with ⟨_,_,_,rfl,_⟩|⟨_,C,rfl,h2⟩
   · exact fun p hp=>hw _ (zip_mem hp)
   · exact KTr.within (fun c lo hi P B hc=>Tr.within ho hc) (kok_rise hk) (kok_some hk) hw h2
structure TS where
 ps:List Pr
 bs:List Int
 he:Int
 bad:Bool
def IsTree (w:Wd) (h:Nat) (P:List Pr) (B:List Int):Prop:=
 (w.root=0∧h=0∧P=[]∧B=[])∨(w.root≠0∧1≤h∧h≤8∧Tr (Hold w) h w.root true empS empS P B∧B.Nodup)
def kidOf:List ByteArray→ByteArray→Nat
 | [],_=>0
 | k :: r,x=>if lt x k then 0 else kidOf r x+1
theorem kidOf_le:∀(l:List ByteArray) (x:ByteArray),kidOf l x≤l.length
 | [],_=>Nat.le_refl _
 | k :: r,x=>by
   unfold kidOf
   split
   · omega
   · have:=kidOf_le r x;simp;omega
theorem isAt_cons {k x:ByteArray} {r:List ByteArray} (h:lt k x=true):isAt (k :: r) x=isAt r x:=by
 unfold isAt
 rw[show srch (k :: r) x=srch r x+1 by rw[srch,if_pos h],List.getElem?_cons_succ]
theorem kidOf_eq {x:ByteArray}:∀ {l:List ByteArray},Rise l→srch l x+(if isAt l x then 1 else 0)=kidOf l x
 | [],_=>by simp[srch,isAt,kidOf]
 | k :: r,h=>by
   obtain ⟨h1,h2⟩:=List.pairwise_cons.1 h
   by_cases hk:lt k x=true
   · have e:kidOf (k :: r) x=kidOf r x+1:=by rw[kidOf,lt_asym hk,if_neg Bool.false_ne_true]
     rw[isAt_cons hk,e,←kidOf_eq h2,srch,if_pos hk];omega
   · have e:srch (k :: r) x=0:=by rw[srch,if_neg hk]
     have hk:lt k x=false:=by simpa using hk
     rw[isAt,e,List.getElem?_cons_zero,kidOf]
     rcases nlt_iff.1 hk with rfl|hx
     · have e2:kidOf r k=0:=by
        cases r with
        | nil=>rfl
        | cons y r=>rw[kidOf,h1 y (by simp),if_pos rfl]
       simp[lt_irr,e2]
     · rw[hx,decide_eq_false (by
        intro e;simp only[Option.some.injEq]at e
        subst e;rw[lt_irr]at hx;cases hx)]
       rfl
theorem kidI_of {n:Nd} (hk:KOK n.keys) (x:ByteArray):kidI n x=kidOf n.keys x:=kidOf_eq (kok_rise hk)
theorem nodup_bound:∀(N:Nat) (l:List Int),l.Nodup→(∀b∈l,0≤b∧b<N)→l.length≤N
 | 0,[],_,_=>Nat.le_refl _
 | 0,b :: l,_,h=>by have:=h b (by simp);omega
 | N+1,l,hn,h=>by
   by_cases hN:(N:Int)∈l
   · have h1:=nodup_bound N (l.erase N) (hn.erase _) (fun b hb=>by
      have h2:=h b (List.mem_of_mem_erase hb)
      have h3:b≠N:=fun e=>by subst e;exact (List.Nodup.mem_erase_iff hn).1 hb |>.1 rfl
      omega)
     have:=List.length_erase_of_mem hN
     omega
   · have:=nodup_bound N l hn (fun b hb=>by
      have h2:=h b hb
      have h3:b≠N:=fun e=>hN (e▸hb)
      omega)
     omega
structure TInv (t:TS):Prop where
 nd:t.bs.Nodup
 rg:∀b∈t.bs,0≤b∧b<2048
 ps:t.ps.length≤9*t.bs.length
theorem TInv.len {t:TS} (h:TInv t):t.bs.length≤2048:=nodup_bound 2048 t.bs h.nd h.rg
theorem TInv.bad {t:TS} (h:TInv t):TInv { t with bad:=true }:=⟨h.nd,h.rg,h.ps⟩
theorem TInv.add {t:TS} (h:TInv t) {b:Int} (hb:b∉t.bs) (h0:0≤b∧b<2048) {P:List Pr} (hP:P.length≤9) (he:Int) (bad:Bool):TInv ⟨t.ps++P,t.bs++[b],he,bad⟩:=by
 refine ⟨List.nodup_append.2 ⟨h.nd,by simp,fun x hx y hy => ?_⟩,fun x hx => ?_,?_⟩
 · obtain rfl:y=b:=by simpa using hy
   rintro rfl;exact hb hx
 · rcases List.mem_append.1 hx with hx|hx
   · exact h.rg x hx
   · obtain rfl:x=b:=by simpa using hx
     exact h0
 · have:=h.ps
   simp;omega
theorem hold_rg {w:Wd} (hn:w.now.length≤2048) {b:Int} {r:Bool} {n:Nd} (h:Hold w b r=some n):10≤b∧b<w.now.length∧b<w.pages.length:=by
 unfold Hold at h
 split at h
 · cases h
 · omega
def psD (l:List Pr):List Mir.D:=l.map fun p => .rcd [.str p.1,.str p.2]
theorem psD_len (l:List Pr):(psD l).length=l.length:=by simp[psD]
theorem psD_at {l:List Pr} {i:Nat} (h:i<l.length):(psD l)[i]?=some (.rcd [.str l[i].1,.str l[i].2]):=by simp[psD,h]
def hT (t:TS) (va vb:Nat):Heap:=[hB 2100101 [.row 2190001 va,.row 2190002 vb,.n (.int .i64 t.he),.n (.bool t.bad)],hR 2190001 va 48 2 (psD t.ps),hR 2190002 vb 3 1 (il t.bs)]
abbrev wdT:Mir.Ty := .st [.st [.sl .bool,.sl .bool],.sl .str,.int .i64,.int .i64]
def toWd (x:wdT.T):Wd:=match x with
 | ((a,b,_),p,r,g,_)=>⟨a,b,p,r,g⟩
theorem wd_av (x:wdT.T):wdT.av x=wdV (toWd x):=by
 obtain ⟨⟨a,b,_⟩,p,r,g,_⟩:=x;rfl
theorem wd_fit (x:wdT.T) (h:wdT.fit x):WFits (toWd x):=by
 obtain ⟨⟨a,b,_⟩,p,r,g,_⟩:=x
 obtain ⟨⟨⟨h1,_⟩,⟨h2,_⟩,_⟩,⟨h3,h4⟩,_⟩:=h
 have e:maxLen≤9223372036854775807:=by decide
 exact ⟨by show ((List.length a:Nat):Int)≤_;have:List.length a≤maxLen:=h1;omega,by show ((List.length b:Nat):Int)≤_;have:List.length b≤maxLen:=h2;omega,by show ((List.length p:Nat):Int)≤_;have:List.length p≤maxLen:=h3;omega,fun s hs=>by
  have:ByteArray.size s≤maxLen:=h4 s hs
  show ((ByteArray.size s:Nat):Int)≤_;omega⟩
theorem wr_now {w:Wd} (h:WRight w):w.now.length≤2048:=h.1.2.2.1
def hW (lo hi:ByteArray):Heap:=[hB 9500000 [.n (.str lo)],hB 9500001 [.n (.str hi)]]
structure CS where
 used:List Bool
 np:Int
 he:Int
 nb:Int
 bad:Bool
def hC (w:Wd) (s:CS) (v:Nat):Heap:=[hR 6500305 v 4 1 (blD s.used),hB 6500307 [.o (.sl 1 (blD w.base)),.o (.sl 1 (blD w.now)),.o (.sl 1 (sl_ w.pages)),.n (.int .i64 w.root),.n (.int .i64 w.gen),.n (.int .i64 s.np),.n (.int .i64 s.he),.n (.int .i64 s.nb),.row 6500305 v,.n (.bool s.bad)]]
theorem blD_set (l:List Bool) (i:Nat) (b:Bool):(blD l).set i (.bool b)=blD (l.set i b):=by simp[blD,List.map_set]
theorem hold_tr {w:Wd} {b:Int} {r:Bool} {n:Nd} (h:Hold w b r=some n):tr w.now b.toNat=true:=by
 unfold Hold at h
 split at h
 · cases h
 · rename_i hx
   cases ht:tr w.now b.toNat with
   | true=>rfl
   | false=>exact absurd (.inr (.inr (.inr ht))) hx
theorem isTree_held {w:Wd} {h:Nat} {P:List Pr} {B:List Int} (ht:IsTree w h P B):∀b∈B,∃r n,Hold w b r=some n:=by
 rcases ht with ⟨_,_,_,rfl⟩|⟨_,_,_,h3,_⟩
 · intro b hb;cases hb
 · exact h3.held
def h10 (v:Nat) (l:List Int):Heap:=[(1000600,.row false true v 3 1 (il l))]
def sOf (l:List UInt8):ByteArray:=⟨l.toArray⟩
theorem sOf_data (l:List UInt8):(sOf l).data.toList=l:=by simp[sOf]
theorem sOf_size (l:List UInt8):(sOf l).size=l.length:=by rw[←size_list,sOf_data]
theorem beB1 (n:Int):beB n 1=[UInt8.ofNat (n % 256).toNat]:=by
 have:=be_bytes n 1
 rw[←this]
 simp[be,Mir.byteOf]
theorem gT_at {s:ByteArray} {A C:List UInt8} {b:UInt8} {a:Int} (h:s.data.toList=A++b :: C) (ha:a=A.length):gT s a 1=((b.toNat:Int),a+1,0):=by
 have hl:s.size=A.length+1+C.length:=by rw[←size_list,h];simp;omega
 have hp:piece s a 1=[b]:=piece_mid (A:=A) (B:=[b]) (C:=C) (by rw[h];rfl) (by omega) rfl
 rw[gT,getR_good (by omega) (by omega),hp]
 simp[g3,num]
theorem cT_at {s t:ByteArray} {A C:List UInt8} {a:Int} (h:s.data.toList=A++((beB t.size 2++t.data.toList)++C)) (ha:a=A.length) (ht:t.size≤65535):cT s a=(t,a+2+t.size,0):=by
 have e:s=cat [sOf A,TextOf t,sOf C]:=bytes_ext (by rw[cat3,sOf_data,sOf_data,textOf_data,h])
 have hA:(sOf A).size=A.length:=sOf_size A
 have:=cut_back t (sOf A) (sOf C) (by omega)
 rw[←e,hA,←ha]at this
 rw[cT,this];rfl
theorem textR_small {s:ByteArray} (h:s.size≤65535):TextR s = .tup [.n (.str (TextOf s)),.n (.int .i64 0)]:=by
 rw[TextR,if_neg (by omega)]
theorem get_self {k g:Int} {b:ByteArray} (h:pgOK k g b):GetPR (PageS k g b) = .tup [pg k g b,.n (.int .i64 0)]:=
 get_back' k g b _ h (by have:=pageS_size k g b h;omega) (by
  refine bytes_ext ?_
  rw[trimS_data,PageS,trimS_data,tz_idem])
def txB (t:ByteArray):List UInt8:=beB t.size 2++t.data.toList
def lfB:List ByteArray→List ByteArray→List UInt8
 | k :: ks,v :: vs=>txB k++(txB v++lfB ks vs)
 | _,_=>[]
def inB:List Int→List ByteArray→List UInt8
 | b :: bs,k :: ks=>beB b 2++(txB k++inB bs ks)
 | b :: _,[]=>beB b 2
 | [],_=>[]
def nodeL (n:Nd):List UInt8:=beB n.keys.length 1++(if n.leaf then lfB n.keys n.vals else inB n.kids n.keys)
def nodeB (n:Nd):ByteArray:=sOf (nodeL n)
def kindOf (n:Nd):Int:=if n.leaf then 1 else 2
def pageB (g:Int) (n:Nd):ByteArray:=PageS (kindOf n) g (nodeB n)
theorem gT_two {s:ByteArray} {A C:List UInt8} {b a:Int} (h:s.data.toList=A++(beB b 2++C)) (ha:a=A.length) (h0:0≤b) (h1:b<65536):gT s a 2=(b,a+2,0):=by
 have hl:s.size=A.length+2+C.length:=by rw[←size_list,h];simp[beB_length];omega
 have hp:piece s a 2=beB b 2:=piece_mid h (by omega) (by rw[beB_length];rfl)
 rw[gT,getR_good (by omega) (by omega),hp]
 have e:num (beB b 2)=b:=by rw[num_beB];exact Int.emod_eq_of_lt h0 (by omega)
 simp only[g3,e]
theorem lf_at {s:ByteArray}:∀(ks vs:List ByteArray) (A:List UInt8) (a:Int) (ak av:List ByteArray),vs.length=ks.length→(∀k∈ks,k.size≤65535)→(∀v∈vs,v.size≤65535)→s.data.toList=A++lfB ks vs→a=A.length →
   lfUp s ks.length a ak av = .inr (ak++ks,av++vs,(s.size:Int))
 | [],[],A,a,ak,av,_,_,_,h,ha=>by
   have hl:s.size=A.length:=by rw[←size_list,h];simp[lfB]
   simp only[List.length_nil,lfUp,List.append_nil]
   rw[ha,hl]
 | [],_ :: _,_,_,_,_,hl,_,_,_,_=>by simp at hl
 | _ :: _,[],_,_,_,_,hl,_,_,_,_=>by simp at hl
 | k :: ks,v :: vs,A,a,ak,av,hl,hk,hv,h,ha=>by
   have hk1:=hk k (by simp)
   have hv1:=hv v (by simp)
   have c1:=cT_at (t:=k) (A:=A) (C:=txB v++lfB ks vs) (a:=a) (by rw[h];rfl) ha hk1
   have c2:=cT_at (s:=s) (t:=v) (A:=A++txB k) (C:=lfB ks vs) (a:=a+2+k.size) (by rw[h];simp[lfB,txB]) (by simp[txB,beB_length,size_list];omega) hv1
   rw[List.length_cons,lf_go (by rw[c1]) (by rw[c1,c2]),c1]
   dsimp only
   rw[c2]
   dsimp only
   rw[lf_at ks vs (A++(txB k++txB v)) _ _ _ (by simpa using hl) (fun x hx=>hk x (List.mem_cons_of_mem _ hx)) (fun x hx=>hv x (List.mem_cons_of_mem _ hx)) (by rw[h];simp[lfB]) (by simp[txB,beB_length,size_list];omega)]
   simp
theorem in_at {s:ByteArray}:∀(bs:List Int) (ks:List ByteArray) (l:Int) (A:List UInt8) (a:Int) (ab:List Int) (ak:List ByteArray),bs.length=ks.length→(∀b∈bs,0≤b∧b<65536)→(∀k∈ks,k.size≤65535)→s.data.toList=A++inB (bs++[l]) ks→a=A.length →
   ∃A',inUp s ks.length a ab ak = .inr (ab++bs,ak++ks,(A'.length:Int))∧s.data.toList=A'++beB l 2
 | [],[],l,A,a,ab,ak,_,_,_,h,ha=>by
   refine ⟨A,?_,by rw[h];rfl⟩
   simp only[List.length_nil,inUp,List.append_nil]
   rw[ha]
 | [],_ :: _,_,_,_,_,_,hl,_,_,_,_=>by simp at hl
 | _ :: _,[],_,_,_,_,_,hl,_,_,_,_=>by simp at hl
 | b :: bs,k :: ks,l,A,a,ab,ak,hl,hb,hk,h,ha=>by
   have hk1:=hk k (by simp)
   have hb1:=hb b (by simp)
   have c1:=gT_two (s:=s) (b:=b) (A:=A) (C:=txB k++inB (bs++[l]) ks) (a:=a) (by rw[h];rfl) ha hb1.1 hb1.2
   have c2:=cT_at (s:=s) (t:=k) (A:=A++beB b 2) (C:=inB (bs++[l]) ks) (a:=a+2) (by rw[h];simp[inB,txB]) (by simp[beB_length];omega) hk1
   rw[List.length_cons,in_go (by rw[c1]) (by rw[c1,c2]),c1]
   dsimp only
   rw[c2]
   dsimp only
   obtain ⟨A',h1,h2⟩:=in_at bs ks l (A++(beB b 2++txB k)) (a+2+2+k.size) (ab++[b]) (ak++[k]) (by simpa using hl) (fun x hx=>hb x (List.mem_cons_of_mem _ hx)) (fun x hx=>hk x (List.mem_cons_of_mem _ hx)) (by rw[h];simp[inB]) (by simp[txB,beB_length,size_list];omega)
   refine ⟨A',?_,h2⟩
   rw[h1];simp
theorem kok_size {l:List ByteArray} (h:KOK l):∀k∈l,1≤k.size∧k.size≤32:=fun k hk=>by
 obtain ⟨i,hi,rfl⟩:=List.getElem_of_mem hk
 exact ⟨(h i hi hi).1,(h i hi hi).2.1⟩
theorem nget_node {n:Nd} (hok:NdOK n true):NGet (kindOf n) (nodeB n)=(n,0):=by
 obtain ⟨hs,h8,_⟩:=hok
 have hks:=kok_size hs.2.1
 have hd:(nodeB n).data.toList=nodeL n:=sOf_data _
 have h1:beB (n.keys.length:Int) 1=[UInt8.ofNat n.keys.length]:=by
   rw[beB1]
   congr 2
   omega
 have hbyte:((UInt8.ofNat n.keys.length).toNat:Int)=n.keys.length:=by
   rw[UInt8.toNat_ofNat']
   omega
 have g0:=gT_at (s:=nodeB n) (A:=[]) (b:=UInt8.ofNat n.keys.length) (C:=if n.leaf then lfB n.keys n.vals else inB n.kids n.keys) (a:=0) (by rw[hd,nodeL,h1];rfl) rfl
 rw[hbyte]at g0
 have hlen0:(nodeL n).length=1+(if n.leaf then lfB n.keys n.vals else inB n.kids n.keys).length:=by
   rw[nodeL,List.length_append,beB_length]
 have hsz:(nodeB n).size=(nodeL n).length:=sOf_size _
 have fin:∀a:Int,a=(nodeB n).size→nFin (nodeB n) n a=(n,0):=fun a ha=>by
   rw[nFin,if_neg]
   rintro (h|h)
   · exact h ha
   · exact h ⟨hs,h8,.inl rfl⟩
 rw[NGet,if_neg (by unfold kindOf;split <;> omega),if_neg (by rw[g0];simp),g0]
 dsimp only
 rw[Int.toNat_natCast,Int.zero_add]
 cases hl:n.leaf with
 | true=>
   have hv:n.vals.length=n.keys.length∧(∀v∈n.vals,v.size≤200)∧n.kids=[]:=by
     rcases hs.2.2 with ⟨_,h1,h2,h3⟩|⟨h,_⟩
     · exact ⟨h2,h3,h1⟩
     · rw[hl]at h;cases h
   have e:(kindOf n==1)=true:=by rw[kindOf,hl];rfl
   rw[e,nc_true,lf_at n.keys n.vals (beB (n.keys.length:Int) 1) 1 [] [] hv.1 (fun k hk=>by have:=hks k hk;omega) (fun v hv'=>by have:=hv.2.1 v hv';omega) (by rw[hd,nodeL,hl];rfl) (by simp[beB_length])]
   dsimp only
   have en:(⟨true,[]++n.keys,[]++n.vals,[]⟩:Nd)=n:=by
     rw[List.nil_append,List.nil_append,←hl,←hv.2.2]
   rw[en]
   exact fin _ rfl
 | false=>
   have hv:n.vals=[]∧n.kids.length=n.keys.length+1∧∀b∈n.kids,10≤b∧b<2048:=by
     rcases hs.2.2 with ⟨h,_⟩|⟨_,h1,_,h2,h3⟩
     · rw[hl]at h;cases h
     · exact ⟨h1,h2,h3⟩
   have e:(kindOf n==1)=false:=by rw[kindOf,hl];rfl
   have hne:n.kids≠[]:=fun h=>by rw[h]at hv;simp at hv
   have hsp:n.kids.dropLast++[n.kids.getLast hne]=n.kids:=List.dropLast_concat_getLast hne
   obtain ⟨A',h2,h3⟩:=in_at (s:=nodeB n) n.kids.dropLast n.keys (n.kids.getLast hne) (beB (n.keys.length:Int) 1) 1 [] [] (by rw[List.length_dropLast];omega) (fun b hb=>by have:=hv.2.2 b (List.dropLast_subset _ hb);omega) (fun k hk=>by have:=hks k hk;omega) (by rw[hd,nodeL,hl,hsp];rfl) (by simp[beB_length])
   have hbl:=hv.2.2 _ (List.getLast_mem hne)
   have c:=gT_two (s:=nodeB n) (A:=A') (C:=[]) (b:=n.kids.getLast hne) (a:=A'.length) (by rw[h3];simp) rfl (by omega) (by omega)
   rw[e,nc_false,h2]
   dsimp only
   rw[if_neg (by rw[c];simp),c]
   dsimp only
   have en:(⟨false,[]++n.keys,[],[]++n.kids.dropLast++[n.kids.getLast hne]⟩:Nd)=n:=by
     rw[List.nil_append,List.nil_append,hsp,←hl,←hv.1]
   rw[en]
   refine fin _ ?_
   have:(nodeB n).size=A'.length+2:=by rw[←size_list,h3];simp[beB_length]
   omega
theorem lfB_len:∀(ks vs:List ByteArray),(∀k∈ks,k.size≤32)→(∀v∈vs,v.size≤200)→(lfB ks vs).length≤236*ks.length
 | [],_,_,_=>by simp[lfB]
 | _ :: _,[],_,_=>by simp[lfB]
 | k :: ks,v :: vs,h1,h2=>by
   have:=lfB_len ks vs (fun x hx=>h1 x (List.mem_cons_of_mem _ hx)) (fun x hx=>h2 x (List.mem_cons_of_mem _ hx))
   have a1:=h1 k (by simp)
   have a2:=h2 v (by simp)
   simp only[lfB,txB,List.length_append,beB_length,size_list,List.length_cons];omega
theorem inB_len:∀(bs:List Int) (ks:List ByteArray),(∀k∈ks,k.size≤32)→(inB bs ks).length≤36*ks.length+2
 | [],_,_=>by simp[inB]
 | b :: bs,[],_=>by simp[inB,beB_length]
 | b :: bs,k :: ks,h=>by
   have:=inB_len bs ks (fun x hx=>h x (List.mem_cons_of_mem _ hx))
   have a1:=h k (by simp)
   simp only[inB,txB,List.length_append,beB_length,size_list,List.length_cons];omega
theorem nodeB_size {n:Nd} (hok:NdOK n true):(nodeB n).size≤4000:=by
 obtain ⟨hs,h8,_⟩:=hok
 have hks:=kok_size hs.2.1
 rw[show (nodeB n).size=(nodeL n).length from sOf_size _,nodeL,List.length_append,beB_length]
 split
 · rename_i hl
   have hv:∀v∈n.vals,v.size≤200:=by
    rcases hs.2.2 with ⟨_,_,_,h⟩|⟨h,_⟩
    · exact h
    · rw[hl]at h;cases h
   have:=lfB_len n.keys n.vals (fun k hk=>(hks k hk).2) hv
   omega
 · have:=inB_len n.kids n.keys (fun k hk=>(hks k hk).2)
   omega
theorem kindOf_rg (n:Nd):1≤kindOf n∧kindOf n≤2:=by unfold kindOf;split <;> omega
theorem page_ok {n:Nd} (hok:NdOK n true) {g:Int} (h0:0≤g) (h1:g≤1099511627776):pgOK (kindOf n) g (nodeB n):=by
 have h2:=kindOf_rg n
 have h3:=nodeB_size hok
 exact ⟨by omega,by omega,h0,h1,by omega⟩
theorem ndOK_root {n:Nd} {r:Bool} (h:NdOK n r):NdOK n true:=⟨h.1,h.2.1,.inl rfl⟩
theorem hold_store {w:Wd} {b:Int} {n:Nd} {g:Int} (hr:WRight w) (h10:10≤b) (h1:b<w.now.length) (hn:tr w.now b.toNat=true) (hp:pgAt w b=pageB g n) (h0:0≤g) (hg:g≤w.gen) {r:Bool} (hok:NdOK n r):Hold w b r=some n:=by
 have hg2:w.gen≤1099511627776:=hr.2.2.2.1
 rw[hold_go (by rw[hn];have:=hr.2.1;simp;omega),hp,pageB,get_self (page_ok (ndOK_root hok) h0 (by omega)),hPage_ok,if_neg (by omega),nget_node (ndOK_root hok)]
 dsimp only
 rw[if_neg (by simp),if_pos hok]
abbrev TR:=Int→ByteArray→ByteArray→List Pr→List Int→Prop
theorem kok_iff {l:List ByteArray}:KOK l ↔ (Rise l∧∀k∈l,1≤k.size∧k.size≤32):=by
 refine ⟨fun h=>⟨kok_rise h,kok_size h⟩,fun ⟨h1,h2⟩ j hj _ => ?_⟩
 have:=h2 _ (List.getElem_mem hj)
 exact ⟨this.1,this.2,fun h0=>List.pairwise_iff_getElem.1 h1 (j - 1) j (by omega) hj (by omega)⟩
def insAt {α:Type} (l:List α) (i:Nat) (x:α):List α:=l.take i++x :: l.drop i
theorem insAt_len {α:Type} {l:List α} {i:Nat} (x:α) (h:i≤l.length):(insAt l i x).length=l.length+1:=by
 simp[insAt];omega
end Go.Proofs.YtclgengkohbjjaaGreatDoor.M
