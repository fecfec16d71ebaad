import Derived.Test.YtegndijbpiccgaaGreatDoorR5Nge2
import Derived.Test.YtegndijbpiccgaaGreatDoorMirO
namespace Go.Proofs.YtegndijbpiccgaaGreatDoor.M
set_option linter.unusedVariables false
set_option linter.unusedSimpArgs false
open Go Go.Mir
set_option linter.unusedVariables false
structure Wd where
 base:List Bool
 now:List Bool
 pages:List ByteArray
 root:Int
 gen:Int
def blD (l:List Bool):List Mir.D:=l.map .bool
theorem blD_len (l:List Bool):(blD l).length=l.length:=by simp[blD]
theorem blD_at {l:List Bool} {i:Nat} (h:i<l.length):(blD l)[i]?=some (.bool l[i]):=by simp[blD,h]
def wdV (w:Wd):AV := .agg [.o (.sl 1 (blD w.base)),.o (.sl 1 (blD w.now)),.o (.sl 1 (sl_ w.pages)),.n (.int .i64 w.root),.n (.int .i64 w.gen)]
structure WFits (w:Wd):Prop where
 b:Small w.base.length
 n:Small w.now.length
 p:Small w.pages.length
 s:∀x∈w.pages,Small x.size
def tr (l:List Bool) (i:Nat):Bool:=(l[i]?).getD false
theorem tr_at {l:List Bool} {i:Nat} (h:i<l.length):tr l i=l[i]:=by simp[tr,h]
theorem tr_out {l:List Bool} {i:Nat} (h:l.length≤i):tr l i=false:=by simp[tr,h]
def ARight (base now:List Bool):Prop:=base.length=now.length∧24≤now.length∧now.length≤2048∧∀j,j<10→tr base j=true∧tr now j=true
noncomputable instance (a b:List Bool):Decidable (ARight a b):=Classical.propDecidable _
def alV (a b:List Bool):AV := .agg [.o (.sl 1 (blD a)),.o (.sl 1 (blD b))]
theorem no_ar {a b:List Bool} (h:¬ARight a b):AV.n (D.bool false) = .n (.bool (decide (ARight a b))):=by rw[decide_eq_false h]
theorem p113 (a b:List Bool) (ha:Small a.length) (hb:Small b.length):Runs Fs2 113 [alV a b] [] (.n (.bool (decide (ARight a b)))) []:=by
 refine vc_eq fs113 rfl ?_
 rw[alV,vc113,(V113e _ _ _).down,blD_len,blD_len]
 refine sel_intro (fun h=>no_ar (by have:=of_decide_eq_true (show decide ((a.length:Int)≠b.length)=true by simpa using h);unfold ARight;omega)) (fun h => ?_)
 have hl:(a.length:Int)=b.length:=by simpa using h
 refine sel_dec (fun h=>no_ar (by unfold ARight;omega)) (fun h1=>sel_dec (fun h=>no_ar (by unfold ARight;omega)) (fun h2 => ?_))
 refine ⟨fun i=>0≤i∧i≤10∧∀j:Nat,(j:Int)<i→tr a j=true∧tr b j=true,fun i=>(10 - i).toNat,⟨rfl,by omega,by omega,fun j h=>by omega⟩,?_⟩
 rintro i ⟨h0,h10,hok⟩ _
 refine sel_dec (fun hlt => ?_) (fun hge => ?_)
 · have ia:i.toNat<a.length:=by omega
   have ib:i.toNat<b.length:=by omega
   have ea:=tr_at ia
   have eb:=tr_at ib
   refine ⟨rfl,h0,_,blD_at ia,_,rfl,sel_intro (fun hx=>no_ar fun hr => ?_) (fun hx=>⟨rfl,h0,_,blD_at ib,_,rfl,sel_intro (fun hy=>no_ar fun hr => ?_) (fun hy => ?_)⟩)⟩
   · have:=(hr.2.2.2 i.toNat (by omega)).1
     rw[ea]at this
     rw[this]at hx;cases hx
   · have:=(hr.2.2.2 i.toNat (by omega)).2
     rw[eb]at this
     rw[this]at hy;cases hy
   · repeat (refine And.intro rfl ?_)
     rw[i64_in _ (by omega)]
     refine ⟨⟨by omega,by omega,fun j hj => ?_⟩,by first|omega|(dsimp only;omega)⟩
     by_cases e:(j:Int)<i
     · exact hok j e
     · obtain rfl:j=i.toNat:=by omega
       rw[ea,eb]
       exact ⟨by simpa using hx,by simpa using hy⟩
 · rw[decide_eq_true ⟨by omega,by omega,by omega,fun j hj=>hok j (by omega)⟩]
def bls (L:List (List Bool)):List Mir.D:=L.map fun a => .sl 1 (blD a)
theorem bls_len (L:List (List Bool)):(bls L).length=L.length:=by simp[bls]
theorem bls_at {L:List (List Bool)} {i:Nat} (h:i<L.length):(bls L)[i]?=some (.sl 1 (blD L[i])):=by simp[bls,h]
theorem p125 (a:List Bool) (i:Int) (h0:0≤i):Runs Fs2 125 [.o (.sl 1 (blD a)),.n (.int .i64 i)] [] (.n (.bool (tr a i.toNat))) []:=by
 refine vc_eq fs125 rfl ?_
 rw[vc125,(V125e _ _ _).down,blD_len]
 refine sel_dec (fun h => ?_) (fun h => ?_)
 · have ia:i.toNat<a.length:=by omega
   exact ⟨rfl,h0,_,blD_at ia,_,rfl,by rw[tr_at ia]⟩
 · rw[tr_out (by omega)]
def h104 (i:Int):Heap:=[(12100401,.box [.n (.int .i64 i)])]
theorem p157 (a:List Bool) (i:Int) (h0:0≤i):Runs Fs2 157 [.o (.sl 1 (blD a)),.ptr 12100401 0] (h104 i) (.n (.bool (!(tr a i.toNat)))) (h104 i):=by
 refine vc_look fs157 rfl (by kernel_rfl) ?_
 rewrite[h104,vc157h,(V157he _ _ _).down]
 exact ⟨_,p125 a i h0,rfl,rfl⟩
theorem p158 (L:List (List Bool)) (hl:Small L.length) (i:Int) (h0:0≤i):∃r:Int,decide (r≥0)=L.any (fun a => !(tr a i.toNat))∧Runs Fs2 158 [.o (.sl 1 (bls L)),.fn 157 [.ptr 12100401 0]] (h104 i) (.n (.int .i64 r)) (h104 i):=by
 have key:∃r H',Runs Fs2 158 [.o (.sl 1 (bls L)),.fn 157 [.ptr 12100401 0]] (h104 i) r H'∧∃k:Int,r = .n (.int .i64 k)∧H'=h104 i∧decide (k≥0)=L.any (fun a => !(tr a i.toNat)):=by
  refine vc_objs (R:=fun r H'=>∃k:Int,r = .n (.int .i64 k)∧H'=h104 i∧decide (k≥0)=L.any (fun a => !(tr a i.toNat))) fs158 rfl (by kernel_rfl) ?_
  rw[h104,vc158h,(V158he _ _ _).down,bls_len]
  refine ⟨fun k=>0≤k∧k≤L.length∧∀(j:Nat) (h:j<L.length),(j:Int)<k→(!(tr L[j] i.toNat))=false,fun k=>(L.length - k).toNat,⟨rfl,by omega,by omega,fun j _ hj=>by omega⟩,?_⟩
  rintro k ⟨k0,k1,hok⟩ _
  refine sel_dec (fun h => ?_) (fun h=>⟨-1,rfl,rfl,?_⟩)
  · have hi:k.toNat<L.length:=by omega
    refine ⟨rfl,k0,_,bls_at hi,_,rfl,_,p157 _ i h0,sel_intro (fun hb=>⟨k,rfl,rfl,?_⟩) (fun hb => ?_)⟩
    · rw[decide_eq_true k0];exact (any_at (p:=fun a:List Bool => !(tr a i.toNat)) hi hb).symm
    · repeat (refine And.intro rfl ?_)
      rw[i64_in _ (by omega)]
      exact ⟨⟨by omega,by omega,step_up (p:=fun a:List Bool => !(tr a i.toNat)) k0 hi hb hok⟩,by first|omega|(dsimp only;omega)⟩
  · exact (any_up (p:=fun a:List Bool => !(tr a i.toNat)) k0 h hok).symm
 obtain ⟨r,H',hr,k,rfl,rfl,hk⟩:=key
 exact ⟨k,hk,hr⟩
theorem p123 (L:List (List Bool)) (hl:Small L.length) (i:Int) (h0:0≤i):Runs Fs2 123 [.o (.sl 1 (bls L)),.fn 157 [.ptr 12100401 0]] (h104 i) (.n (.bool (L.any fun a => !(tr a i.toNat)))) (h104 i):=by
 refine vc_look fs123 rfl (by kernel_rfl) ?_
 rewrite[h104,vc123h,(V123he _ _ _).down]
 obtain ⟨r,hr,h⟩:=p158 L hl i h0
 exact ⟨r,h,by rw[hr],rfl⟩
def longest (L:List (List Bool)):Nat:=L.foldl (fun n a=>max n a.length) 0
theorem longest_snoc (L:List (List Bool)) (a:List Bool):longest (L++[a])=max (longest L) a.length:=by simp[longest]
theorem mmI_max (a b:Nat):mmI true (a:Int) (b:Int)=(max a b:Nat):=by
 unfold mmI;simp only[if_true];split <;> omega
theorem p122 (L:List (List Bool)) (hl:Small L.length):Runs Fs2 122 [.o (.sl 1 (bls L))] [] (.n (.int .i64 (longest L))) []:=by
 refine vc_eq fs122 rfl ?_
 rw[vc122,(V122e _ _).down,bls_len]
 refine ⟨fun n k=>0≤k∧k≤L.length∧n=longest (L.take k.toNat),fun _ k=>(L.length - k).toNat,⟨rfl,by omega,by omega,rfl⟩,?_⟩
 rintro n k ⟨k0,k1,rfl⟩ _
 refine sel_dec (fun h => ?_) (fun h => ?_)
 · have hi:k.toNat<L.length:=by omega
   refine ⟨rfl,k0,_,bls_at hi,_,rfl,?_⟩
   repeat (refine And.intro rfl ?_)
   rw[i64_in _ (by omega),blD_len,mmI_max]
   refine ⟨⟨by omega,by omega,?_⟩,by first|omega|(dsimp only;omega)⟩
   rw[show (k+1).toNat=k.toNat+1 by omega,take_snoc hi,longest_snoc]
 · rw[List.take_of_length_le (by omega)]
def countUp (L:List (List Bool)):Nat→Nat
 | 0=>0
 | i+1=>countUp L i+if L.any (fun a => !(tr a i)) then 0 else 1
theorem countUp_le (L:List (List Bool)):∀i,countUp L i≤i
 | 0=>Nat.le_refl _
 | i+1=>by
   have:=countUp_le L i
   unfold countUp
   split <;> omega
theorem countUp_all (L:List (List Bool)):∀i,countUp L i=i ↔ ∀j,j<i→L.any (fun a => !(tr a j))=false
 | 0=>⟨fun _ j h=>by omega,fun _=>rfl⟩
 | i+1=>by
   have h1:=countUp_le L i
   have h2:=countUp_all L i
   unfold countUp
   constructor
   · intro h j hj
     cases hq:L.any (fun a => !(tr a i)) with
     | true=>rw[hq]at h;simp at h;omega
     | false=>
       rw[hq]at h
       simp at h
       by_cases e:j=i
       · subst e;exact hq
       · exact (h2.1 h) j (by omega)
   · intro h
     rw[h i (by omega),h2.2 fun j hj=>h j (by omega)]
     simp
theorem p121 (L:List (List Bool)) (hl:Small L.length) (hL:longest L≤2048):Runs Fs2 121 [.o (.sl 1 (bls L))] [] (.n (.int .i64 (countUp L (longest L)))) []:=by
 refine vc_eq fs121 rfl ?_
 rw[vc121,V121]
 refine ⟨_,p122 L hl,fun n i=>0≤i∧i≤longest L∧n=countUp L i.toNat,fun _ i=>(longest L - i).toNat,⟨rfl,by omega,by omega,rfl⟩,?_⟩
 rintro n i ⟨h0,h1,rfl⟩ _
 have hc:=countUp_le L i.toNat
 refine sel_dec (fun h => ?_) (fun h=>by rw[show i.toNat=longest L by omega])
 have e1:(i+1).toNat=i.toNat+1:=by omega
 refine ⟨_,p123 L hl i h0,sel_intro (fun hb => ?_) (fun hb => ?_)⟩
 · repeat (refine And.intro rfl ?_)
   rw[i64_in (_+1) (by omega),i64_in (i+1) (by omega)]
   refine ⟨⟨by omega,by omega,?_⟩,by first|omega|(dsimp only;omega)⟩
   rw[e1,countUp,if_neg (by simpa using hb)];rfl
 · repeat (refine And.intro rfl ?_)
   rw[i64_in (i+1) (by omega)]
   refine ⟨⟨by omega,by omega,?_⟩,by first|omega|(dsimp only;omega)⟩
   rw[e1,countUp,if_pos (by simpa using hb)];rfl
theorem blD_take (l:List Bool) (n:Nat):List.drop 0 (List.take n (blD l))=blD (l.take n):=by simp[blD,List.map_take]
theorem tr_take {l:List Bool} {n i:Nat} (h:i<n):tr (l.take n) i=tr l i:=by unfold tr;rw[List.getElem?_take_of_lt h]
theorem p75 (a b:List Bool) (ha:Small a.length) (hb:Small b.length):Runs Fs2 75 [alV a b] [] (.n (.bool (decide (ARight a b)))) []:=by
 refine vc_eq fs75 rfl ?_
 rw[alV,vc75,(V75e _ _ _).down,blD_len,blD_len]
 refine sel_intro (fun h=>no_ar (by have:=of_decide_eq_true (show decide ((a.length:Int)≠b.length)=true by simpa using h);unfold ARight;omega)) (fun h => ?_)
 have hl:(a.length:Int)=b.length:=by simpa using h
 refine sel_dec (fun h=>no_ar (by unfold ARight;omega)) (fun h1=>sel_dec (fun h=>no_ar (by unfold ARight;omega)) (fun h2 => ?_))
 rw[show Int.toNat 10=10 from rfl,blD_take,blD_take]
 have g:=p121 [a.take 10,b.take 10] (by simp) (by simp[longest];omega)
 have hlg:longest [a.take 10,b.take 10]=10:=by simp[longest];omega
 rw[hlg]at g
 refine ⟨rfl,by decide,by omega,rfl,by decide,by omega,rfl,_,g,?_⟩
 congr 2
 refine Bool.eq_iff_iff.2 ⟨fun h => ?_,fun h => ?_⟩
 · have hc:countUp [a.take 10,b.take 10] 10=10:=by have:=nat_eq h;omega
   have:=(countUp_all _ 10).1 hc
   refine decide_eq_true ⟨by omega,by omega,by omega,fun j hj => ?_⟩
   have h3:=this j hj
   simp only[List.any_cons,List.any_nil,Bool.or_false,Bool.or_eq_false_iff,Bool.not_eq_false',tr_take hj]at h3
   exact h3
 · have hr:=of_decide_eq_true h
   have:countUp [a.take 10,b.take 10] 10=10:=(countUp_all _ 10).2 fun j hj=>by
    obtain ⟨h3,h4⟩:=hr.2.2.2 j hj
    simp only[List.any_cons,List.any_nil,Bool.or_false,tr_take hj,h3,h4]
    rfl
   rw[this];rfl
def WRight (w:Wd):Prop:=ARight w.base w.now∧w.pages.length=w.now.length∧1≤w.gen∧w.gen≤1099511627776∧(w.root=0∨(10≤w.root∧w.root<w.now.length))∧∀s∈w.pages,s.size≤4096
noncomputable instance (w:Wd):Decidable (WRight w):=Classical.propDecidable _
theorem no_wr {w:Wd} (h:¬WRight w):AV.n (D.bool false) = .n (.bool (decide (WRight w))):=by rw[decide_eq_false h]
theorem p67 (w:Wd) (hf:WFits w):Runs Fs2 67 [wdV w] [] (.n (.bool (decide (WRight w)))) []:=by
 refine vc_eq fs67 rfl ?_
 rw[wdV,vc67,(V67e _ _ _ _ _ _).down,blD_len,sl_len]
 refine ⟨_,p75 w.base w.now hf.b hf.n,?_⟩
 by_cases ha:ARight w.base w.now
 · rw[decide_eq_true ha]
   refine sel_intro (fun h=>by cases h) (fun _ => ?_)
   refine sel_intro (fun h=>no_wr fun hr => ?_) (fun hp => ?_)
   · have h1:=hr.2.1
     have:(w.pages.length:Int)≠w.now.length:=by simpa using h
     omega
   have hp:(w.pages.length:Int)=w.now.length:=by simpa using hp
   refine sel_dec (fun h=>no_wr (by unfold WRight;omega)) (fun h1=>sel_dec (fun h=>no_wr (by unfold WRight;omega)) (fun h2 => ?_))
   have last:(w.root=0∨(10≤w.root∧w.root<w.now.length))→∃x:Bool,Runs Fs2 111 [.o (.sl 1 (sl_ w.pages)),.fn 112 []] [] (.n (.bool x)) []∧AV.n (D.bool (!x)) = .n (.bool (decide (WRight w))):=fun hr=>by
     refine ⟨_,p111p w.pages hf.p,?_⟩
     congr 2
     refine Bool.eq_iff_iff.2 ⟨fun h => ?_,fun h => ?_⟩
     · refine decide_eq_true ⟨ha,by omega,by omega,by omega,hr,fun s hs => ?_⟩
       have h3:(w.pages.any fun s=>decide ((s.size:Int) > 4096))=false:=by simpa using h
       have:=List.any_eq_false.1 h3 s hs
       have:¬(s.size:Int) > 4096:=by simpa using this
       omega
     · have h3:=(of_decide_eq_true h).2.2.2.2.2
       have:(w.pages.any fun s=>decide ((s.size:Int) > 4096))=false:=List.any_eq_false.2 fun s hs=>by
        have:=h3 s hs
        simp;omega
       rw[this];rfl
   refine sel_intro (fun h => ?_) (fun h=>last (.inl (by simpa using h)))
   have hr0:w.root≠0:=by simpa using h
   refine sel_dec (fun h=>no_wr (by unfold WRight;omega)) (fun h3=>sel_dec (fun h=>no_wr (by unfold WRight;omega)) (fun h4=>last (.inr (by omega))))
 · rw[decide_eq_false ha]
   exact sel_intro (fun _=>no_wr fun hr=>ha hr.1) (fun h=>by cases h)
theorem p69 (w:Wd) (hf:WFits w):Runs Fs2 69 [wdV w] [] (.n (.bool (decide (WRight w)))) []:=by
 refine vc_eq fs69 rfl ?_
 rw[wdV,vc69,(V69e _ _ _ _ _ _).down,blD_len,sl_len]
 refine ⟨_,p113 w.base w.now hf.b hf.n,?_⟩
 by_cases ha:ARight w.base w.now
 · rw[decide_eq_true ha]
   refine sel_intro (fun h=>by cases h) (fun _ => ?_)
   refine sel_intro (fun h=>no_wr fun hr => ?_) (fun hp => ?_)
   · have h1:=hr.2.1
     have:(w.pages.length:Int)≠w.now.length:=by simpa using h
     omega
   have hp:(w.pages.length:Int)=w.now.length:=by simpa using hp
   refine sel_dec (fun h=>no_wr (by unfold WRight;omega)) (fun h1=>sel_dec (fun h=>no_wr (by unfold WRight;omega)) (fun h2 => ?_))
   refine ⟨fun i=>0≤i∧i≤w.pages.length∧∀(j:Nat) (h:j<w.pages.length),(j:Int)<i→w.pages[j].size≤4096,fun i=>(w.pages.length - i).toNat,⟨rfl,by omega,by omega,fun j _ h=>by omega⟩,?_⟩
   rintro i ⟨h0,h3,hs⟩ _
   have hfp:=hf.p
   refine sel_dec (fun hlt => ?_) (fun hge => ?_)
   · have hi:i.toNat<w.pages.length:=by omega
     refine ⟨rfl,h0,_,sl_at hi,_,rfl,sel_dec (fun h=>no_wr fun hr => ?_) (fun h => ?_)⟩
     · have:=hr.2.2.2.2.2 _ (List.getElem_mem hi);omega
     · repeat (refine And.intro rfl ?_)
       rw[i64_in _ (by omega)]
       refine ⟨⟨by omega,by omega,fun j hj hji => ?_⟩,by first|omega|(dsimp only;omega)⟩
       by_cases e:(j:Int)<i
       · exact hs j hj e
       · obtain rfl:j=i.toNat:=by omega
         omega
   · have hs':∀s∈w.pages,s.size≤4096:=fun s hm=>by
       obtain ⟨j,hj,rfl⟩:=List.getElem_of_mem hm
       exact hs j hj (by omega)
     refine sel_intro (fun h => ?_) (fun h => ?_)
     · rw[decide_eq_true (p:=WRight w) ⟨ha,by omega,by omega,by omega,.inl (by simpa using h),hs'⟩]
     · have hr0:w.root≠0:=by simpa using h
       refine sel_dec (fun h3 => ?_) (fun h3=>no_wr (by unfold WRight;omega))
       congr 2
       simp only[decide_eq_decide]
       exact ⟨fun h=>⟨ha,by omega,by omega,by omega,.inr ⟨by omega,h⟩,hs'⟩,fun h=>by
         rcases h.2.2.2.2.1 with h|h
         · exact absurd h hr0
         · exact h.2⟩
 · rw[decide_eq_false ha]
   exact sel_intro (fun _=>no_wr fun hr=>ha hr.1) (fun h=>by cases h)
theorem nFin_cases (s:ByteArray) (n:Nd) (a:Int):nFin s n a=(nd0,4)∨(nFin s n a=(n,0)∧NdOK n true):=by
 unfold nFin
 by_cases hc:a≠s.size∨¬NdOK n true
 · rw[if_pos hc];exact .inl rfl
 · rw[if_neg hc];exact .inr ⟨rfl,Classical.byContradiction fun h2=>hc (.inr h2)⟩
theorem lf_err {s:ByteArray}:∀(m:Nat) (a:Int) (ks vs:List ByteArray) (e:Int),lfUp s m a ks vs = .inl e→e≠0
 | 0,a,ks,vs,e,h=>by simp[lfUp]at h
 | m+1,a,ks,vs,e,h=>by
   unfold lfUp at h
   split at h
   · rename_i h1;simp only[Sum.inl.injEq]at h;rw[←h];exact h1
   split at h
   · rename_i h1;simp only[Sum.inl.injEq]at h;rw[←h];exact h1
   · exact lf_err m _ _ _ e h
theorem in_err {s:ByteArray}:∀(m:Nat) (a:Int) (bs:List Int) (ks:List ByteArray) (e:Int),inUp s m a bs ks = .inl e→e≠0
 | 0,a,bs,ks,e,h=>by simp[inUp]at h
 | m+1,a,bs,ks,e,h=>by
   unfold inUp at h
   split at h
   · rename_i h1;simp only[Sum.inl.injEq]at h;rw[←h];exact h1
   split at h
   · rename_i h1;simp only[Sum.inl.injEq]at h;rw[←h];exact h1
   · exact in_err m _ _ _ e h
theorem nget_cases (k:Int) (s:ByteArray):((NGet k s).2=0∧NdOK (NGet k s).1 true∧(k=1∨k=2)∧(NGet k s).1.leaf=(k==1))∨((NGet k s).2≠0∧(NGet k s).1=nd0):=by
 unfold NGet
 by_cases h1:k≠1∧k≠2
 · rw[if_pos h1];exact .inr ⟨by simp,rfl⟩
 rw[if_neg h1]
 by_cases h2:(gT s 0 1).2.2≠0
 · rw[if_pos h2];exact .inr ⟨h2,rfl⟩
 rw[if_neg h2]
 have hk:k=1∨k=2:=by omega
 cases hl:(k==1) with
 | true=>
   rw[nc_true]
   cases hu:lfUp s (gT s 0 1).1.toNat (gT s 0 1).2.1 [] [] with
   | inl e=>exact .inr ⟨lf_err _ _ _ _ _ hu,rfl⟩
   | inr x=>
     obtain ⟨ks,vs,a⟩:=x
     dsimp only
     rcases nFin_cases s ⟨true,ks,vs,[]⟩ a with h|⟨h,hok⟩
     · rw[h];exact .inr ⟨by simp,rfl⟩
     · rw[h];exact .inl ⟨rfl,hok,hk,rfl⟩
 | false=>
   rw[nc_false]
   cases hu:inUp s (gT s 0 1).1.toNat (gT s 0 1).2.1 [] [] with
   | inl e=>exact .inr ⟨in_err _ _ _ _ _ hu,rfl⟩
   | inr x=>
     obtain ⟨bs,ks,a⟩:=x
     dsimp only
     split
     · rename_i h;exact .inr ⟨h,rfl⟩
     · rcases nFin_cases s ⟨false,ks,[],bs++[(gT s a 2).1]⟩ (gT s a 2).2.1 with h|⟨h,hok⟩
       · rw[h];exact .inr ⟨by simp,rfl⟩
       · rw[h];exact .inl ⟨rfl,hok,hk,rfl⟩
theorem nget_ok {k:Int} {s:ByteArray} (h:(NGet k s).2=0):NdOK (NGet k s).1 true∧(NGet k s).1.leaf=(k==1):=by
 rcases nget_cases k s with ⟨_,h1,_,h2⟩|⟨h1,_⟩
 · exact ⟨h1,h2⟩
 · exact absurd h h1
theorem ndOK_fits {n:Nd} {root:Bool} (h:NdOK n root):NdFits n∧n.keys.length≤8∧n.vals.length≤8∧n.kids.length≤9:=by
 obtain ⟨hs,h8,_⟩:=h
 rcases hs.2.2 with ⟨_,h1,h2,_⟩|⟨_,h1,_,h2,_⟩
 · rw[NdFits,h1];simp;omega
 · rw[NdFits,h1];simp;omega
noncomputable def hPage (p:AV) (gen:Int) (root:Bool):Option Nd:=
 match p with
 | .tup [.agg [.n (.int _ k),.n (.int _ g),.n (.str b)],.n (.int _ e)]=>
   if e≠0 then none else if g > gen then none else if (NGet k b).2≠0 then none else if NdOK (NGet k b).1 root then some (NGet k b).1 else none
 | _=>none
theorem hPage_err {e:Int} (he:e≠0) (gen:Int) (root:Bool):hPage (pErr e) gen root=none:=by
 simp only[hPage,pErr,pg,if_pos he]
theorem hPage_ok (k g:Int) (b:ByteArray) (gen:Int) (root:Bool):hPage (.tup [pg k g b,.n (.int .i64 0)]) gen root=if g > gen then none else if (NGet k b).2≠0 then none else if NdOK (NGet k b).1 root then some (NGet k b).1 else none:=by
 simp only[hPage,pg];rw[if_neg (by simp)]
def pgAt (w:Wd) (block:Int):ByteArray:=(w.pages[block.toNat]?).getD empS
noncomputable def Hold (w:Wd) (block:Int) (root:Bool):Option Nd:=
 if block<10∨block≥w.now.length∨block≥w.pages.length∨tr w.now block.toNat=false then none else hPage (GetPR (pgAt w block)) w.gen root
def hVN:Option Nd→AV
 | some n => .tup [ndN n,.n (.bool true)]
 | none => .tup [ndN nd0,.n (.bool false)]
def hV:Option Nd→AV
 | some n => .tup [ndV n,.n (.bool true)]
 | none => .tup [ndV nd0,.n (.bool false)]
theorem hold_no {w:Wd} {block:Int} {root:Bool} (h:block<10∨block≥w.now.length∨block≥w.pages.length∨tr w.now block.toNat=false):Hold w block root=none:=by rw[Hold,if_pos h]
theorem hold_go {w:Wd} {block:Int} {root:Bool} (h:¬(block<10∨block≥w.now.length∨block≥w.pages.length∨tr w.now block.toNat=false)):Hold w block root=hPage (GetPR (pgAt w block)) w.gen root:=by rw[Hold,if_neg h]
theorem kind_out {k:Int} (h:k∉[(1:Int),2]) (b:ByteArray):(NGet k b).2≠0:=by
 rw[NGet,if_pos (by simp at h;omega)];simp
theorem pgAt_get {w:Wd} {block:Int} (h:block.toNat<w.pages.length):w.pages[block.toNat]=pgAt w block:=by
 unfold pgAt;rw[List.getElem?_eq_getElem h];rfl
theorem p117 (w:Wd) (hf:WFits w) (block:Int) (root:Bool):Runs Fs2 117 [wdV w,.n (.int .i64 block),.n (.bool root)] [] (hV (Hold w block root)) []:=by
 refine vc_eq fs117 rfl ?_
 rw[wdV,vc117,(V117e _ _ _ _ _ _ _ _).down,blD_len,sl_len]
 refine sel_dec (fun h=>by rw[hold_no (.inl h)];rfl) (fun h1=>sel_dec (fun h=>by rw[hold_no (.inr (.inl h))];rfl) (fun h2=>sel_dec (fun h=>by rw[hold_no (.inr (.inr (.inl h)))];rfl) (fun h3 => ?_)))
 have hi:block.toNat<w.now.length:=by omega
 have hj:block.toNat<w.pages.length:=by omega
 refine ⟨rfl,by omega,_,blD_at hi,_,rfl,?_⟩
 rw[←tr_at hi]
 refine sel_intro (fun h=>by rw[hold_no (.inr (.inr (.inr (by simpa using h))))];rfl) (fun h4 => ?_)
 have h4:tr w.now block.toNat=true:=by simpa using h4
 rw[hold_go (by rw[h4];simp;omega)]
 refine ⟨rfl,by omega,_,sl_at hj,_,rfl,?_⟩
 rw[pgAt_get hj]
 have hsz:Small (pgAt w block).size:=by rw[←pgAt_get hj];exact hf.s _ (List.getElem_mem hj)
 have h55:=(p95 _ hsz).up up2
 rcases getP_cases (pgAt w block) with ⟨e,he,h⟩|⟨k,g,b,h,hok,_⟩
 · rw[h]at h55
   rw[h,hPage_err he]
   exact ⟨_,_,_,_,h55,sel_intro (fun _=>rfl) (fun h=>absurd (by simpa using h) he)⟩
 · rw[h]at h55
   rw[h,hPage_ok]
   refine ⟨_,_,_,_,h55,sel_intro (fun h=>by cases h) (fun _=>sel_dec (fun hg=>by rw[if_pos hg];rfl) (fun hg => ?_))⟩
   rw[if_neg hg]
   obtain ⟨_,_,_,_,hb⟩:=hok
   have g2:=p153 k b (by omega)
   refine ⟨_,_,_,_,_,g2,sel_intro (fun he=>by rw[if_pos (by simpa using he)];rfl) (fun he => ?_)⟩
   have he:(NGet k b).2=0:=by simpa using he
   rw[if_neg (by rw[he];simp)]
   have hok2:=(nget_ok he).1
   refine ⟨_,p154 (NGet k b).1 root (ndOK_fits hok2).1,?_⟩
   by_cases hn:NdOK (NGet k b).1 root
   · rw[decide_eq_true hn,if_pos hn];rfl
   · rw[decide_eq_false hn,if_neg hn];rfl
def h68b (w:Wd):Heap:=[(17100302,.box [.o (.sl 1 (blD w.base)),.o (.sl 1 (blD w.now)),.o (.sl 1 (sl_ w.pages)),.n (.int .i64 w.root),.n (.int .i64 w.gen),.n (.str (ByteArray.mk (List.toArray []))),.n (.int .i64 0),.n (.int .i64 0),.n .nil,.n (.str (ByteArray.mk (List.toArray []))),.n (.bool false),.n (.bool false)])]
theorem p194b (w:Wd) (hf:WFits w) (hp:w.pages.length=w.now.length) (block:Int) (root:Bool):Runs Fs2 194 [.ptr 17100302 0,.n (.int .i64 block),.n (.bool root)] (h68b w) (hVN (Hold w block root)) (h68b w):=by
 refine vc_look fs194 rfl (by kernel_rfl) ?_
 rw[h68b,vc194b,(V194be _ _ _ _ _ _ _ _).down,blD_len]
 refine sel_dec (fun h=>by rw[hold_no (.inl h)];exact ⟨rfl,rfl⟩) (fun h1=>sel_dec (fun h=>by rw[hold_no (.inr (.inl h))];exact ⟨rfl,rfl⟩) (fun h2 => ?_))
 have hi:block.toNat<w.now.length:=by omega
 have hj:block.toNat<w.pages.length:=by omega
 refine ⟨rfl,by omega,_,blD_at hi,_,rfl,?_⟩
 rw[←tr_at hi]
 refine sel_intro (fun h=>by rw[hold_no (.inr (.inr (.inr (by simpa using h))))];exact ⟨rfl,rfl⟩) (fun h4 => ?_)
 have h4:tr w.now block.toNat=true:=by simpa using h4
 rw[hold_go (by rw[h4];simp;omega)]
 refine ⟨rfl,by omega,_,sl_at hj,_,rfl,?_⟩
 rw[pgAt_get hj]
 have hsz:Small (pgAt w block).size:=by rw[←pgAt_get hj];exact hf.s _ (List.getElem_mem hj)
 refine ⟨rfl,?_⟩
 rcases getP_cases (pgAt w block) with ⟨e,he,h⟩|⟨k,g,b,h,hok,_⟩
 · have g1:=(p90_err _ hsz [1,2] e he h).up up2
   rw[h,hPage_err he]
   exact ⟨_,_,_,_,g1,sel_intro (fun _=>⟨rfl,rfl⟩) (fun h=>absurd (by simpa using h) he)⟩
 · have h53:=(p90_ok _ hsz [1,2] (by simp) k g b h).up up2
   rw[h,hPage_ok]
   by_cases hk:k∈[(1:Int),2]
   · rw[if_pos hk]at h53
     refine ⟨_,_,_,_,h53,sel_intro (fun h=>by cases h) (fun _=>sel_dec (fun hg=>by rw[if_pos hg];exact ⟨rfl,rfl⟩) (fun hg => ?_))⟩
     rw[if_neg hg]
     obtain ⟨_,_,_,_,hb⟩:=hok
     have g2:=p217 k b (by omega)
     refine ⟨_,_,_,_,_,g2,sel_intro (fun he=>by rw[if_pos (by simpa using he)];exact ⟨rfl,rfl⟩) (fun he => ?_)⟩
     have he:(NGet k b).2=0:=by simpa using he
     rw[if_neg (by rw[he];simp)]
     have hok2:=(nget_ok he).1
     refine ⟨_,p195 (NGet k b).1 root (ndOK_fits hok2).1,?_⟩
     by_cases hn:NdOK (NGet k b).1 root
     · rw[decide_eq_true hn,if_pos hn];exact ⟨rfl,rfl⟩
     · rw[decide_eq_false hn,if_neg hn];exact ⟨rfl,rfl⟩
   · rw[if_neg hk]at h53
     have hno:=kind_out hk b
     refine ⟨_,_,_,_,h53,sel_intro (fun _ => ?_) (fun h=>by cases h)⟩
     have:(if g > w.gen then none else if (NGet k b).2≠0 then none else if NdOK (NGet k b).1 root then some (NGet k b).1 else none)=(none:Option Nd):=by
       split
       · rfl
       · first | rfl|rw[if_pos hno]
     rw[this];exact ⟨rfl,rfl⟩
noncomputable def LoadR (w:Wd) (block:Int) (root:Bool):Nd×Int:=if WRight w then match Hold w block root with|some n=>(n,0)|none=>(nd0,81) else (nd0,1)
theorem p171 (w:Wd) (hf:WFits w) (block:Int) (root:Bool):Runs Fs2 171 [wdV w,.n (.int .i64 block),.n (.bool root)] [] (nduN (LoadR w block root)) []:=by
 have g41:=p67 w hf
 refine vc_eq fs171 rfl ?_
 rw[wdV,vc171,(V171e _ _ _ _ _ _ _ _).down]
 by_cases hr:WRight w
 · rw[decide_eq_true hr]at g41
   have g68:=p194b w hf hr.2.1 block root
   refine ⟨_,g41,sel_intro (fun h=>by cases h) (fun _ => ?_)⟩
   rw[LoadR,if_pos hr]
   cases hh:Hold w block root with
   | none=>
     rw[hh]at g68
     exact ⟨_,_,_,_,_,_,_,_,_,_,_,_,_,_,_,_,g68,sel_intro (fun _=>rfl) (fun h=>by cases h)⟩
   | some n=>
     rw[hh]at g68
     exact ⟨_,_,_,_,_,_,_,_,_,_,_,_,_,_,_,_,g68,sel_intro (fun h=>by cases h) (fun _=>rfl)⟩
 · rw[decide_eq_false hr]at g41
   refine ⟨_,g41,sel_intro (fun _ => ?_) (fun h=>by cases h)⟩
   rw[LoadR,if_neg hr];rfl
theorem blD_snoc (l:List Bool) (b:Bool):blD l++[D.bool b]=blD (l++[b]):=by simp[blD]
theorem hold_ok {w:Wd} {block:Int} {root:Bool} {n:Nd} (h:Hold w block root=some n):NdOK n root:=by
 unfold Hold at h
 split at h
 · cases h
 · rcases getP_cases (pgAt w block) with ⟨e,he,h'⟩|⟨k,g,b,h',_⟩
   · rw[h',hPage_err he]at h;cases h
   · rw[h',hPage_ok]at h
     split at h
     · cases h
     split at h
     · cases h
     split at h
     · rename_i hk
       simp only[Option.some.injEq]at h
       rw[←h];exact hk
     · cases h
theorem sl_rep (n:Nat):List.replicate n (D.str (ByteArray.mk (List.toArray [])))=sl_ (List.replicate n empS):=by simp[sl_,empS]
abbrev Pr:=ByteArray×ByteArray
abbrev Hd:=Int→Bool→Option Nd
def HOK (H:Hd):Prop:=∀b r n,H b r=some n→NdOK n r
theorem hold_hok (w:Wd):HOK (Hold w):=fun _ _ _ h=>hold_ok h
def within (k lo hi:ByteArray):Bool := !(lt k lo)&&(decide (hi=empS)||lt k hi)
theorem within_iff {k lo hi:ByteArray}:within k lo hi=true ↔ lt k lo=false∧(hi=empS∨lt k hi=true):=by
 unfold within
 simp only[Bool.and_eq_true,Bool.not_eq_true',Bool.or_eq_true,decide_eq_true_eq]
def KTr (R:Int→ByteArray→ByteArray→List Pr→List Int→Prop):ByteArray→ByteArray→List ByteArray→List Int→List Pr→List Int→Prop
 | lo,hi,[],[c],P,B=>R c lo hi P B
 | lo,hi,k :: ks,c :: cs,P,B=>∃P1 B1 P2 B2,R c lo k P1 B1∧KTr R k hi ks cs P2 B2∧P=P1++P2∧B=B1++B2
 | _,_,_,_,_,_=>False
def Tr (H:Hd):Nat→Int→Bool→ByteArray→ByteArray→List Pr→List Int→Prop
 | 0,_,_,_,_,_,_=>False
 | h+1,b,root,lo,hi,P,B=>∃n,H b root=some n∧(∀k∈n.keys,within k lo hi=true) ∧
    ((n.leaf=true∧h=0∧n.keys≠[]∧P=n.keys.zip n.vals∧B=[b]) ∨
     (n.leaf=false∧∃B',B=b :: B'∧KTr (fun c lo hi P B=>Tr H h c false lo hi P B) lo hi n.keys n.kids P B'))
theorem KTr.mono {R S:Int→ByteArray→ByteArray→List Pr→List Int→Prop}:∀ {ks:List ByteArray} {cs:List Int} {lo hi:ByteArray} {P:List Pr} {B:List Int},
   (∀c lo hi P B',(∀x∈B',x∈B)→R c lo hi P B'→S c lo hi P B')→KTr R lo hi ks cs P B→KTr S lo hi ks cs P B
 | [],[],_,_,_,_,_,h=>h
 | [],[c],lo,hi,P,B,m,h=>m c lo hi P B (fun _ h=>h) h
 | [],_ :: _ :: _,_,_,_,_,_,h=>h
 | _ :: _,[],_,_,_,_,_,h=>h
 | k :: ks,c :: cs,lo,hi,P,B,m,h=>by
   obtain ⟨P1,B1,P2,B2,h1,h2,rfl,rfl⟩:=h
   exact ⟨P1,B1,P2,B2,m _ _ _ _ _ (fun x hx=>List.mem_append_left _ hx) h1,KTr.mono (fun c lo hi P B' hB h=>m c lo hi P B' (fun x hx=>List.mem_append_right _ (hB x hx)) h) h2,rfl,rfl⟩
theorem Tr.frame {H G:Hd}:∀ {h:Nat} {b:Int} {root:Bool} {lo hi:ByteArray} {P:List Pr} {B:List Int},
   (∀x∈B,∀r n,H x r=some n→G x r=some n)→Tr H h b root lo hi P B→Tr G h b root lo hi P B
 | 0,_,_,_,_,_,_,_,h=>h
 | h+1,b,root,lo,hi,P,B,f,ht=>by
   obtain ⟨n,hn,hk,hh⟩:=ht
   rcases hh with ⟨h1,h2,h3,h4,rfl⟩|⟨h1,B',rfl,h2⟩
   · exact ⟨n,f b (by simp) _ _ hn,hk,.inl ⟨h1,h2,h3,h4,rfl⟩⟩
   · refine ⟨n,f b (by simp) _ _ hn,hk,.inr ⟨h1,B',rfl,KTr.mono (fun c lo hi P B'' hB hc=>Tr.frame (fun x hx=>f x (List.mem_cons_of_mem _ (hB x hx))) hc) h2⟩⟩
theorem KTr.one {R S:Int→ByteArray→ByteArray→List Pr→List Int→Prop} (m:∀c lo hi lo' hi' P B P' B',R c lo hi P B→S c lo' hi' P' B'→P=P'∧B=B'):∀ {ks:List ByteArray} {cs:List Int} {lo hi lo' hi':ByteArray} {P P':List Pr} {B B':List Int},
   KTr R lo hi ks cs P B→KTr S lo' hi' ks cs P' B'→P=P'∧B=B'
 | [],[],_,_,_,_,_,_,_,_,h,_=>h.elim
 | [],[c],lo,hi,_,_,P,P',B,B',h,h'=>m _ _ _ _ _ _ _ _ _ h h'
 | [],_ :: _ :: _,_,_,_,_,_,_,_,_,h,_=>h.elim
 | _ :: _,[],_,_,_,_,_,_,_,_,h,_=>h.elim
 | k :: ks,c :: cs,lo,hi,_,_,P,P',B,B',h,h'=>by
   obtain ⟨P1,B1,P2,B2,h1,h2,rfl,rfl⟩:=h
   obtain ⟨Q1,C1,Q2,C2,g1,g2,rfl,rfl⟩:=h'
   obtain ⟨rfl,rfl⟩:=m _ _ _ _ _ _ _ _ _ h1 g1
   obtain ⟨rfl,rfl⟩:=KTr.one m h2 g2
   exact ⟨rfl,rfl⟩
theorem Tr.one {H:Hd}:∀ {h h':Nat} {b:Int} {root:Bool} {lo hi lo' hi':ByteArray} {P P':List Pr} {B B':List Int},
   Tr H h b root lo hi P B→Tr H h' b root lo' hi' P' B'→P=P'∧B=B'
 | 0,_,_,_,_,_,_,_,_,_,_,_,h,_=>h.elim
 | _,0,_,_,_,_,_,_,_,_,_,_,_,h=>h.elim
 | h+1,h'+1,b,root,lo,hi,lo',hi',P,P',B,B',ht,ht'=>by
   obtain ⟨n,hn,_,hh⟩:=ht
   obtain ⟨n',hn',_,hh'⟩:=ht'
   rw[hn]at hn'
   obtain rfl:n=n':=by simpa using hn'
   rcases hh with ⟨h1,h2,h3,rfl,rfl⟩|⟨h1,C,rfl,h2⟩
   · rcases hh' with ⟨_,_,_,rfl,rfl⟩|⟨g1,_⟩
     · exact ⟨rfl,rfl⟩
     · rw[h1]at g1;cases g1
   · rcases hh' with ⟨g1,_⟩|⟨_,C',rfl,g2⟩
     · rw[h1]at g1;cases g1
     · obtain ⟨rfl,rfl⟩:=KTr.one (R:=fun c lo hi P B=>Tr H h c false lo hi P B) (S:=fun c lo hi P B=>Tr H h' c false lo hi P B) (fun c lo hi lo' hi' P B P' B' x y=>Tr.one x y) h2 g2
       exact ⟨rfl,rfl⟩
theorem KTr.mem {R:Int→ByteArray→ByteArray→List Pr→List Int→Prop} {Q:Int→Prop} (m:∀c lo hi P B,R c lo hi P B→∀x∈B,Q x):∀ {ks:List ByteArray} {cs:List Int} {lo hi:ByteArray} {P:List Pr} {B:List Int},
   KTr R lo hi ks cs P B→∀x∈B,Q x
 | [],[],_,_,_,_,h=>h.elim
 | [],[c],lo,hi,P,B,h=>m _ _ _ _ _ h
 | [],_ :: _ :: _,_,_,_,_,h=>h.elim
 | _ :: _,[],_,_,_,_,h=>h.elim
 | k :: ks,c :: cs,lo,hi,P,B,h=>by
   obtain ⟨P1,B1,P2,B2,h1,h2,rfl,rfl⟩:=h
   intro x hx
   rcases List.mem_append.1 hx with hx|hx
   · exact m _ _ _ _ _ h1 x hx
   · exact KTr.mem m h2 x hx
theorem Tr.held {H:Hd}:∀ {h:Nat} {b:Int} {root:Bool} {lo hi:ByteArray} {P:List Pr} {B:List Int},
   Tr H h b root lo hi P B→∀x∈B,∃r n,H x r=some n
 | 0,_,_,_,_,_,_,h=>h.elim
 | h+1,b,root,lo,hi,P,B,ht=>by
   obtain ⟨n,hn,_,hh⟩:=ht
   intro x hx
   rcases hh with ⟨_,_,_,_,rfl⟩|⟨_,C,rfl,h2⟩
   · obtain rfl:x=b:=by simpa using hx
     exact ⟨_,_,hn⟩
   · rcases List.mem_cons.1 hx with rfl|hx
     · exact ⟨_,_,hn⟩
     · exact KTr.mem (Q:=fun x=>∃r n,H x r=some n) (fun c lo hi P B hc=>Tr.held hc) h2 x hx
theorem Tr.root_mem {H:Hd} {h:Nat} {b:Int} {root:Bool} {lo hi:ByteArray} {P:List Pr} {B:List Int} (ht:Tr H h b root lo hi P B):b∈B:=by
 cases h with
 | zero=>exact ht.elim
 | succ h=>
   obtain ⟨n,_,_,⟨_,_,_,_,rfl⟩|⟨_,C,rfl,_⟩⟩:=ht
   · simp
   · simp
theorem within_low {k a b c:ByteArray} (h:within k b c=true) (hab:lt b a=false):within k a c=true:=by
 obtain ⟨h1,h2⟩:=within_iff.1 h
 refine within_iff.2 ⟨?_,h2⟩
 rcases nlt_iff.1 hab with rfl|hab
 · exact h1
 · rcases nlt_iff.1 h1 with rfl|h1
   · exact lt_asym hab
   · exact lt_asym (lt_trans hab h1)
theorem within_high {k lo a hi:ByteArray} (h:within k lo a=true) (ha:a≠empS) (hah:within a lo hi=true):within k lo hi=true:=by
 obtain ⟨h1,h2⟩:=within_iff.1 h
 obtain ⟨_,g2⟩:=within_iff.1 hah
 refine within_iff.2 ⟨h1,?_⟩
 rcases g2 with g2|g2
 · exact .inl g2
 · rcases h2 with h2|h2
   · exact absurd h2 ha
   · exact .inr (lt_trans h2 g2)
def Rise (ks:List ByteArray):Prop:=ks.Pairwise (fun a b=>lt a b=true)
theorem kok_rise {l:List ByteArray} (h:KOK l):Rise l:=List.pairwise_iff_getElem.2 fun i j hi hj hij=>kok_mono h i j hi hj hij
theorem kok_some {l:List ByteArray} (h:KOK l):∀k∈l,k≠empS:=fun k hk e=>by
 obtain ⟨i,hi,rfl⟩:=List.getElem_of_mem hk
 have:=(h i hi hi).1
 rw[e]at this
 exact absurd this (by decide)
theorem KTr.within {R:Int→ByteArray→ByteArray→List Pr→List Int→Prop} (m:∀c lo hi P B,R c lo hi P B→∀p∈P,within p.1 lo hi=true):∀ {ks:List ByteArray} {cs:List Int} {lo hi:ByteArray} {P:List Pr} {B:List Int},
   Rise ks→(∀k∈ks,k≠empS)→(∀k∈ks,within k lo hi=true)→KTr R lo hi ks cs P B→∀p∈P,within p.1 lo hi=true
 | [],[],_,_,_,_,_,_,_,h=>h.elim
 | [],[c],lo,hi,P,B,_,_,_,h=>m _ _ _ _ _ h
 | [],_ :: _ :: _,_,_,_,_,_,_,_,h=>h.elim
 | _ :: _,[],_,_,_,_,_,_,_,h=>h.elim
 | k :: ks,c :: cs,lo,hi,P,B,hr,he,hw,h=>by
   obtain ⟨P1,B1,P2,B2,h1,h2,rfl,rfl⟩:=h
   obtain ⟨r1,r2⟩:=List.pairwise_cons.1 hr
   have hk:=hw k (by simp)
   intro p hp
   rcases List.mem_append.1 hp with hp|hp
   · exact within_high (m _ _ _ _ _ h1 p hp) (he k (by simp)) hk
   · have:=KTr.within m r2 (fun k hk=>he k (List.mem_cons_of_mem _ hk)) (fun x hx=>within_iff.2 ⟨lt_asym (r1 x hx),(within_iff.1 (hw x (List.mem_cons_of_mem _ hx))).2⟩) h2 p hp
     exact within_low this (within_iff.1 hk).1
theorem zip_mem {n:Nd} {p:Pr} (h:p∈n.keys.zip n.vals):p.1∈n.keys:=(List.of_mem_zip (a:=p.1) (b:=p.2) h).1
theorem Tr.within {H:Hd} (ho:HOK H):∀ {h:Nat} {b:Int} {root:Bool} {lo hi:ByteArray} {P:List Pr} {B:List Int},
   Tr H h b root lo hi P B→∀p∈P,within p.1 lo hi=true
 | 0,_,_,_,_,_,_,h=>h.elim
 | h+1,b,root,lo,hi,P,B,ht=>by
   obtain ⟨n,hn,hw,hh⟩:=ht
   have hk:=(ho _ _ _ hn).1.2.1
   rcases hh with ⟨_,_,_,rfl,_⟩|⟨_,C,rfl,h2⟩
   · exact fun p hp=>hw _ (zip_mem hp)
   · exact KTr.within (fun c lo hi P B hc=>Tr.within ho hc) (kok_rise hk) (kok_some hk) hw h2
structure TS where
 ps:List Pr
 bs:List Int
 he:Int
 bad:Bool
def ts0:TS:=⟨[],[],0,false⟩
def kidsB (f:Int→ByteArray→ByteArray→TS→TS):ByteArray→ByteArray→List ByteArray→List Int→TS→TS
 | _,_,_,[],t=>t
 | lo,hi,[],c :: cs,t=>kidsB f hi hi [] cs (if t.bad then t else f c lo hi t)
 | lo,hi,k :: ks,c :: cs,t=>kidsB f k hi ks cs (if t.bad then t else f c lo k t)
def offK (n:Nd) (lo hi:ByteArray):Bool:=n.keys.any fun k => !(within k lo hi)
def below (H:Hd):Nat→Int→Int→ByteArray→ByteArray→TS→TS
 | 0,_,_,_,_,t => { t with bad:=true }
 | f+1,b,d,lo,hi,t=>
   if b∈t.bs∨t.bad=true then { t with bad:=true } else
   match H b (d==1) with
   | none => { t with bad:=true }
   | some n=>if d > 8∨(n.leaf=true∧n.keys=[]) then { t with bad:=true } else
     if n.leaf then ⟨t.ps++n.keys.zip n.vals,t.bs++[b],d,offK n lo hi||(t.he != 0&&t.he != d)⟩
     else kidsB (fun c lo hi t=>below H f c (d+1) lo hi t) lo hi n.keys n.kids ⟨t.ps,t.bs++[b],t.he,offK n lo hi⟩
theorem kidsB_bad {f:Int→ByteArray→ByteArray→TS→TS}:∀ {ks:List ByteArray} {cs:List Int} {lo hi:ByteArray} {t:TS},t.bad=true→kidsB f lo hi ks cs t=t
 | _,[],_,_,_,_=>by cases ‹List ByteArray› <;> rfl
 | [],c :: cs,lo,hi,t,h=>by rw[kidsB,if_pos h];exact kidsB_bad h
 | k :: ks,c :: cs,lo,hi,t,h=>by rw[kidsB,if_pos h];exact kidsB_bad h
structure Adds (t t':TS) (P:List Pr) (B:List Int) (D:Int):Prop where
 eq:t'=⟨t.ps++P,t.bs++B,D,false⟩
 he:t.he=0∨t.he=D
 nd:t.bs.Nodup→(t.bs++B).Nodup
 pos:1≤D∧D≤8
theorem kidsB_sound {H:Hd} {d:Int} {f:Int→ByteArray→ByteArray→TS→TS}
   (ih:∀c lo hi t,(f c lo hi t).bad=false→t.bad=false∧∃(h:Nat) (P:List Pr) (B:List Int),Tr H h c false lo hi P B∧Adds t (f c lo hi t) P B (d+h)):
   ∀ {ks:List ByteArray} {cs:List Int} {lo hi:ByteArray} {t:TS},cs.length=ks.length+1→(kidsB f lo hi ks cs t).bad=false →
     t.bad=false∧∃(h:Nat) (P:List Pr) (B:List Int),KTr (fun c lo hi P B=>Tr H h c false lo hi P B) lo hi ks cs P B∧Adds t (kidsB f lo hi ks cs t) P B (d+h)
 | ks,[],_,_,_,hl,_=>by simp at hl
 | [],[c],lo,hi,t,_,hb=>by
   simp only[kidsB]at hb ⊢
   by_cases ht:t.bad=true
   · rw[if_pos ht]at hb;rw[ht]at hb;cases hb
   · rw[if_neg ht]at hb ⊢
     obtain ⟨h1,h,P,B,h2,h3⟩:=ih _ _ _ _ hb
     exact ⟨h1,h,P,B,h2,h3⟩
 | [],_ :: _ :: _,_,_,_,hl,_=>by simp at hl
 | k :: ks,c :: cs,lo,hi,t,hl,hb=>by
   simp only[kidsB]at hb ⊢
   by_cases ht:t.bad=true
   · rw[if_pos ht,kidsB_bad ht,ht]at hb;cases hb
   · rw[if_neg ht]at hb ⊢
     obtain ⟨g1,h',P2,B2,g2,g3⟩:=kidsB_sound ih (by simpa using hl) hb
     obtain ⟨h1,h,P1,B1,h2,h3⟩:=ih _ _ _ _ g1
     have hp:=h3.pos
     have e:d+(h:Int)=d+h':=by
       have:=g3.he
       rw[h3.eq]at this
       simp only at this
       omega
     obtain rfl:h=h':=by omega
     refine ⟨h1,h,P1++P2,B1++B2,⟨P1,B1,P2,B2,h2,g2,rfl,rfl⟩,⟨?_,h3.he,fun hn => ?_,hp⟩⟩
     · rw[g3.eq,h3.eq];simp only[List.append_assoc]
     · have:=g3.nd (by rw[h3.eq];exact h3.nd hn)
       rw[h3.eq]at this
       simpa only[List.append_assoc] using this
theorem below_sound {H:Hd} (ho:HOK H):∀(f:Nat) (b d:Int) (lo hi:ByteArray) (t:TS),1≤d→(below H f b d lo hi t).bad=false →
   t.bad=false∧∃(h:Nat) (P:List Pr) (B:List Int),Tr H h b (d==1) lo hi P B∧Adds t (below H f b d lo hi t) P B (d - 1+h)
 | 0,b,d,lo,hi,t,_,hb=>by cases hb
 | f+1,b,d,lo,hi,t,hd,hb=>by
   unfold below at hb ⊢
   by_cases h1:b∈t.bs∨t.bad=true
   · rw[if_pos h1]at hb;cases hb
   rw[if_neg h1]at hb ⊢
   have hnb:b∉t.bs:=fun h=>h1 (.inl h)
   have htb:t.bad=false:=by cases h:t.bad with|false=>rfl|true=>exact absurd (.inr h) h1
   have ndb:t.bs.Nodup→(t.bs++[b]).Nodup:=fun hn=>List.nodup_append.2 ⟨hn,by simp,fun x hx y hy=>by
     obtain rfl:y=b:=by simpa using hy
     rintro rfl;exact hnb hx⟩
   cases hh:H b (d==1) with
   | none=>rw[hh]at hb;cases hb
   | some n=>
     rw[hh]at hb
     dsimp only at hb ⊢
     by_cases h2:d > 8∨(n.leaf=true∧n.keys=[])
     · rw[if_pos h2]at hb;cases hb
     rw[if_neg h2]at hb ⊢
     have hok:=ho _ _ _ hh
     cases hl:n.leaf with
     | true=>
       rw[hl]at hb
       simp only[if_true,Bool.or_eq_false_iff,Bool.and_eq_false_iff,bne_eq_false_iff_eq]at hb ⊢
       have hw:∀k∈n.keys,within k lo hi=true:=fun k hk=>by
         have:=List.any_eq_false.1 hb.1 k hk
         simpa using this
       refine ⟨htb,1,n.keys.zip n.vals,[b],⟨n,hh,hw,.inl ⟨hl,rfl,fun h=>h2 (.inr ⟨hl,h⟩),rfl,rfl⟩⟩,⟨?_,?_,ndb,by omega⟩⟩
       · congr 1
         · simp
         · rw[Bool.or_eq_false_iff,Bool.and_eq_false_iff]
           exact ⟨hb.1,by simpa using hb.2⟩
       · rcases hb.2 with h|h
         · exact .inl h
         · exact .inr (by simp;exact h)
     | false=>
       rw[hl]at hb
       simp only[Bool.false_eq_true,if_false]at hb ⊢
       have hkl:n.kids.length=n.keys.length+1:=by
         rcases hok.1.2.2 with ⟨h,_⟩|⟨_,_,_,h,_⟩
         · rw[hl]at h;cases h
         · exact h
       obtain ⟨g1,h,P,B,g2,g3⟩:=kidsB_sound (H:=H) (d:=d) (fun c lo hi t hb=>by
         obtain ⟨x1,h,P,B,x2,x3⟩:=below_sound ho f c (d+1) lo hi t (by omega) hb
         have e:(d+1==1)=false:=by simp;omega
         rw[e]at x2
         rw[show d+1 - 1+(h:Int)=d+h by omega]at x3
         exact ⟨x1,h,P,B,x2,x3⟩) hkl hb
       have hoff:offK n lo hi=false:=g1
       have hw:∀k∈n.keys,within k lo hi=true:=fun k hk=>by
         have:=List.any_eq_false.1 hoff k hk
         simpa using this
       have e:d - 1+((h+1:Nat):Int)=d+h:=by omega
       refine ⟨htb,h+1,P,b :: B,⟨n,hh,hw,.inr ⟨hl,B,rfl,g2⟩⟩,?_⟩
       rw[e]
       refine ⟨?_,g3.he,fun hn => ?_,g3.pos⟩
       · rw[g3.eq];simp
       · have:=g3.nd (ndb hn)
         simpa using this
theorem kidsB_full {H:Hd} {d:Int} {h:Nat} {f:Int→ByteArray→ByteArray→TS→TS}
   (ih:∀c lo hi t P B,Tr H h c false lo hi P B→t.bad=false→(t.bs++B).Nodup→(t.he=0∨t.he=d+h)→f c lo hi t=⟨t.ps++P,t.bs++B,d+h,false⟩):
   ∀ {ks:List ByteArray} {cs:List Int} {lo hi:ByteArray} {t:TS} {P:List Pr} {B:List Int},KTr (fun c lo hi P B=>Tr H h c false lo hi P B) lo hi ks cs P B→t.bad=false→(t.bs++B).Nodup→(t.he=0∨t.he=d+h) →
     kidsB f lo hi ks cs t=⟨t.ps++P,t.bs++B,d+h,false⟩
 | [],[],_,_,_,_,_,hk,_,_,_=>hk.elim
 | [],[c],lo,hi,t,P,B,hk,hb,hn,he=>by
   simp only[kidsB,hb,Bool.false_eq_true,if_false]
   exact ih _ _ _ _ _ _ hk hb hn he
 | [],_ :: _ :: _,_,_,_,_,_,hk,_,_,_=>hk.elim
 | _ :: _,[],_,_,_,_,_,hk,_,_,_=>hk.elim
 | k :: ks,c :: cs,lo,hi,t,P,B,hk,hb,hn,he=>by
   obtain ⟨P1,B1,P2,B2,h1,h2,rfl,rfl⟩:=hk
   rw[←List.append_assoc]at hn
   simp only[kidsB,hb,Bool.false_eq_true,if_false]
   rw[ih _ _ _ _ _ _ h1 hb (List.nodup_append.1 hn).1 he,kidsB_full ih h2 rfl hn (.inr rfl)]
   simp only[List.append_assoc]
theorem below_full {H:Hd}:∀(f h:Nat) (b d:Int) (lo hi:ByteArray) (t:TS) (P:List Pr) (B:List Int),Tr H h b (d==1) lo hi P B→1≤d→d - 1+h≤8→h≤f→t.bad=false→(t.bs++B).Nodup→(t.he=0∨t.he=d - 1+h) →
   below H f b d lo hi t=⟨t.ps++P,t.bs++B,d - 1+h,false⟩
 | f,0,b,d,lo,hi,t,P,B,ht,_,_,_,_,_,_=>ht.elim
 | 0,h+1,b,d,lo,hi,t,P,B,ht,_,_,hf,_,_,_=>by omega
 | f+1,h+1,b,d,lo,hi,t,P,B,ht,hd,h8,hf,hb,hn,he=>by
   have hb0:b∈B:=ht.root_mem
   obtain ⟨n,hh,hw,hx⟩:=ht
   have hnb:b∉t.bs:=fun h=>(List.nodup_append.1 hn).2.2 b h b hb0 rfl
   have hoff:offK n lo hi=false:=List.any_eq_false.2 fun k hk=>by rw[hw k hk];simp
   unfold below
   rw[if_neg (by rw[hb];simpa using hnb),hh]
   dsimp only
   rcases hx with ⟨hl,rfl,hk,rfl,rfl⟩|⟨hl,B',rfl,hk⟩
   · rw[if_neg (by
      rintro (h|h)
      · omega
      · exact hk h.2),hl,if_pos rfl,hoff]
     have e:(t.he != 0&&t.he != d)=false:=by
      rcases he with he|he
      · rw[he];rfl
      · rw[show t.he=d by simpa using he];simp
     rw[e]
     congr 1
     simp
   · rw[if_neg (by
      rintro (h|h)
      · omega
      · rw[hl]at h;cases h.1),hl,if_neg (by simp),hoff]
     have e:d - 1+((h+1:Nat):Int)=d+h:=by omega
     rw[e]at he ⊢
     have hq:=kidsB_full (H:=H) (d:=d) (h:=h) (f:=fun c lo hi t=>below H f c (d+1) lo hi t) (fun c lo hi t P B hc hb hn he=>by
      have e2:(d+1==1)=false:=by simp;omega
      have:=below_full f h c (d+1) lo hi t P B (by rw[e2];exact hc) (by omega) (by omega) (by omega) hb hn (by rw[show d+1 - 1+(h:Int)=d+h by omega];exact he)
      rw[show d+1 - 1+(h:Int)=d+h by omega]at this
      exact this) (t:=⟨t.ps,t.bs++[b],t.he,false⟩) hk rfl (by simpa using hn) he
     rw[hq]
     simp
noncomputable def treeW (w:Wd):TS:=if w.root=0 then ts0 else below (Hold w) 9 w.root 1 empS empS ts0
def IsTree (w:Wd) (h:Nat) (P:List Pr) (B:List Int):Prop:=
 (w.root=0∧h=0∧P=[]∧B=[])∨(w.root≠0∧1≤h∧h≤8∧Tr (Hold w) h w.root true empS empS P B∧B.Nodup)
theorem tree_sound {w:Wd} (hb:(treeW w).bad=false):∃h P B,IsTree w h P B∧treeW w=⟨P,B,h,false⟩:=by
 unfold treeW at hb ⊢
 by_cases h0:w.root=0
 · rw[if_pos h0];exact ⟨0,[],[],.inl ⟨h0,rfl,rfl,rfl⟩,rfl⟩
 · rw[if_neg h0]at hb ⊢
   obtain ⟨_,h,P,B,ht,ha⟩:=below_sound (hold_hok w) 9 w.root 1 empS empS ts0 (by omega) hb
   have hp:=ha.pos
   have e:(1:Int) - 1+h=h:=by omega
   rw[e]at ha hp
   refine ⟨h,P,B,.inr ⟨h0,by omega,by omega,ht,?_⟩,?_⟩
   · have:=ha.nd (by simp[ts0])
     simpa[ts0] using this
   · rw[ha.eq];simp[ts0]
theorem tree_full {w:Wd} {h:Nat} {P:List Pr} {B:List Int} (ht:IsTree w h P B):treeW w=⟨P,B,h,false⟩:=by
 unfold treeW
 rcases ht with ⟨h0,rfl,rfl,rfl⟩|⟨h0,h1,h8,ht,hn⟩
 · rw[if_pos h0];rfl
 · rw[if_neg h0,below_full 9 h w.root 1 empS empS ts0 P B ht (by omega) (by omega) (by omega) rfl (by simpa[ts0] using hn) (.inl rfl)]
   simp[ts0]
end Go.Proofs.YtegndijbpiccgaaGreatDoor.M
