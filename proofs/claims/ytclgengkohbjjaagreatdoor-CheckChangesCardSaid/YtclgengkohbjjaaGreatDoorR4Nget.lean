import Derived.Test.YtclgengkohbjjaaGreatDoorR4Nod
namespace Go.Proofs.YtclgengkohbjjaaGreatDoor.M
set_option linter.unusedVariables false
set_option linter.unusedSimpArgs false
open Go Go.Mir
set_option linter.unusedVariables false
theorem p92 (n:Nd) (root:Bool) (hf:NdFits n):Runs Fs2 92 [ndV n,.n (.bool root)] [] (.n (.bool (decide (NdOK n root)))) []:=by
 have no:¬NdOK n root→AV.n (D.bool false) = .n (.bool (decide (NdOK n root))):=fun h=>by rw[decide_eq_false h]
 refine vc_eq fs92 rfl ?_
 rw[ndV,vc92,(V92e _ _ _ _ _ _).down,sl_len]
 refine ⟨_,p93 n hf,?_⟩
 by_cases hs:Stands n
 · rw[decide_eq_true hs]
   refine sel_intro (fun _=>sel_dec (fun h8=>sel_intro (fun hr => ?_) (fun hr => ?_)) (fun h8=>no (by unfold NdOK;omega))) (fun h=>by cases h)
   · rw[decide_eq_true (p:=NdOK n root) ⟨hs,by omega,.inl hr⟩]
   · congr 2
     simp only[decide_eq_decide]
     exact ⟨fun h=>⟨hs,by omega,.inr (by omega)⟩,fun h=>by
      rcases h.2.2 with h2|h2
      · rw[hr]at h2;cases h2
      · omega⟩
 · rw[decide_eq_false hs]
   exact sel_intro (fun h=>by cases h) (fun _=>no fun h=>hs h.1)
def hS (l:List ByteArray) (x:ByteArray):Heap:=[(9400000,.box [.o (.sl 1 (sl_ l))]),(9400001,.box [.n (.str x)])]
theorem p131 (l:List ByteArray) (x:ByteArray) (i:Int) (h0:0≤i) (hi:i.toNat<l.length):Runs Fs2 131 [.n (.int .i64 i),.ptr 9400000 0,.ptr 9400001 0] (hS l x) (.n (.bool (!(lt l[i.toNat] x)))) (hS l x):=by
 refine vc_look fs131 rfl (by kernel_rfl) ?_
 rewrite[hS,vc131h,(V131he _ _ _ _).down]
 exact ⟨rfl,h0,_,sl_at hi,_,rfl,rfl,rfl⟩
def SrchAt (l:List ByteArray) (x:ByteArray) (k:Nat):Prop:=k≤l.length∧(∀(j:Nat) (h:j<l.length),j<k→lt l[j] x=true)∧∀(h:k<l.length),lt l[k] x=false
theorem half_mid (a b:Int) (h0:0≤a) (h1:a<b) (h2:b≤4611686018427387904):IntKind.wrap .i64 (Int.fdiv (IntKind.wrap .u64 (IntKind.wrap .i64 (a+b))) (2 ^ (Min.min (Int.toNat 1) (IntKind.bits .u64))))=(a+b) / 2:=by
 rw[i64_in (a+b) (by omega),u64_in (a+b) (by omega)]
 rw[show (2:Int) ^ (Min.min (Int.toNat 1) (IntKind.bits .u64))=2 by decide,Int.fdiv_eq_ediv_of_nonneg _ (by omega),i64_in _ (by omega)]
theorem kok_mono {l:List ByteArray} (h:KOK l):∀(i j:Nat) (hi:i<l.length) (hj:j<l.length),i<j→lt l[i] l[j]=true:=by
 intro i j hi hj hij
 induction j with
 | zero=>omega
 | succ j ih=>
   have h1:=(h (j+1) hj hj).2.2 (by omega)
   have e:j+1 - 1=j:=by omega
   simp only[e]at h1
   by_cases hc:i=j
   · subst hc;exact h1
   · exact lt_trans (ih (by omega) (by omega)) h1
theorem p130 (l:List ByteArray) (x:ByteArray) (hk:KOK l) (hl:l.length≤2048):∃k:Nat,SrchAt l x k∧Runs Fs2 130 [.n (.int .i64 l.length),.fn 131 [.ptr 9400000 0,.ptr 9400001 0]] (hS l x) (.n (.int .i64 k)) (hS l x):=by
 have key:∃r H',Runs Fs2 130 [.n (.int .i64 l.length),.fn 131 [.ptr 9400000 0,.ptr 9400001 0]] (hS l x) r H'∧∃k:Nat,r = .n (.int .i64 k)∧H'=hS l x∧SrchAt l x k:=by
  refine vc_objs (R:=fun r H'=>∃k:Nat,r = .n (.int .i64 k)∧H'=hS l x∧SrchAt l x k) fs130 rfl (by kernel_rfl) ?_
  rewrite[hS,vc130h,(V130he _ _ _ _).down]
  refine ⟨fun a b=>0≤a∧a≤b∧b≤l.length∧(∀(j:Nat) (h:j<l.length),(j:Int)<a→lt l[j] x=true)∧∀(j:Nat) (h:j<l.length),b≤(j:Int)→lt l[j] x=false,fun a b=>(b - a).toNat,⟨rfl,by omega,by omega,by omega,fun j h hj=>by omega,fun j h hj=>by omega⟩,?_⟩
  rintro a b ⟨h0,h1,h2,h3,h4⟩ _
  refine sel_dec (fun hlt => ?_) (fun hge => ?_)
  · rw[half_mid a b h0 hlt (by omega)]
    have hm:((a+b) / 2).toNat<l.length:=by omega
    refine ⟨by decide,_,p131 l x _ (by omega) hm,sel_intro (fun hc => ?_) (fun hc => ?_)⟩
    · have hc:lt l[((a+b) / 2).toNat] x=true:=by simpa using hc
      repeat (refine And.intro rfl ?_)
      rw[i64_in _ (by omega)]
      refine ⟨⟨by omega,by omega,by omega,fun j hj hja => ?_,h4⟩,by first|omega|(dsimp only;omega)⟩
      by_cases e:j=((a+b) / 2).toNat
      · subst e;exact hc
      · exact lt_trans (kok_mono hk j _ hj hm (by omega)) hc
    · have hc:lt l[((a+b) / 2).toNat] x=false:=by simpa using hc
      repeat (refine And.intro rfl ?_)
      refine ⟨⟨by omega,by omega,by omega,h3,fun j hj hja => ?_⟩,by first|omega|(dsimp only;omega)⟩
      by_cases e:j=((a+b) / 2).toNat
      · subst e;exact hc
      · cases hq:lt l[j] x with
        | false=>rfl
        | true=>
          have:=lt_trans (kok_mono hk _ j hm hj (by omega)) hq
          rw[hc]at this;cases this
  · refine ⟨a.toNat,by rw[show ((a.toNat:Nat):Int)=a by omega],rfl,by omega,fun j hj hja=>h3 j hj (by omega),fun h=>h4 a.toNat h (by omega)⟩
 obtain ⟨r,H',hr,k,rfl,rfl,hk'⟩:=key
 exact ⟨k,hk',hr⟩
theorem p94 (l:List ByteArray) (x:ByteArray) (hk:KOK l) (hl:l.length≤2048):∃k:Nat,SrchAt l x k∧Runs Fs2 94 [.o (.sl 1 (sl_ l)),.n (.str x)] [] (.n (.int .i64 k)) []:=by
 obtain ⟨k,hs,h⟩:=p130 l x hk hl
 refine ⟨k,hs,?_⟩
 refine vc_eq fs94 rfl ?_
 rw[vc94,V94,sl_len]
 exact ⟨_,h,rfl⟩
theorem srch_one {l:List ByteArray} {x:ByteArray} {k j:Nat} (hk:SrchAt l x k) (hj:SrchAt l x j):k=j:=by
 rcases Nat.lt_trichotomy k j with h|h|h
 · have h1:=hk.2.2 (by have:=hj.1;omega)
   rw[hj.2.1 k (by have:=hj.1;omega) h]at h1;cases h1
 · exact h
 · have h1:=hj.2.2 (by have:=hk.1;omega)
   rw[hk.2.1 j (by have:=hk.1;omega) h]at h1;cases h1
def srch:List ByteArray→ByteArray→Nat
 | [],_=>0
 | k :: r,x=>if lt k x then srch r x+1 else 0
theorem srch_le:∀(l:List ByteArray) (x:ByteArray),srch l x≤l.length
 | [],_=>Nat.le_refl _
 | k :: r,x=>by
   unfold srch
   split
   · have:=srch_le r x;simp;omega
   · omega
theorem srch_at:∀(l:List ByteArray) (x:ByteArray),SrchAt l x (srch l x)
 | [],x=>⟨Nat.le_refl _,fun j h=>by simp at h,fun h=>by simp at h⟩
 | k :: r,x=>by
   obtain ⟨h1,h2,h3⟩:=srch_at r x
   refine ⟨srch_le _ _,fun j hj hjk => ?_,fun h => ?_⟩
   · unfold srch at hjk
     split at hjk
     · rename_i hk
       cases j with
       | zero=>exact hk
       | succ j=>exact h2 j (by simpa using hj) (by omega)
     · omega
   · by_cases hk:lt k x=true
     · have e:srch (k :: r) x=srch r x+1:=by rw[srch,if_pos hk]
       simp only[e]at h ⊢
       exact h3 (by simpa using h)
     · have e:srch (k :: r) x=0:=by rw[srch,if_neg hk]
       simp only[e]
       simpa using hk
def isAt (l:List ByteArray) (x:ByteArray):Bool:=decide (l[srch l x]?=some x)
theorem p64 (n:Nd) (x:ByteArray) (hf:NdFits n) (hs:Stands n):Runs Fs2 64 [ndV n,.n (.str x)] [] (.tup [.n (.int .i64 (srch n.keys x)),.n (.bool (isAt n.keys x))]) []:=by
 obtain ⟨k,hk,g⟩:=p94 n.keys x hs.2.1 (by have:=hs.1;omega)
 obtain rfl:=srch_one hk (srch_at n.keys x)
 have g1:=p93 n hf
 rw[decide_eq_true hs]at g1
 refine vc_eq fs64 rfl ?_
 rw[ndV,vc64,(V64e _ _ _ _ _ _).down,sl_len]
 refine ⟨_,g1,sel_intro (fun h=>by cases h) (fun _=>⟨_,g,sel_dec (fun h => ?_) (fun h => ?_)⟩)⟩
 · have hi:srch n.keys x<n.keys.length:=by omega
   refine ⟨rfl,by omega,_,sl_at hi,_,rfl,?_⟩
   rw[beq_dec,isAt,List.getElem?_eq_getElem hi]
   simp only[Option.some.injEq]
 · rw[isAt,List.getElem?_eq_none (by omega),decide_eq_false (by simp)]
theorem p63 (n:Nd) (x:ByteArray) (hf:NdFits n) (hs:Stands n) (hl:n.leaf=false):Runs Fs2 63 [ndV n,.n (.str x)] [] (.n (.int .i64 ((srch n.keys x:Int)+if isAt n.keys x then 1 else 0))) []:=by
 refine vc_eq fs63 rfl ?_
 rw[ndV,vc63,(V63e _ _ _ _ _ _).down]
 refine sel_intro (fun h=>by rw[hl]at h;cases h) (fun _ => ?_)
 have:=srch_le n.keys x
 have h9:=hs.1
 refine ⟨_,_,p64 n x hf hs,sel_intro (fun h => ?_) (fun h => ?_)⟩
 · rw[i64_in _ (by omega),if_pos h]
 · rw[if_neg (by rw[h];simp),Int.add_zero]
def nxk (s:ByteArray) (n e k:Int):Int×Int×Int:=if e≠0 then (0,n,e) else gT s n k
def h99 (s:ByteArray) (n e:Int):Heap:=[(9100302,.box [.n (.str s),.n (.int .i64 n),.n (.int .i64 e)])]
theorem p125 (s:ByteArray) (hs:Small s.size) (n e k:Int):Runs Fs2 125 [.ptr 9100302 0,.n (.int .i64 k)] (h99 s n e) (.n (.int .i64 (nxk s n e k).1)) (h99 s (nxk s n e k).2.1 (nxk s n e k).2.2):=by
 refine vc_mut fs125 rfl (by kernel_rfl) ?_
 rewrite[h99,vc125h,(V125he _ _ _ _ _).down]
 refine sel_intro (fun h => ?_) (fun h => ?_)
 · rw[nxk,if_pos (by simpa using h)];exact ⟨rfl,rfl⟩
 · rw[nxk,if_neg (by simpa using h)]
   have g:=(p152 s hs n k).up up2
   rw[gT_eq]at g
   exact ⟨_,_,_,g,rfl,rfl⟩
theorem p126 (s:ByteArray) (hs:Small s.size) (n e:Int):Runs Fs2 126 [.ptr 9100302 0] (h99 s n e) (.n (.str (tx s n e).1)) (h99 s (tx s n e).2.1 (tx s n e).2.2):=by
 refine vc_mut fs126 rfl (by kernel_rfl) ?_
 rewrite[h99,vc126h,(V126he _ _ _ _).down]
 refine sel_intro (fun h => ?_) (fun h => ?_)
 · rw[tx,if_pos (by simpa using h)];exact ⟨rfl,rfl⟩
 · rw[tx,if_neg (by simpa using h)]
   have g:=(p155 s hs n).up up2
   rw[cT_eq]at g
   exact ⟨_,_,_,g,rfl,rfl⟩
def lfUp (s:ByteArray):Nat→Int→List ByteArray→List ByteArray→Sum Int (List ByteArray×List ByteArray×Int)
 | 0,a,ks,vs => .inr (ks,vs,a)
 | m+1,a,ks,vs=>
   if (cT s a).2.2≠0 then .inl (cT s a).2.2
   else if (cT s (cT s a).2.1).2.2≠0 then .inl (cT s (cT s a).2.1).2.2
   else lfUp s m (cT s (cT s a).2.1).2.1 (ks++[(cT s a).1]) (vs++[(cT s (cT s a).2.1).1])
def inUp (s:ByteArray):Nat→Int→List Int→List ByteArray→Sum Int (List Int×List ByteArray×Int)
 | 0,a,bs,ks => .inr (bs,ks,a)
 | m+1,a,bs,ks=>
   if (gT s a 2).2.2≠0 then .inl (gT s a 2).2.2
   else if (cT s (gT s a 2).2.1).2.2≠0 then .inl (cT s (gT s a 2).2.1).2.2
   else inUp s m (cT s (gT s a 2).2.1).2.1 (bs++[(gT s a 2).1]) (ks++[(cT s (gT s a 2).2.1).1])
noncomputable def nFin (s:ByteArray) (n:Nd) (a:Int):Nd×Int:=if a≠s.size∨¬NdOK n true then (nd0,4) else (n,0)
noncomputable def nCont (s:ByteArray) (leaf:Bool) (m:Nat) (a:Int) (ks vs:List ByteArray) (bs:List Int):Nd×Int:=
 if leaf then match lfUp s m a ks vs with
  | .inl e=>(nd0,e)
  | .inr (ks,vs,a)=>nFin s ⟨true,ks,vs,bs⟩ a
 else match inUp s m a bs ks with
  | .inl e=>(nd0,e)
  | .inr (bs,ks,a)=>if (gT s a 2).2.2≠0 then (nd0,(gT s a 2).2.2) else nFin s ⟨false,ks,vs,bs++[(gT s a 2).1]⟩ (gT s a 2).2.1
noncomputable def NGet (kind:Int) (s:ByteArray):Nd×Int:=
 if kind≠1∧kind≠2 then (nd0,81)
 else if (gT s 0 1).2.2≠0 then (nd0,(gT s 0 1).2.2)
 else nCont s (kind==1) (gT s 0 1).1.toNat (gT s 0 1).2.1 [] [] []
def ndN (n:Nd):AV := .agg [.n (.bool n.leaf),.n (.sl 1 (sl_ n.keys)),.n (.sl 1 (sl_ n.vals)),.n (.sl 1 (il n.kids))]
def nduN (x:Nd×Int):AV := .tup [ndN x.1,.n (.int .i64 x.2)]
theorem lf_k {s:ByteArray} {m:Nat} {a:Int} {ks vs:List ByteArray} (h:(cT s a).2.2≠0):lfUp s (m+1) a ks vs = .inl (cT s a).2.2:=by rw[lfUp,if_pos h]
theorem lf_v {s:ByteArray} {m:Nat} {a:Int} {ks vs:List ByteArray} (h:(cT s a).2.2=0) (h2:(cT s (cT s a).2.1).2.2≠0):lfUp s (m+1) a ks vs = .inl (cT s (cT s a).2.1).2.2:=by rw[lfUp,if_neg (by rw[h];simp),if_pos h2]
theorem lf_go {s:ByteArray} {m:Nat} {a:Int} {ks vs:List ByteArray} (h:(cT s a).2.2=0) (h2:(cT s (cT s a).2.1).2.2=0):lfUp s (m+1) a ks vs=lfUp s m (cT s (cT s a).2.1).2.1 (ks++[(cT s a).1]) (vs++[(cT s (cT s a).2.1).1]):=by rw[lfUp,if_neg (by rw[h];simp),if_neg (by rw[h2];simp)]
theorem in_b {s:ByteArray} {m:Nat} {a:Int} {bs:List Int} {ks:List ByteArray} (h:(gT s a 2).2.2≠0):inUp s (m+1) a bs ks = .inl (gT s a 2).2.2:=by rw[inUp,if_pos h]
theorem in_k {s:ByteArray} {m:Nat} {a:Int} {bs:List Int} {ks:List ByteArray} (h:(gT s a 2).2.2=0) (h2:(cT s (gT s a 2).2.1).2.2≠0):inUp s (m+1) a bs ks = .inl (cT s (gT s a 2).2.1).2.2:=by rw[inUp,if_neg (by rw[h];simp),if_pos h2]
theorem in_go {s:ByteArray} {m:Nat} {a:Int} {bs:List Int} {ks:List ByteArray} (h:(gT s a 2).2.2=0) (h2:(cT s (gT s a 2).2.1).2.2=0):inUp s (m+1) a bs ks=inUp s m (cT s (gT s a 2).2.1).2.1 (bs++[(gT s a 2).1]) (ks++[(cT s (gT s a 2).2.1).1]):=by rw[inUp,if_neg (by rw[h];simp),if_neg (by rw[h2];simp)]
theorem nc_true (s:ByteArray) (m:Nat) (a:Int) (ks vs:List ByteArray) (bs:List Int):nCont s true m a ks vs bs=match lfUp s m a ks vs with
 | .inl e=>(nd0,e)
 | .inr (ks,vs,a)=>nFin s ⟨true,ks,vs,bs⟩ a:=by rw[nCont,if_pos rfl]
theorem nc_false (s:ByteArray) (m:Nat) (a:Int) (ks vs:List ByteArray) (bs:List Int):nCont s false m a ks vs bs=match inUp s m a bs ks with
 | .inl e=>(nd0,e)
 | .inr (bs,ks,a)=>if (gT s a 2).2.2≠0 then (nd0,(gT s a 2).2.2) else nFin s ⟨false,ks,vs,bs++[(gT s a 2).1]⟩ (gT s a 2).2.1:=by rw[nCont,if_neg (by simp)]
theorem il_snoc (l:List Int) (b:Int):il l++[D.int .i64 b]=il (l++[b]):=by simp[il]
theorem nFits_small {n:Nd} (h1:n.keys.length≤300) (h2:n.vals.length≤300) (h3:n.kids.length≤300):NdFits n:=⟨by omega,by omega,by omega⟩
set_option maxRecDepth 10000 in
set_option maxHeartbeats 9900000 in
theorem p91 (kind:Int) (s:ByteArray) (hs:Small s.size):Runs Fs2 91 [.n (.int .i64 kind),.n (.str s)] [] (nduN (NGet kind s)) []:=by
 refine vc_eq fs91 rfl ?_
 rw[vc91,(V91e _ _ _).down]
 have g0:=p125 s hs 0 0 1
 have e0:nxk s 0 0 1=gT s 0 1:=if_neg (by simp)
 rw[e0]at g0
 have hb0:=gT_byte s 0
 have bad:kind≠1→kind≠2→NGet kind s=(nd0,81):=fun h1 h2=>by rw[NGet,if_pos ⟨h1,h2⟩]
 have start:¬(kind≠1∧kind≠2)→NGet kind s=if (gT s 0 1).2.2≠0 then (nd0,(gT s 0 1).2.2) else nCont s (kind==1) (gT s 0 1).1.toNat (gT s 0 1).2.1 [] [] []:=fun h=>by rw[NGet,if_neg h]
 refine sel_intro (fun h1=>sel_intro (fun h2=>by rw[bad (by simpa using h1) (by simpa using h2)];rfl) (fun h2 => ?_)) (fun h1 => ?_)
 all_goals
  have hst:=start (by
    rintro ⟨k1,k2⟩
    simp only[bne_eq_false_iff_eq,bne_iff_ne]at h1
    first
      | exact k1 h1
      | (simp only[bne_eq_false_iff_eq]at h2;exact k2 h2))
  generalize hleaf:(kind==1)=leaf at hst
  refine ⟨_,_,_,_,g0,?_⟩
  refine ⟨fun i S N K V B=>0≤i∧S.1=s∧N.1=leaf∧N.2.1=K.1∧N.2.2.1=V.1∧N.2.2.2.1=B.1∧∃(ks vs:List ByteArray) (bs:List Int),K.2=sl_ ks∧V.2=sl_ vs∧B.2=il bs∧(ks.length:Int)≤i∧(vs.length:Int)≤i∧(bs.length:Int)≤i ∧
      (leaf=true→bs=[])∧(leaf=false→vs=[])∧i≤256 ∧
      ((S.2.2.1=0∧i≤(gT s 0 1).1∧NGet kind s=nCont s leaf ((gT s 0 1).1 - i).toNat S.2.1 ks vs bs)∨(S.2.2.1≠0∧NGet kind s=(nd0,S.2.2.1))),fun i _ _ _ _ _=>((gT s 0 1).1 - i).toNat,
    ⟨rfl,Int.le_refl _,rfl,rfl,rfl,rfl,rfl,[],[],[],rfl,rfl,rfl,by simp,by simp,by simp,fun _=>rfl,fun _=>rfl,by omega,?_⟩,?_⟩
  · by_cases h2:(gT s 0 1).2.2=0
    · refine .inl ⟨h2,hb0.1,?_⟩
      rw[hst,if_neg (by rw[h2];simp),Int.sub_zero]
    · exact .inr ⟨h2,by rw[hst,if_pos h2]⟩
  rintro i ⟨S,N,E,_⟩ ⟨lf,va,vb,vc,_⟩ ⟨ka,K⟩ ⟨kb,V⟩ ⟨kc,B⟩ ⟨h0,hS,hlf,rfl,rfl,rfl,ks,vs,bs,rfl,rfl,rfl,lk,lv,lb,nb,nv,hi256,hinv⟩ _
  dsimp only at hS hlf hinv ⊢
  subst hS hlf
  refine sel_dec (fun hlt => ?_) (fun hge => ?_)
  · refine sel_intro (fun hE => ?_) (fun hE => ?_)
    · have hE:E=0:=by simpa using hE
      subst hE
      have hU:=(hinv.resolve_right fun h=>h.1 rfl).2.2
      obtain ⟨j,hj⟩:∃j,((gT S 0 1).1 - i).toNat=j+1:=⟨((gT S 0 1).1 - i).toNat - 1,by omega⟩
      have hj':((gT S 0 1).1 - (i+1)).toNat=j:=by omega
      rw[hj]at hU
      refine sel_intro (fun hl => ?_) (fun hl => ?_)
      · subst hl
        have g1:=p126 S hs N 0
        rw[show tx S N 0=cT S N from if_neg (by simp)]at g1
        have g2:=p126 S hs (cT S N).2.1 (cT S N).2.2
        refine ⟨_,_,_,_,g1,rfl,.inl rfl,⟨⟨rfl,rfl⟩,rfl⟩,by simp[sl_len];omega,_,_,_,_,g2,rfl,.inl rfl,⟨⟨rfl,rfl⟩,rfl⟩,by simp[sl_len];omega,?_⟩
        repeat (refine And.intro rfl ?_)
        rw[i64_in _ (by omega),sl_snoc,sl_snoc]
        refine ⟨⟨by omega,rfl,rfl,rfl,rfl,rfl,_,_,_,rfl,rfl,rfl,(by simp;omega),(by simp;omega),by omega,fun _=>nb rfl,(fun h=>by cases h),by omega,?_⟩,by first|omega|(dsimp only;omega)⟩
        rw[hj']
        by_cases hk:(cT S N).2.2=0
        · rw[tx,if_neg (by rw[hk];simp)]
          by_cases hv:(cT S (cT S N).2.1).2.2=0
          · refine .inl ⟨hv,by omega,?_⟩
            rw[hU,nc_true,nc_true,lf_go hk hv]
          · refine .inr ⟨hv,?_⟩
            rw[hU,nc_true,lf_v hk hv]
        · rw[tx,if_pos hk]
          refine .inr ⟨hk,?_⟩
          rw[hU,nc_true,lf_k hk]
      · subst hl
        have g1:=p125 S hs N 0 2
        rw[show nxk S N 0 2=gT S N 2 from if_neg (by simp)]at g1
        have g2:=p126 S hs (gT S N 2).2.1 (gT S N 2).2.2
        refine ⟨_,_,_,_,g1,rfl,.inl rfl,⟨⟨rfl,rfl⟩,rfl⟩,by simp[il_len];omega,_,_,_,_,g2,rfl,.inl rfl,⟨⟨rfl,rfl⟩,rfl⟩,by simp[sl_len];omega,?_⟩
        repeat (refine And.intro rfl ?_)
        rw[i64_in _ (by omega),sl_snoc,il_snoc]
        refine ⟨⟨by omega,rfl,rfl,rfl,rfl,rfl,_,_,_,rfl,rfl,rfl,(by simp;omega),by omega,(by simp;omega),(fun h=>by cases h),fun _=>nv rfl,by omega,?_⟩,by first|omega|(dsimp only;omega)⟩
        rw[hj']
        by_cases hk:(gT S N 2).2.2=0
        · rw[tx,if_neg (by rw[hk];simp)]
          by_cases hv:(cT S (gT S N 2).2.1).2.2=0
          · refine .inl ⟨hv,by omega,?_⟩
            rw[hU,nc_false,nc_false,in_go hk hv]
          · refine .inr ⟨hv,?_⟩
            rw[hU,nc_false,in_k hk hv]
        · rw[tx,if_pos hk]
          refine .inr ⟨hk,?_⟩
          rw[hU,nc_false,in_b hk]
    · have hE:E≠0:=by simpa using hE
      have hx:(E=0∧NGet kind S=nCont S lf 0 N ks vs bs)∨(E≠0∧NGet kind S=(nd0,E)) := .inr ⟨hE,(hinv.resolve_left fun h=>hE h.1).2⟩
      refine sel_intro (fun hl => ?_) (fun hl => ?_)
      · have hl:lf=false:=by simpa using hl
        subst hl
        have gx:=p125 S hs N E 2
        rcases hx with ⟨rfl,hN⟩|⟨hE,hN⟩
        · have ex:nxk S N 0 2=gT S N 2:=if_neg (by simp)
          rw[ex]at gx
          rw[nc_false]at hN
          simp only[inUp]at hN
          refine ⟨_,_,_,_,gx,rfl,.inl rfl,⟨⟨rfl,rfl⟩,rfl⟩,by simp[il_len];omega,?_⟩
          refine sel_intro (fun he => ?_) (fun he => ?_)
          · rw[hN,if_pos (by simpa using he)];rfl
          · have he:(gT S N 2).2.2=0:=by simpa using he
            rw[hN,if_neg (by rw[he];simp),il_snoc]
            refine sel_intro (fun hz => ?_) (fun hz=>⟨rfl,rfl,rfl,_,p92 ⟨false,ks,vs,bs++[(gT S N 2).1]⟩ true (nFits_small (by dsimp only;omega) (by dsimp only;omega) (by simp;omega)),?_⟩)
            · rw[nFin,if_pos (.inl (by simpa using hz))];rfl
            · by_cases hk:NdOK ⟨false,ks,vs,bs++[(gT S N 2).1]⟩ true
              · rw[decide_eq_true hk]
                refine sel_intro (fun h=>by cases h) (fun _=>⟨rfl,rfl,rfl,?_⟩)
                rw[nFin,if_neg (by
                  rintro (h|h)
                  · exact h (by simpa using hz)
                  · exact h hk)];rfl
              · rw[decide_eq_false hk]
                refine sel_intro (fun _ => ?_) (fun h=>by cases h)
                rw[nFin,if_pos (.inr hk)];rfl
        · have ex:nxk S N E 2=(0,N,E):=if_pos hE
          rw[ex]at gx
          refine ⟨_,_,_,_,gx,rfl,.inl rfl,⟨⟨rfl,rfl⟩,rfl⟩,by simp[il_len];omega,?_⟩
          refine sel_intro (fun he => ?_) (fun he=>absurd (by simpa using he) hE)
          rw[hN];rfl
      · have hl:lf=true:=by simpa using hl
        subst hl
        rcases hx with ⟨rfl,hN⟩|⟨hE,hN⟩
        · rw[nc_true]at hN
          simp only[lfUp]at hN
          refine sel_intro (fun h=>by simp at h) (fun _ => ?_)
          rw[hN]
          refine sel_intro (fun hz => ?_) (fun hz=>⟨rfl,rfl,rfl,_,p92 ⟨true,ks,vs,bs⟩ true (nFits_small (by dsimp only;omega) (by dsimp only;omega) (by simp;omega)),?_⟩)
          · rw[nFin,if_pos (.inl (by simpa using hz))];rfl
          · by_cases hk:NdOK ⟨true,ks,vs,bs⟩ true
            · rw[decide_eq_true hk]
              refine sel_intro (fun h=>by cases h) (fun _=>⟨rfl,rfl,rfl,?_⟩)
              rw[nFin,if_neg (by
                rintro (h|h)
                · exact h (by simpa using hz)
                · exact h hk)];rfl
            · rw[decide_eq_false hk]
              refine sel_intro (fun _ => ?_) (fun h=>by cases h)
              rw[nFin,if_pos (.inr hk)];rfl
        · refine sel_intro (fun _=>by rw[hN];rfl) (fun h=>absurd (by simpa using h) hE)
  · have hx:(E=0∧NGet kind S=nCont S lf 0 N ks vs bs)∨(E≠0∧NGet kind S=(nd0,E)):=by
      rcases hinv with ⟨h1,h2,h3⟩|h
      · exact .inl ⟨h1,by rw[show ((gT S 0 1).1 - i).toNat=0 by omega]at h3;exact h3⟩
      · exact .inr h
    refine sel_intro (fun hl => ?_) (fun hl => ?_)
    · have hl:lf=false:=by simpa using hl
      subst hl
      have gx:=p125 S hs N E 2
      rcases hx with ⟨rfl,hN⟩|⟨hE,hN⟩
      · have ex:nxk S N 0 2=gT S N 2:=if_neg (by simp)
        rw[ex]at gx
        rw[nc_false]at hN
        simp only[inUp]at hN
        refine ⟨_,_,_,_,gx,rfl,.inl rfl,⟨⟨rfl,rfl⟩,rfl⟩,by simp[il_len];omega,?_⟩
        refine sel_intro (fun he => ?_) (fun he => ?_)
        · rw[hN,if_pos (by simpa using he)];rfl
        · have he:(gT S N 2).2.2=0:=by simpa using he
          rw[hN,if_neg (by rw[he];simp),il_snoc]
          refine sel_intro (fun hz => ?_) (fun hz=>⟨rfl,rfl,rfl,_,p92 ⟨false,ks,vs,bs++[(gT S N 2).1]⟩ true (nFits_small (by dsimp only;omega) (by dsimp only;omega) (by simp;omega)),?_⟩)
          · rw[nFin,if_pos (.inl (by simpa using hz))];rfl
          · by_cases hk:NdOK ⟨false,ks,vs,bs++[(gT S N 2).1]⟩ true
            · rw[decide_eq_true hk]
              refine sel_intro (fun h=>by cases h) (fun _=>⟨rfl,rfl,rfl,?_⟩)
              rw[nFin,if_neg (by
                rintro (h|h)
                · exact h (by simpa using hz)
                · exact h hk)];rfl
            · rw[decide_eq_false hk]
              refine sel_intro (fun _ => ?_) (fun h=>by cases h)
              rw[nFin,if_pos (.inr hk)];rfl
      · have ex:nxk S N E 2=(0,N,E):=if_pos hE
        rw[ex]at gx
        refine ⟨_,_,_,_,gx,rfl,.inl rfl,⟨⟨rfl,rfl⟩,rfl⟩,by simp[il_len];omega,?_⟩
        refine sel_intro (fun he => ?_) (fun he=>absurd (by simpa using he) hE)
        rw[hN];rfl
    · have hl:lf=true:=by simpa using hl
      subst hl
      rcases hx with ⟨rfl,hN⟩|⟨hE,hN⟩
      · rw[nc_true]at hN
        simp only[lfUp]at hN
        refine sel_intro (fun h=>by simp at h) (fun _ => ?_)
        rw[hN]
        refine sel_intro (fun hz => ?_) (fun hz=>⟨rfl,rfl,rfl,_,p92 ⟨true,ks,vs,bs⟩ true (nFits_small (by dsimp only;omega) (by dsimp only;omega) (by simp;omega)),?_⟩)
        · rw[nFin,if_pos (.inl (by simpa using hz))];rfl
        · by_cases hk:NdOK ⟨true,ks,vs,bs⟩ true
          · rw[decide_eq_true hk]
            refine sel_intro (fun h=>by cases h) (fun _=>⟨rfl,rfl,rfl,?_⟩)
            rw[nFin,if_neg (by
              rintro (h|h)
              · exact h (by simpa using hz)
              · exact h hk)];rfl
          · rw[decide_eq_false hk]
            refine sel_intro (fun _ => ?_) (fun h=>by cases h)
            rw[nFin,if_pos (.inr hk)];rfl
      · refine sel_intro (fun _=>by rw[hN];rfl) (fun h=>absurd (by simpa using h) hE)
end Go.Proofs.YtclgengkohbjjaaGreatDoor.M
