import Derived.Test.YtclgengkohbjjaaGreatDoorR4TreeB
import Derived.Test.YtclgengkohbjjaaGreatDoorR4LW
namespace Go.Proofs.YtclgengkohbjjaaGreatDoor.M
set_option linter.unusedVariables false
set_option linter.unusedSimpArgs false
open Go Go.Mir
set_option linter.unusedVariables false
theorem nodup_bound:∀(N:Nat) (l:List Int),l.Nodup→(∀b∈l,0≤b∧b<N)→l.length≤N
 | 0,[],_,_=>Nat.le_refl _
 | 0,b :: l,_,h=>by have:=h b (by simp);omega
 | N+1,l,hn,h=>by
   by_cases hN:(N:Int)∈l
   · have h1:=nodup_bound N (l.erase N) (hn.erase _) (fun b hb=>by
      have h2:=h b (List.mem_of_mem_erase hb)
      have h3:b≠N:=fun e=>by subst e;exact (List.Nodup.mem_erase_iff hn).1 hb |>.1 rfl
      omega)
     have:=List.length_erase_of_mem hN
     omega
   · have:=nodup_bound N l hn (fun b hb=>by
      have h2:=h b hb
      have h3:b≠N:=fun e=>hN (e▸hb)
      omega)
     omega
structure TInv (t:TS):Prop where
 nd:t.bs.Nodup
 rg:∀b∈t.bs,0≤b∧b<2048
 ps:t.ps.length≤9*t.bs.length
theorem TInv.len {t:TS} (h:TInv t):t.bs.length≤2048:=nodup_bound 2048 t.bs h.nd h.rg
theorem kidsB_inv {f:Int→ByteArray→ByteArray→TS→TS} (ih:∀c lo hi t,TInv t→TInv (f c lo hi t)):∀ {ks:List ByteArray} {cs:List Int} {lo hi:ByteArray} {t:TS},TInv t→TInv (kidsB f lo hi ks cs t)
 | _,[],_,_,_,h=>by cases ‹List ByteArray› <;> exact h
 | [],c :: cs,lo,hi,t,h=>by
   rw[kidsB];refine kidsB_inv ih ?_
   split
   · exact h
   · exact ih _ _ _ _ h
 | k :: ks,c :: cs,lo,hi,t,h=>by
   rw[kidsB];refine kidsB_inv ih ?_
   split
   · exact h
   · exact ih _ _ _ _ h
theorem TInv.bad {t:TS} (h:TInv t):TInv { t with bad:=true }:=⟨h.nd,h.rg,h.ps⟩
theorem TInv.add {t:TS} (h:TInv t) {b:Int} (hb:b∉t.bs) (h0:0≤b∧b<2048) {P:List Pr} (hP:P.length≤9) (he:Int) (bad:Bool):TInv ⟨t.ps++P,t.bs++[b],he,bad⟩:=by
 refine ⟨List.nodup_append.2 ⟨h.nd,by simp,fun x hx y hy => ?_⟩,fun x hx => ?_,?_⟩
 · obtain rfl:y=b:=by simpa using hy
   rintro rfl;exact hb hx
 · rcases List.mem_append.1 hx with hx|hx
   · exact h.rg x hx
   · obtain rfl:x=b:=by simpa using hx
     exact h0
 · have:=h.ps
   simp;omega
theorem hold_rg {w:Wd} (hn:w.now.length≤2048) {b:Int} {r:Bool} {n:Nd} (h:Hold w b r=some n):10≤b∧b<w.now.length∧b<w.pages.length:=by
 unfold Hold at h
 split at h
 · cases h
 · omega
theorem below_inv {w:Wd} (hn:w.now.length≤2048):∀(f:Nat) (b d:Int) (lo hi:ByteArray) (t:TS),TInv t→TInv (below (Hold w) f b d lo hi t)
 | 0,_,_,_,_,_,h=>h.bad
 | f+1,b,d,lo,hi,t,h=>by
   unfold below
   by_cases h1:b∈t.bs∨t.bad=true
   · rw[if_pos h1];exact h.bad
   rw[if_neg h1]
   cases hh:Hold w b (d==1) with
   | none=>exact h.bad
   | some n=>
     dsimp only
     have hrg:=hold_rg hn hh
     have hok:=hold_ok hh
     by_cases h2:d > 8∨(n.leaf=true∧n.keys=[])
     · rw[if_pos h2];exact h.bad
     rw[if_neg h2]
     split
     · refine h.add (fun hb=>h1 (.inl hb)) (by omega) ?_ _ _
       have:=hok.2.1
       rw[List.length_zip];omega
     · refine kidsB_inv (fun c lo hi t ht=>below_inv hn f c (d+1) lo hi t ht) ?_
       have:=h.add (fun hb=>h1 (.inl hb)) (b:=b) (by omega) (P:=[]) (by simp) t.he (offK n lo hi)
       simpa using this
def psD (l:List Pr):List Mir.D:=l.map fun p => .rcd [.str p.1,.str p.2]
theorem psD_len (l:List Pr):(psD l).length=l.length:=by simp[psD]
theorem psD_at {l:List Pr} {i:Nat} (h:i<l.length):(psD l)[i]?=some (.rcd [.str l[i].1,.str l[i].2]):=by simp[psD,h]
theorem psD_snoc (l:List Pr) (k v:ByteArray):psD l++[.rcd [.str k,.str v]]=psD (l++[(k,v)]):=by simp[psD]
def hT (t:TS) (va vb:Nat):Heap:=[hB 2100101 [.row 2190001 va,.row 2190002 vb,.n (.int .i64 t.he),.n (.bool t.bad)],hR 2190001 va 48 2 (psD t.ps),hR 2190002 vb 3 1 (il t.bs)]
def fromAt (lo:ByteArray) (ks:List ByteArray) (i:Nat):ByteArray:=if i=0 then lo else (ks[i - 1]?).getD empS
theorem kidsB_in {f:Int→ByteArray→ByteArray→TS→TS} {lo hi:ByteArray} {ks:List ByteArray} {cs:List Int} {t:TS} {i:Nat} (h1:i<ks.length) (h2:i<cs.length):
  kidsB f (fromAt lo ks i) hi (ks.drop i) (cs.drop i) t=kidsB f (fromAt lo ks (i+1)) hi (ks.drop (i+1)) (cs.drop (i+1)) (if t.bad then t else f cs[i] (fromAt lo ks i) ks[i] t):=by
 rw[List.drop_eq_getElem_cons h1,List.drop_eq_getElem_cons h2,kidsB]
 have e:fromAt lo ks (i+1)=ks[i]:=by
  rw[fromAt,if_neg (by omega),Nat.add_sub_cancel,List.getElem?_eq_getElem h1];rfl
 rw[e]
theorem kidsB_end {f:Int→ByteArray→ByteArray→TS→TS} {lo hi:ByteArray} {ks:List ByteArray} {cs:List Int} {t:TS} {i:Nat} (h1:i=ks.length) (h2:i+1=cs.length):
  kidsB f (fromAt lo ks i) hi (ks.drop i) (cs.drop i) t=(if t.bad then t else f (cs[i]'(by omega)) (fromAt lo ks i) hi t):=by
 rw[List.drop_of_length_le (by omega),List.drop_eq_getElem_cons (by omega:i<cs.length),List.drop_of_length_le (by omega:cs.length≤i+1),kidsB,kidsB]
theorem kidsB_nil {f:Int→ByteArray→ByteArray→TS→TS} (lo hi:ByteArray) (ks:List ByteArray) (t:TS):kidsB f lo hi ks [] t=t:=by cases ks <;> rfl
theorem fromAt_pos {lo:ByteArray} {ks:List ByteArray} {i:Nat} (h:0<i) (h2:i - 1<ks.length):fromAt lo ks i=ks[i - 1]:=by
 rw[fromAt,if_neg (by omega),List.getElem?_eq_getElem h2];rfl
abbrev wdT:Mir.Ty := .st [.st [.sl .bool,.sl .bool],.sl .str,.int .i64,.int .i64]
def toWd (x:wdT.T):Wd:=match x with
 | ((a,b,_),p,r,g,_)=>⟨a,b,p,r,g⟩
theorem wd_av (x:wdT.T):wdT.av x=wdV (toWd x):=by
 obtain ⟨⟨a,b,_⟩,p,r,g,_⟩:=x;rfl
theorem wd_fit (x:wdT.T) (h:wdT.fit x):WFits (toWd x):=by
 obtain ⟨⟨a,b,_⟩,p,r,g,_⟩:=x
 obtain ⟨⟨⟨h1,_⟩,⟨h2,_⟩,_⟩,⟨h3,h4⟩,_⟩:=h
 have e:maxLen≤9223372036854775807:=by decide
 exact ⟨by show ((List.length a:Nat):Int)≤_;have:List.length a≤maxLen:=h1;omega,by show ((List.length b:Nat):Int)≤_;have:List.length b≤maxLen:=h2;omega,by show ((List.length p:Nat):Int)≤_;have:List.length p≤maxLen:=h3;omega,fun s hs=>by
  have:ByteArray.size s≤maxLen:=h4 s hs
  show ((ByteArray.size s:Nat):Int)≤_;omega⟩
theorem ts0_inv:TInv ts0:=⟨by simp[ts0],by simp[ts0],by simp[ts0]⟩
theorem treeW_inv {w:Wd} (hn:w.now.length≤2048):TInv (treeW w):=by
 unfold treeW
 split
 · exact ts0_inv
 · exact below_inv hn _ _ _ _ _ _ ts0_inv
theorem wr_now {w:Wd} (h:WRight w):w.now.length≤2048:=h.1.2.2.1
def hW (lo hi:ByteArray):Heap:=[hB 9500000 [.n (.str lo)],hB 9500001 [.n (.str hi)]]
theorem p132 (k lo hi:ByteArray):Runs Fs2 132 [.n (.str k),.ptr 9500000 0,.ptr 9500001 0] (hW lo hi) (.n (.bool (!(within k lo hi)))) (hW lo hi):=by
 refine vc_look fs132 rfl (by kernel_rfl) ?_
 show Vc Fs2 c132.body (argsQ c132 [.n (.str k),.ptr 9500000 0,.ptr 9500001 0]) [(9500000,.box [.n (.str lo)]),(9500001,.box [.n (.str hi)])] (endQH c132 [(9500000,.box [.n (.str lo)]),(9500001,.box [.n (.str hi)])] _)
 rw[vc132h,(V132he _ _ _ _).down]
 have e:(hi.toList==(ByteArray.mk (List.toArray [])).toList)=decide (hi=empS):=beq_dec hi empS
 rw[e]
 show sel (lt k lo) _ _
 refine sel_intro (fun h=>⟨by rw[within,h];rfl,rfl⟩) (fun h=>sel_intro (fun h2=>⟨?_,rfl⟩) (fun h2=>⟨?_,rfl⟩))
 · have h2:decide (hi=empS)=false:=by simpa using h2
   rw[within,h,h2];rfl
 · have h2:decide (hi=empS)=true:=by simpa using h2
   rw[within,h,h2];rfl
theorem p98r (l:List ByteArray) (hl:Small l.length) (lo hi:ByteArray):∃r:Int,decide (r≥0)=l.any (fun k => !(within k lo hi))∧Runs Fs2 98 [.o (.sl 1 (sl_ l)),.fn 132 [.ptr 9500000 0,.ptr 9500001 0]] (hW lo hi) (.n (.int .i64 r)) (hW lo hi):=by
 have key:∃r H',Runs Fs2 98 [.o (.sl 1 (sl_ l)),.fn 132 [.ptr 9500000 0,.ptr 9500001 0]] (hW lo hi) r H'∧∃k:Int,r = .n (.int .i64 k)∧H'=hW lo hi∧decide (k≥0)=l.any (fun k => !(within k lo hi)):=by
  refine vc_objs (R:=fun r H'=>∃k:Int,r = .n (.int .i64 k)∧H'=hW lo hi∧decide (k≥0)=l.any (fun k => !(within k lo hi))) fs98 rfl (by kernel_rfl) ?_
  show Vc Fs2 c98.body (argsQ c98 [.o (.sl 1 (sl_ l)),.fn 132 [.ptr 9500000 0,.ptr 9500001 0]]) [(9500000,.box [.n (.str lo)]),(9500001,.box [.n (.str hi)])] (endQH c98 [(9500000,.box [.n (.str lo)]),(9500001,.box [.n (.str hi)])] _)
  rw[vc98r,(V98re _ _ _ _).down,sl_len]
  refine ⟨fun k=>0≤k∧k≤l.length∧∀(j:Nat) (h:j<l.length),(j:Int)<k→(!(within l[j] lo hi))=false,fun k=>(l.length - k).toNat,⟨rfl,by omega,by omega,fun j _ hj=>by omega⟩,?_⟩
  rintro k ⟨k0,k1,hok⟩ _
  refine sel_dec (fun h => ?_) (fun h=>⟨-1,rfl,rfl,?_⟩)
  · have hi':k.toNat<l.length:=by omega
    refine ⟨rfl,k0,_,sl_at hi',_,rfl,_,p132 _ lo hi,sel_intro (fun hb=>⟨k,rfl,rfl,?_⟩) (fun hb => ?_)⟩
    · rw[decide_eq_true k0];exact (any_at (p:=fun k:ByteArray => !(within k lo hi)) hi' hb).symm
    · repeat (refine And.intro rfl ?_)
      rw[i64_in _ (by omega)]
      exact ⟨⟨by omega,by omega,step_up (p:=fun k:ByteArray => !(within k lo hi)) k0 hi' hb hok⟩,by first|omega|(dsimp only;omega)⟩
  · exact (any_up (p:=fun k:ByteArray => !(within k lo hi)) k0 h hok).symm
 obtain ⟨r,H',hr,k,rfl,rfl,hk⟩:=key
 exact ⟨k,hk,hr⟩
theorem p68r (l:List ByteArray) (hl:Small l.length) (lo hi:ByteArray):Runs Fs2 68 [.o (.sl 1 (sl_ l)),.fn 132 [.ptr 9500000 0,.ptr 9500001 0]] (hW lo hi) (.n (.bool (l.any fun k => !(within k lo hi)))) (hW lo hi):=by
 refine vc_look fs68 rfl (by kernel_rfl) ?_
 show Vc Fs2 c68.body (argsQ c68 [.o (.sl 1 (sl_ l)),.fn 132 [.ptr 9500000 0,.ptr 9500001 0]]) [(9500000,.box [.n (.str lo)]),(9500001,.box [.n (.str hi)])] (endQH c68 [(9500000,.box [.n (.str lo)]),(9500001,.box [.n (.str hi)])] _)
 rw[vc68r,(V68re _ _ _ _).down]
 obtain ⟨r,hr,h⟩:=p98r l hl lo hi
 exact ⟨r,h,by rw[hr],rfl⟩
structure CS where
 used:List Bool
 np:Int
 he:Int
 nb:Int
 bad:Bool
def marks (N:Nat) (bs:List Int):List Bool:=(List.range N).map fun i:Nat=>decide ((i:Int)∈bs)
theorem marks_len (N:Nat) (bs:List Int):(marks N bs).length=N:=by simp[marks]
theorem marks_get {N:Nat} {bs:List Int} {i:Nat} (h:i<(marks N bs).length):(marks N bs)[i]=decide ((i:Int)∈bs):=by simp[marks]
theorem marks_set {N:Nat} {bs:List Int} {b:Int} (h0:0≤b):(marks N bs).set b.toNat true=marks N (bs++[b]):=by
 refine List.ext_getElem (by simp[marks]) fun i h1 h2 => ?_
 rw[List.getElem_set,marks_get,marks_get (by simpa[marks] using h1)]
 by_cases e:b.toNat=i
 · rw[if_pos e]
   have:(i:Int)=b:=by omega
   simp[this]
 · rw[if_neg e]
   have:(i:Int)≠b:=by omega
   simp[this]
def csOf (N:Nat) (t:TS):CS:=⟨marks N t.bs,t.ps.length,t.he,t.bs.length,t.bad⟩
def hC (w:Wd) (s:CS) (v:Nat):Heap:=[hR 6500305 v 4 1 (blD s.used),hB 6500307 [.o (.sl 1 (blD w.base)),.o (.sl 1 (blD w.now)),.o (.sl 1 (sl_ w.pages)),.n (.int .i64 w.root),.n (.int .i64 w.gen),.n (.int .i64 s.np),.n (.int .i64 s.he),.n (.int .i64 s.nb),.row 6500305 v,.n (.bool s.bad)]]
def CRel (N:Nat) (s:CS) (t:TS):Prop:=s.bad=t.bad∧(t.bad=false→s=csOf N t)
theorem blD_set (l:List Bool) (i:Nat) (b:Bool):(blD l).set i (.bool b)=blD (l.set i b):=by simp[blD,List.map_set]
theorem crel_bad {N:Nat} {s:CS} {t:TS} (h1:s.bad=true) (h2:t.bad=true):CRel N s t:=⟨by rw[h1,h2],fun h=>by rw[h2]at h;cases h⟩
set_option maxRecDepth 10000 in
set_option maxHeartbeats 9900000 in
theorem p95 (w:Wd) (hf:WFits w) (hr:WRight w):∀(f:Nat) (b d:Int) (lo hi:ByteArray) (t:TS) (v:Nat),d+f=10→1≤d→1≤f→TInv t→t.bad=false →
   ∃s',Runs Fs2 95 [.ptr 6500307 0,.n (.int .i64 b),.n (.int .i64 d),.n (.str lo),.n (.str hi)] (hC w (csOf w.now.length t) v) (.tup []) (hC w s' v)∧CRel w.now.length s' (below (Hold w) f b d lo hi t)
 | 0,b,d,lo,hi,t,v,_,_,hf1,_,_=>by omega
 | f+1,b,d,lo,hi,t,v,hdf,hd,_,ht,htb=>by
   have g40:=p99 w hf b (d==1)
   have hn:=wr_now hr
   have hlen:=ht.len
   have hps:=ht.ps
   have key:∃r H',Runs Fs2 95 [.ptr 6500307 0,.n (.int .i64 b),.n (.int .i64 d),.n (.str lo),.n (.str hi)] (hC w (csOf w.now.length t) v) r H'∧r = .tup []∧∃s',H'=hC w s' v∧CRel w.now.length s' (below (Hold w) (f+1) b d lo hi t):=by
    refine vc_objs (R:=fun r H'=>r = .tup []∧∃s',H'=hC w s' v∧CRel w.now.length s' (below (Hold w) (f+1) b d lo hi t)) fs95 rfl (by kernel_rfl) ?_
    show Vc Fs2 c95.body (argsQ c95 [.ptr 6500307 0,.n (.int .i64 b),.n (.int .i64 d),.n (.str lo),.n (.str hi)]) [(6500305,.row false false v 4 1 (blD (marks w.now.length t.bs))),(6500307,.box [.o (.sl 1 (blD w.base)),.o (.sl 1 (blD w.now)),.o (.sl 1 (sl_ w.pages)),.n (.int .i64 w.root),.n (.int .i64 w.gen),.n (.int .i64 t.ps.length),.n (.int .i64 t.he),.n (.int .i64 t.bs.length),.row 6500305 v,.n (.bool t.bad)])] (endQH c95 [(6500305,.row false false v 4 1 (blD (marks w.now.length t.bs))),(6500307,.box [.o (.sl 1 (blD w.base)),.o (.sl 1 (blD w.now)),.o (.sl 1 (sl_ w.pages)),.n (.int .i64 w.root),.n (.int .i64 w.gen),.n (.int .i64 t.ps.length),.n (.int .i64 t.he),.n (.int .i64 t.bs.length),.row 6500305 v,.n (.bool t.bad)])] _)
    rw[vc95h,(V95he _ _ _ _ _ _ _ _ _ _ _ _ _ _ _ _).down,blD_len,marks_len,htb]
    rw[LoadR,if_pos hr]at g40
    have bad:∀(u:List Bool) (np he nb:Int),(below (Hold w) (f+1) b d lo hi t).bad=true→∃s',([hR 6500305 v 4 1 (blD u),hB 6500307 [.o (.sl 1 (blD w.base)),.o (.sl 1 (blD w.now)),.o (.sl 1 (sl_ w.pages)),.n (.int .i64 w.root),.n (.int .i64 w.gen),.n (.int .i64 np),.n (.int .i64 he),.n (.int .i64 nb),.row 6500305 v,.n (.bool true)]]:Heap)=hC w s' v∧CRel w.now.length s' (below (Hold w) (f+1) b d lo hi t):=fun u np he nb e=>⟨⟨u,np,he,nb,true⟩,rfl,crel_bad rfl e⟩
    cases hh:Hold w b (d==1) with
    | none=>
      rw[hh]at g40
      refine ⟨_,_,_,_,_,g40,sel_intro (fun _=>⟨rfl,bad _ _ _ _ ?_⟩) (fun h=>by cases h)⟩
      rw[below]
      split
      · rfl
      · rw[hh]
    | some n=>
      rw[hh]at g40
      have hrg:=hold_rg hn hh
      have hok:=hold_ok hh
      have hk8:=hok.2.1
      refine ⟨_,_,_,_,_,g40,sel_intro (fun h=>by cases h) (fun _=>sel_dec (fun h=>⟨rfl,bad _ _ _ _ ?_⟩) (fun h8 => ?_))⟩
      · rw[below]
        split
        · rfl
        · rw[hh];dsimp only;rw[if_pos (.inl h)]
      have hbN:b.toNat<w.now.length:=by omega
      have hbm:b.toNat<(marks w.now.length t.bs).length:=by rw[marks_len];exact hbN
      have hbb:((b.toNat:Nat):Int)=b:=by omega
      refine ⟨⟨rfl,rfl⟩,by omega,by omega,⟨rfl,rfl⟩,_,blD_at hbm,_,rfl,?_⟩
      rw[marks_get,hbb]
      refine sel_dec (fun h=>⟨rfl,bad _ _ _ _ ?_⟩) (fun hbn => ?_)
      · rw[below,if_pos (.inl h)]
      have hb1:¬(b∈t.bs∨t.bad=true):=by rw[htb];simpa using hbn
      have eq:below (Hold w) (f+1) b d lo hi t=if d > 8∨(n.leaf=true∧n.keys=[]) then { t with bad:=true } else
          if n.leaf then ⟨t.ps++n.keys.zip n.vals,t.bs++[b],d,offK n lo hi||(t.he != 0&&t.he != d)⟩
          else kidsB (fun c lo hi t=>below (Hold w) f c (d+1) lo hi t) lo hi n.keys n.kids ⟨t.ps,t.bs++[b],t.he,offK n lo hi⟩:=by
        rw[below,if_neg hb1,hh]
      rw[blD_set,marks_set (by omega),sl_len,il_len,i64_in ((t.bs.length:Int)+1) (by omega),i64_in ((t.ps.length:Int)+n.keys.length) (by omega)]
      have ebl:((t.bs.length:Int)+1)=((t.bs++[b]).length:Nat):=by simp
      have g74:=p68r n.keys (by omega) lo hi
      have eoff:(n.keys.any fun k => !(within k lo hi))=offK n lo hi:=rfl
      rw[eoff]at g74
      cases hl:n.leaf with
      | true=>
        have hvl:n.vals.length=n.keys.length:=by
          rcases hok.1.2.2 with ⟨_,_,h,_⟩|⟨h,_⟩
          · exact h
          · rw[hl]at h;cases h
        refine sel_intro (fun _=>sel_intro (fun h=>⟨rfl,bad _ _ _ _ (by rw[eq,if_pos (.inr ⟨hl,nil_of h⟩)])⟩) (fun hk0 => ?_)) (fun h=>by cases h)
        have hk0:n.keys≠[]:=fun e=>by rw[e]at hk0;simp at hk0
        rw[if_neg (by
          rintro (h|h)
          · exact h8 h
          · exact hk0 h.2),hl,if_pos rfl]at eq
        refine ⟨⟨rfl,rfl⟩,by omega,by omega,⟨⟨⟨rfl,rfl⟩,rfl⟩,rfl⟩,hbN,_,g74,sel_intro (fun ho=>⟨rfl,bad _ _ _ _ (by rw[eq,ho];rfl)⟩) (fun ho => ?_)⟩
        refine sel_intro (fun _=>sel_intro (fun h=>by cases h) (fun _ => ?_)) (fun h=>by cases h)
        have ezl:((t.ps.length:Int)+n.keys.length)=((t.ps++n.keys.zip n.vals).length:Nat):=by rw[List.length_append,List.length_zip];omega
        rw[ebl,ezl]
        refine sel_intro (fun h1=>⟨rfl,⟨marks w.now.length (t.bs++[b]),((t.ps++n.keys.zip n.vals).length:Nat),d,((t.bs++[b]).length:Nat),t.he != d⟩,rfl,?_⟩) (fun h1=>⟨rfl,⟨marks w.now.length (t.bs++[b]),((t.ps++n.keys.zip n.vals).length:Nat),d,((t.bs++[b]).length:Nat),false⟩,rfl,?_⟩)
        · rw[eq,ho,h1]
          refine ⟨?_,fun h => ?_⟩
          · show (t.he != d)=(false||(true&&(t.he != d)))
            rw[Bool.true_and,Bool.false_or]
          · simp only[csOf,Bool.true_and,Bool.false_or]
        · rw[eq,ho,h1]
          exact ⟨rfl,fun _=>rfl⟩
      | false=>
        refine sel_intro (fun h=>by cases h) (fun _ => ?_)
        rw[if_neg (by
          rintro (h|h)
          · exact h8 h
          · rw[hl]at h;cases h.1),hl,if_neg (by simp)]at eq
        have hkl:n.kids.length=n.keys.length+1:=by
          rcases hok.1.2.2 with ⟨h,_⟩|⟨_,_,_,h,_⟩
          · rw[hl]at h;cases h
          · exact h
        refine ⟨⟨rfl,rfl⟩,by omega,by omega,⟨⟨⟨rfl,rfl⟩,rfl⟩,rfl⟩,hbN,_,g74,sel_intro (fun ho=>⟨rfl,bad _ _ _ _ (by rw[eq,ho,kidsB_bad rfl])⟩) (fun ho => ?_)⟩
        refine sel_intro (fun h=>by cases h) (fun _ => ?_)
        rw[ho]at eq
        have hst:TInv ⟨t.ps,t.bs++[b],t.he,false⟩:=by
          have:=ht.add hbn (b:=b) (by omega) (P:=[]) (by simp) t.he false
          simpa using this
        rw[ebl]
        refine ⟨fun i S Q=>0≤i∧i≤n.kids.length∧∃(t':TS),TInv t'∧t'.bad=false∧S=(blD w.base,blD w.now,sl_ w.pages,w.root,w.gen,(t'.ps.length:Int),t'.he,(t'.bs.length:Int),v,false,())∧Q=(v,blD (marks w.now.length t'.bs))∧below (Hold w) (f+1) b d lo hi t=kidsB (fun c lo hi t=>below (Hold w) f c (d+1) lo hi t) (fromAt lo n.keys i.toNat) hi (n.keys.drop i.toNat) (n.kids.drop i.toNat) t',fun i _ _=>(n.kids.length - i).toNat,
          ⟨rfl,by omega,by omega,⟨t.ps,t.bs++[b],t.he,false⟩,hst,rfl,rfl,rfl,eq⟩,?_⟩
        rintro i S Q ⟨h0,h1,t',ht',htb',rfl,rfl,hinv⟩ _
        dsimp only
        rw[i64_in (d+1) (by omega),i64_in (i - 1) (by omega),i64_in (i+1) (by omega)]
        have e1:(i+1).toNat=i.toNat+1:=by omega
        have e2:(i - 1).toNat=i.toNat - 1:=by omega
        refine sel_dec (fun hlt => ?_) (fun hge => ?_)
        · have hik:i.toNat<n.kids.length:=by omega
          have tail:∀(fr tl:ByteArray),kidsB (fun c lo hi t=>below (Hold w) f c (d+1) lo hi t) (fromAt lo n.keys i.toNat) hi (n.keys.drop i.toNat) (n.kids.drop i.toNat) t'=kidsB (fun c lo hi t=>below (Hold w) f c (d+1) lo hi t) (fromAt lo n.keys (i.toNat+1)) hi (n.keys.drop (i.toNat+1)) (n.kids.drop (i.toNat+1)) (if t'.bad then t' else below (Hold w) f n.kids[i.toNat] (d+1) fr tl t') →
              ∃s':CS,Runs Fs2 95 [.ptr 6500307 0,.n (.int .i64 n.kids[i.toNat]),.n (.int .i64 (d+1)),.n (.str fr),.n (.str tl)] [hR 6500305 v 4 1 (blD (marks w.now.length t'.bs)),hB 6500307 [.o (.sl 1 (blD w.base)),.o (.sl 1 (blD w.now)),.o (.sl 1 (sl_ w.pages)),.n (.int .i64 w.root),.n (.int .i64 w.gen),.n (.int .i64 t'.ps.length),.n (.int .i64 t'.he),.n (.int .i64 t'.bs.length),.row 6500305 v,.n (.bool false)]] (.tup []) (hC w s' v) ∧
                (s'.bad=true→CRel w.now.length s' (below (Hold w) (f+1) b d lo hi t)) ∧
                (s'.bad=false→∃(t'':TS),TInv t''∧t''.bad=false∧(blD w.base,blD w.now,sl_ w.pages,w.root,w.gen,s'.np,s'.he,s'.nb,v,s'.bad,())=(blD w.base,blD w.now,sl_ w.pages,w.root,w.gen,(t''.ps.length:Int),t''.he,(t''.bs.length:Int),v,false,())∧(v,blD s'.used)=(v,blD (marks w.now.length t''.bs))∧below (Hold w) (f+1) b d lo hi t=kidsB (fun c lo hi t=>below (Hold w) f c (d+1) lo hi t) (fromAt lo n.keys (i+1).toNat) hi (n.keys.drop (i+1).toNat) (n.kids.drop (i+1).toNat) t''):=fun fr tl hs=>by
            obtain ⟨s',g,c1,c2⟩:=p95 w hf hr f n.kids[i.toNat] (d+1) fr tl t' v (by omega) (by omega) (by omega) ht' htb'
            rw[hC,csOf,htb']at g
            refine ⟨s',g,fun hb=>crel_bad hb ?_,fun hb => ?_⟩
            · rw[c1]at hb
              rw[hinv,hs,htb']
              show (kidsB _ _ _ _ _ (below (Hold w) f n.kids[i.toNat] (d+1) fr tl t')).bad=true
              rw[kidsB_bad hb];exact hb
            · rw[c1]at hb
              have:=c2 hb
              subst this
              refine ⟨below (Hold w) f n.kids[i.toNat] (d+1) fr tl t',below_inv hn f _ (d+1) fr tl t' ht',hb,by simp only[csOf,hb],rfl,?_⟩
              rw[hinv,hs,htb',e1];rfl
          refine ⟨rfl,h0,_,il_at hik,_,rfl,sel_dec (fun hp => ?_) (fun hp => ?_)⟩
          · have hi1:(i - 1).toNat<n.keys.length:=by omega
            have ef:fromAt lo n.keys i.toNat=n.keys[(i - 1).toNat]:=by
              rw[fromAt_pos (by omega) (by omega)]
              congr 1;omega
            refine ⟨rfl,by omega,_,sl_at hi1,_,rfl,sel_dec (fun hq => ?_) (fun hq => ?_)⟩
            · have hi2:i.toNat<n.keys.length:=by omega
              have hs:=kidsB_in (f:=fun c lo hi t=>below (Hold w) f c (d+1) lo hi t) (lo:=lo) (hi:=hi) (t:=t') hi2 hik
              rw[show below (Hold w) f n.kids[i.toNat] (d+1) (fromAt lo n.keys i.toNat) n.keys[i.toNat] t'=below (Hold w) f n.kids[i.toNat] (d+1) n.keys[(i - 1).toNat] n.keys[i.toNat] t' by rw[ef]]at hs
              obtain ⟨s',g,c1,c2⟩:=tail _ _ hs
              refine ⟨rfl,h0,_,sl_at hi2,_,rfl,_,_,_,_,_,_,_,_,_,_,_,_,g,sel_intro (fun hb=>⟨rfl,s',rfl,c1 hb⟩) (fun hb => ?_)⟩
              exact ⟨rfl,rfl,rfl,rfl,rfl,rfl,rfl,rfl,⟨by omega,by omega,c2 hb⟩,by first|omega|(dsimp only;omega)⟩
            · have hs:=kidsB_end (f:=fun c lo hi t=>below (Hold w) f c (d+1) lo hi t) (lo:=lo) (hi:=hi) (ks:=n.keys) (cs:=n.kids) (t:=t') (i:=i.toNat) (by omega) (by omega)
              have hd2:n.kids.drop (i.toNat+1)=[]:=List.drop_of_length_le (by omega)
              rw[show below (Hold w) f n.kids[i.toNat] (d+1) (fromAt lo n.keys i.toNat) hi t'=below (Hold w) f n.kids[i.toNat] (d+1) n.keys[(i - 1).toNat] hi t' by rw[ef]]at hs
              have hs:_=kidsB (fun c lo hi t=>below (Hold w) f c (d+1) lo hi t) (fromAt lo n.keys (i.toNat+1)) hi (n.keys.drop (i.toNat+1)) (n.kids.drop (i.toNat+1)) _:=hs.trans (by rw[hd2,kidsB_nil])
              obtain ⟨s',g,c1,c2⟩:=tail _ _ hs
              refine ⟨_,_,_,_,_,_,_,_,_,_,_,_,g,sel_intro (fun hb=>⟨rfl,s',rfl,c1 hb⟩) (fun hb => ?_)⟩
              exact ⟨rfl,rfl,rfl,rfl,rfl,rfl,rfl,rfl,⟨by omega,by omega,c2 hb⟩,by first|omega|(dsimp only;omega)⟩
          · have hi2:i.toNat<n.keys.length:=by
              rcases hok.1.2.2 with ⟨h,_⟩|⟨_,_,h,_⟩
              · rw[hl]at h;cases h
              · omega
            have ef:fromAt lo n.keys i.toNat=lo:=by rw[fromAt,if_pos (by omega)]
            have hs:=kidsB_in (f:=fun c lo hi t=>below (Hold w) f c (d+1) lo hi t) (lo:=lo) (hi:=hi) (t:=t') hi2 hik
            rw[show below (Hold w) f n.kids[i.toNat] (d+1) (fromAt lo n.keys i.toNat) n.keys[i.toNat] t'=below (Hold w) f n.kids[i.toNat] (d+1) lo n.keys[i.toNat] t' by rw[ef]]at hs
            refine sel_dec (fun hq => ?_) (fun hq=>by omega)
            obtain ⟨s',g,c1,c2⟩:=tail _ _ hs
            refine ⟨rfl,h0,_,sl_at hi2,_,rfl,_,_,_,_,_,_,_,_,_,_,_,_,g,sel_intro (fun hb=>⟨rfl,s',rfl,c1 hb⟩) (fun hb => ?_)⟩
            exact ⟨rfl,rfl,rfl,rfl,rfl,rfl,rfl,rfl,⟨by omega,by omega,c2 hb⟩,by first|omega|(dsimp only;omega)⟩
        · have hd2:n.kids.drop i.toNat=[]:=List.drop_of_length_le (by omega)
          rw[hd2,kidsB_nil]at hinv
          refine ⟨rfl,csOf w.now.length t',by simp only[hC,csOf,htb'],?_⟩
          rw[hinv]
          exact ⟨rfl,fun _=>rfl⟩
   obtain ⟨r,H',hr',rfl,s',rfl,hs'⟩:=key
   exact ⟨s',hr',hs'⟩
theorem marks_nil (N:Nat):marks N []=List.replicate N false:=by
 refine List.ext_getElem (by simp[marks]) fun i h1 h2 => ?_
 rw[marks_get];simp
theorem p65 (w:Wd) (hf:WFits w):(¬WRight w∧Runs Fs2 65 [wdV w] [] (.tup [.nilp,.n (.int .i64 1)]) [])∨(WRight w∧(treeW w).bad=true∧Runs Fs2 65 [wdV w] [] (.tup [.nilp,.n (.int .i64 81)]) []) ∨
   (WRight w∧(treeW w).bad=false∧Runs Fs2 65 [wdV w] [] (.tup [.ptr 6500307 0,.n (.int .i64 0)]) (hC w (csOf w.now.length (treeW w)) 0)):=by
 have g41:=p48 w hf
 have key:∃r H',Runs Fs2 65 [wdV w] [] r H'∧((¬WRight w∧r = .tup [.nilp,.n (.int .i64 1)]∧H'=[])∨(WRight w∧(treeW w).bad=true∧r = .tup [.nilp,.n (.int .i64 81)]∧H'=[]) ∨
     (WRight w∧(treeW w).bad=false∧r = .tup [.ptr 6500307 0,.n (.int .i64 0)]∧H'=hC w (csOf w.now.length (treeW w)) 0)):=by
   refine vc_own (R:=fun r H'=>(¬WRight w∧r = .tup [.nilp,.n (.int .i64 1)]∧H'=[])∨(WRight w∧(treeW w).bad=true∧r = .tup [.nilp,.n (.int .i64 81)]∧H'=[]) ∨
     (WRight w∧(treeW w).bad=false∧r = .tup [.ptr 6500307 0,.n (.int .i64 0)]∧H'=hC w (csOf w.now.length (treeW w)) 0)) fs65 rfl ?_
   rw[wdV,vc65o,(V65oe _ _ _ _ _ _).down,blD_len]
   by_cases hr:WRight w
   · rw[decide_eq_true hr]at g41
     have hn:=wr_now hr
     have er:blD (marks w.now.length [])=List.replicate (Int.toNat (w.now.length:Int)) (.bool false):=by
       rw[marks_nil];simp[blD]
     refine ⟨_,g41,sel_intro (fun h=>by cases h) (fun _=>⟨by omega,by omega,sel_intro (fun h => ?_) (fun h => ?_)⟩)⟩
     · obtain ⟨s',g,c1,c2⟩:=p95 w hf hr 9 w.root 1 empS empS ts0 0 (by omega) (by omega) (by omega) ts0_inv rfl
       have e:below (Hold w) 9 w.root 1 empS empS ts0=treeW w:=by rw[treeW,if_neg (by simpa using h)]
       rw[e]at c1 c2
       have e0:hC w (csOf w.now.length ts0) 0=[hR 6500305 0 4 1 (List.replicate (Int.toNat (w.now.length:Int)) (.bool false)),hB 6500307 [.o (.sl 1 (blD w.base)),.o (.sl 1 (blD w.now)),.o (.sl 1 (sl_ w.pages)),.n (.int .i64 w.root),.n (.int .i64 w.gen),.n (.int .i64 0),.n (.int .i64 0),.n (.int .i64 0),.row 6500305 0,.n (.bool false)]]:=by
        rw[←er];rfl
       rw[e0]at g
       refine ⟨_,_,_,_,_,_,_,_,_,_,_,_,g,sel_intro (fun hb => .inr (.inl ⟨hr,by rw[←c1];exact hb,rfl,rfl⟩)) (fun hb => ?_)⟩
       rw[c1]at hb
       have:=c2 hb
       subst this
       exact .inr (.inr ⟨hr,hb,rfl,rfl⟩)
     · have e:treeW w=ts0:=by rw[treeW,if_pos (by simpa using h)]
       refine .inr (.inr ⟨hr,by rw[e];rfl,rfl,?_⟩)
       rw[e,←er];rfl
   · rw[decide_eq_false hr]at g41
     exact ⟨_,g41,sel_intro (fun _ => .inl ⟨hr,rfl,rfl⟩) (fun h=>by cases h)⟩
 obtain ⟨r,H',hg,⟨h1,rfl,rfl⟩|⟨h1,h2,rfl,rfl⟩|⟨h1,h2,rfl,rfl⟩⟩:=key
 · exact .inl ⟨h1,hg⟩
 · exact .inr (.inl ⟨h1,h2,hg⟩)
 · exact .inr (.inr ⟨h1,h2,hg⟩)
def moreUp (N:Nat):List Int→List Int→Option (List Int)
 | [],l=>some l
 | b :: r,l=>if b<10∨b≥N∨b∈l then none else moreUp N r (l++[b])
def nowIs (now:List Bool) (l:List Int):Prop:=∀i:Nat,i<now.length→tr now i=decide (i<10∨(i:Int)∈l)
noncomputable instance (now:List Bool) (l:List Int):Decidable (nowIs now l):=Classical.propDecidable _
noncomputable def ChkR (w:Wd) (more:List Int):(Int×Int×Int)×Int:=
 if ¬WRight w then ((0,0,0),1) else if (treeW w).bad=true then ((0,0,0),81) else match moreUp w.now.length more (treeW w).bs with
 | none=>((0,0,0),81)
 | some l=>if nowIs w.now l then (((treeW w).ps.length,(treeW w).he,(treeW w).bs.length),0) else ((0,0,0),81)
def ckV (x:(Int×Int×Int)×Int):AV := .tup [.agg [.n (.int .i64 x.1.1),.n (.int .i64 x.1.2.1),.n (.int .i64 x.1.2.2)],.n (.int .i64 x.2)]
set_option maxRecDepth 10000 in
theorem p45 (w:Wd) (hf:WFits w) (more:List Int) (hm:Small more.length):Runs Fs2 45 [wdV w,.o (.sl 1 (il more))] [] (ckV (ChkR w more)) []:=by
 refine vc_eq fs45 rfl ?_
 rw[wdV,vc45,(V45e _ _ _ _ _ _ _).down]
 rcases p65 w hf with ⟨hr,g⟩|⟨hr,hb,g⟩|⟨hr,hb,g⟩
 · rw[wdV]at g
   refine .inr ⟨(),_,g,sel_intro (fun _ => ?_) (fun h=>by cases h)⟩
   rw[ChkR,if_pos hr];rfl
 · rw[wdV]at g
   refine .inr ⟨(),_,g,sel_intro (fun _ => ?_) (fun h=>by cases h)⟩
   rw[ChkR,if_neg (by simpa using hr),if_pos hb];rfl
 · rw[hC,wdV]at g
   have hn:=wr_now hr
   have eq:ChkR w more=match moreUp w.now.length more (treeW w).bs with
       | none=>((0,0,0),81)
       | some l=>if nowIs w.now l then (((treeW w).ps.length,(treeW w).he,(treeW w).bs.length),0) else ((0,0,0),81):=by
     rw[ChkR,if_neg (by simpa using hr),if_neg (by rw[hb];simp)]
   refine .inl ⟨(),_,_,_,_,_,_,_,_,_,_,_,_,_,g,sel_intro (fun h=>by cases h) (fun _ => ?_)⟩
   rw[il_len,blD_len]
   have no:ChkR w more=((0,0,0),81)→AV.tup [.agg [.n (.int .i64 0),.n (.int .i64 0),.n (.int .i64 0)],.n (.int .i64 81)]=ckV (ChkR w more):=fun e=>by rw[e];rfl
   refine ⟨fun i S Q=>0≤i∧i≤more.length∧S=(0,0,0,())∧∃l,Q=(0,blD (marks w.now.length l))∧moreUp w.now.length more (treeW w).bs=moreUp w.now.length (more.drop i.toNat) l,fun i _ _=>(more.length - i).toNat,⟨rfl,by omega,by omega,rfl,(treeW w).bs,rfl,rfl⟩,?_⟩
   rintro i S Q ⟨h0,h1,rfl,l,rfl,hinv⟩ _
   dsimp only
   rw[blD_len,marks_len]
   refine sel_dec (fun hlt => ?_) (fun hge => ?_)
   · have hi:i.toNat<more.length:=by omega
     rw[List.drop_eq_getElem_cons hi,moreUp]at hinv
     refine ⟨rfl,h0,_,il_at hi,_,rfl,sel_dec (fun h=>no ?_) (fun h2=>⟨rfl,sel_dec (fun h=>no ?_) (fun h3 => ?_)⟩)⟩
     · rw[eq,hinv,if_pos (.inl h)]
     · rw[eq,hinv,if_pos (.inr (.inl h))]
     have hbm:more[i.toNat].toNat<(marks w.now.length l).length:=by rw[marks_len];omega
     have hbb:((more[i.toNat].toNat:Nat):Int)=more[i.toNat]:=by omega
     refine ⟨⟨rfl,rfl⟩,by omega,by omega,⟨rfl,rfl⟩,_,blD_at hbm,_,rfl,?_⟩
     rw[marks_get,hbb]
     refine sel_dec (fun h=>no ?_) (fun h4 => ?_)
     · rw[eq,hinv,if_pos (.inr (.inr h))]
     refine ⟨⟨rfl,rfl⟩,by omega,by omega,⟨⟨⟨rfl,rfl⟩,rfl⟩,rfl⟩,by omega,?_⟩
     rw[blD_set,marks_set (by omega)]
     repeat (refine And.intro rfl ?_)
     rw[i64_in _ (by omega)]
     refine ⟨⟨by omega,by omega,rfl,_,rfl,?_⟩,by first|omega|(dsimp only;omega)⟩
     rw[hinv,if_neg (by
       rintro (h|h|h)
       · exact h2 h
       · omega
       · exact h4 h),show (i+1).toNat=i.toNat+1 by omega]
   · rw[List.drop_of_length_le (by omega),moreUp]at hinv
     rw[hinv]at eq
     dsimp only at eq
     refine ⟨fun i S=>0≤i∧i≤w.now.length∧S=(0,0,0,())∧∀j:Nat,(j:Int)<i→tr w.now j=decide (j<10∨(j:Int)∈l),fun i _=>(w.now.length - i).toNat,⟨rfl,by omega,by omega,rfl,fun j hj=>by omega⟩,?_⟩
     rintro i S ⟨h0,h1,rfl,hok⟩ _
     dsimp only
     refine sel_dec (fun hlt => ?_) (fun hge => ?_)
     · have hi:i.toNat<w.now.length:=by omega
       have hii:((i.toNat:Nat):Int)=i:=by omega
       have next:tr w.now i.toNat=decide (i.toNat<10∨((i.toNat:Nat):Int)∈l)→∀j:Nat,(j:Int)<i+1→tr w.now j=decide (j<10∨(j:Int)∈l):=fun h j hj=>by
         by_cases e:(j:Int)<i
         · exact hok j e
         · obtain rfl:j=i.toNat:=by omega
           exact h
       have fail:tr w.now i.toNat≠decide (i.toNat<10∨((i.toNat:Nat):Int)∈l)→ChkR w more=((0,0,0),81):=fun h=>by
         rw[eq,if_neg (fun hx=>h (hx i.toNat hi))]
       refine ⟨rfl,h0,_,blD_at hi,_,rfl,sel_dec (fun h10 => ?_) (fun h10 => ?_)⟩
       · have hd:decide (i.toNat<10∨((i.toNat:Nat):Int)∈l)=true:=decide_eq_true (.inl (by omega))
         rw[hd]at next fail
         rw[←tr_at hi]
         refine sel_intro (fun h=>no (fail (by intro e;rw[e]at h;cases h))) (fun h => ?_)
         repeat (refine And.intro rfl ?_)
         rw[i64_in _ (by omega)]
         exact ⟨⟨by omega,by omega,rfl,next (by cases hx:tr w.now i.toNat with|true=>rfl|false=>rw[hx]at h;cases h)⟩,by first|omega|(dsimp only;omega)⟩
       · have hbm:i.toNat<(marks w.now.length l).length:=by rw[marks_len];omega
         have hd:decide (i.toNat<10∨((i.toNat:Nat):Int)∈l)=decide (i∈l):=by rw[hii,decide_eq_decide];exact ⟨fun h=>h.resolve_left (by omega),.inr⟩
         rw[hd]at next fail
         refine ⟨⟨rfl,rfl⟩,h0,hlt,⟨rfl,rfl⟩,_,blD_at hbm,_,rfl,?_⟩
         rw[marks_get,hii,←tr_at hi]
         refine sel_intro (fun h=>no (fail (by intro e;rw[e]at h;simp at h))) (fun h => ?_)
         repeat (refine And.intro rfl ?_)
         rw[i64_in _ (by omega)]
         exact ⟨⟨by omega,by omega,rfl,next (by simpa using h)⟩,by first|omega|(dsimp only;omega)⟩
     · have hx:nowIs w.now l:=fun j hj=>hok j (by omega)
       rw[if_pos hx]at eq
       rw[eq];rfl
def w00:Wd:=⟨[],[],[],0,0⟩
theorem w00_fits:WFits w00:=⟨by decide,by decide,by decide,fun s hs=>by cases hs⟩
theorem newR_tr {n i:Nat} (h:i<n):tr (newR n) i=decide (i<10):=by simp[tr,newR,h]
theorem w24_chk:ChkR w24 []=((0,0,0),0):=by
 have e:treeW w24=ts0:=by rw[treeW,if_pos (show w24.root=0 from rfl)]
 rw[ChkR,if_neg (by simpa using w24_right),e,if_neg (by simp[ts0])]
 show (if nowIs w24.now [] then _ else _)=_
 rw[if_pos]
 · rfl
 · intro i hi
   have:i<24:=by rw[show w24.now=newR 24 from rfl,newR_len]at hi;exact hi
   rw[show w24.now=newR 24 from rfl,newR_tr this]
   simp
theorem hold_tr {w:Wd} {b:Int} {r:Bool} {n:Nd} (h:Hold w b r=some n):tr w.now b.toNat=true:=by
 unfold Hold at h
 split at h
 · cases h
 · rename_i hx
   cases ht:tr w.now b.toNat with
   | true=>rfl
   | false=>exact absurd (.inr (.inr (.inr ht))) hx
theorem isTree_held {w:Wd} {h:Nat} {P:List Pr} {B:List Int} (ht:IsTree w h P B):∀b∈B,∃r n,Hold w b r=some n:=by
 rcases ht with ⟨_,_,_,rfl⟩|⟨_,_,_,h3,_⟩
 · intro b hb;cases hb
 · exact h3.held
def h10 (v:Nat) (l:List Int):Heap:=[(1000600,.row false true v 3 1 (il l))]
def sOf (l:List UInt8):ByteArray:=⟨l.toArray⟩
theorem sOf_data (l:List UInt8):(sOf l).data.toList=l:=by simp[sOf]
theorem sOf_size (l:List UInt8):(sOf l).size=l.length:=by rw[←size_list,sOf_data]
theorem beB1 (n:Int):beB n 1=[UInt8.ofNat (n % 256).toNat]:=by
 have:=be_bytes n 1
 rw[←this]
 simp[be,Mir.byteOf]
theorem gT_at {s:ByteArray} {A C:List UInt8} {b:UInt8} {a:Int} (h:s.data.toList=A++b :: C) (ha:a=A.length):gT s a 1=((b.toNat:Int),a+1,0):=by
 have hl:s.size=A.length+1+C.length:=by rw[←size_list,h];simp;omega
 have hp:piece s a 1=[b]:=piece_mid (A:=A) (B:=[b]) (C:=C) (by rw[h];rfl) (by omega) rfl
 rw[gT,getR_good (by omega) (by omega),hp]
 simp[g3,num]
theorem cT_at {s t:ByteArray} {A C:List UInt8} {a:Int} (h:s.data.toList=A++((beB t.size 2++t.data.toList)++C)) (ha:a=A.length) (ht:t.size≤65535):cT s a=(t,a+2+t.size,0):=by
 have e:s=cat [sOf A,TextOf t,sOf C]:=bytes_ext (by rw[cat3,sOf_data,sOf_data,textOf_data,h])
 have hA:(sOf A).size=A.length:=sOf_size A
 have:=cut_back t (sOf A) (sOf C) (by omega)
 rw[←e,hA,←ha]at this
 rw[cT,this];rfl
theorem textR_small {s:ByteArray} (h:s.size≤65535):TextR s = .tup [.n (.str (TextOf s)),.n (.int .i64 0)]:=by
 rw[TextR,if_neg (by omega)]
theorem get_self {k g:Int} {b:ByteArray} (h:pgOK k g b):GetPR (PageS k g b) = .tup [pg k g b,.n (.int .i64 0)]:=
 get_back' k g b _ h (by have:=pageS_size k g b h;omega) (by
  refine bytes_ext ?_
  rw[trimS_data,PageS,trimS_data,tz_idem])
def txB (t:ByteArray):List UInt8:=beB t.size 2++t.data.toList
def lfB:List ByteArray→List ByteArray→List UInt8
 | k :: ks,v :: vs=>txB k++(txB v++lfB ks vs)
 | _,_=>[]
def inB:List Int→List ByteArray→List UInt8
 | b :: bs,k :: ks=>beB b 2++(txB k++inB bs ks)
 | b :: _,[]=>beB b 2
 | [],_=>[]
def nodeL (n:Nd):List UInt8:=beB n.keys.length 1++(if n.leaf then lfB n.keys n.vals else inB n.kids n.keys)
def nodeB (n:Nd):ByteArray:=sOf (nodeL n)
def kindOf (n:Nd):Int:=if n.leaf then 1 else 2
def pageB (g:Int) (n:Nd):ByteArray:=PageS (kindOf n) g (nodeB n)
theorem gT_two {s:ByteArray} {A C:List UInt8} {b a:Int} (h:s.data.toList=A++(beB b 2++C)) (ha:a=A.length) (h0:0≤b) (h1:b<65536):gT s a 2=(b,a+2,0):=by
 have hl:s.size=A.length+2+C.length:=by rw[←size_list,h];simp[beB_length];omega
 have hp:piece s a 2=beB b 2:=piece_mid h (by omega) (by rw[beB_length];rfl)
 rw[gT,getR_good (by omega) (by omega),hp]
 have e:num (beB b 2)=b:=by rw[num_beB];exact Int.emod_eq_of_lt h0 (by omega)
 simp only[g3,e]
theorem lf_at {s:ByteArray}:∀(ks vs:List ByteArray) (A:List UInt8) (a:Int) (ak av:List ByteArray),vs.length=ks.length→(∀k∈ks,k.size≤65535)→(∀v∈vs,v.size≤65535)→s.data.toList=A++lfB ks vs→a=A.length →
   lfUp s ks.length a ak av = .inr (ak++ks,av++vs,(s.size:Int))
 | [],[],A,a,ak,av,_,_,_,h,ha=>by
   have hl:s.size=A.length:=by rw[←size_list,h];simp[lfB]
   simp only[List.length_nil,lfUp,List.append_nil]
   rw[ha,hl]
 | [],_ :: _,_,_,_,_,hl,_,_,_,_=>by simp at hl
 | _ :: _,[],_,_,_,_,hl,_,_,_,_=>by simp at hl
 | k :: ks,v :: vs,A,a,ak,av,hl,hk,hv,h,ha=>by
   have hk1:=hk k (by simp)
   have hv1:=hv v (by simp)
   have c1:=cT_at (t:=k) (A:=A) (C:=txB v++lfB ks vs) (a:=a) (by rw[h];rfl) ha hk1
   have c2:=cT_at (s:=s) (t:=v) (A:=A++txB k) (C:=lfB ks vs) (a:=a+2+k.size) (by rw[h];simp[lfB,txB]) (by simp[txB,beB_length,size_list];omega) hv1
   rw[List.length_cons,lf_go (by rw[c1]) (by rw[c1,c2]),c1]
   dsimp only
   rw[c2]
   dsimp only
   rw[lf_at ks vs (A++(txB k++txB v)) _ _ _ (by simpa using hl) (fun x hx=>hk x (List.mem_cons_of_mem _ hx)) (fun x hx=>hv x (List.mem_cons_of_mem _ hx)) (by rw[h];simp[lfB]) (by simp[txB,beB_length,size_list];omega)]
   simp
theorem in_at {s:ByteArray}:∀(bs:List Int) (ks:List ByteArray) (l:Int) (A:List UInt8) (a:Int) (ab:List Int) (ak:List ByteArray),bs.length=ks.length→(∀b∈bs,0≤b∧b<65536)→(∀k∈ks,k.size≤65535)→s.data.toList=A++inB (bs++[l]) ks→a=A.length →
   ∃A',inUp s ks.length a ab ak = .inr (ab++bs,ak++ks,(A'.length:Int))∧s.data.toList=A'++beB l 2
 | [],[],l,A,a,ab,ak,_,_,_,h,ha=>by
   refine ⟨A,?_,by rw[h];rfl⟩
   simp only[List.length_nil,inUp,List.append_nil]
   rw[ha]
 | [],_ :: _,_,_,_,_,_,hl,_,_,_,_=>by simp at hl
 | _ :: _,[],_,_,_,_,_,hl,_,_,_,_=>by simp at hl
 | b :: bs,k :: ks,l,A,a,ab,ak,hl,hb,hk,h,ha=>by
   have hk1:=hk k (by simp)
   have hb1:=hb b (by simp)
   have c1:=gT_two (s:=s) (b:=b) (A:=A) (C:=txB k++inB (bs++[l]) ks) (a:=a) (by rw[h];rfl) ha hb1.1 hb1.2
   have c2:=cT_at (s:=s) (t:=k) (A:=A++beB b 2) (C:=inB (bs++[l]) ks) (a:=a+2) (by rw[h];simp[inB,txB]) (by simp[beB_length];omega) hk1
   rw[List.length_cons,in_go (by rw[c1]) (by rw[c1,c2]),c1]
   dsimp only
   rw[c2]
   dsimp only
   obtain ⟨A',h1,h2⟩:=in_at bs ks l (A++(beB b 2++txB k)) (a+2+2+k.size) (ab++[b]) (ak++[k]) (by simpa using hl) (fun x hx=>hb x (List.mem_cons_of_mem _ hx)) (fun x hx=>hk x (List.mem_cons_of_mem _ hx)) (by rw[h];simp[inB]) (by simp[txB,beB_length,size_list];omega)
   refine ⟨A',?_,h2⟩
   rw[h1];simp
theorem kok_size {l:List ByteArray} (h:KOK l):∀k∈l,1≤k.size∧k.size≤32:=fun k hk=>by
 obtain ⟨i,hi,rfl⟩:=List.getElem_of_mem hk
 exact ⟨(h i hi hi).1,(h i hi hi).2.1⟩
theorem nget_node {n:Nd} (hok:NdOK n true):NGet (kindOf n) (nodeB n)=(n,0):=by
 obtain ⟨hs,h8,_⟩:=hok
 have hks:=kok_size hs.2.1
 have hd:(nodeB n).data.toList=nodeL n:=sOf_data _
 have h1:beB (n.keys.length:Int) 1=[UInt8.ofNat n.keys.length]:=by
   rw[beB1]
   congr 2
   omega
 have hbyte:((UInt8.ofNat n.keys.length).toNat:Int)=n.keys.length:=by
   rw[UInt8.toNat_ofNat']
   omega
 have g0:=gT_at (s:=nodeB n) (A:=[]) (b:=UInt8.ofNat n.keys.length) (C:=if n.leaf then lfB n.keys n.vals else inB n.kids n.keys) (a:=0) (by rw[hd,nodeL,h1];rfl) rfl
 rw[hbyte]at g0
 have hlen0:(nodeL n).length=1+(if n.leaf then lfB n.keys n.vals else inB n.kids n.keys).length:=by
   rw[nodeL,List.length_append,beB_length]
 have hsz:(nodeB n).size=(nodeL n).length:=sOf_size _
 have fin:∀a:Int,a=(nodeB n).size→nFin (nodeB n) n a=(n,0):=fun a ha=>by
   rw[nFin,if_neg]
   rintro (h|h)
   · exact h ha
   · exact h ⟨hs,h8,.inl rfl⟩
 rw[NGet,if_neg (by unfold kindOf;split <;> omega),if_neg (by rw[g0];simp),g0]
 dsimp only
 rw[Int.toNat_natCast,Int.zero_add]
 cases hl:n.leaf with
 | true=>
   have hv:n.vals.length=n.keys.length∧(∀v∈n.vals,v.size≤200)∧n.kids=[]:=by
     rcases hs.2.2 with ⟨_,h1,h2,h3⟩|⟨h,_⟩
     · exact ⟨h2,h3,h1⟩
     · rw[hl]at h;cases h
   have e:(kindOf n==1)=true:=by rw[kindOf,hl];rfl
   rw[e,nc_true,lf_at n.keys n.vals (beB (n.keys.length:Int) 1) 1 [] [] hv.1 (fun k hk=>by have:=hks k hk;omega) (fun v hv'=>by have:=hv.2.1 v hv';omega) (by rw[hd,nodeL,hl];rfl) (by simp[beB_length])]
   dsimp only
   have en:(⟨true,[]++n.keys,[]++n.vals,[]⟩:Nd)=n:=by
     rw[List.nil_append,List.nil_append,←hl,←hv.2.2]
   rw[en]
   exact fin _ rfl
 | false=>
   have hv:n.vals=[]∧n.kids.length=n.keys.length+1∧∀b∈n.kids,10≤b∧b<2048:=by
     rcases hs.2.2 with ⟨h,_⟩|⟨_,h1,_,h2,h3⟩
     · rw[hl]at h;cases h
     · exact ⟨h1,h2,h3⟩
   have e:(kindOf n==1)=false:=by rw[kindOf,hl];rfl
   have hne:n.kids≠[]:=fun h=>by rw[h]at hv;simp at hv
   have hsp:n.kids.dropLast++[n.kids.getLast hne]=n.kids:=List.dropLast_concat_getLast hne
   obtain ⟨A',h2,h3⟩:=in_at (s:=nodeB n) n.kids.dropLast n.keys (n.kids.getLast hne) (beB (n.keys.length:Int) 1) 1 [] [] (by rw[List.length_dropLast];omega) (fun b hb=>by have:=hv.2.2 b (List.dropLast_subset _ hb);omega) (fun k hk=>by have:=hks k hk;omega) (by rw[hd,nodeL,hl,hsp];rfl) (by simp[beB_length])
   have hbl:=hv.2.2 _ (List.getLast_mem hne)
   have c:=gT_two (s:=nodeB n) (A:=A') (C:=[]) (b:=n.kids.getLast hne) (a:=A'.length) (by rw[h3];simp) rfl (by omega) (by omega)
   rw[e,nc_false,h2]
   dsimp only
   rw[if_neg (by rw[c];simp),c]
   dsimp only
   have en:(⟨false,[]++n.keys,[],[]++n.kids.dropLast++[n.kids.getLast hne]⟩:Nd)=n:=by
     rw[List.nil_append,List.nil_append,hsp,←hl,←hv.1]
   rw[en]
   refine fin _ ?_
   have:(nodeB n).size=A'.length+2:=by rw[←size_list,h3];simp[beB_length]
   omega
theorem lfB_len:∀(ks vs:List ByteArray),(∀k∈ks,k.size≤32)→(∀v∈vs,v.size≤200)→(lfB ks vs).length≤236*ks.length
 | [],_,_,_=>by simp[lfB]
 | _ :: _,[],_,_=>by simp[lfB]
 | k :: ks,v :: vs,h1,h2=>by
   have:=lfB_len ks vs (fun x hx=>h1 x (List.mem_cons_of_mem _ hx)) (fun x hx=>h2 x (List.mem_cons_of_mem _ hx))
   have a1:=h1 k (by simp)
   have a2:=h2 v (by simp)
   simp only[lfB,txB,List.length_append,beB_length,size_list,List.length_cons];omega
theorem inB_len:∀(bs:List Int) (ks:List ByteArray),(∀k∈ks,k.size≤32)→(inB bs ks).length≤36*ks.length+2
 | [],_,_=>by simp[inB]
 | b :: bs,[],_=>by simp[inB,beB_length]
 | b :: bs,k :: ks,h=>by
   have:=inB_len bs ks (fun x hx=>h x (List.mem_cons_of_mem _ hx))
   have a1:=h k (by simp)
   simp only[inB,txB,List.length_append,beB_length,size_list,List.length_cons];omega
theorem nodeB_size {n:Nd} (hok:NdOK n true):(nodeB n).size≤4000:=by
 obtain ⟨hs,h8,_⟩:=hok
 have hks:=kok_size hs.2.1
 rw[show (nodeB n).size=(nodeL n).length from sOf_size _,nodeL,List.length_append,beB_length]
 split
 · rename_i hl
   have hv:∀v∈n.vals,v.size≤200:=by
    rcases hs.2.2 with ⟨_,_,_,h⟩|⟨h,_⟩
    · exact h
    · rw[hl]at h;cases h
   have:=lfB_len n.keys n.vals (fun k hk=>(hks k hk).2) hv
   omega
 · have:=inB_len n.kids n.keys (fun k hk=>(hks k hk).2)
   omega
theorem kindOf_rg (n:Nd):1≤kindOf n∧kindOf n≤2:=by unfold kindOf;split <;> omega
theorem page_ok {n:Nd} (hok:NdOK n true) {g:Int} (h0:0≤g) (h1:g≤1099511627776):pgOK (kindOf n) g (nodeB n):=by
 have h2:=kindOf_rg n
 have h3:=nodeB_size hok
 exact ⟨by omega,by omega,h0,h1,by omega⟩
theorem ndOK_root {n:Nd} {r:Bool} (h:NdOK n r):NdOK n true:=⟨h.1,h.2.1,.inl rfl⟩
theorem hold_store {w:Wd} {b:Int} {n:Nd} {g:Int} (hr:WRight w) (h10:10≤b) (h1:b<w.now.length) (hn:tr w.now b.toNat=true) (hp:pgAt w b=pageB g n) (h0:0≤g) (hg:g≤w.gen) {r:Bool} (hok:NdOK n r):Hold w b r=some n:=by
 have hg2:w.gen≤1099511627776:=hr.2.2.2.1
 rw[hold_go (by rw[hn];have:=hr.2.1;simp;omega),hp,pageB,get_self (page_ok (ndOK_root hok) h0 (by omega)),hPage_ok,if_neg (by omega),nget_node (ndOK_root hok)]
 dsimp only
 rw[if_neg (by simp),if_pos hok]
end Go.Proofs.YtclgengkohbjjaaGreatDoor.M
