import Derived.Test.YtegndijbpiccgaaGreatDoorR5TreeA
import Derived.Test.YtegndijbpiccgaaGreatDoorR5LV
namespace Go.Proofs.YtegndijbpiccgaaGreatDoor.M
set_option linter.unusedVariables false
set_option linter.unusedSimpArgs false
open Go Go.Mir
set_option linter.unusedVariables false
theorem p118 (k lo hi:ByteArray):Runs Fs2 118 [.n (.str k),.n (.str lo),.n (.str hi)] [] (.n (.bool (within k lo hi))) []:=by
 refine vc_eq fs118 rfl ?_
 rw[vc118,(V118e _ _ _ _).down]
 show sel (!(lt k lo)) _ _
 have e:(hi.toList==(ByteArray.mk (List.toArray [])).toList)=decide (hi=empS):=beq_dec hi empS
 rw[e]
 refine sel_intro (fun h=>sel_dec (fun h2 => ?_) (fun h2 => ?_)) (fun h => ?_)
 · rw[within,h,decide_eq_true h2];rfl
 · rw[within,h,decide_eq_false h2];rfl
 · rw[within,h];rfl
theorem nodup_bound:∀(N:Nat) (l:List Int),l.Nodup→(∀b∈l,0≤b∧b<N)→l.length≤N
 | 0,[],_,_=>Nat.le_refl _
 | 0,b :: l,_,h=>by have:=h b (by simp);omega
 | N+1,l,hn,h=>by
   by_cases hN:(N:Int)∈l
   · have h1:=nodup_bound N (l.erase N) (hn.erase _) (fun b hb=>by
      have h2:=h b (List.mem_of_mem_erase hb)
      have h3:b≠N:=fun e=>by subst e;exact (List.Nodup.mem_erase_iff hn).1 hb |>.1 rfl
      omega)
     have:=List.length_erase_of_mem hN
     omega
   · have:=nodup_bound N l hn (fun b hb=>by
      have h2:=h b hb
      have h3:b≠N:=fun e=>hN (e▸hb)
      omega)
     omega
structure TInv (t:TS):Prop where
 nd:t.bs.Nodup
 rg:∀b∈t.bs,0≤b∧b<2048
 ps:t.ps.length≤9*t.bs.length
theorem TInv.len {t:TS} (h:TInv t):t.bs.length≤2048:=nodup_bound 2048 t.bs h.nd h.rg
theorem kidsB_inv {f:Int→ByteArray→ByteArray→TS→TS} (ih:∀c lo hi t,TInv t→TInv (f c lo hi t)):∀ {ks:List ByteArray} {cs:List Int} {lo hi:ByteArray} {t:TS},TInv t→TInv (kidsB f lo hi ks cs t)
 | _,[],_,_,_,h=>by cases ‹List ByteArray› <;> exact h
 | [],c :: cs,lo,hi,t,h=>by
   rw[kidsB];refine kidsB_inv ih ?_
   split
   · exact h
   · exact ih _ _ _ _ h
 | k :: ks,c :: cs,lo,hi,t,h=>by
   rw[kidsB];refine kidsB_inv ih ?_
   split
   · exact h
   · exact ih _ _ _ _ h
theorem TInv.bad {t:TS} (h:TInv t):TInv { t with bad:=true }:=⟨h.nd,h.rg,h.ps⟩
theorem TInv.add {t:TS} (h:TInv t) {b:Int} (hb:b∉t.bs) (h0:0≤b∧b<2048) {P:List Pr} (hP:P.length≤9) (he:Int) (bad:Bool):TInv ⟨t.ps++P,t.bs++[b],he,bad⟩:=by
 refine ⟨List.nodup_append.2 ⟨h.nd,by simp,fun x hx y hy => ?_⟩,fun x hx => ?_,?_⟩
 · obtain rfl:y=b:=by simpa using hy
   rintro rfl;exact hb hx
 · rcases List.mem_append.1 hx with hx|hx
   · exact h.rg x hx
   · obtain rfl:x=b:=by simpa using hx
     exact h0
 · have:=h.ps
   simp;omega
theorem hold_rg {w:Wd} (hn:w.now.length≤2048) {b:Int} {r:Bool} {n:Nd} (h:Hold w b r=some n):10≤b∧b<w.now.length∧b<w.pages.length:=by
 unfold Hold at h
 split at h
 · cases h
 · omega
theorem below_inv {w:Wd} (hn:w.now.length≤2048):∀(f:Nat) (b d:Int) (lo hi:ByteArray) (t:TS),TInv t→TInv (below (Hold w) f b d lo hi t)
 | 0,_,_,_,_,_,h=>h.bad
 | f+1,b,d,lo,hi,t,h=>by
   unfold below
   by_cases h1:b∈t.bs∨t.bad=true
   · rw[if_pos h1];exact h.bad
   rw[if_neg h1]
   cases hh:Hold w b (d==1) with
   | none=>exact h.bad
   | some n=>
     dsimp only
     have hrg:=hold_rg hn hh
     have hok:=hold_ok hh
     by_cases h2:d > 8∨(n.leaf=true∧n.keys=[])
     · rw[if_pos h2];exact h.bad
     rw[if_neg h2]
     split
     · refine h.add (fun hb=>h1 (.inl hb)) (by omega) ?_ _ _
       have:=hok.2.1
       rw[List.length_zip];omega
     · refine kidsB_inv (fun c lo hi t ht=>below_inv hn f c (d+1) lo hi t ht) ?_
       have:=h.add (fun hb=>h1 (.inl hb)) (b:=b) (by omega) (P:=[]) (by simp) t.he (offK n lo hi)
       simpa using this
def psD (l:List Pr):List Mir.D:=l.map fun p => .rcd [.str p.1,.str p.2]
theorem psD_len (l:List Pr):(psD l).length=l.length:=by simp[psD]
theorem psD_snoc (l:List Pr) (k v:ByteArray):psD l++[.rcd [.str k,.str v]]=psD (l++[(k,v)]):=by simp[psD]
def hT (t:TS) (va vb:Nat):Heap:=[hB 3100101 [.row 3190001 va,.row 3190002 vb,.n (.int .i64 t.he),.n (.bool t.bad)],hR 3190001 va 129 2 (psD t.ps),hR 3190002 vb 3 1 (il t.bs)]
def fromAt (lo:ByteArray) (ks:List ByteArray) (i:Nat):ByteArray:=if i=0 then lo else (ks[i - 1]?).getD empS
theorem kidsB_in {f:Int→ByteArray→ByteArray→TS→TS} {lo hi:ByteArray} {ks:List ByteArray} {cs:List Int} {t:TS} {i:Nat} (h1:i<ks.length) (h2:i<cs.length):
  kidsB f (fromAt lo ks i) hi (ks.drop i) (cs.drop i) t=kidsB f (fromAt lo ks (i+1)) hi (ks.drop (i+1)) (cs.drop (i+1)) (if t.bad then t else f cs[i] (fromAt lo ks i) ks[i] t):=by
 rw[List.drop_eq_getElem_cons h1,List.drop_eq_getElem_cons h2,kidsB]
 have e:fromAt lo ks (i+1)=ks[i]:=by
  rw[fromAt,if_neg (by omega),Nat.add_sub_cancel,List.getElem?_eq_getElem h1];rfl
 rw[e]
theorem kidsB_end {f:Int→ByteArray→ByteArray→TS→TS} {lo hi:ByteArray} {ks:List ByteArray} {cs:List Int} {t:TS} {i:Nat} (h1:i=ks.length) (h2:i+1=cs.length):
  kidsB f (fromAt lo ks i) hi (ks.drop i) (cs.drop i) t=(if t.bad then t else f (cs[i]'(by omega)) (fromAt lo ks i) hi t):=by
 rw[List.drop_of_length_le (by omega),List.drop_eq_getElem_cons (by omega:i<cs.length),List.drop_of_length_le (by omega:cs.length≤i+1),kidsB,kidsB]
theorem kidsB_nil {f:Int→ByteArray→ByteArray→TS→TS} (lo hi:ByteArray) (ks:List ByteArray) (t:TS):kidsB f lo hi ks [] t=t:=by cases ks <;> rfl
theorem fromAt_pos {lo:ByteArray} {ks:List ByteArray} {i:Nat} (h:0<i) (h2:i - 1<ks.length):fromAt lo ks i=ks[i - 1]:=by
 rw[fromAt,if_neg (by omega),List.getElem?_eq_getElem h2];rfl
set_option maxRecDepth 10000 in
set_option maxHeartbeats 17100000 in
theorem p71 (w:Wd) (hf:WFits w) (hn:w.now.length≤2048):∀(f:Nat) (b d:Int) (lo hi:ByteArray) (t:TS) (va vb:Nat),d+f=10→1≤d→1≤f→TInv t →
   ∃va' vb',Runs Fs2 71 [.ptr 3100101 0,wdV w,.n (.int .i64 b),.n (.int .i64 d),.n (.str lo),.n (.str hi)] (hT t va vb) (.tup []) (hT (below (Hold w) f b d lo hi t) va' vb')
 | 0,b,d,lo,hi,t,va,vb,_,_,hf1,_=>by omega
 | f+1,b,d,lo,hi,t,va,vb,hdf,hd,_,hi'=>by
   have g43:=p117 w hf b (d==1)
   have key:∃r H',Runs Fs2 71 [.ptr 3100101 0,wdV w,.n (.int .i64 b),.n (.int .i64 d),.n (.str lo),.n (.str hi)] (hT t va vb) r H'∧r = .tup []∧∃va' vb',H'=hT (below (Hold w) (f+1) b d lo hi t) va' vb':=by
    refine vc_objs (R:=fun r H'=>r = .tup []∧∃va' vb',H'=hT (below (Hold w) (f+1) b d lo hi t) va' vb') fs71 rfl (by kernel_rfl) ?_
    rw[hT,wdV]
    show Vc Fs2 c71.body (argsQ c71 [.ptr 3100101 0,(.agg [.o (.sl 1 (blD w.base)),.o (.sl 1 (blD w.now)),.o (.sl 1 (sl_ w.pages)),.n (.int .i64 w.root),.n (.int .i64 w.gen)]),.n (.int .i64 b),.n (.int .i64 d),.n (.str lo),.n (.str hi)]) [(3100101,.box [.row 3190001 va,.row 3190002 vb,.n (.int .i64 t.he),.n (.bool t.bad)]),(3190001,.row false false va 129 2 (psD t.ps)),(3190002,.row false false vb 3 1 (il t.bs))] (endQH c71 [(3100101,.box [.row 3190001 va,.row 3190002 vb,.n (.int .i64 t.he),.n (.bool t.bad)]),(3190001,.row false false va 129 2 (psD t.ps)),(3190002,.row false false vb 3 1 (il t.bs))] _)
    rw[vc71h,(V71he _ _ _ _ _ _ _ _ _ _ _ _ _ _ _ _).down,il_len]
    have hlen:=hi'.len
    have hps:=hi'.ps
    refine ⟨rfl,fun i S=>0≤i∧i≤t.bs.length∧S=(va,vb,t.he,(t.bad||(t.bs.take i.toNat).contains b),()),fun i _=>(t.bs.length - i).toNat,⟨rfl,by omega,by omega,by simp⟩,?_⟩
    rintro i S ⟨h0,h1,rfl⟩ _
    dsimp only
    refine sel_dec (fun hlt => ?_) (fun hge => ?_)
    · have hi:i.toNat<t.bs.length:=by omega
      have e1:(i+1).toNat=i.toNat+1:=by omega
      refine ⟨⟨rfl,rfl⟩,h0,hlt,⟨rfl,rfl⟩,_,il_at hi,_,rfl,sel_intro (fun hx => ?_) (fun hx => ?_)⟩
      all_goals
        repeat (refine And.intro rfl ?_)
        rw[i64_in _ (by omega)]
        refine ⟨⟨by omega,by omega,?_⟩,by first|omega|(dsimp only;omega)⟩
        rw[e1,take_snoc hi]
        congr 4
      · have hx:t.bs[i.toNat]=b:=by simpa using hx
        simp[hx]
      · have hx:t.bs[i.toNat]≠b:=by simpa using hx
        have:¬b=t.bs[i.toNat]:=fun e=>hx e.symm
        simp only[List.contains_eq_mem,List.mem_append,List.mem_singleton,this,or_false]
    · rw[List.take_of_length_le (by omega)]
      have bad:below (Hold w) (f+1) b d lo hi t = { t with bad:=true }→∃va' vb',([hB 3100101 [.row 3190001 va,.row 3190002 vb,.n (.int .i64 t.he),.n (.bool true)],hR 3190001 va 129 2 (psD t.ps),hR 3190002 vb 3 1 (il t.bs)]:Heap)=hT (below (Hold w) (f+1) b d lo hi t) va' vb':=fun e=>⟨va,vb,by rw[e];rfl⟩
      by_cases hb1:b∈t.bs∨t.bad=true
      · have e:(t.bad||t.bs.contains b)=true:=by
          rcases hb1 with h|h
          · simp[h]
          · simp[h]
        rw[e]
        have gb:=bad (by rw[below,if_pos hb1])
        cases hh:Hold w b (d==1) with
        | none=>
          rw[hh]at g43
          exact ⟨_,_,_,_,_,g43,sel_intro (fun _=>⟨rfl,gb⟩) (fun h=>by cases h)⟩
        | some n=>
          rw[hh]at g43
          exact ⟨_,_,_,_,_,g43,sel_intro (fun _=>⟨rfl,gb⟩) (fun h=>by cases h)⟩
      have hbn:b∉t.bs:=fun h=>hb1 (.inl h)
      have htb:t.bad=false:=by cases h:t.bad with|false=>rfl|true=>exact absurd (.inr h) hb1
      have e:(t.bad||t.bs.contains b)=false:=by simp[hbn,htb]
      rw[e]
      cases hh:Hold w b (d==1) with
      | none=>
        rw[hh]at g43
        have gb:=bad (by rw[below,if_neg hb1,hh])
        exact ⟨_,_,_,_,_,g43,sel_intro (fun h=>by cases h) (fun _=>sel_intro (fun _=>⟨rfl,gb⟩) (fun h=>by cases h))⟩
      | some n=>
        rw[hh]at g43
        have hrg:=hold_rg hn hh
        have hok:=hold_ok hh
        have hk8:=hok.2.1
        have eq:below (Hold w) (f+1) b d lo hi t=if d > 8∨(n.leaf=true∧n.keys=[]) then { t with bad:=true } else
            if n.leaf then ⟨t.ps++n.keys.zip n.vals,t.bs++[b],d,offK n lo hi||(t.he != 0&&t.he != d)⟩
            else kidsB (fun c lo hi t=>below (Hold w) f c (d+1) lo hi t) lo hi n.keys n.kids ⟨t.ps,t.bs++[b],t.he,offK n lo hi⟩:=by
          rw[below,if_neg hb1,hh]
        refine ⟨_,_,_,_,_,g43,sel_intro (fun h=>by cases h) (fun _=>sel_intro (fun h=>by cases h) (fun _=>sel_dec (fun h=>⟨rfl,bad (by rw[eq,if_pos (.inl h)])⟩) (fun h8 => ?_)))⟩
        have hsnoc:il t.bs++[D.int .i64 b]=il (t.bs++[b]):=by simp[il]
        rw[sl_len,il_len,hsnoc]
        have keyrun:=fun (k:ByteArray)=>p118 k lo hi
        cases hl:n.leaf with
        | true=>
          have hvl:n.vals.length=n.keys.length:=by
            rcases hok.1.2.2 with ⟨_,_,h,_⟩|⟨h,_⟩
            · exact h
            · rw[hl]at h;cases h
          refine sel_intro (fun _=>sel_intro (fun h=>⟨rfl,bad (by rw[eq,if_pos (.inr ⟨hl,nil_of h⟩)])⟩) (fun hk0 => ?_)) (fun h=>by cases h)
          have hk0:n.keys≠[]:=fun e=>by rw[e]at hk0;simp at hk0
          rw[if_neg (by
            rintro (h|h)
            · exact h8 h
            · exact hk0 h.2),hl,if_pos rfl]at eq
          have hsm:((t.bs.length+1)*8:Nat)≤140737488355328:=by omega
          refine ⟨rfl,.inl rfl,⟨⟨rfl,rfl⟩,rfl⟩,by simpa[il_len] using hsm,fun i S Q=>0≤i∧i≤n.keys.length∧∃va',S=(va',vb+1,t.he,(n.keys.take i.toNat).any (fun k => !(within k lo hi)),())∧Q=(va',psD (t.ps++(n.keys.zip n.vals).take i.toNat)),fun i _ _=>(n.keys.length - i).toNat,⟨rfl,by omega,by omega,va,by simp,by simp⟩,?_⟩
          rintro i S Q ⟨h0,h1,va',rfl,rfl⟩ _
          dsimp only
          refine sel_dec (fun hlt => ?_) (fun hge => ?_)
          · have hi:i.toNat<n.keys.length:=by omega
            have hv:i.toNat<n.vals.length:=by omega
            have hz:i.toNat<(n.keys.zip n.vals).length:=by rw[List.length_zip];omega
            have e1:(i+1).toNat=i.toNat+1:=by omega
            have hq:psD (t.ps++(n.keys.zip n.vals).take i.toNat)++[D.rcd [.str n.keys[i.toNat],.str n.vals[i.toNat]]]=psD (t.ps++(n.keys.zip n.vals).take (i.toNat+1)):=by
              rw[psD_snoc,take_snoc hz,List.getElem_zip,List.append_assoc]
            have hb:(psD (t.ps++(n.keys.zip n.vals).take i.toNat)).length+1≤4398046511104:=by
              rw[psD_len,List.length_append,List.length_take,List.length_zip];omega
            refine ⟨rfl,h0,_,sl_at hi,_,rfl,_,keyrun _,sel_intro (fun hx => ?_) (fun hx => ?_)⟩
            all_goals
              refine sel_intro (fun _=>⟨rfl,h0,_,sl_at hv,_,rfl,rfl,.inl rfl,⟨⟨rfl,rfl⟩,rfl⟩,by simp only[List.length_singleton];omega,?_⟩) (fun h=>by cases h)
              repeat (refine And.intro rfl ?_)
              rw[i64_in _ (by omega),hq]
              refine ⟨⟨by omega,by omega,va'+1,?_,by rw[e1]⟩,by first|omega|(dsimp only;omega)⟩
              rw[e1,take_snoc hi,List.any_append]
            · simp only[hx,List.any_cons,List.any_nil,Bool.or_true,Bool.or_false]
            · simp only[hx,List.any_cons,List.any_nil,Bool.or_false]
          · have hge2:n.keys.length≤i.toNat:=by omega
            have hge3:(n.keys.zip n.vals).length≤i.toNat:=by rw[List.length_zip];omega
            rw[List.take_of_length_le hge2,List.take_of_length_le hge3]
            refine sel_intro (fun _ => ?_) (fun h=>by cases h)
            have ea:n.keys.any (fun k => !(within k lo hi))=offK n lo hi:=rfl
            rw[ea]
            refine sel_intro (fun h1=>sel_intro (fun h2=>⟨rfl,va',vb+1,?_⟩) (fun h2=>⟨rfl,va',vb+1,?_⟩)) (fun h1=>⟨rfl,va',vb+1,?_⟩)
            · rw[eq,h1,h2];simp[hT]
            · rw[eq,h1,h2];simp[hT]
            · rw[eq,h1];simp[hT]
        | false=>
          refine sel_intro (fun h=>by cases h) (fun _ => ?_)
          rw[if_neg (by
            rintro (h|h)
            · exact h8 h
            · rw[hl]at h;cases h.1),hl,if_neg (by simp)]at eq
          have hkl:n.kids.length=n.keys.length+1:=by
            rcases hok.1.2.2 with ⟨h,_⟩|⟨_,_,_,h,_⟩
            · rw[hl]at h;cases h
            · exact h
          have hsm:((t.bs.length+1)*8:Nat)≤140737488355328:=by omega
          refine ⟨rfl,.inl rfl,⟨⟨rfl,rfl⟩,rfl⟩,by simpa[il_len] using hsm,fun i S Q=>0≤i∧i≤n.keys.length∧S=(va,vb+1,t.he,(n.keys.take i.toNat).any (fun k => !(within k lo hi)),())∧Q=(va,psD t.ps),fun i _ _=>(n.keys.length - i).toNat,⟨rfl,by omega,by omega,by simp,rfl⟩,?_⟩
          rintro i S Q ⟨h0,h1,rfl,rfl⟩ _
          dsimp only
          refine sel_dec (fun hlt => ?_) (fun hge => ?_)
          · have hi:i.toNat<n.keys.length:=by omega
            have e1:(i+1).toNat=i.toNat+1:=by omega
            refine ⟨rfl,h0,_,sl_at hi,_,rfl,_,keyrun _,sel_intro (fun hx => ?_) (fun hx => ?_)⟩
            all_goals
              refine sel_intro (fun h=>by cases h) (fun _ => ?_)
              repeat (refine And.intro rfl ?_)
              rw[i64_in _ (by omega)]
              refine ⟨⟨by omega,by omega,?_,rfl⟩,by first|omega|(dsimp only;omega)⟩
              rw[e1,take_snoc hi,List.any_append]
            · simp only[hx,List.any_cons,List.any_nil,Bool.or_true,Bool.or_false]
            · simp only[hx,List.any_cons,List.any_nil,Bool.or_false]
          · rw[List.take_of_length_le (by omega)]
            refine sel_intro (fun h=>by cases h) (fun _ => ?_)
            have hst:TInv ⟨t.ps,t.bs++[b],t.he,offK n lo hi⟩:=by
              have:=hi'.add hbn (b:=b) (by omega) (P:=[]) (by simp) t.he (offK n lo hi)
              simpa using this
            refine ⟨fun i S Q Bq=>0≤i∧i≤n.kids.length∧∃(t':TS) (va' vb':Nat),TInv t'∧S=(va',vb',t'.he,t'.bad,())∧Q=(va',psD t'.ps)∧Bq=(vb',il t'.bs)∧below (Hold w) (f+1) b d lo hi t=kidsB (fun c lo hi t=>below (Hold w) f c (d+1) lo hi t) (fromAt lo n.keys i.toNat) hi (n.keys.drop i.toNat) (n.kids.drop i.toNat) t',fun i _ _ _=>(n.kids.length - i).toNat,
              ⟨rfl,by omega,by omega,⟨t.ps,t.bs++[b],t.he,offK n lo hi⟩,va,vb+1,hst,rfl,rfl,rfl,eq⟩,?_⟩
            rintro i S Q Bq ⟨h0,h1,t',va',vb',ht',rfl,rfl,rfl,hinv⟩ _
            dsimp only
            rw[i64_in (d+1) (by omega),i64_in (i - 1) (by omega),i64_in (i+1) (by omega)]
            have e1:(i+1).toNat=i.toNat+1:=by omega
            have e2:(i - 1).toNat=i.toNat - 1:=by omega
            refine sel_dec (fun hlt => ?_) (fun hge => ?_)
            · have hik:i.toNat<n.kids.length:=by omega
              have tail:∀(fr tl:ByteArray),kidsB (fun c lo hi t=>below (Hold w) f c (d+1) lo hi t) (fromAt lo n.keys i.toNat) hi (n.keys.drop i.toNat) (n.kids.drop i.toNat) t'=kidsB (fun c lo hi t=>below (Hold w) f c (d+1) lo hi t) (fromAt lo n.keys (i.toNat+1)) hi (n.keys.drop (i.toNat+1)) (n.kids.drop (i.toNat+1)) (if t'.bad then t' else below (Hold w) f n.kids[i.toNat] (d+1) fr tl t') →
                  t'.bad=false→∃va'' vb'',Runs Fs2 71 [.ptr 3100101 0,wdV w,.n (.int .i64 n.kids[i.toNat]),.n (.int .i64 (d+1)),.n (.str fr),.n (.str tl)] (hT t' va' vb') (.tup []) (hT (below (Hold w) f n.kids[i.toNat] (d+1) fr tl t') va'' vb'') ∧
                    ∃(t'':TS) (a c:Nat),TInv t''∧(va'',vb'',(below (Hold w) f n.kids[i.toNat] (d+1) fr tl t').he,(below (Hold w) f n.kids[i.toNat] (d+1) fr tl t').bad,())=(a,c,t''.he,t''.bad,())∧(va'',psD (below (Hold w) f n.kids[i.toNat] (d+1) fr tl t').ps)=(a,psD t''.ps)∧(vb'',il (below (Hold w) f n.kids[i.toNat] (d+1) fr tl t').bs)=(c,il t''.bs)∧below (Hold w) (f+1) b d lo hi t=kidsB (fun c lo hi t=>below (Hold w) f c (d+1) lo hi t) (fromAt lo n.keys (i+1).toNat) hi (n.keys.drop (i+1).toNat) (n.kids.drop (i+1).toNat) t'':=fun fr tl hs hb=>by
                obtain ⟨va'',vb'',g⟩:=p71 w hf hn f n.kids[i.toNat] (d+1) fr tl t' va' vb' (by omega) (by omega) (by omega) ht'
                refine ⟨va'',vb'',g,_,va'',vb'',below_inv hn f _ (d+1) fr tl t' ht',rfl,rfl,rfl,?_⟩
                rw[hinv,hs,hb,e1];rfl
              have skip:∀(fr tl:ByteArray),kidsB (fun c lo hi t=>below (Hold w) f c (d+1) lo hi t) (fromAt lo n.keys i.toNat) hi (n.keys.drop i.toNat) (n.kids.drop i.toNat) t'=kidsB (fun c lo hi t=>below (Hold w) f c (d+1) lo hi t) (fromAt lo n.keys (i.toNat+1)) hi (n.keys.drop (i.toNat+1)) (n.kids.drop (i.toNat+1)) (if t'.bad then t' else below (Hold w) f n.kids[i.toNat] (d+1) fr tl t') →
                  t'.bad=true→∃(t'':TS) (a c:Nat),TInv t''∧(va',vb',t'.he,t'.bad,())=(a,c,t''.he,t''.bad,())∧(va',psD t'.ps)=(a,psD t''.ps)∧(vb',il t'.bs)=(c,il t''.bs)∧below (Hold w) (f+1) b d lo hi t=kidsB (fun c lo hi t=>below (Hold w) f c (d+1) lo hi t) (fromAt lo n.keys (i+1).toNat) hi (n.keys.drop (i+1).toNat) (n.kids.drop (i+1).toNat) t'':=fun fr tl hs hb=>by
                refine ⟨t',va',vb',ht',rfl,rfl,rfl,?_⟩
                rw[hinv,hs,hb,e1];rfl
              refine ⟨rfl,h0,_,il_at hik,_,rfl,sel_dec (fun hp => ?_) (fun hp => ?_)⟩
              · have hi1:(i - 1).toNat<n.keys.length:=by omega
                have ef:fromAt lo n.keys i.toNat=n.keys[(i - 1).toNat]:=by
                  rw[fromAt_pos (by omega) (by omega)]
                  congr 1;omega
                refine ⟨rfl,by omega,_,sl_at hi1,_,rfl,sel_dec (fun hq => ?_) (fun hq => ?_)⟩
                · have hi2:i.toNat<n.keys.length:=by omega
                  have hs:=kidsB_in (f:=fun c lo hi t=>below (Hold w) f c (d+1) lo hi t) (lo:=lo) (hi:=hi) (t:=t') hi2 hik
                  have hs':=hs
                  rw[show below (Hold w) f n.kids[i.toNat] (d+1) (fromAt lo n.keys i.toNat) n.keys[i.toNat] t'=below (Hold w) f n.kids[i.toNat] (d+1) n.keys[(i - 1).toNat] n.keys[i.toNat] t' by rw[ef]]at hs
                  refine ⟨rfl,h0,_,sl_at hi2,_,rfl,sel_intro (fun hb => ?_) (fun hb => ?_)⟩
                  · obtain ⟨va'',vb'',g,hx⟩:=tail _ _ hs (by simpa using hb)
                    exact ⟨_,_,_,_,_,_,_,_,g,rfl,rfl,rfl,rfl,rfl,rfl,rfl,rfl,rfl,⟨by omega,by omega,hx⟩,by first|omega|(dsimp only;omega)⟩
                  · have hx:=skip _ _ hs (by simpa using hb)
                    exact ⟨rfl,rfl,rfl,rfl,rfl,rfl,rfl,rfl,rfl,⟨by omega,by omega,hx⟩,by first|omega|(dsimp only;omega)⟩
                · have hs:=kidsB_end (f:=fun c lo hi t=>below (Hold w) f c (d+1) lo hi t) (lo:=lo) (hi:=hi) (ks:=n.keys) (cs:=n.kids) (t:=t') (i:=i.toNat) (by omega) (by omega)
                  have hd2:n.kids.drop (i.toNat+1)=[]:=List.drop_of_length_le (by omega)
                  rw[show below (Hold w) f n.kids[i.toNat] (d+1) (fromAt lo n.keys i.toNat) hi t'=below (Hold w) f n.kids[i.toNat] (d+1) n.keys[(i - 1).toNat] hi t' by rw[ef]]at hs
                  have hs:_=kidsB (fun c lo hi t=>below (Hold w) f c (d+1) lo hi t) (fromAt lo n.keys (i.toNat+1)) hi (n.keys.drop (i.toNat+1)) (n.kids.drop (i.toNat+1)) _:=hs.trans (by rw[hd2,kidsB_nil])
                  refine sel_intro (fun hb => ?_) (fun hb => ?_)
                  · obtain ⟨va'',vb'',g,hx⟩:=tail _ _ hs (by simpa using hb)
                    exact ⟨_,_,_,_,_,_,_,_,g,rfl,rfl,rfl,rfl,rfl,rfl,rfl,rfl,rfl,⟨by omega,by omega,hx⟩,by first|omega|(dsimp only;omega)⟩
                  · have hx:=skip _ _ hs (by simpa using hb)
                    exact ⟨rfl,rfl,rfl,rfl,rfl,rfl,rfl,rfl,rfl,⟨by omega,by omega,hx⟩,by first|omega|(dsimp only;omega)⟩
              · have hi2:i.toNat<n.keys.length:=by
                  rcases hok.1.2.2 with ⟨h,_⟩|⟨_,_,h,_⟩
                  · rw[hl]at h;cases h
                  · omega
                have ef:fromAt lo n.keys i.toNat=lo:=by rw[fromAt,if_pos (by omega)]
                have hs:=kidsB_in (f:=fun c lo hi t=>below (Hold w) f c (d+1) lo hi t) (lo:=lo) (hi:=hi) (t:=t') hi2 hik
                rw[show below (Hold w) f n.kids[i.toNat] (d+1) (fromAt lo n.keys i.toNat) n.keys[i.toNat] t'=below (Hold w) f n.kids[i.toNat] (d+1) lo n.keys[i.toNat] t' by rw[ef]]at hs
                refine sel_dec (fun hq => ?_) (fun hq=>by omega)
                refine ⟨rfl,h0,_,sl_at hi2,_,rfl,sel_intro (fun hb => ?_) (fun hb => ?_)⟩
                · obtain ⟨va'',vb'',g,hx⟩:=tail _ _ hs (by simpa using hb)
                  exact ⟨_,_,_,_,_,_,_,_,g,rfl,rfl,rfl,rfl,rfl,rfl,rfl,rfl,rfl,⟨by omega,by omega,hx⟩,by first|omega|(dsimp only;omega)⟩
                · have hx:=skip _ _ hs (by simpa using hb)
                  exact ⟨rfl,rfl,rfl,rfl,rfl,rfl,rfl,rfl,rfl,⟨by omega,by omega,hx⟩,by first|omega|(dsimp only;omega)⟩
            · have hd2:n.kids.drop i.toNat=[]:=List.drop_of_length_le (by omega)
              rw[hd2,kidsB_nil]at hinv
              refine ⟨rfl,va',vb',?_⟩
              rw[hinv];rfl
   obtain ⟨r,H',hr,rfl,va',vb',rfl⟩:=key
   exact ⟨va',vb',hr⟩
abbrev wdT:Mir.Ty := .st [.st [.sl .bool,.sl .bool],.sl .str,.int .i64,.int .i64]
def toWd (x:wdT.T):Wd:=match x with
 | ((a,b,_),p,r,g,_)=>⟨a,b,p,r,g⟩
theorem wd_fit (x:wdT.T) (h:wdT.fit x):WFits (toWd x):=by
 obtain ⟨⟨a,b,_⟩,p,r,g,_⟩:=x
 obtain ⟨⟨⟨h1,_⟩,⟨h2,_⟩,_⟩,⟨h3,h4⟩,_⟩:=h
 have e:maxLen≤9223372036854775807:=by decide
 exact ⟨by show ((List.length a:Nat):Int)≤_;have:List.length a≤maxLen:=h1;omega,by show ((List.length b:Nat):Int)≤_;have:List.length b≤maxLen:=h2;omega,by show ((List.length p:Nat):Int)≤_;have:List.length p≤maxLen:=h3;omega,fun s hs=>by
  have:ByteArray.size s≤maxLen:=h4 s hs
  show ((ByteArray.size s:Nat):Int)≤_;omega⟩
theorem ts0_inv:TInv ts0:=⟨by simp[ts0],by simp[ts0],by simp[ts0]⟩
theorem p31 (w:Wd) (hf:WFits w) (hn:w.now.length≤2048):∃va vb,Runs Fs2 31 [wdV w] [] (.ptr 3100101 0) (hT (treeW w) va vb):=by
 have key:∃r H',Runs Fs2 31 [wdV w] [] r H'∧r = .ptr 3100101 0∧∃va vb,H'=hT (treeW w) va vb:=by
  refine vc_own (R:=fun r H'=>r = .ptr 3100101 0∧∃va vb,H'=hT (treeW w) va vb) fs31 rfl ?_
  rw[wdV,vc31o,(V31oe _ _ _ _ _ _).down]
  refine sel_intro (fun h => ?_) (fun h=>⟨rfl,0,0,?_⟩)
  · obtain ⟨va,vb,g⟩:=p71 w hf hn 9 w.root 1 empS empS ts0 0 0 (by omega) (by omega) (by omega) ts0_inv
    have e:below (Hold w) 9 w.root 1 empS empS ts0=treeW w:=by rw[treeW,if_neg (by simpa using h)]
    rw[e]at g
    exact ⟨_,_,_,_,_,_,_,_,g,rfl,va,vb,rfl⟩
  · rw[treeW,if_pos (by simpa using h)];rfl
 obtain ⟨r,H',hr,rfl,va,vb,rfl⟩:=key
 exact ⟨va,vb,hr⟩
theorem treeW_inv {w:Wd} (hn:w.now.length≤2048):TInv (treeW w):=by
 unfold treeW
 split
 · exact ts0_inv
 · exact below_inv hn _ _ _ _ _ _ ts0_inv
theorem wr_now {w:Wd} (h:WRight w):w.now.length≤2048:=h.1.2.2.1
structure SC where
 se:Int
 out:List Pr
 nx:ByteArray
 full:Bool
 bad:Bool
def lastLt (out:List Pr) (key:ByteArray):Bool:=match out.getLast? with
 | none=>true
 | some p=>lt p.1 key
def takeS (fr:ByteArray) (mo:Int) (s:SC) (p:Pr):SC:=
 if s.full=true∨lt p.1 fr=true then s
 else if lastLt s.out p.1=false then { s with bad:=true }
 else if (s.out.length:Int)=mo then { s with full:=true,nx:=p.1 }
 else { s with out:=s.out++[p] }
def takesS (fr:ByteArray) (mo:Int) (s:SC) (l:List Pr):SC:=l.foldl (takeS fr mo) s
def Same (r s:SC):Prop:=r.out=s.out∧r.nx=s.nx∧r.full=s.full∧r.bad=s.bad
theorem Same.trans {a b c:SC} (h:Same a b) (g:Same b c):Same a c:=⟨h.1.trans g.1,h.2.1.trans g.2.1,h.2.2.1.trans g.2.2.1,h.2.2.2.trans g.2.2.2⟩
theorem Same.refl (a:SC):Same a a:=⟨rfl,rfl,rfl,rfl⟩
def Does (fr:ByteArray) (mo:Int) (s r:SC) (P:List Pr) (n:Nat):Prop:=Same r (takesS fr mo s P)∧s.se≤r.se∧r.se≤s.se+n
def hW (lo hi:ByteArray):Heap:=[hB 13700000 [.n (.str lo)],hB 13700001 [.n (.str hi)]]
theorem p172 (k lo hi:ByteArray):Runs Fs2 172 [.n (.str k),.ptr 13700000 0,.ptr 13700001 0] (hW lo hi) (.n (.bool (!(within k lo hi)))) (hW lo hi):=by
 refine vc_look fs172 rfl (by kernel_rfl) ?_
 show Vc Fs2 c172.body (argsQ c172 [.n (.str k),.ptr 13700000 0,.ptr 13700001 0]) [(13700000,.box [.n (.str lo)]),(13700001,.box [.n (.str hi)])] (endQH c172 [(13700000,.box [.n (.str lo)]),(13700001,.box [.n (.str hi)])] _)
 rw[vc172h,(V172he _ _ _ _).down]
 have e:(hi.toList==(ByteArray.mk (List.toArray [])).toList)=decide (hi=empS):=beq_dec hi empS
 rw[e]
 show sel (lt k lo) _ _
 refine sel_intro (fun h=>⟨by rw[within,h];rfl,rfl⟩) (fun h=>sel_intro (fun h2=>⟨?_,rfl⟩) (fun h2=>⟨?_,rfl⟩))
 · have h2:decide (hi=empS)=false:=by simpa using h2
   rw[within,h,h2];rfl
 · have h2:decide (hi=empS)=true:=by simpa using h2
   rw[within,h,h2];rfl
theorem p146r (l:List ByteArray) (hl:Small l.length) (lo hi:ByteArray):∃r:Int,decide (r≥0)=l.any (fun k => !(within k lo hi))∧Runs Fs2 146 [.o (.sl 1 (sl_ l)),.fn 172 [.ptr 13700000 0,.ptr 13700001 0]] (hW lo hi) (.n (.int .i64 r)) (hW lo hi):=by
 have key:∃r H',Runs Fs2 146 [.o (.sl 1 (sl_ l)),.fn 172 [.ptr 13700000 0,.ptr 13700001 0]] (hW lo hi) r H'∧∃k:Int,r = .n (.int .i64 k)∧H'=hW lo hi∧decide (k≥0)=l.any (fun k => !(within k lo hi)):=by
  refine vc_objs (R:=fun r H'=>∃k:Int,r = .n (.int .i64 k)∧H'=hW lo hi∧decide (k≥0)=l.any (fun k => !(within k lo hi))) fs146 rfl (by kernel_rfl) ?_
  show Vc Fs2 c146.body (argsQ c146 [.o (.sl 1 (sl_ l)),.fn 172 [.ptr 13700000 0,.ptr 13700001 0]]) [(13700000,.box [.n (.str lo)]),(13700001,.box [.n (.str hi)])] (endQH c146 [(13700000,.box [.n (.str lo)]),(13700001,.box [.n (.str hi)])] _)
  rw[vc146r,(V146re _ _ _ _).down,sl_len]
  refine ⟨fun k=>0≤k∧k≤l.length∧∀(j:Nat) (h:j<l.length),(j:Int)<k→(!(within l[j] lo hi))=false,fun k=>(l.length - k).toNat,⟨rfl,by omega,by omega,fun j _ hj=>by omega⟩,?_⟩
  rintro k ⟨k0,k1,hok⟩ _
  refine sel_dec (fun h => ?_) (fun h=>⟨-1,rfl,rfl,?_⟩)
  · have hi':k.toNat<l.length:=by omega
    refine ⟨rfl,k0,_,sl_at hi',_,rfl,_,p172 _ lo hi,sel_intro (fun hb=>⟨k,rfl,rfl,?_⟩) (fun hb => ?_)⟩
    · rw[decide_eq_true k0];exact (any_at (p:=fun k:ByteArray => !(within k lo hi)) hi' hb).symm
    · repeat (refine And.intro rfl ?_)
      rw[i64_in _ (by omega)]
      exact ⟨⟨by omega,by omega,step_up (p:=fun k:ByteArray => !(within k lo hi)) k0 hi' hb hok⟩,by first|omega|(dsimp only;omega)⟩
  · exact (any_up (p:=fun k:ByteArray => !(within k lo hi)) k0 h hok).symm
 obtain ⟨r,H',hr,k,rfl,rfl,hk⟩:=key
 exact ⟨k,hk,hr⟩
theorem p111r (l:List ByteArray) (hl:Small l.length) (lo hi:ByteArray):Runs Fs2 111 [.o (.sl 1 (sl_ l)),.fn 172 [.ptr 13700000 0,.ptr 13700001 0]] (hW lo hi) (.n (.bool (l.any fun k => !(within k lo hi)))) (hW lo hi):=by
 refine vc_look fs111 rfl (by kernel_rfl) ?_
 show Vc Fs2 c111.body (argsQ c111 [.o (.sl 1 (sl_ l)),.fn 172 [.ptr 13700000 0,.ptr 13700001 0]]) [(13700000,.box [.n (.str lo)]),(13700001,.box [.n (.str hi)])] (endQH c111 [(13700000,.box [.n (.str lo)]),(13700001,.box [.n (.str hi)])] _)
 rw[vc111r,(V111re _ _ _ _).down]
 obtain ⟨r,hr,h⟩:=p146r l hl lo hi
 exact ⟨r,h,by rw[hr],rfl⟩
structure CS where
 used:List Bool
 np:Int
 he:Int
 nb:Int
 bad:Bool
def marks (N:Nat) (bs:List Int):List Bool:=(List.range N).map fun i:Nat=>decide ((i:Int)∈bs)
theorem marks_len (N:Nat) (bs:List Int):(marks N bs).length=N:=by simp[marks]
theorem marks_get {N:Nat} {bs:List Int} {i:Nat} (h:i<(marks N bs).length):(marks N bs)[i]=decide ((i:Int)∈bs):=by simp[marks]
theorem marks_set {N:Nat} {bs:List Int} {b:Int} (h0:0≤b):(marks N bs).set b.toNat true=marks N (bs++[b]):=by
 refine List.ext_getElem (by simp[marks]) fun i h1 h2 => ?_
 rw[List.getElem_set,marks_get,marks_get (by simpa[marks] using h1)]
 by_cases e:b.toNat=i
 · rw[if_pos e]
   have:(i:Int)=b:=by omega
   simp[this]
 · rw[if_neg e]
   have:(i:Int)≠b:=by omega
   simp[this]
def csOf (N:Nat) (t:TS):CS:=⟨marks N t.bs,t.ps.length,t.he,t.bs.length,t.bad⟩
def hC (w:Wd) (s:CS) (v:Nat):Heap:=[hR 9200305 v 4 1 (blD s.used),hB 9200307 [.o (.sl 1 (blD w.base)),.o (.sl 1 (blD w.now)),.o (.sl 1 (sl_ w.pages)),.n (.int .i64 w.root),.n (.int .i64 w.gen),.n (.int .i64 s.np),.n (.int .i64 s.he),.n (.int .i64 s.nb),.row 9200305 v,.n (.bool s.bad)]]
def CRel (N:Nat) (s:CS) (t:TS):Prop:=s.bad=t.bad∧(t.bad=false→s=csOf N t)
theorem blD_set (l:List Bool) (i:Nat) (b:Bool):(blD l).set i (.bool b)=blD (l.set i b):=by simp[blD,List.map_set]
theorem crel_bad {N:Nat} {s:CS} {t:TS} (h1:s.bad=true) (h2:t.bad=true):CRel N s t:=⟨by rw[h1,h2],fun h=>by rw[h2]at h;cases h⟩
set_option maxRecDepth 10000 in
set_option maxHeartbeats 17100000 in
theorem p137 (w:Wd) (hf:WFits w) (hr:WRight w):∀(f:Nat) (b d:Int) (lo hi:ByteArray) (t:TS) (v:Nat),d+f=10→1≤d→1≤f→TInv t→t.bad=false →
   ∃s',Runs Fs2 137 [.ptr 9200307 0,.n (.int .i64 b),.n (.int .i64 d),.n (.str lo),.n (.str hi)] (hC w (csOf w.now.length t) v) (.tup []) (hC w s' v)∧CRel w.now.length s' (below (Hold w) f b d lo hi t)
 | 0,b,d,lo,hi,t,v,_,_,hf1,_,_=>by omega
 | f+1,b,d,lo,hi,t,v,hdf,hd,_,ht,htb=>by
   have g40:=p171 w hf b (d==1)
   have hn:=wr_now hr
   have hlen:=ht.len
   have hps:=ht.ps
   have key:∃r H',Runs Fs2 137 [.ptr 9200307 0,.n (.int .i64 b),.n (.int .i64 d),.n (.str lo),.n (.str hi)] (hC w (csOf w.now.length t) v) r H'∧r = .tup []∧∃s',H'=hC w s' v∧CRel w.now.length s' (below (Hold w) (f+1) b d lo hi t):=by
    refine vc_objs (R:=fun r H'=>r = .tup []∧∃s',H'=hC w s' v∧CRel w.now.length s' (below (Hold w) (f+1) b d lo hi t)) fs137 rfl (by kernel_rfl) ?_
    show Vc Fs2 c137.body (argsQ c137 [.ptr 9200307 0,.n (.int .i64 b),.n (.int .i64 d),.n (.str lo),.n (.str hi)]) [(9200305,.row false false v 4 1 (blD (marks w.now.length t.bs))),(9200307,.box [.o (.sl 1 (blD w.base)),.o (.sl 1 (blD w.now)),.o (.sl 1 (sl_ w.pages)),.n (.int .i64 w.root),.n (.int .i64 w.gen),.n (.int .i64 t.ps.length),.n (.int .i64 t.he),.n (.int .i64 t.bs.length),.row 9200305 v,.n (.bool t.bad)])] (endQH c137 [(9200305,.row false false v 4 1 (blD (marks w.now.length t.bs))),(9200307,.box [.o (.sl 1 (blD w.base)),.o (.sl 1 (blD w.now)),.o (.sl 1 (sl_ w.pages)),.n (.int .i64 w.root),.n (.int .i64 w.gen),.n (.int .i64 t.ps.length),.n (.int .i64 t.he),.n (.int .i64 t.bs.length),.row 9200305 v,.n (.bool t.bad)])] _)
    rw[vc137h,(V137he _ _ _ _ _ _ _ _ _ _ _ _ _ _ _ _).down,blD_len,marks_len,htb]
    rw[LoadR,if_pos hr]at g40
    have bad:∀(u:List Bool) (np he nb:Int),(below (Hold w) (f+1) b d lo hi t).bad=true→∃s',([hR 9200305 v 4 1 (blD u),hB 9200307 [.o (.sl 1 (blD w.base)),.o (.sl 1 (blD w.now)),.o (.sl 1 (sl_ w.pages)),.n (.int .i64 w.root),.n (.int .i64 w.gen),.n (.int .i64 np),.n (.int .i64 he),.n (.int .i64 nb),.row 9200305 v,.n (.bool true)]]:Heap)=hC w s' v∧CRel w.now.length s' (below (Hold w) (f+1) b d lo hi t):=fun u np he nb e=>⟨⟨u,np,he,nb,true⟩,rfl,crel_bad rfl e⟩
    cases hh:Hold w b (d==1) with
    | none=>
      rw[hh]at g40
      refine ⟨_,_,_,_,_,g40,sel_intro (fun _=>⟨rfl,bad _ _ _ _ ?_⟩) (fun h=>by cases h)⟩
      rw[below]
      split
      · rfl
      · rw[hh]
    | some n=>
      rw[hh]at g40
      have hrg:=hold_rg hn hh
      have hok:=hold_ok hh
      have hk8:=hok.2.1
      refine ⟨_,_,_,_,_,g40,sel_intro (fun h=>by cases h) (fun _=>sel_dec (fun h=>⟨rfl,bad _ _ _ _ ?_⟩) (fun h8 => ?_))⟩
      · rw[below]
        split
        · rfl
        · rw[hh];dsimp only;rw[if_pos (.inl h)]
      have hbN:b.toNat<w.now.length:=by omega
      have hbm:b.toNat<(marks w.now.length t.bs).length:=by rw[marks_len];exact hbN
      have hbb:((b.toNat:Nat):Int)=b:=by omega
      refine ⟨⟨rfl,rfl⟩,by omega,by omega,⟨rfl,rfl⟩,_,blD_at hbm,_,rfl,?_⟩
      rw[marks_get,hbb]
      refine sel_dec (fun h=>⟨rfl,bad _ _ _ _ ?_⟩) (fun hbn => ?_)
      · rw[below,if_pos (.inl h)]
      have hb1:¬(b∈t.bs∨t.bad=true):=by rw[htb];simpa using hbn
      have eq:below (Hold w) (f+1) b d lo hi t=if d > 8∨(n.leaf=true∧n.keys=[]) then { t with bad:=true } else
          if n.leaf then ⟨t.ps++n.keys.zip n.vals,t.bs++[b],d,offK n lo hi||(t.he != 0&&t.he != d)⟩
          else kidsB (fun c lo hi t=>below (Hold w) f c (d+1) lo hi t) lo hi n.keys n.kids ⟨t.ps,t.bs++[b],t.he,offK n lo hi⟩:=by
        rw[below,if_neg hb1,hh]
      rw[blD_set,marks_set (by omega),sl_len,il_len,i64_in ((t.bs.length:Int)+1) (by omega),i64_in ((t.ps.length:Int)+n.keys.length) (by omega)]
      have ebl:((t.bs.length:Int)+1)=((t.bs++[b]).length:Nat):=by simp
      have g74:=p111r n.keys (by omega) lo hi
      have eoff:(n.keys.any fun k => !(within k lo hi))=offK n lo hi:=rfl
      rw[eoff]at g74
      cases hl:n.leaf with
      | true=>
        have hvl:n.vals.length=n.keys.length:=by
          rcases hok.1.2.2 with ⟨_,_,h,_⟩|⟨h,_⟩
          · exact h
          · rw[hl]at h;cases h
        refine sel_intro (fun _=>sel_intro (fun h=>⟨rfl,bad _ _ _ _ (by rw[eq,if_pos (.inr ⟨hl,nil_of h⟩)])⟩) (fun hk0 => ?_)) (fun h=>by cases h)
        have hk0:n.keys≠[]:=fun e=>by rw[e]at hk0;simp at hk0
        rw[if_neg (by
          rintro (h|h)
          · exact h8 h
          · exact hk0 h.2),hl,if_pos rfl]at eq
        refine ⟨⟨rfl,rfl⟩,by omega,by omega,⟨⟨⟨rfl,rfl⟩,rfl⟩,rfl⟩,hbN,_,g74,sel_intro (fun ho=>⟨rfl,bad _ _ _ _ (by rw[eq,ho];rfl)⟩) (fun ho => ?_)⟩
        refine sel_intro (fun _=>sel_intro (fun h=>by cases h) (fun _ => ?_)) (fun h=>by cases h)
        have ezl:((t.ps.length:Int)+n.keys.length)=((t.ps++n.keys.zip n.vals).length:Nat):=by rw[List.length_append,List.length_zip];omega
        rw[ebl,ezl]
        refine sel_intro (fun h1=>⟨rfl,⟨marks w.now.length (t.bs++[b]),((t.ps++n.keys.zip n.vals).length:Nat),d,((t.bs++[b]).length:Nat),t.he != d⟩,rfl,?_⟩) (fun h1=>⟨rfl,⟨marks w.now.length (t.bs++[b]),((t.ps++n.keys.zip n.vals).length:Nat),d,((t.bs++[b]).length:Nat),false⟩,rfl,?_⟩)
        · rw[eq,ho,h1]
          refine ⟨?_,fun h => ?_⟩
          · show (t.he != d)=(false||(true&&(t.he != d)))
            rw[Bool.true_and,Bool.false_or]
          · simp only[csOf,Bool.true_and,Bool.false_or]
        · rw[eq,ho,h1]
          exact ⟨rfl,fun _=>rfl⟩
      | false=>
        refine sel_intro (fun h=>by cases h) (fun _ => ?_)
        rw[if_neg (by
          rintro (h|h)
          · exact h8 h
          · rw[hl]at h;cases h.1),hl,if_neg (by simp)]at eq
        have hkl:n.kids.length=n.keys.length+1:=by
          rcases hok.1.2.2 with ⟨h,_⟩|⟨_,_,_,h,_⟩
          · rw[hl]at h;cases h
          · exact h
        refine ⟨⟨rfl,rfl⟩,by omega,by omega,⟨⟨⟨rfl,rfl⟩,rfl⟩,rfl⟩,hbN,_,g74,sel_intro (fun ho=>⟨rfl,bad _ _ _ _ (by rw[eq,ho,kidsB_bad rfl])⟩) (fun ho => ?_)⟩
        refine sel_intro (fun h=>by cases h) (fun _ => ?_)
        rw[ho]at eq
        have hst:TInv ⟨t.ps,t.bs++[b],t.he,false⟩:=by
          have:=ht.add hbn (b:=b) (by omega) (P:=[]) (by simp) t.he false
          simpa using this
        rw[ebl]
        refine ⟨fun i S Q=>0≤i∧i≤n.kids.length∧∃(t':TS),TInv t'∧t'.bad=false∧S=(blD w.base,blD w.now,sl_ w.pages,w.root,w.gen,(t'.ps.length:Int),t'.he,(t'.bs.length:Int),v,false,())∧Q=(v,blD (marks w.now.length t'.bs))∧below (Hold w) (f+1) b d lo hi t=kidsB (fun c lo hi t=>below (Hold w) f c (d+1) lo hi t) (fromAt lo n.keys i.toNat) hi (n.keys.drop i.toNat) (n.kids.drop i.toNat) t',fun i _ _=>(n.kids.length - i).toNat,
          ⟨rfl,by omega,by omega,⟨t.ps,t.bs++[b],t.he,false⟩,hst,rfl,rfl,rfl,eq⟩,?_⟩
        rintro i S Q ⟨h0,h1,t',ht',htb',rfl,rfl,hinv⟩ _
        dsimp only
        rw[i64_in (d+1) (by omega),i64_in (i - 1) (by omega),i64_in (i+1) (by omega)]
        have e1:(i+1).toNat=i.toNat+1:=by omega
        have e2:(i - 1).toNat=i.toNat - 1:=by omega
        refine sel_dec (fun hlt => ?_) (fun hge => ?_)
        · have hik:i.toNat<n.kids.length:=by omega
          have tail:∀(fr tl:ByteArray),kidsB (fun c lo hi t=>below (Hold w) f c (d+1) lo hi t) (fromAt lo n.keys i.toNat) hi (n.keys.drop i.toNat) (n.kids.drop i.toNat) t'=kidsB (fun c lo hi t=>below (Hold w) f c (d+1) lo hi t) (fromAt lo n.keys (i.toNat+1)) hi (n.keys.drop (i.toNat+1)) (n.kids.drop (i.toNat+1)) (if t'.bad then t' else below (Hold w) f n.kids[i.toNat] (d+1) fr tl t') →
              ∃s':CS,Runs Fs2 137 [.ptr 9200307 0,.n (.int .i64 n.kids[i.toNat]),.n (.int .i64 (d+1)),.n (.str fr),.n (.str tl)] [hR 9200305 v 4 1 (blD (marks w.now.length t'.bs)),hB 9200307 [.o (.sl 1 (blD w.base)),.o (.sl 1 (blD w.now)),.o (.sl 1 (sl_ w.pages)),.n (.int .i64 w.root),.n (.int .i64 w.gen),.n (.int .i64 t'.ps.length),.n (.int .i64 t'.he),.n (.int .i64 t'.bs.length),.row 9200305 v,.n (.bool false)]] (.tup []) (hC w s' v) ∧
                (s'.bad=true→CRel w.now.length s' (below (Hold w) (f+1) b d lo hi t)) ∧
                (s'.bad=false→∃(t'':TS),TInv t''∧t''.bad=false∧(blD w.base,blD w.now,sl_ w.pages,w.root,w.gen,s'.np,s'.he,s'.nb,v,s'.bad,())=(blD w.base,blD w.now,sl_ w.pages,w.root,w.gen,(t''.ps.length:Int),t''.he,(t''.bs.length:Int),v,false,())∧(v,blD s'.used)=(v,blD (marks w.now.length t''.bs))∧below (Hold w) (f+1) b d lo hi t=kidsB (fun c lo hi t=>below (Hold w) f c (d+1) lo hi t) (fromAt lo n.keys (i+1).toNat) hi (n.keys.drop (i+1).toNat) (n.kids.drop (i+1).toNat) t''):=fun fr tl hs=>by
            obtain ⟨s',g,c1,c2⟩:=p137 w hf hr f n.kids[i.toNat] (d+1) fr tl t' v (by omega) (by omega) (by omega) ht' htb'
            rw[hC,csOf,htb']at g
            refine ⟨s',g,fun hb=>crel_bad hb ?_,fun hb => ?_⟩
            · rw[c1]at hb
              rw[hinv,hs,htb']
              show (kidsB _ _ _ _ _ (below (Hold w) f n.kids[i.toNat] (d+1) fr tl t')).bad=true
              rw[kidsB_bad hb];exact hb
            · rw[c1]at hb
              have:=c2 hb
              subst this
              refine ⟨below (Hold w) f n.kids[i.toNat] (d+1) fr tl t',below_inv hn f _ (d+1) fr tl t' ht',hb,by simp only[csOf,hb],rfl,?_⟩
              rw[hinv,hs,htb',e1];rfl
          refine ⟨rfl,h0,_,il_at hik,_,rfl,sel_dec (fun hp => ?_) (fun hp => ?_)⟩
          · have hi1:(i - 1).toNat<n.keys.length:=by omega
            have ef:fromAt lo n.keys i.toNat=n.keys[(i - 1).toNat]:=by
              rw[fromAt_pos (by omega) (by omega)]
              congr 1;omega
            refine ⟨rfl,by omega,_,sl_at hi1,_,rfl,sel_dec (fun hq => ?_) (fun hq => ?_)⟩
            · have hi2:i.toNat<n.keys.length:=by omega
              have hs:=kidsB_in (f:=fun c lo hi t=>below (Hold w) f c (d+1) lo hi t) (lo:=lo) (hi:=hi) (t:=t') hi2 hik
              rw[show below (Hold w) f n.kids[i.toNat] (d+1) (fromAt lo n.keys i.toNat) n.keys[i.toNat] t'=below (Hold w) f n.kids[i.toNat] (d+1) n.keys[(i - 1).toNat] n.keys[i.toNat] t' by rw[ef]]at hs
              obtain ⟨s',g,c1,c2⟩:=tail _ _ hs
              refine ⟨rfl,h0,_,sl_at hi2,_,rfl,_,_,_,_,_,_,_,_,_,_,_,_,g,sel_intro (fun hb=>⟨rfl,s',rfl,c1 hb⟩) (fun hb => ?_)⟩
              exact ⟨rfl,rfl,rfl,rfl,rfl,rfl,rfl,rfl,⟨by omega,by omega,c2 hb⟩,by first|omega|(dsimp only;omega)⟩
            · have hs:=kidsB_end (f:=fun c lo hi t=>below (Hold w) f c (d+1) lo hi t) (lo:=lo) (hi:=hi) (ks:=n.keys) (cs:=n.kids) (t:=t') (i:=i.toNat) (by omega) (by omega)
              have hd2:n.kids.drop (i.toNat+1)=[]:=List.drop_of_length_le (by omega)
              rw[show below (Hold w) f n.kids[i.toNat] (d+1) (fromAt lo n.keys i.toNat) hi t'=below (Hold w) f n.kids[i.toNat] (d+1) n.keys[(i - 1).toNat] hi t' by rw[ef]]at hs
              have hs:_=kidsB (fun c lo hi t=>below (Hold w) f c (d+1) lo hi t) (fromAt lo n.keys (i.toNat+1)) hi (n.keys.drop (i.toNat+1)) (n.kids.drop (i.toNat+1)) _:=hs.trans (by rw[hd2,kidsB_nil])
              obtain ⟨s',g,c1,c2⟩:=tail _ _ hs
              refine ⟨_,_,_,_,_,_,_,_,_,_,_,_,g,sel_intro (fun hb=>⟨rfl,s',rfl,c1 hb⟩) (fun hb => ?_)⟩
              exact ⟨rfl,rfl,rfl,rfl,rfl,rfl,rfl,rfl,⟨by omega,by omega,c2 hb⟩,by first|omega|(dsimp only;omega)⟩
          · have hi2:i.toNat<n.keys.length:=by
              rcases hok.1.2.2 with ⟨h,_⟩|⟨_,_,h,_⟩
              · rw[hl]at h;cases h
              · omega
            have ef:fromAt lo n.keys i.toNat=lo:=by rw[fromAt,if_pos (by omega)]
            have hs:=kidsB_in (f:=fun c lo hi t=>below (Hold w) f c (d+1) lo hi t) (lo:=lo) (hi:=hi) (t:=t') hi2 hik
            rw[show below (Hold w) f n.kids[i.toNat] (d+1) (fromAt lo n.keys i.toNat) n.keys[i.toNat] t'=below (Hold w) f n.kids[i.toNat] (d+1) lo n.keys[i.toNat] t' by rw[ef]]at hs
            refine sel_dec (fun hq => ?_) (fun hq=>by omega)
            obtain ⟨s',g,c1,c2⟩:=tail _ _ hs
            refine ⟨rfl,h0,_,sl_at hi2,_,rfl,_,_,_,_,_,_,_,_,_,_,_,_,g,sel_intro (fun hb=>⟨rfl,s',rfl,c1 hb⟩) (fun hb => ?_)⟩
            exact ⟨rfl,rfl,rfl,rfl,rfl,rfl,rfl,rfl,⟨by omega,by omega,c2 hb⟩,by first|omega|(dsimp only;omega)⟩
        · have hd2:n.kids.drop i.toNat=[]:=List.drop_of_length_le (by omega)
          rw[hd2,kidsB_nil]at hinv
          refine ⟨rfl,csOf w.now.length t',by simp only[hC,csOf,htb'],?_⟩
          rw[hinv]
          exact ⟨rfl,fun _=>rfl⟩
   obtain ⟨r,H',hr',rfl,s',rfl,hs'⟩:=key
   exact ⟨s',hr',hs'⟩
theorem marks_nil (N:Nat):marks N []=List.replicate N false:=by
 refine List.ext_getElem (by simp[marks]) fun i h1 h2 => ?_
 rw[marks_get];simp
theorem p92 (w:Wd) (hf:WFits w):(¬WRight w∧Runs Fs2 92 [wdV w] [] (.tup [.nilp,.n (.int .i64 1)]) [])∨(WRight w∧(treeW w).bad=true∧Runs Fs2 92 [wdV w] [] (.tup [.nilp,.n (.int .i64 81)]) []) ∨
   (WRight w∧(treeW w).bad=false∧Runs Fs2 92 [wdV w] [] (.tup [.ptr 9200307 0,.n (.int .i64 0)]) (hC w (csOf w.now.length (treeW w)) 0)):=by
 have g41:=p67 w hf
 have key:∃r H',Runs Fs2 92 [wdV w] [] r H'∧((¬WRight w∧r = .tup [.nilp,.n (.int .i64 1)]∧H'=[])∨(WRight w∧(treeW w).bad=true∧r = .tup [.nilp,.n (.int .i64 81)]∧H'=[]) ∨
     (WRight w∧(treeW w).bad=false∧r = .tup [.ptr 9200307 0,.n (.int .i64 0)]∧H'=hC w (csOf w.now.length (treeW w)) 0)):=by
   refine vc_own (R:=fun r H'=>(¬WRight w∧r = .tup [.nilp,.n (.int .i64 1)]∧H'=[])∨(WRight w∧(treeW w).bad=true∧r = .tup [.nilp,.n (.int .i64 81)]∧H'=[]) ∨
     (WRight w∧(treeW w).bad=false∧r = .tup [.ptr 9200307 0,.n (.int .i64 0)]∧H'=hC w (csOf w.now.length (treeW w)) 0)) fs92 rfl ?_
   rw[wdV,vc92o,(V92oe _ _ _ _ _ _).down,blD_len]
   by_cases hr:WRight w
   · rw[decide_eq_true hr]at g41
     have hn:=wr_now hr
     have er:blD (marks w.now.length [])=List.replicate (Int.toNat (w.now.length:Int)) (.bool false):=by
       rw[marks_nil];simp[blD]
     refine ⟨_,g41,sel_intro (fun h=>by cases h) (fun _=>⟨by omega,by omega,sel_intro (fun h => ?_) (fun h => ?_)⟩)⟩
     · obtain ⟨s',g,c1,c2⟩:=p137 w hf hr 9 w.root 1 empS empS ts0 0 (by omega) (by omega) (by omega) ts0_inv rfl
       have e:below (Hold w) 9 w.root 1 empS empS ts0=treeW w:=by rw[treeW,if_neg (by simpa using h)]
       rw[e]at c1 c2
       have e0:hC w (csOf w.now.length ts0) 0=[hR 9200305 0 4 1 (List.replicate (Int.toNat (w.now.length:Int)) (.bool false)),hB 9200307 [.o (.sl 1 (blD w.base)),.o (.sl 1 (blD w.now)),.o (.sl 1 (sl_ w.pages)),.n (.int .i64 w.root),.n (.int .i64 w.gen),.n (.int .i64 0),.n (.int .i64 0),.n (.int .i64 0),.row 9200305 0,.n (.bool false)]]:=by
        rw[←er];rfl
       rw[e0]at g
       refine ⟨_,_,_,_,_,_,_,_,_,_,_,_,g,sel_intro (fun hb => .inr (.inl ⟨hr,by rw[←c1];exact hb,rfl,rfl⟩)) (fun hb => ?_)⟩
       rw[c1]at hb
       have:=c2 hb
       subst this
       exact .inr (.inr ⟨hr,hb,rfl,rfl⟩)
     · have e:treeW w=ts0:=by rw[treeW,if_pos (by simpa using h)]
       refine .inr (.inr ⟨hr,by rw[e];rfl,rfl,?_⟩)
       rw[e,←er];rfl
   · rw[decide_eq_false hr]at g41
     exact ⟨_,g41,sel_intro (fun _ => .inl ⟨hr,rfl,rfl⟩) (fun h=>by cases h)⟩
 obtain ⟨r,H',hg,⟨h1,rfl,rfl⟩|⟨h1,h2,rfl,rfl⟩|⟨h1,h2,rfl,rfl⟩⟩:=key
 · exact .inl ⟨h1,hg⟩
 · exact .inr (.inl ⟨h1,h2,hg⟩)
 · exact .inr (.inr ⟨h1,h2,hg⟩)
def moreUp (N:Nat):List Int→List Int→Option (List Int)
 | [],l=>some l
 | b :: r,l=>if b<10∨b≥N∨b∈l then none else moreUp N r (l++[b])
def nowIs (now:List Bool) (l:List Int):Prop:=∀i:Nat,i<now.length→tr now i=decide (i<10∨(i:Int)∈l)
noncomputable instance (now:List Bool) (l:List Int):Decidable (nowIs now l):=Classical.propDecidable _
noncomputable def ChkR (w:Wd) (more:List Int):(Int×Int×Int)×Int:=
 if ¬WRight w then ((0,0,0),1) else if (treeW w).bad=true then ((0,0,0),81) else match moreUp w.now.length more (treeW w).bs with
 | none=>((0,0,0),81)
 | some l=>if nowIs w.now l then (((treeW w).ps.length,(treeW w).he,(treeW w).bs.length),0) else ((0,0,0),81)
def ckV (x:(Int×Int×Int)×Int):AV := .tup [.agg [.n (.int .i64 x.1.1),.n (.int .i64 x.1.2.1),.n (.int .i64 x.1.2.2)],.n (.int .i64 x.2)]
set_option maxRecDepth 10000 in
theorem p44 (w:Wd) (hf:WFits w) (more:List Int) (hm:Small more.length):Runs Fs2 44 [wdV w,.o (.sl 1 (il more))] [] (ckV (ChkR w more)) []:=by
 refine vc_eq fs44 rfl ?_
 rw[wdV,vc44,(V44e _ _ _ _ _ _ _).down]
 rcases p92 w hf with ⟨hr,g⟩|⟨hr,hb,g⟩|⟨hr,hb,g⟩
 · rw[wdV]at g
   refine .inr ⟨(),_,g,sel_intro (fun _ => ?_) (fun h=>by cases h)⟩
   rw[ChkR,if_pos hr];rfl
 · rw[wdV]at g
   refine .inr ⟨(),_,g,sel_intro (fun _ => ?_) (fun h=>by cases h)⟩
   rw[ChkR,if_neg (by simpa using hr),if_pos hb];rfl
 · rw[hC,wdV]at g
   have hn:=wr_now hr
   have eq:ChkR w more=match moreUp w.now.length more (treeW w).bs with
       | none=>((0,0,0),81)
       | some l=>if nowIs w.now l then (((treeW w).ps.length,(treeW w).he,(treeW w).bs.length),0) else ((0,0,0),81):=by
     rw[ChkR,if_neg (by simpa using hr),if_neg (by rw[hb];simp)]
   refine .inl ⟨(),_,_,_,_,_,_,_,_,_,_,_,_,_,g,sel_intro (fun h=>by cases h) (fun _ => ?_)⟩
   rw[il_len,blD_len]
   have no:ChkR w more=((0,0,0),81)→AV.tup [.agg [.n (.int .i64 0),.n (.int .i64 0),.n (.int .i64 0)],.n (.int .i64 81)]=ckV (ChkR w more):=fun e=>by rw[e];rfl
   refine ⟨fun i S Q=>0≤i∧i≤more.length∧S=(0,0,0,())∧∃l,Q=(0,blD (marks w.now.length l))∧moreUp w.now.length more (treeW w).bs=moreUp w.now.length (more.drop i.toNat) l,fun i _ _=>(more.length - i).toNat,⟨rfl,by omega,by omega,rfl,(treeW w).bs,rfl,rfl⟩,?_⟩
   rintro i S Q ⟨h0,h1,rfl,l,rfl,hinv⟩ _
   dsimp only
   rw[blD_len,marks_len]
   refine sel_dec (fun hlt => ?_) (fun hge => ?_)
   · have hi:i.toNat<more.length:=by omega
     rw[List.drop_eq_getElem_cons hi,moreUp]at hinv
     refine ⟨rfl,h0,_,il_at hi,_,rfl,sel_dec (fun h=>no ?_) (fun h2=>⟨rfl,sel_dec (fun h=>no ?_) (fun h3 => ?_)⟩)⟩
     · rw[eq,hinv,if_pos (.inl h)]
     · rw[eq,hinv,if_pos (.inr (.inl h))]
     have hbm:more[i.toNat].toNat<(marks w.now.length l).length:=by rw[marks_len];omega
     have hbb:((more[i.toNat].toNat:Nat):Int)=more[i.toNat]:=by omega
     refine ⟨⟨rfl,rfl⟩,by omega,by omega,⟨rfl,rfl⟩,_,blD_at hbm,_,rfl,?_⟩
     rw[marks_get,hbb]
     refine sel_dec (fun h=>no ?_) (fun h4 => ?_)
     · rw[eq,hinv,if_pos (.inr (.inr h))]
     refine ⟨⟨rfl,rfl⟩,by omega,by omega,⟨⟨⟨rfl,rfl⟩,rfl⟩,rfl⟩,by omega,?_⟩
     rw[blD_set,marks_set (by omega)]
     repeat (refine And.intro rfl ?_)
     rw[i64_in _ (by omega)]
     refine ⟨⟨by omega,by omega,rfl,_,rfl,?_⟩,by first|omega|(dsimp only;omega)⟩
     rw[hinv,if_neg (by
       rintro (h|h|h)
       · exact h2 h
       · omega
       · exact h4 h),show (i+1).toNat=i.toNat+1 by omega]
   · rw[List.drop_of_length_le (by omega),moreUp]at hinv
     rw[hinv]at eq
     dsimp only at eq
     refine ⟨fun i S=>0≤i∧i≤w.now.length∧S=(0,0,0,())∧∀j:Nat,(j:Int)<i→tr w.now j=decide (j<10∨(j:Int)∈l),fun i _=>(w.now.length - i).toNat,⟨rfl,by omega,by omega,rfl,fun j hj=>by omega⟩,?_⟩
     rintro i S ⟨h0,h1,rfl,hok⟩ _
     dsimp only
     refine sel_dec (fun hlt => ?_) (fun hge => ?_)
     · have hi:i.toNat<w.now.length:=by omega
       have hii:((i.toNat:Nat):Int)=i:=by omega
       have next:tr w.now i.toNat=decide (i.toNat<10∨((i.toNat:Nat):Int)∈l)→∀j:Nat,(j:Int)<i+1→tr w.now j=decide (j<10∨(j:Int)∈l):=fun h j hj=>by
         by_cases e:(j:Int)<i
         · exact hok j e
         · obtain rfl:j=i.toNat:=by omega
           exact h
       have fail:tr w.now i.toNat≠decide (i.toNat<10∨((i.toNat:Nat):Int)∈l)→ChkR w more=((0,0,0),81):=fun h=>by
         rw[eq,if_neg (fun hx=>h (hx i.toNat hi))]
       refine ⟨rfl,h0,_,blD_at hi,_,rfl,sel_dec (fun h10 => ?_) (fun h10 => ?_)⟩
       · have hd:decide (i.toNat<10∨((i.toNat:Nat):Int)∈l)=true:=decide_eq_true (.inl (by omega))
         rw[hd]at next fail
         rw[←tr_at hi]
         refine sel_intro (fun h=>no (fail (by intro e;rw[e]at h;cases h))) (fun h => ?_)
         repeat (refine And.intro rfl ?_)
         rw[i64_in _ (by omega)]
         exact ⟨⟨by omega,by omega,rfl,next (by cases hx:tr w.now i.toNat with|true=>rfl|false=>rw[hx]at h;cases h)⟩,by first|omega|(dsimp only;omega)⟩
       · have hbm:i.toNat<(marks w.now.length l).length:=by rw[marks_len];omega
         have hd:decide (i.toNat<10∨((i.toNat:Nat):Int)∈l)=decide (i∈l):=by rw[hii,decide_eq_decide];exact ⟨fun h=>h.resolve_left (by omega),.inr⟩
         rw[hd]at next fail
         refine ⟨⟨rfl,rfl⟩,h0,hlt,⟨rfl,rfl⟩,_,blD_at hbm,_,rfl,?_⟩
         rw[marks_get,hii,←tr_at hi]
         refine sel_intro (fun h=>no (fail (by intro e;rw[e]at h;simp at h))) (fun h => ?_)
         repeat (refine And.intro rfl ?_)
         rw[i64_in _ (by omega)]
         exact ⟨⟨by omega,by omega,rfl,next (by simpa using h)⟩,by first|omega|(dsimp only;omega)⟩
     · have hx:nowIs w.now l:=fun j hj=>hok j (by omega)
       rw[if_pos hx]at eq
       rw[eq];rfl
theorem hold_tr {w:Wd} {b:Int} {r:Bool} {n:Nd} (h:Hold w b r=some n):tr w.now b.toNat=true:=by
 unfold Hold at h
 split at h
 · cases h
 · rename_i hx
   cases ht:tr w.now b.toNat with
   | true=>rfl
   | false=>exact absurd (.inr (.inr (.inr ht))) hx
theorem isTree_frame {w x:Wd} {h:Nat} {P:List Pr} {B:List Int} (ht:IsTree w h P B) (hr:x.root=w.root) (hx:∀b∈B,∀r n,Hold w b r=some n→Hold x b r=some n):IsTree x h P B:=by
 rcases ht with ⟨h0,h1,h2,h3⟩|⟨h0,h1,h2,h3,h4⟩
 · exact .inl ⟨by rw[hr];exact h0,h1,h2,h3⟩
 · exact .inr ⟨by rw[hr];exact h0,h1,h2,by rw[hr];exact h3.frame hx,h4⟩
theorem isTree_held {w:Wd} {h:Nat} {P:List Pr} {B:List Int} (ht:IsTree w h P B):∀b∈B,∃r n,Hold w b r=some n:=by
 rcases ht with ⟨_,_,_,rfl⟩|⟨_,_,_,h3,_⟩
 · intro b hb;cases hb
 · exact h3.held
def sOf (l:List UInt8):ByteArray:=⟨l.toArray⟩
def txB (t:ByteArray):List UInt8:=beB t.size 2++t.data.toList
def lfB:List ByteArray→List ByteArray→List UInt8
 | k :: ks,v :: vs=>txB k++(txB v++lfB ks vs)
 | _,_=>[]
def inB:List Int→List ByteArray→List UInt8
 | b :: bs,k :: ks=>beB b 2++(txB k++inB bs ks)
 | b :: _,[]=>beB b 2
 | [],_=>[]
def nodeL (n:Nd):List UInt8:=beB n.keys.length 1++(if n.leaf then lfB n.keys n.vals else inB n.kids n.keys)
def nodeB (n:Nd):ByteArray:=sOf (nodeL n)
def kindOf (n:Nd):Int:=if n.leaf then 1 else 2
def pageB (g:Int) (n:Nd):ByteArray:=PageS (kindOf n) g (nodeB n)
theorem kok_size {l:List ByteArray} (h:KOK l):∀k∈l,1≤k.size∧k.size≤32:=fun k hk=>by
 obtain ⟨i,hi,rfl⟩:=List.getElem_of_mem hk
 exact ⟨(h i hi hi).1,(h i hi hi).2.1⟩
abbrev TR:=Int→ByteArray→ByteArray→List Pr→List Int→Prop
theorem kok_iff {l:List ByteArray}:KOK l ↔ (Rise l∧∀k∈l,1≤k.size∧k.size≤32):=by
 refine ⟨fun h=>⟨kok_rise h,kok_size h⟩,fun ⟨h1,h2⟩ j hj _ => ?_⟩
 have:=h2 _ (List.getElem_mem hj)
 exact ⟨this.1,this.2,fun h0=>List.pairwise_iff_getElem.1 h1 (j - 1) j (by omega) hj (by omega)⟩
end Go.Proofs.YtegndijbpiccgaaGreatDoor.M
