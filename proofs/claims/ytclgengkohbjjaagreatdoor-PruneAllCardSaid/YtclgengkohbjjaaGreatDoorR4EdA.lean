import Derived.Test.YtclgengkohbjjaaGreatDoorR4TreeB
import Derived.Test.YtclgengkohbjjaaGreatDoorR4LW
import Derived.Test.YtclgengkohbjjaaGreatDoorR4TreeA
namespace Go.Proofs.YtclgengkohbjjaaGreatDoor.M
set_option linter.unusedVariables false
set_option linter.unusedSimpArgs false
open Go Go.Mir
set_option linter.unusedVariables false
theorem p80 (k lo hi:ByteArray):Runs Fs2 80 [.n (.str k),.n (.str lo),.n (.str hi)] [] (.n (.bool (within k lo hi))) []:=by
 refine vc_eq fs80 rfl ?_
 rw[vc80,(V80e _ _ _ _).down]
 show sel (!(lt k lo)) _ _
 have e:(hi.toList==(ByteArray.mk (List.toArray [])).toList)=decide (hi=empS):=beq_dec hi empS
 rw[e]
 refine sel_intro (fun h=>sel_dec (fun h2 => ?_) (fun h2 => ?_)) (fun h => ?_)
 · rw[within,h,decide_eq_true h2];rfl
 · rw[within,h,decide_eq_false h2];rfl
 · rw[within,h];rfl
theorem nodup_bound:∀(N:Nat) (l:List Int),l.Nodup→(∀b∈l,0≤b∧b<N)→l.length≤N
 | 0,[],_,_=>Nat.le_refl _
 | 0,b :: l,_,h=>by have:=h b (by simp);omega
 | N+1,l,hn,h=>by
   by_cases hN:(N:Int)∈l
   · have h1:=nodup_bound N (l.erase N) (hn.erase _) (fun b hb=>by
      have h2:=h b (List.mem_of_mem_erase hb)
      have h3:b≠N:=fun e=>by subst e;exact (List.Nodup.mem_erase_iff hn).1 hb |>.1 rfl
      omega)
     have:=List.length_erase_of_mem hN
     omega
   · have:=nodup_bound N l hn (fun b hb=>by
      have h2:=h b hb
      have h3:b≠N:=fun e=>hN (e▸hb)
      omega)
     omega
structure TInv (t:TS):Prop where
 nd:t.bs.Nodup
 rg:∀b∈t.bs,0≤b∧b<2048
 ps:t.ps.length≤9*t.bs.length
theorem TInv.len {t:TS} (h:TInv t):t.bs.length≤2048:=nodup_bound 2048 t.bs h.nd h.rg
theorem kidsB_inv {f:Int→ByteArray→ByteArray→TS→TS} (ih:∀c lo hi t,TInv t→TInv (f c lo hi t)):∀ {ks:List ByteArray} {cs:List Int} {lo hi:ByteArray} {t:TS},TInv t→TInv (kidsB f lo hi ks cs t)
 | _,[],_,_,_,h=>by cases ‹List ByteArray› <;> exact h
 | [],c :: cs,lo,hi,t,h=>by
   rw[kidsB];refine kidsB_inv ih ?_
   split
   · exact h
   · exact ih _ _ _ _ h
 | k :: ks,c :: cs,lo,hi,t,h=>by
   rw[kidsB];refine kidsB_inv ih ?_
   split
   · exact h
   · exact ih _ _ _ _ h
theorem TInv.bad {t:TS} (h:TInv t):TInv { t with bad:=true }:=⟨h.nd,h.rg,h.ps⟩
theorem TInv.add {t:TS} (h:TInv t) {b:Int} (hb:b∉t.bs) (h0:0≤b∧b<2048) {P:List Pr} (hP:P.length≤9) (he:Int) (bad:Bool):TInv ⟨t.ps++P,t.bs++[b],he,bad⟩:=by
 refine ⟨List.nodup_append.2 ⟨h.nd,by simp,fun x hx y hy => ?_⟩,fun x hx => ?_,?_⟩
 · obtain rfl:y=b:=by simpa using hy
   rintro rfl;exact hb hx
 · rcases List.mem_append.1 hx with hx|hx
   · exact h.rg x hx
   · obtain rfl:x=b:=by simpa using hx
     exact h0
 · have:=h.ps
   simp;omega
theorem hold_rg {w:Wd} (hn:w.now.length≤2048) {b:Int} {r:Bool} {n:Nd} (h:Hold w b r=some n):10≤b∧b<w.now.length∧b<w.pages.length:=by
 unfold Hold at h
 split at h
 · cases h
 · omega
theorem below_inv {w:Wd} (hn:w.now.length≤2048):∀(f:Nat) (b d:Int) (lo hi:ByteArray) (t:TS),TInv t→TInv (below (Hold w) f b d lo hi t)
 | 0,_,_,_,_,_,h=>h.bad
 | f+1,b,d,lo,hi,t,h=>by
   unfold below
   by_cases h1:b∈t.bs∨t.bad=true
   · rw[if_pos h1];exact h.bad
   rw[if_neg h1]
   cases hh:Hold w b (d==1) with
   | none=>exact h.bad
   | some n=>
     dsimp only
     have hrg:=hold_rg hn hh
     have hok:=hold_ok hh
     by_cases h2:d > 8∨(n.leaf=true∧n.keys=[])
     · rw[if_pos h2];exact h.bad
     rw[if_neg h2]
     split
     · refine h.add (fun hb=>h1 (.inl hb)) (by omega) ?_ _ _
       have:=hok.2.1
       rw[List.length_zip];omega
     · refine kidsB_inv (fun c lo hi t ht=>below_inv hn f c (d+1) lo hi t ht) ?_
       have:=h.add (fun hb=>h1 (.inl hb)) (b:=b) (by omega) (P:=[]) (by simp) t.he (offK n lo hi)
       simpa using this
def psD (l:List Pr):List Mir.D:=l.map fun p => .rcd [.str p.1,.str p.2]
theorem psD_len (l:List Pr):(psD l).length=l.length:=by simp[psD]
theorem psD_snoc (l:List Pr) (k v:ByteArray):psD l++[.rcd [.str k,.str v]]=psD (l++[(k,v)]):=by simp[psD]
def hT (t:TS) (va vb:Nat):Heap:=[hB 2100101 [.row 2190001 va,.row 2190002 vb,.n (.int .i64 t.he),.n (.bool t.bad)],hR 2190001 va 48 2 (psD t.ps),hR 2190002 vb 3 1 (il t.bs)]
def fromAt (lo:ByteArray) (ks:List ByteArray) (i:Nat):ByteArray:=if i=0 then lo else (ks[i - 1]?).getD empS
theorem kidsB_in {f:Int→ByteArray→ByteArray→TS→TS} {lo hi:ByteArray} {ks:List ByteArray} {cs:List Int} {t:TS} {i:Nat} (h1:i<ks.length) (h2:i<cs.length):
  kidsB f (fromAt lo ks i) hi (ks.drop i) (cs.drop i) t=kidsB f (fromAt lo ks (i+1)) hi (ks.drop (i+1)) (cs.drop (i+1)) (if t.bad then t else f cs[i] (fromAt lo ks i) ks[i] t):=by
 rw[List.drop_eq_getElem_cons h1,List.drop_eq_getElem_cons h2,kidsB]
 have e:fromAt lo ks (i+1)=ks[i]:=by
  rw[fromAt,if_neg (by omega),Nat.add_sub_cancel,List.getElem?_eq_getElem h1];rfl
 rw[e]
theorem kidsB_end {f:Int→ByteArray→ByteArray→TS→TS} {lo hi:ByteArray} {ks:List ByteArray} {cs:List Int} {t:TS} {i:Nat} (h1:i=ks.length) (h2:i+1=cs.length):
  kidsB f (fromAt lo ks i) hi (ks.drop i) (cs.drop i) t=(if t.bad then t else f (cs[i]'(by omega)) (fromAt lo ks i) hi t):=by
 rw[List.drop_of_length_le (by omega),List.drop_eq_getElem_cons (by omega:i<cs.length),List.drop_of_length_le (by omega:cs.length≤i+1),kidsB,kidsB]
theorem kidsB_nil {f:Int→ByteArray→ByteArray→TS→TS} (lo hi:ByteArray) (ks:List ByteArray) (t:TS):kidsB f lo hi ks [] t=t:=by cases ks <;> rfl
theorem fromAt_pos {lo:ByteArray} {ks:List ByteArray} {i:Nat} (h:0<i) (h2:i - 1<ks.length):fromAt lo ks i=ks[i - 1]:=by
 rw[fromAt,if_neg (by omega),List.getElem?_eq_getElem h2];rfl
set_option maxRecDepth 10000 in
set_option maxHeartbeats 9900000 in
theorem p55 (w:Wd) (hf:WFits w) (hn:w.now.length≤2048):∀(f:Nat) (b d:Int) (lo hi:ByteArray) (t:TS) (va vb:Nat),d+f=10→1≤d→1≤f→TInv t →
   ∃va' vb',Runs Fs2 55 [.ptr 2100101 0,wdV w,.n (.int .i64 b),.n (.int .i64 d),.n (.str lo),.n (.str hi)] (hT t va vb) (.tup []) (hT (below (Hold w) f b d lo hi t) va' vb')
 | 0,b,d,lo,hi,t,va,vb,_,_,hf1,_=>by omega
 | f+1,b,d,lo,hi,t,va,vb,hdf,hd,_,hi'=>by
   have g43:=p79 w hf b (d==1)
   have key:∃r H',Runs Fs2 55 [.ptr 2100101 0,wdV w,.n (.int .i64 b),.n (.int .i64 d),.n (.str lo),.n (.str hi)] (hT t va vb) r H'∧r = .tup []∧∃va' vb',H'=hT (below (Hold w) (f+1) b d lo hi t) va' vb':=by
    refine vc_objs (R:=fun r H'=>r = .tup []∧∃va' vb',H'=hT (below (Hold w) (f+1) b d lo hi t) va' vb') fs55 rfl (by kernel_rfl) ?_
    rw[hT,wdV]
    show Vc Fs2 c55.body (argsQ c55 [.ptr 2100101 0,(.agg [.o (.sl 1 (blD w.base)),.o (.sl 1 (blD w.now)),.o (.sl 1 (sl_ w.pages)),.n (.int .i64 w.root),.n (.int .i64 w.gen)]),.n (.int .i64 b),.n (.int .i64 d),.n (.str lo),.n (.str hi)]) [(2100101,.box [.row 2190001 va,.row 2190002 vb,.n (.int .i64 t.he),.n (.bool t.bad)]),(2190001,.row false false va 48 2 (psD t.ps)),(2190002,.row false false vb 3 1 (il t.bs))] (endQH c55 [(2100101,.box [.row 2190001 va,.row 2190002 vb,.n (.int .i64 t.he),.n (.bool t.bad)]),(2190001,.row false false va 48 2 (psD t.ps)),(2190002,.row false false vb 3 1 (il t.bs))] _)
    rw[vc55h,(V55he _ _ _ _ _ _ _ _ _ _ _ _ _ _ _ _).down,il_len]
    have hlen:=hi'.len
    have hps:=hi'.ps
    refine ⟨rfl,fun i S=>0≤i∧i≤t.bs.length∧S=(va,vb,t.he,(t.bad||(t.bs.take i.toNat).contains b),()),fun i _=>(t.bs.length - i).toNat,⟨rfl,by omega,by omega,by simp⟩,?_⟩
    rintro i S ⟨h0,h1,rfl⟩ _
    dsimp only
    refine sel_dec (fun hlt => ?_) (fun hge => ?_)
    · have hi:i.toNat<t.bs.length:=by omega
      have e1:(i+1).toNat=i.toNat+1:=by omega
      refine ⟨⟨rfl,rfl⟩,h0,hlt,⟨rfl,rfl⟩,_,il_at hi,_,rfl,sel_intro (fun hx => ?_) (fun hx => ?_)⟩
      all_goals
        repeat (refine And.intro rfl ?_)
        rw[i64_in _ (by omega)]
        refine ⟨⟨by omega,by omega,?_⟩,by first|omega|(dsimp only;omega)⟩
        rw[e1,take_snoc hi]
        congr 4
      · have hx:t.bs[i.toNat]=b:=by simpa using hx
        simp[hx]
      · have hx:t.bs[i.toNat]≠b:=by simpa using hx
        have:¬b=t.bs[i.toNat]:=fun e=>hx e.symm
        simp only[List.contains_eq_mem,List.mem_append,List.mem_singleton,this,or_false]
    · rw[List.take_of_length_le (by omega)]
      have bad:below (Hold w) (f+1) b d lo hi t = { t with bad:=true }→∃va' vb',([hB 2100101 [.row 2190001 va,.row 2190002 vb,.n (.int .i64 t.he),.n (.bool true)],hR 2190001 va 48 2 (psD t.ps),hR 2190002 vb 3 1 (il t.bs)]:Heap)=hT (below (Hold w) (f+1) b d lo hi t) va' vb':=fun e=>⟨va,vb,by rw[e];rfl⟩
      by_cases hb1:b∈t.bs∨t.bad=true
      · have e:(t.bad||t.bs.contains b)=true:=by
          rcases hb1 with h|h
          · simp[h]
          · simp[h]
        rw[e]
        have gb:=bad (by rw[below,if_pos hb1])
        cases hh:Hold w b (d==1) with
        | none=>
          rw[hh]at g43
          exact ⟨_,_,_,_,_,g43,sel_intro (fun _=>⟨rfl,gb⟩) (fun h=>by cases h)⟩
        | some n=>
          rw[hh]at g43
          exact ⟨_,_,_,_,_,g43,sel_intro (fun _=>⟨rfl,gb⟩) (fun h=>by cases h)⟩
      have hbn:b∉t.bs:=fun h=>hb1 (.inl h)
      have htb:t.bad=false:=by cases h:t.bad with|false=>rfl|true=>exact absurd (.inr h) hb1
      have e:(t.bad||t.bs.contains b)=false:=by simp[hbn,htb]
      rw[e]
      cases hh:Hold w b (d==1) with
      | none=>
        rw[hh]at g43
        have gb:=bad (by rw[below,if_neg hb1,hh])
        exact ⟨_,_,_,_,_,g43,sel_intro (fun h=>by cases h) (fun _=>sel_intro (fun _=>⟨rfl,gb⟩) (fun h=>by cases h))⟩
      | some n=>
        rw[hh]at g43
        have hrg:=hold_rg hn hh
        have hok:=hold_ok hh
        have hk8:=hok.2.1
        have eq:below (Hold w) (f+1) b d lo hi t=if d > 8∨(n.leaf=true∧n.keys=[]) then { t with bad:=true } else
            if n.leaf then ⟨t.ps++n.keys.zip n.vals,t.bs++[b],d,offK n lo hi||(t.he != 0&&t.he != d)⟩
            else kidsB (fun c lo hi t=>below (Hold w) f c (d+1) lo hi t) lo hi n.keys n.kids ⟨t.ps,t.bs++[b],t.he,offK n lo hi⟩:=by
          rw[below,if_neg hb1,hh]
        refine ⟨_,_,_,_,_,g43,sel_intro (fun h=>by cases h) (fun _=>sel_intro (fun h=>by cases h) (fun _=>sel_dec (fun h=>⟨rfl,bad (by rw[eq,if_pos (.inl h)])⟩) (fun h8 => ?_)))⟩
        have hsnoc:il t.bs++[D.int .i64 b]=il (t.bs++[b]):=by simp[il]
        rw[sl_len,il_len,hsnoc]
        have keyrun:=fun (k:ByteArray)=>p80 k lo hi
        cases hl:n.leaf with
        | true=>
          have hvl:n.vals.length=n.keys.length:=by
            rcases hok.1.2.2 with ⟨_,_,h,_⟩|⟨h,_⟩
            · exact h
            · rw[hl]at h;cases h
          refine sel_intro (fun _=>sel_intro (fun h=>⟨rfl,bad (by rw[eq,if_pos (.inr ⟨hl,nil_of h⟩)])⟩) (fun hk0 => ?_)) (fun h=>by cases h)
          have hk0:n.keys≠[]:=fun e=>by rw[e]at hk0;simp at hk0
          rw[if_neg (by
            rintro (h|h)
            · exact h8 h
            · exact hk0 h.2),hl,if_pos rfl]at eq
          have hsm:((t.bs.length+1)*8:Nat)≤140737488355328:=by omega
          refine ⟨rfl,.inl rfl,⟨⟨rfl,rfl⟩,rfl⟩,by simpa[il_len] using hsm,fun i S Q=>0≤i∧i≤n.keys.length∧∃va',S=(va',vb+1,t.he,(n.keys.take i.toNat).any (fun k => !(within k lo hi)),())∧Q=(va',psD (t.ps++(n.keys.zip n.vals).take i.toNat)),fun i _ _=>(n.keys.length - i).toNat,⟨rfl,by omega,by omega,va,by simp,by simp⟩,?_⟩
          rintro i S Q ⟨h0,h1,va',rfl,rfl⟩ _
          dsimp only
          refine sel_dec (fun hlt => ?_) (fun hge => ?_)
          · have hi:i.toNat<n.keys.length:=by omega
            have hv:i.toNat<n.vals.length:=by omega
            have hz:i.toNat<(n.keys.zip n.vals).length:=by rw[List.length_zip];omega
            have e1:(i+1).toNat=i.toNat+1:=by omega
            have hq:psD (t.ps++(n.keys.zip n.vals).take i.toNat)++[D.rcd [.str n.keys[i.toNat],.str n.vals[i.toNat]]]=psD (t.ps++(n.keys.zip n.vals).take (i.toNat+1)):=by
              rw[psD_snoc,take_snoc hz,List.getElem_zip,List.append_assoc]
            have hb:(psD (t.ps++(n.keys.zip n.vals).take i.toNat)).length+1≤4398046511104:=by
              rw[psD_len,List.length_append,List.length_take,List.length_zip];omega
            refine ⟨rfl,h0,_,sl_at hi,_,rfl,_,keyrun _,sel_intro (fun hx => ?_) (fun hx => ?_)⟩
            all_goals
              refine sel_intro (fun _=>⟨rfl,h0,_,sl_at hv,_,rfl,rfl,.inl rfl,⟨⟨rfl,rfl⟩,rfl⟩,by simp only[List.length_singleton];omega,?_⟩) (fun h=>by cases h)
              repeat (refine And.intro rfl ?_)
              rw[i64_in _ (by omega),hq]
              refine ⟨⟨by omega,by omega,va'+1,?_,by rw[e1]⟩,by first|omega|(dsimp only;omega)⟩
              rw[e1,take_snoc hi,List.any_append]
            · simp only[hx,List.any_cons,List.any_nil,Bool.or_true,Bool.or_false]
            · simp only[hx,List.any_cons,List.any_nil,Bool.or_false]
          · have hge2:n.keys.length≤i.toNat:=by omega
            have hge3:(n.keys.zip n.vals).length≤i.toNat:=by rw[List.length_zip];omega
            rw[List.take_of_length_le hge2,List.take_of_length_le hge3]
            refine sel_intro (fun _ => ?_) (fun h=>by cases h)
            have ea:n.keys.any (fun k => !(within k lo hi))=offK n lo hi:=rfl
            rw[ea]
            refine sel_intro (fun h1=>sel_intro (fun h2=>⟨rfl,va',vb+1,?_⟩) (fun h2=>⟨rfl,va',vb+1,?_⟩)) (fun h1=>⟨rfl,va',vb+1,?_⟩)
            · rw[eq,h1,h2];simp[hT]
            · rw[eq,h1,h2];simp[hT]
            · rw[eq,h1];simp[hT]
        | false=>
          refine sel_intro (fun h=>by cases h) (fun _ => ?_)
          rw[if_neg (by
            rintro (h|h)
            · exact h8 h
            · rw[hl]at h;cases h.1),hl,if_neg (by simp)]at eq
          have hkl:n.kids.length=n.keys.length+1:=by
            rcases hok.1.2.2 with ⟨h,_⟩|⟨_,_,_,h,_⟩
            · rw[hl]at h;cases h
            · exact h
          have hsm:((t.bs.length+1)*8:Nat)≤140737488355328:=by omega
          refine ⟨rfl,.inl rfl,⟨⟨rfl,rfl⟩,rfl⟩,by simpa[il_len] using hsm,fun i S Q=>0≤i∧i≤n.keys.length∧S=(va,vb+1,t.he,(n.keys.take i.toNat).any (fun k => !(within k lo hi)),())∧Q=(va,psD t.ps),fun i _ _=>(n.keys.length - i).toNat,⟨rfl,by omega,by omega,by simp,rfl⟩,?_⟩
          rintro i S Q ⟨h0,h1,rfl,rfl⟩ _
          dsimp only
          refine sel_dec (fun hlt => ?_) (fun hge => ?_)
          · have hi:i.toNat<n.keys.length:=by omega
            have e1:(i+1).toNat=i.toNat+1:=by omega
            refine ⟨rfl,h0,_,sl_at hi,_,rfl,_,keyrun _,sel_intro (fun hx => ?_) (fun hx => ?_)⟩
            all_goals
              refine sel_intro (fun h=>by cases h) (fun _ => ?_)
              repeat (refine And.intro rfl ?_)
              rw[i64_in _ (by omega)]
              refine ⟨⟨by omega,by omega,?_,rfl⟩,by first|omega|(dsimp only;omega)⟩
              rw[e1,take_snoc hi,List.any_append]
            · simp only[hx,List.any_cons,List.any_nil,Bool.or_true,Bool.or_false]
            · simp only[hx,List.any_cons,List.any_nil,Bool.or_false]
          · rw[List.take_of_length_le (by omega)]
            refine sel_intro (fun h=>by cases h) (fun _ => ?_)
            have hst:TInv ⟨t.ps,t.bs++[b],t.he,offK n lo hi⟩:=by
              have:=hi'.add hbn (b:=b) (by omega) (P:=[]) (by simp) t.he (offK n lo hi)
              simpa using this
            refine ⟨fun i S Q Bq=>0≤i∧i≤n.kids.length∧∃(t':TS) (va' vb':Nat),TInv t'∧S=(va',vb',t'.he,t'.bad,())∧Q=(va',psD t'.ps)∧Bq=(vb',il t'.bs)∧below (Hold w) (f+1) b d lo hi t=kidsB (fun c lo hi t=>below (Hold w) f c (d+1) lo hi t) (fromAt lo n.keys i.toNat) hi (n.keys.drop i.toNat) (n.kids.drop i.toNat) t',fun i _ _ _=>(n.kids.length - i).toNat,
              ⟨rfl,by omega,by omega,⟨t.ps,t.bs++[b],t.he,offK n lo hi⟩,va,vb+1,hst,rfl,rfl,rfl,eq⟩,?_⟩
            rintro i S Q Bq ⟨h0,h1,t',va',vb',ht',rfl,rfl,rfl,hinv⟩ _
            dsimp only
            rw[i64_in (d+1) (by omega),i64_in (i - 1) (by omega),i64_in (i+1) (by omega)]
            have e1:(i+1).toNat=i.toNat+1:=by omega
            have e2:(i - 1).toNat=i.toNat - 1:=by omega
            refine sel_dec (fun hlt => ?_) (fun hge => ?_)
            · have hik:i.toNat<n.kids.length:=by omega
              have tail:∀(fr tl:ByteArray),kidsB (fun c lo hi t=>below (Hold w) f c (d+1) lo hi t) (fromAt lo n.keys i.toNat) hi (n.keys.drop i.toNat) (n.kids.drop i.toNat) t'=kidsB (fun c lo hi t=>below (Hold w) f c (d+1) lo hi t) (fromAt lo n.keys (i.toNat+1)) hi (n.keys.drop (i.toNat+1)) (n.kids.drop (i.toNat+1)) (if t'.bad then t' else below (Hold w) f n.kids[i.toNat] (d+1) fr tl t') →
                  t'.bad=false→∃va'' vb'',Runs Fs2 55 [.ptr 2100101 0,wdV w,.n (.int .i64 n.kids[i.toNat]),.n (.int .i64 (d+1)),.n (.str fr),.n (.str tl)] (hT t' va' vb') (.tup []) (hT (below (Hold w) f n.kids[i.toNat] (d+1) fr tl t') va'' vb'') ∧
                    ∃(t'':TS) (a c:Nat),TInv t''∧(va'',vb'',(below (Hold w) f n.kids[i.toNat] (d+1) fr tl t').he,(below (Hold w) f n.kids[i.toNat] (d+1) fr tl t').bad,())=(a,c,t''.he,t''.bad,())∧(va'',psD (below (Hold w) f n.kids[i.toNat] (d+1) fr tl t').ps)=(a,psD t''.ps)∧(vb'',il (below (Hold w) f n.kids[i.toNat] (d+1) fr tl t').bs)=(c,il t''.bs)∧below (Hold w) (f+1) b d lo hi t=kidsB (fun c lo hi t=>below (Hold w) f c (d+1) lo hi t) (fromAt lo n.keys (i+1).toNat) hi (n.keys.drop (i+1).toNat) (n.kids.drop (i+1).toNat) t'':=fun fr tl hs hb=>by
                obtain ⟨va'',vb'',g⟩:=p55 w hf hn f n.kids[i.toNat] (d+1) fr tl t' va' vb' (by omega) (by omega) (by omega) ht'
                refine ⟨va'',vb'',g,_,va'',vb'',below_inv hn f _ (d+1) fr tl t' ht',rfl,rfl,rfl,?_⟩
                rw[hinv,hs,hb,e1];rfl
              have skip:∀(fr tl:ByteArray),kidsB (fun c lo hi t=>below (Hold w) f c (d+1) lo hi t) (fromAt lo n.keys i.toNat) hi (n.keys.drop i.toNat) (n.kids.drop i.toNat) t'=kidsB (fun c lo hi t=>below (Hold w) f c (d+1) lo hi t) (fromAt lo n.keys (i.toNat+1)) hi (n.keys.drop (i.toNat+1)) (n.kids.drop (i.toNat+1)) (if t'.bad then t' else below (Hold w) f n.kids[i.toNat] (d+1) fr tl t') →
                  t'.bad=true→∃(t'':TS) (a c:Nat),TInv t''∧(va',vb',t'.he,t'.bad,())=(a,c,t''.he,t''.bad,())∧(va',psD t'.ps)=(a,psD t''.ps)∧(vb',il t'.bs)=(c,il t''.bs)∧below (Hold w) (f+1) b d lo hi t=kidsB (fun c lo hi t=>below (Hold w) f c (d+1) lo hi t) (fromAt lo n.keys (i+1).toNat) hi (n.keys.drop (i+1).toNat) (n.kids.drop (i+1).toNat) t'':=fun fr tl hs hb=>by
                refine ⟨t',va',vb',ht',rfl,rfl,rfl,?_⟩
                rw[hinv,hs,hb,e1];rfl
              refine ⟨rfl,h0,_,il_at hik,_,rfl,sel_dec (fun hp => ?_) (fun hp => ?_)⟩
              · have hi1:(i - 1).toNat<n.keys.length:=by omega
                have ef:fromAt lo n.keys i.toNat=n.keys[(i - 1).toNat]:=by
                  rw[fromAt_pos (by omega) (by omega)]
                  congr 1;omega
                refine ⟨rfl,by omega,_,sl_at hi1,_,rfl,sel_dec (fun hq => ?_) (fun hq => ?_)⟩
                · have hi2:i.toNat<n.keys.length:=by omega
                  have hs:=kidsB_in (f:=fun c lo hi t=>below (Hold w) f c (d+1) lo hi t) (lo:=lo) (hi:=hi) (t:=t') hi2 hik
                  have hs':=hs
                  rw[show below (Hold w) f n.kids[i.toNat] (d+1) (fromAt lo n.keys i.toNat) n.keys[i.toNat] t'=below (Hold w) f n.kids[i.toNat] (d+1) n.keys[(i - 1).toNat] n.keys[i.toNat] t' by rw[ef]]at hs
                  refine ⟨rfl,h0,_,sl_at hi2,_,rfl,sel_intro (fun hb => ?_) (fun hb => ?_)⟩
                  · obtain ⟨va'',vb'',g,hx⟩:=tail _ _ hs (by simpa using hb)
                    exact ⟨_,_,_,_,_,_,_,_,g,rfl,rfl,rfl,rfl,rfl,rfl,rfl,rfl,rfl,⟨by omega,by omega,hx⟩,by first|omega|(dsimp only;omega)⟩
                  · have hx:=skip _ _ hs (by simpa using hb)
                    exact ⟨rfl,rfl,rfl,rfl,rfl,rfl,rfl,rfl,rfl,⟨by omega,by omega,hx⟩,by first|omega|(dsimp only;omega)⟩
                · have hs:=kidsB_end (f:=fun c lo hi t=>below (Hold w) f c (d+1) lo hi t) (lo:=lo) (hi:=hi) (ks:=n.keys) (cs:=n.kids) (t:=t') (i:=i.toNat) (by omega) (by omega)
                  have hd2:n.kids.drop (i.toNat+1)=[]:=List.drop_of_length_le (by omega)
                  rw[show below (Hold w) f n.kids[i.toNat] (d+1) (fromAt lo n.keys i.toNat) hi t'=below (Hold w) f n.kids[i.toNat] (d+1) n.keys[(i - 1).toNat] hi t' by rw[ef]]at hs
                  have hs:_=kidsB (fun c lo hi t=>below (Hold w) f c (d+1) lo hi t) (fromAt lo n.keys (i.toNat+1)) hi (n.keys.drop (i.toNat+1)) (n.kids.drop (i.toNat+1)) _:=hs.trans (by rw[hd2,kidsB_nil])
                  refine sel_intro (fun hb => ?_) (fun hb => ?_)
                  · obtain ⟨va'',vb'',g,hx⟩:=tail _ _ hs (by simpa using hb)
                    exact ⟨_,_,_,_,_,_,_,_,g,rfl,rfl,rfl,rfl,rfl,rfl,rfl,rfl,rfl,⟨by omega,by omega,hx⟩,by first|omega|(dsimp only;omega)⟩
                  · have hx:=skip _ _ hs (by simpa using hb)
                    exact ⟨rfl,rfl,rfl,rfl,rfl,rfl,rfl,rfl,rfl,⟨by omega,by omega,hx⟩,by first|omega|(dsimp only;omega)⟩
              · have hi2:i.toNat<n.keys.length:=by
                  rcases hok.1.2.2 with ⟨h,_⟩|⟨_,_,h,_⟩
                  · rw[hl]at h;cases h
                  · omega
                have ef:fromAt lo n.keys i.toNat=lo:=by rw[fromAt,if_pos (by omega)]
                have hs:=kidsB_in (f:=fun c lo hi t=>below (Hold w) f c (d+1) lo hi t) (lo:=lo) (hi:=hi) (t:=t') hi2 hik
                rw[show below (Hold w) f n.kids[i.toNat] (d+1) (fromAt lo n.keys i.toNat) n.keys[i.toNat] t'=below (Hold w) f n.kids[i.toNat] (d+1) lo n.keys[i.toNat] t' by rw[ef]]at hs
                refine sel_dec (fun hq => ?_) (fun hq=>by omega)
                refine ⟨rfl,h0,_,sl_at hi2,_,rfl,sel_intro (fun hb => ?_) (fun hb => ?_)⟩
                · obtain ⟨va'',vb'',g,hx⟩:=tail _ _ hs (by simpa using hb)
                  exact ⟨_,_,_,_,_,_,_,_,g,rfl,rfl,rfl,rfl,rfl,rfl,rfl,rfl,rfl,⟨by omega,by omega,hx⟩,by first|omega|(dsimp only;omega)⟩
                · have hx:=skip _ _ hs (by simpa using hb)
                  exact ⟨rfl,rfl,rfl,rfl,rfl,rfl,rfl,rfl,rfl,⟨by omega,by omega,hx⟩,by first|omega|(dsimp only;omega)⟩
            · have hd2:n.kids.drop i.toNat=[]:=List.drop_of_length_le (by omega)
              rw[hd2,kidsB_nil]at hinv
              refine ⟨rfl,va',vb',?_⟩
              rw[hinv];rfl
   obtain ⟨r,H',hr,rfl,va',vb',rfl⟩:=key
   exact ⟨va',vb',hr⟩
abbrev wdT:Mir.Ty := .st [.st [.sl .bool,.sl .bool],.sl .str,.int .i64,.int .i64]
def toWd (x:wdT.T):Wd:=match x with
 | ((a,b,_),p,r,g,_)=>⟨a,b,p,r,g⟩
theorem wd_av (x:wdT.T):wdT.av x=wdV (toWd x):=by
 obtain ⟨⟨a,b,_⟩,p,r,g,_⟩:=x;rfl
theorem wd_fit (x:wdT.T) (h:wdT.fit x):WFits (toWd x):=by
 obtain ⟨⟨a,b,_⟩,p,r,g,_⟩:=x
 obtain ⟨⟨⟨h1,_⟩,⟨h2,_⟩,_⟩,⟨h3,h4⟩,_⟩:=h
 have e:maxLen≤9223372036854775807:=by decide
 exact ⟨by show ((List.length a:Nat):Int)≤_;have:List.length a≤maxLen:=h1;omega,by show ((List.length b:Nat):Int)≤_;have:List.length b≤maxLen:=h2;omega,by show ((List.length p:Nat):Int)≤_;have:List.length p≤maxLen:=h3;omega,fun s hs=>by
  have:ByteArray.size s≤maxLen:=h4 s hs
  show ((ByteArray.size s:Nat):Int)≤_;omega⟩
theorem ts0_inv:TInv ts0:=⟨by simp[ts0],by simp[ts0],by simp[ts0]⟩
theorem p21 (w:Wd) (hf:WFits w) (hn:w.now.length≤2048):∃va vb,Runs Fs2 21 [wdV w] [] (.ptr 2100101 0) (hT (treeW w) va vb):=by
 have key:∃r H',Runs Fs2 21 [wdV w] [] r H'∧r = .ptr 2100101 0∧∃va vb,H'=hT (treeW w) va vb:=by
  refine vc_own (R:=fun r H'=>r = .ptr 2100101 0∧∃va vb,H'=hT (treeW w) va vb) fs21 rfl ?_
  rw[wdV,vc21o,(V21oe _ _ _ _ _ _).down]
  refine sel_intro (fun h => ?_) (fun h=>⟨rfl,0,0,?_⟩)
  · obtain ⟨va,vb,g⟩:=p55 w hf hn 9 w.root 1 empS empS ts0 0 0 (by omega) (by omega) (by omega) ts0_inv
    have e:below (Hold w) 9 w.root 1 empS empS ts0=treeW w:=by rw[treeW,if_neg (by simpa using h)]
    rw[e]at g
    exact ⟨_,_,_,_,_,_,_,_,g,rfl,va,vb,rfl⟩
  · rw[treeW,if_pos (by simpa using h)];rfl
 obtain ⟨r,H',hr,rfl,va,vb,rfl⟩:=key
 exact ⟨va,vb,hr⟩
theorem wr_now {w:Wd} (h:WRight w):w.now.length≤2048:=h.1.2.2.1
def hW (lo hi:ByteArray):Heap:=[hB 9500000 [.n (.str lo)],hB 9500001 [.n (.str hi)]]
structure CS where
 used:List Bool
 np:Int
 he:Int
 nb:Int
 bad:Bool
def hC (w:Wd) (s:CS) (v:Nat):Heap:=[hR 6500305 v 4 1 (blD s.used),hB 6500307 [.o (.sl 1 (blD w.base)),.o (.sl 1 (blD w.now)),.o (.sl 1 (sl_ w.pages)),.n (.int .i64 w.root),.n (.int .i64 w.gen),.n (.int .i64 s.np),.n (.int .i64 s.he),.n (.int .i64 s.nb),.row 6500305 v,.n (.bool s.bad)]]
theorem blD_set (l:List Bool) (i:Nat) (b:Bool):(blD l).set i (.bool b)=blD (l.set i b):=by simp[blD,List.map_set]
theorem hold_tr {w:Wd} {b:Int} {r:Bool} {n:Nd} (h:Hold w b r=some n):tr w.now b.toNat=true:=by
 unfold Hold at h
 split at h
 · cases h
 · rename_i hx
   cases ht:tr w.now b.toNat with
   | true=>rfl
   | false=>exact absurd (.inr (.inr (.inr ht))) hx
theorem isTree_held {w:Wd} {h:Nat} {P:List Pr} {B:List Int} (ht:IsTree w h P B):∀b∈B,∃r n,Hold w b r=some n:=by
 rcases ht with ⟨_,_,_,rfl⟩|⟨_,_,_,h3,_⟩
 · intro b hb;cases hb
 · exact h3.held
def h10 (v:Nat) (l:List Int):Heap:=[(1000600,.row false true v 3 1 (il l))]
def sOf (l:List UInt8):ByteArray:=⟨l.toArray⟩
theorem sOf_data (l:List UInt8):(sOf l).data.toList=l:=by simp[sOf]
theorem sOf_size (l:List UInt8):(sOf l).size=l.length:=by rw[←size_list,sOf_data]
theorem beB1 (n:Int):beB n 1=[UInt8.ofNat (n % 256).toNat]:=by
 have:=be_bytes n 1
 rw[←this]
 simp[be,Mir.byteOf]
theorem gT_at {s:ByteArray} {A C:List UInt8} {b:UInt8} {a:Int} (h:s.data.toList=A++b :: C) (ha:a=A.length):gT s a 1=((b.toNat:Int),a+1,0):=by
 have hl:s.size=A.length+1+C.length:=by rw[←size_list,h];simp;omega
 have hp:piece s a 1=[b]:=piece_mid (A:=A) (B:=[b]) (C:=C) (by rw[h];rfl) (by omega) rfl
 rw[gT,getR_good (by omega) (by omega),hp]
 simp[g3,num]
theorem cT_at {s t:ByteArray} {A C:List UInt8} {a:Int} (h:s.data.toList=A++((beB t.size 2++t.data.toList)++C)) (ha:a=A.length) (ht:t.size≤65535):cT s a=(t,a+2+t.size,0):=by
 have e:s=cat [sOf A,TextOf t,sOf C]:=bytes_ext (by rw[cat3,sOf_data,sOf_data,textOf_data,h])
 have hA:(sOf A).size=A.length:=sOf_size A
 have:=cut_back t (sOf A) (sOf C) (by omega)
 rw[←e,hA,←ha]at this
 rw[cT,this];rfl
theorem textR_small {s:ByteArray} (h:s.size≤65535):TextR s = .tup [.n (.str (TextOf s)),.n (.int .i64 0)]:=by
 rw[TextR,if_neg (by omega)]
theorem get_self {k g:Int} {b:ByteArray} (h:pgOK k g b):GetPR (PageS k g b) = .tup [pg k g b,.n (.int .i64 0)]:=
 get_back' k g b _ h (by have:=pageS_size k g b h;omega) (by
  refine bytes_ext ?_
  rw[trimS_data,PageS,trimS_data,tz_idem])
def txB (t:ByteArray):List UInt8:=beB t.size 2++t.data.toList
def lfB:List ByteArray→List ByteArray→List UInt8
 | k :: ks,v :: vs=>txB k++(txB v++lfB ks vs)
 | _,_=>[]
def inB:List Int→List ByteArray→List UInt8
 | b :: bs,k :: ks=>beB b 2++(txB k++inB bs ks)
 | b :: _,[]=>beB b 2
 | [],_=>[]
def nodeL (n:Nd):List UInt8:=beB n.keys.length 1++(if n.leaf then lfB n.keys n.vals else inB n.kids n.keys)
def nodeB (n:Nd):ByteArray:=sOf (nodeL n)
def kindOf (n:Nd):Int:=if n.leaf then 1 else 2
def pageB (g:Int) (n:Nd):ByteArray:=PageS (kindOf n) g (nodeB n)
theorem gT_two {s:ByteArray} {A C:List UInt8} {b a:Int} (h:s.data.toList=A++(beB b 2++C)) (ha:a=A.length) (h0:0≤b) (h1:b<65536):gT s a 2=(b,a+2,0):=by
 have hl:s.size=A.length+2+C.length:=by rw[←size_list,h];simp[beB_length];omega
 have hp:piece s a 2=beB b 2:=piece_mid h (by omega) (by rw[beB_length];rfl)
 rw[gT,getR_good (by omega) (by omega),hp]
 have e:num (beB b 2)=b:=by rw[num_beB];exact Int.emod_eq_of_lt h0 (by omega)
 simp only[g3,e]
theorem lf_at {s:ByteArray}:∀(ks vs:List ByteArray) (A:List UInt8) (a:Int) (ak av:List ByteArray),vs.length=ks.length→(∀k∈ks,k.size≤65535)→(∀v∈vs,v.size≤65535)→s.data.toList=A++lfB ks vs→a=A.length →
   lfUp s ks.length a ak av = .inr (ak++ks,av++vs,(s.size:Int))
 | [],[],A,a,ak,av,_,_,_,h,ha=>by
   have hl:s.size=A.length:=by rw[←size_list,h];simp[lfB]
   simp only[List.length_nil,lfUp,List.append_nil]
   rw[ha,hl]
 | [],_ :: _,_,_,_,_,hl,_,_,_,_=>by simp at hl
 | _ :: _,[],_,_,_,_,hl,_,_,_,_=>by simp at hl
 | k :: ks,v :: vs,A,a,ak,av,hl,hk,hv,h,ha=>by
   have hk1:=hk k (by simp)
   have hv1:=hv v (by simp)
   have c1:=cT_at (t:=k) (A:=A) (C:=txB v++lfB ks vs) (a:=a) (by rw[h];rfl) ha hk1
   have c2:=cT_at (s:=s) (t:=v) (A:=A++txB k) (C:=lfB ks vs) (a:=a+2+k.size) (by rw[h];simp[lfB,txB]) (by simp[txB,beB_length,size_list];omega) hv1
   rw[List.length_cons,lf_go (by rw[c1]) (by rw[c1,c2]),c1]
   dsimp only
   rw[c2]
   dsimp only
   rw[lf_at ks vs (A++(txB k++txB v)) _ _ _ (by simpa using hl) (fun x hx=>hk x (List.mem_cons_of_mem _ hx)) (fun x hx=>hv x (List.mem_cons_of_mem _ hx)) (by rw[h];simp[lfB]) (by simp[txB,beB_length,size_list];omega)]
   simp
theorem in_at {s:ByteArray}:∀(bs:List Int) (ks:List ByteArray) (l:Int) (A:List UInt8) (a:Int) (ab:List Int) (ak:List ByteArray),bs.length=ks.length→(∀b∈bs,0≤b∧b<65536)→(∀k∈ks,k.size≤65535)→s.data.toList=A++inB (bs++[l]) ks→a=A.length →
   ∃A',inUp s ks.length a ab ak = .inr (ab++bs,ak++ks,(A'.length:Int))∧s.data.toList=A'++beB l 2
 | [],[],l,A,a,ab,ak,_,_,_,h,ha=>by
   refine ⟨A,?_,by rw[h];rfl⟩
   simp only[List.length_nil,inUp,List.append_nil]
   rw[ha]
 | [],_ :: _,_,_,_,_,_,hl,_,_,_,_=>by simp at hl
 | _ :: _,[],_,_,_,_,_,hl,_,_,_,_=>by simp at hl
 | b :: bs,k :: ks,l,A,a,ab,ak,hl,hb,hk,h,ha=>by
   have hk1:=hk k (by simp)
   have hb1:=hb b (by simp)
   have c1:=gT_two (s:=s) (b:=b) (A:=A) (C:=txB k++inB (bs++[l]) ks) (a:=a) (by rw[h];rfl) ha hb1.1 hb1.2
   have c2:=cT_at (s:=s) (t:=k) (A:=A++beB b 2) (C:=inB (bs++[l]) ks) (a:=a+2) (by rw[h];simp[inB,txB]) (by simp[beB_length];omega) hk1
   rw[List.length_cons,in_go (by rw[c1]) (by rw[c1,c2]),c1]
   dsimp only
   rw[c2]
   dsimp only
   obtain ⟨A',h1,h2⟩:=in_at bs ks l (A++(beB b 2++txB k)) (a+2+2+k.size) (ab++[b]) (ak++[k]) (by simpa using hl) (fun x hx=>hb x (List.mem_cons_of_mem _ hx)) (fun x hx=>hk x (List.mem_cons_of_mem _ hx)) (by rw[h];simp[inB]) (by simp[txB,beB_length,size_list];omega)
   refine ⟨A',?_,h2⟩
   rw[h1];simp
theorem kok_size {l:List ByteArray} (h:KOK l):∀k∈l,1≤k.size∧k.size≤32:=fun k hk=>by
 obtain ⟨i,hi,rfl⟩:=List.getElem_of_mem hk
 exact ⟨(h i hi hi).1,(h i hi hi).2.1⟩
theorem nget_node {n:Nd} (hok:NdOK n true):NGet (kindOf n) (nodeB n)=(n,0):=by
 obtain ⟨hs,h8,_⟩:=hok
 have hks:=kok_size hs.2.1
 have hd:(nodeB n).data.toList=nodeL n:=sOf_data _
 have h1:beB (n.keys.length:Int) 1=[UInt8.ofNat n.keys.length]:=by
   rw[beB1]
   congr 2
   omega
 have hbyte:((UInt8.ofNat n.keys.length).toNat:Int)=n.keys.length:=by
   rw[UInt8.toNat_ofNat']
   omega
 have g0:=gT_at (s:=nodeB n) (A:=[]) (b:=UInt8.ofNat n.keys.length) (C:=if n.leaf then lfB n.keys n.vals else inB n.kids n.keys) (a:=0) (by rw[hd,nodeL,h1];rfl) rfl
 rw[hbyte]at g0
 have hlen0:(nodeL n).length=1+(if n.leaf then lfB n.keys n.vals else inB n.kids n.keys).length:=by
   rw[nodeL,List.length_append,beB_length]
 have hsz:(nodeB n).size=(nodeL n).length:=sOf_size _
 have fin:∀a:Int,a=(nodeB n).size→nFin (nodeB n) n a=(n,0):=fun a ha=>by
   rw[nFin,if_neg]
   rintro (h|h)
   · exact h ha
   · exact h ⟨hs,h8,.inl rfl⟩
 rw[NGet,if_neg (by unfold kindOf;split <;> omega),if_neg (by rw[g0];simp),g0]
 dsimp only
 rw[Int.toNat_natCast,Int.zero_add]
 cases hl:n.leaf with
 | true=>
   have hv:n.vals.length=n.keys.length∧(∀v∈n.vals,v.size≤200)∧n.kids=[]:=by
     rcases hs.2.2 with ⟨_,h1,h2,h3⟩|⟨h,_⟩
     · exact ⟨h2,h3,h1⟩
     · rw[hl]at h;cases h
   have e:(kindOf n==1)=true:=by rw[kindOf,hl];rfl
   rw[e,nc_true,lf_at n.keys n.vals (beB (n.keys.length:Int) 1) 1 [] [] hv.1 (fun k hk=>by have:=hks k hk;omega) (fun v hv'=>by have:=hv.2.1 v hv';omega) (by rw[hd,nodeL,hl];rfl) (by simp[beB_length])]
   dsimp only
   have en:(⟨true,[]++n.keys,[]++n.vals,[]⟩:Nd)=n:=by
     rw[List.nil_append,List.nil_append,←hl,←hv.2.2]
   rw[en]
   exact fin _ rfl
 | false=>
   have hv:n.vals=[]∧n.kids.length=n.keys.length+1∧∀b∈n.kids,10≤b∧b<2048:=by
     rcases hs.2.2 with ⟨h,_⟩|⟨_,h1,_,h2,h3⟩
     · rw[hl]at h;cases h
     · exact ⟨h1,h2,h3⟩
   have e:(kindOf n==1)=false:=by rw[kindOf,hl];rfl
   have hne:n.kids≠[]:=fun h=>by rw[h]at hv;simp at hv
   have hsp:n.kids.dropLast++[n.kids.getLast hne]=n.kids:=List.dropLast_concat_getLast hne
   obtain ⟨A',h2,h3⟩:=in_at (s:=nodeB n) n.kids.dropLast n.keys (n.kids.getLast hne) (beB (n.keys.length:Int) 1) 1 [] [] (by rw[List.length_dropLast];omega) (fun b hb=>by have:=hv.2.2 b (List.dropLast_subset _ hb);omega) (fun k hk=>by have:=hks k hk;omega) (by rw[hd,nodeL,hl,hsp];rfl) (by simp[beB_length])
   have hbl:=hv.2.2 _ (List.getLast_mem hne)
   have c:=gT_two (s:=nodeB n) (A:=A') (C:=[]) (b:=n.kids.getLast hne) (a:=A'.length) (by rw[h3];simp) rfl (by omega) (by omega)
   rw[e,nc_false,h2]
   dsimp only
   rw[if_neg (by rw[c];simp),c]
   dsimp only
   have en:(⟨false,[]++n.keys,[],[]++n.kids.dropLast++[n.kids.getLast hne]⟩:Nd)=n:=by
     rw[List.nil_append,List.nil_append,hsp,←hl,←hv.1]
   rw[en]
   refine fin _ ?_
   have:(nodeB n).size=A'.length+2:=by rw[←size_list,h3];simp[beB_length]
   omega
theorem lfB_len:∀(ks vs:List ByteArray),(∀k∈ks,k.size≤32)→(∀v∈vs,v.size≤200)→(lfB ks vs).length≤236*ks.length
 | [],_,_,_=>by simp[lfB]
 | _ :: _,[],_,_=>by simp[lfB]
 | k :: ks,v :: vs,h1,h2=>by
   have:=lfB_len ks vs (fun x hx=>h1 x (List.mem_cons_of_mem _ hx)) (fun x hx=>h2 x (List.mem_cons_of_mem _ hx))
   have a1:=h1 k (by simp)
   have a2:=h2 v (by simp)
   simp only[lfB,txB,List.length_append,beB_length,size_list,List.length_cons];omega
theorem inB_len:∀(bs:List Int) (ks:List ByteArray),(∀k∈ks,k.size≤32)→(inB bs ks).length≤36*ks.length+2
 | [],_,_=>by simp[inB]
 | b :: bs,[],_=>by simp[inB,beB_length]
 | b :: bs,k :: ks,h=>by
   have:=inB_len bs ks (fun x hx=>h x (List.mem_cons_of_mem _ hx))
   have a1:=h k (by simp)
   simp only[inB,txB,List.length_append,beB_length,size_list,List.length_cons];omega
theorem nodeB_size {n:Nd} (hok:NdOK n true):(nodeB n).size≤4000:=by
 obtain ⟨hs,h8,_⟩:=hok
 have hks:=kok_size hs.2.1
 rw[show (nodeB n).size=(nodeL n).length from sOf_size _,nodeL,List.length_append,beB_length]
 split
 · rename_i hl
   have hv:∀v∈n.vals,v.size≤200:=by
    rcases hs.2.2 with ⟨_,_,_,h⟩|⟨h,_⟩
    · exact h
    · rw[hl]at h;cases h
   have:=lfB_len n.keys n.vals (fun k hk=>(hks k hk).2) hv
   omega
 · have:=inB_len n.kids n.keys (fun k hk=>(hks k hk).2)
   omega
theorem kindOf_rg (n:Nd):1≤kindOf n∧kindOf n≤2:=by unfold kindOf;split <;> omega
theorem page_ok {n:Nd} (hok:NdOK n true) {g:Int} (h0:0≤g) (h1:g≤1099511627776):pgOK (kindOf n) g (nodeB n):=by
 have h2:=kindOf_rg n
 have h3:=nodeB_size hok
 exact ⟨by omega,by omega,h0,h1,by omega⟩
theorem ndOK_root {n:Nd} {r:Bool} (h:NdOK n r):NdOK n true:=⟨h.1,h.2.1,.inl rfl⟩
theorem hold_store {w:Wd} {b:Int} {n:Nd} {g:Int} (hr:WRight w) (h10:10≤b) (h1:b<w.now.length) (hn:tr w.now b.toNat=true) (hp:pgAt w b=pageB g n) (h0:0≤g) (hg:g≤w.gen) {r:Bool} (hok:NdOK n r):Hold w b r=some n:=by
 have hg2:w.gen≤1099511627776:=hr.2.2.2.1
 rw[hold_go (by rw[hn];have:=hr.2.1;simp;omega),hp,pageB,get_self (page_ok (ndOK_root hok) h0 (by omega)),hPage_ok,if_neg (by omega),nget_node (ndOK_root hok)]
 dsimp only
 rw[if_neg (by simp),if_pos hok]
abbrev TR:=Int→ByteArray→ByteArray→List Pr→List Int→Prop
def KSeg (R:TR):ByteArray→ByteArray→List ByteArray→List Int→List Pr→List Int→Prop
 | lo,hi,[],[],P,B=>lo=hi∧P=[]∧B=[]
 | lo,hi,k :: ks,c :: cs,P,B=>∃P1 B1 P2 B2,R c lo k P1 B1∧KSeg R k hi ks cs P2 B2∧P=P1++P2∧B=B1++B2
 | _,_,_,_,_,_=>False
theorem ktr_split {R:TR}:∀ {i:Nat} {ks:List ByteArray} {cs:List Int} {lo hi:ByteArray} {P:List Pr} {B:List Int},KTr R lo hi ks cs P B→i≤ks.length →
   ∃mid P1 B1 P2 B2,KSeg R lo mid (ks.take i) (cs.take i) P1 B1∧KTr R mid hi (ks.drop i) (cs.drop i) P2 B2∧P=P1++P2∧B=B1++B2
 | 0,ks,cs,lo,hi,P,B,h,_=>⟨lo,[],[],P,B,by simp[KSeg],by simpa using h,rfl,rfl⟩
 | i+1,[],cs,_,_,_,_,h,hi=>by simp at hi
 | i+1,k :: ks,[],_,_,_,_,h,_=>h.elim
 | i+1,k :: ks,c :: cs,lo,hi,P,B,h,hle=>by
   obtain ⟨P1,B1,P2,B2,h1,h2,rfl,rfl⟩:=h
   obtain ⟨mid,Q1,C1,Q2,C2,g1,g2,rfl,rfl⟩:=ktr_split (i:=i) h2 (by simpa using hle)
   exact ⟨mid,P1++Q1,B1++C1,Q2,C2,⟨P1,B1,Q1,C1,h1,g1,rfl,rfl⟩,g2,by simp,by simp⟩
theorem ktr_join {R:TR}:∀ {ks1 ks2:List ByteArray} {cs1 cs2:List Int} {lo mid hi:ByteArray} {P1 P2:List Pr} {B1 B2:List Int},KSeg R lo mid ks1 cs1 P1 B1→KTr R mid hi ks2 cs2 P2 B2→KTr R lo hi (ks1++ks2) (cs1++cs2) (P1++P2) (B1++B2)
 | [],ks2,[],cs2,lo,mid,hi,P1,P2,B1,B2,h1,h2=>by
   obtain ⟨rfl,rfl,rfl⟩:=h1
   exact h2
 | [],_,_ :: _,_,_,_,_,_,_,_,_,h1,_=>h1.elim
 | _ :: _,_,[],_,_,_,_,_,_,_,_,h1,_=>h1.elim
 | k :: ks1,ks2,c :: cs1,cs2,lo,mid,hi,P1,P2,B1,B2,h1,h2=>by
   obtain ⟨Q1,C1,Q2,C2,g1,g2,rfl,rfl⟩:=h1
   exact ⟨Q1,C1,Q2++P2,C2++B2,g1,ktr_join g2 h2,by simp,by simp⟩
theorem kseg_mono {R S:TR}:∀ {ks:List ByteArray} {cs:List Int} {lo hi:ByteArray} {P:List Pr} {B:List Int},(∀c lo hi P B',(∀x∈B',x∈B)→R c lo hi P B'→S c lo hi P B')→KSeg R lo hi ks cs P B→KSeg S lo hi ks cs P B
 | [],[],_,_,_,_,_,h=>h
 | [],_ :: _,_,_,_,_,_,h=>h
 | _ :: _,[],_,_,_,_,_,h=>h
 | k :: ks,c :: cs,lo,hi,P,B,m,h=>by
   obtain ⟨P1,B1,P2,B2,h1,h2,rfl,rfl⟩:=h
   exact ⟨P1,B1,P2,B2,m _ _ _ _ _ (fun x hx=>List.mem_append_left _ hx) h1,kseg_mono (fun c lo hi P B' hB h=>m c lo hi P B' (fun x hx=>List.mem_append_right _ (hB x hx)) h) h2,rfl,rfl⟩
theorem ktr_len {R:TR}:∀ {ks:List ByteArray} {cs:List Int} {lo hi:ByteArray} {P:List Pr} {B:List Int},KTr R lo hi ks cs P B→cs.length=ks.length+1
 | [],[],_,_,_,_,h=>h.elim
 | [],[c],_,_,_,_,_=>rfl
 | [],_ :: _ :: _,_,_,_,_,h=>h.elim
 | _ :: _,[],_,_,_,_,h=>h.elim
 | k :: ks,c :: cs,lo,hi,P,B,h=>by
   obtain ⟨P1,B1,P2,B2,h1,h2,rfl,rfl⟩:=h
   simp[ktr_len h2]
theorem kseg_end {R:TR}:∀ {ks:List ByteArray} {cs:List Int} {lo hi:ByteArray} {P:List Pr} {B:List Int},KSeg R lo hi ks cs P B→hi=(ks.getLast?).getD lo
 | [],[],_,_,_,_,h=>h.1.symm
 | [],_ :: _,_,_,_,_,h=>h.elim
 | _ :: _,[],_,_,_,_,h=>h.elim
 | k :: ks,c :: cs,lo,hi,P,B,h=>by
   obtain ⟨P1,B1,P2,B2,h1,h2,rfl,rfl⟩:=h
   rw[kseg_end h2,List.getLast?_cons]
   cases ks.getLast? <;> rfl
theorem kseg_low {R:TR} (m:∀c lo hi P B,R c lo hi P B→∀p∈P,within p.1 lo hi=true):∀ {ks:List ByteArray} {cs:List Int} {lo hi:ByteArray} {P:List Pr} {B:List Int},Rise ks→(∀k∈ks,k≠empS)→KSeg R lo hi ks cs P B→∀p∈P,lt p.1 hi=true
 | [],[],_,_,_,_,_,_,h=>by obtain ⟨_,rfl,_⟩:=h;intro p hp;cases hp
 | [],_ :: _,_,_,_,_,_,_,h=>h.elim
 | _ :: _,[],_,_,_,_,_,_,h=>h.elim
 | k :: ks,c :: cs,lo,hi,P,B,hr,he,h=>by
   obtain ⟨P1,B1,P2,B2,h1,h2,rfl,rfl⟩:=h
   obtain ⟨r1,r2⟩:=List.pairwise_cons.1 hr
   intro p hp
   rcases List.mem_append.1 hp with hp|hp
   · have hpk:lt p.1 k=true:=by
       rcases (within_iff.1 (m _ _ _ _ _ h1 p hp)).2 with h|h
       · exact absurd h (he k (by simp))
       · exact h
     have hend:=kseg_end h2
     cases hx:ks.getLast? with
     | none=>rw[hx]at hend;rw[hend];exact hpk
     | some z=>
       rw[hx]at hend
       rw[hend]
       exact lt_trans hpk (r1 z (List.mem_of_getLast? hx))
   · exact kseg_low m r2 (fun k hk=>he k (List.mem_cons_of_mem _ hk)) h2 p hp
theorem kok_iff {l:List ByteArray}:KOK l ↔ (Rise l∧∀k∈l,1≤k.size∧k.size≤32):=by
 refine ⟨fun h=>⟨kok_rise h,kok_size h⟩,fun ⟨h1,h2⟩ j hj _ => ?_⟩
 have:=h2 _ (List.getElem_mem hj)
 exact ⟨this.1,this.2,fun h0=>List.pairwise_iff_getElem.1 h1 (j - 1) j (by omega) hj (by omega)⟩
def insAt {α:Type} (l:List α) (i:Nat) (x:α):List α:=l.take i++x :: l.drop i
theorem insAt_len {α:Type} {l:List α} {i:Nat} (x:α) (h:i≤l.length):(insAt l i x).length=l.length+1:=by
 simp[insAt];omega
theorem take_mem {α:Type} {l:List α} {i:Nat} {x:α} (h:x∈l.take i):∃(j:Nat) (hj:j<l.length),j<i∧l[j]=x:=by
 obtain ⟨j,hj,rfl⟩:=List.getElem_of_mem h
 rw[List.length_take]at hj
 exact ⟨j,by omega,by omega,by simp⟩
theorem drop_mem {α:Type} {l:List α} {i:Nat} {x:α} (h:x∈l.drop i):∃(j:Nat) (hj:j<l.length),i≤j∧l[j]=x:=by
 obtain ⟨j,hj,rfl⟩:=List.getElem_of_mem h
 rw[List.length_drop]at hj
 exact ⟨i+j,by omega,by omega,by simp⟩
theorem srch_take {l:List ByteArray} {x:ByteArray}:∀k∈l.take (srch l x),lt k x=true:=fun k hk=>by
 obtain ⟨j,hj,hjs,rfl⟩:=take_mem hk
 exact (srch_at l x).2.1 j hj hjs
theorem srch_drop {l:List ByteArray} {x:ByteArray} (h:Rise l) (hn:isAt l x=false):∀k∈l.drop (srch l x),lt x k=true:=fun k hk=>by
 obtain ⟨j,hj,hjs,rfl⟩:=drop_mem hk
 have h0:srch l x<l.length:=by omega
 have h1:=(srch_at l x).2.2 h0
 have hne:l[srch l x]≠x:=fun e=>by
   rw[isAt,List.getElem?_eq_getElem h0,e]at hn
   simp at hn
 have h2:lt x l[srch l x]=true:=by
   rcases nlt_iff.1 h1 with e|e
   · exact absurd e hne
   · exact e
 by_cases e:j=srch l x
 · subst e;exact h2
 · exact lt_trans h2 (List.pairwise_iff_getElem.1 h _ _ h0 hj (by omega))
theorem kidOf_take {l:List ByteArray} {x:ByteArray}:∀k∈l.take (kidOf l x),lt x k=false:=by
 induction l with
 | nil=>intro k hk;cases hk
 | cons y r ih=>
   intro k hk
   unfold kidOf at hk
   split at hk
   · cases hk
   · rename_i hy
     rw[List.take_succ_cons]at hk
     rcases List.mem_cons.1 hk with rfl|hk
     · simpa using hy
     · exact ih k hk
theorem kidOf_drop {l:List ByteArray} {x:ByteArray} (h:Rise l):∀k∈l.drop (kidOf l x),lt x k=true:=by
 induction l with
 | nil=>intro k hk;simp[kidOf]at hk
 | cons y r ih=>
   obtain ⟨h1,h2⟩:=List.pairwise_cons.1 h
   intro k hk
   unfold kidOf at hk
   split at hk
   · rename_i hy
     rw[List.drop_zero]at hk
     rcases List.mem_cons.1 hk with rfl|hk
     · exact hy
     · exact lt_trans hy (h1 k hk)
   · rw[List.drop_succ_cons]at hk
     exact ih h2 k hk
def wioP (key:ByteArray) (P:List Pr):List Pr:=P.filter (fun p=>lt p.1 key)++P.filter (fun p=>lt key p.1)
theorem filt_lo {key:ByteArray} {P:List Pr} (h:∀p∈P,lt p.1 key=true):P.filter (fun p=>lt p.1 key)=P∧P.filter (fun p=>lt key p.1)=[]:=
 ⟨List.filter_eq_self.2 h,List.filter_eq_nil_iff.2 fun p hp=>by rw[lt_asym (h p hp)];simp⟩
theorem filt_hi {key:ByteArray} {P:List Pr} (h:∀p∈P,lt key p.1=true):P.filter (fun p=>lt p.1 key)=[]∧P.filter (fun p=>lt key p.1)=P:=
 ⟨List.filter_eq_nil_iff.2 fun p hp=>by rw[lt_asym (h p hp)];simp,List.filter_eq_self.2 h⟩
theorem wioP_mid {key:ByteArray} {P1 P2 P3:List Pr} (h1:∀p∈P1,lt p.1 key=true) (h3:∀p∈P3,lt key p.1=true):wioP key (P1++(P2++P3))=P1++(wioP key P2++P3):=by
 unfold wioP
 rw[List.filter_append,List.filter_append,List.filter_append,List.filter_append,(filt_lo h1).1,(filt_lo h1).2,(filt_hi h3).1,(filt_hi h3).2]
 simp
theorem zip_split {ks vs:List ByteArray} (i:Nat) (hl:vs.length=ks.length):ks.zip vs=(ks.take i).zip (vs.take i)++(ks.drop i).zip (vs.drop i):=by
 rw[←List.zip_append (by simp;omega),List.take_append_drop,List.take_append_drop]
theorem zip_fst {ks vs:List ByteArray} {p:Pr} (h:p∈ks.zip vs):p.1∈ks:=(List.of_mem_zip (a:=p.1) (b:=p.2) h).1
theorem at_eq {ks:List ByteArray} {key:ByteArray} (h:isAt ks key=true):∃hi:srch ks key<ks.length,ks[srch ks key]=key:=by
 have:=of_decide_eq_true h
 obtain ⟨h2,h3⟩:=List.getElem?_eq_some_iff.1 this
 exact ⟨h2,h3⟩
theorem drop_at {ks:List ByteArray} {key:ByteArray} (hr:Rise ks) (h:isAt ks key=true):ks.drop (srch ks key)=key :: ks.drop (srch ks key+1)∧∀k∈ks.drop (srch ks key+1),lt key k=true:=by
 obtain ⟨hi,he⟩:=at_eq h
 refine ⟨by rw[List.drop_eq_getElem_cons hi,he],fun k hk => ?_⟩
 obtain ⟨j,hj,hjs,rfl⟩:=drop_mem hk
 have:=List.pairwise_iff_getElem.1 hr _ _ hi hj (by omega)
 rw[he]at this;exact this
def delAt {α:Type} (l:List α) (i:Nat):List α:=l.take i++l.drop (i+1)
theorem leaf_del {ks vs:List ByteArray} {key:ByteArray} (hr:Rise ks) (hl:vs.length=ks.length) (hn:isAt ks key=true):(delAt ks (srch ks key)).zip (delAt vs (srch ks key))=wioP key (ks.zip vs):=by
 obtain ⟨hi,he⟩:=at_eq hn
 obtain ⟨hd,hg⟩:=drop_at hr hn
 have hvi:srch ks key<vs.length:=by omega
 have h1:∀p∈(ks.take (srch ks key)).zip (vs.take (srch ks key)),lt p.1 key=true:=fun p hp=>srch_take _ (zip_fst hp)
 have h2:∀p∈(ks.drop (srch ks key+1)).zip (vs.drop (srch ks key+1)),lt key p.1=true:=fun p hp=>hg _ (zip_fst hp)
 rw[wioP,zip_split (srch ks key) hl,hd,List.drop_eq_getElem_cons hvi,delAt,delAt,List.zip_append (by simp;omega),List.zip_cons_cons]
 rw[List.filter_append,List.filter_append,(filt_lo h1).1,(filt_lo h1).2]
 have h3:lt key key=false:=lt_irr key
 simp only[List.filter_cons,h3,(filt_hi h2).1,(filt_hi h2).2]
 simp
theorem delAt_len {α:Type} {l:List α} {i:Nat} (h:i<l.length):(delAt l i).length+1=l.length:=by
 simp[delAt];omega
theorem delAt_mem {α:Type} {l:List α} {i:Nat} {x:α} (h:x∈delAt l i):x∈l:=by
 rcases List.mem_append.1 h with h|h
 · exact List.mem_of_mem_take h
 · exact List.mem_of_mem_drop h
theorem rise_del {l:List ByteArray} (i:Nat) (h:Rise l):Rise (delAt l i):=by
 have e:Rise (l.take i++l.drop i):=by rw[List.take_append_drop];exact h
 obtain ⟨a,b,c⟩:=List.pairwise_append.1 e
 have hsub:∀x∈l.drop (i+1),x∈l.drop i:=fun x hx=>by
  rw[←List.drop_drop]at hx;exact List.mem_of_mem_drop hx
 refine List.pairwise_append.2 ⟨a,?_,fun p hp q hq=>c p hp q (hsub q hq)⟩
 rw[←List.drop_drop];exact b.drop
end Go.Proofs.YtclgengkohbjjaaGreatDoor.M
