import Derived.Test.YtegndijbpiccgaaGreatDoorR5Pn
namespace Go.Proofs.YtegndijbpiccgaaGreatDoor.M
set_option linter.unusedVariables false
set_option linter.unusedSimpArgs false
open Go Go.Mir
set_option linter.unusedVariables false
theorem rget_emp (g:Int):(RGet empS g).2.2≠0:=by
 obtain ⟨e,he,h⟩:=get_none
 rw[RGet,show empS=noB from rfl,h,rGet_err he]
 exact he
theorem scan_emp {b:List ByteArray} {g:Int} (hl:10≤b.length) (h:blk b 2=empS):scan g 0 ((b.take 10).drop 2)=[]:=by
 have e:(b.take 10).drop 2=blk b 2 :: (b.take 10).drop 3:=by
  have h2:2<(b.take 10).length:=by rw[List.length_take];omega
  rw[List.drop_eq_getElem_cons h2]
  congr 1
  rw[List.getElem_take,blk,show (2:Int).toNat=2 from rfl,List.getElem?_eq_getElem (by omega)];rfl
 rw[e,h]
 exact scan_stop (.inl (rget_emp g))
theorem newN_len (n:Nat):(newN n).length=n:=by simp[newN]
theorem newN_tr {n i:Nat} (h:i<n):tr (newN n) i=decide (i≤10):=by simp[tr,newN,h]
def fmtSu (n:Nat):Su:=⟨1,0,10,n⟩
def fmtF (n:Nat):Fnd:=⟨fmtSu n,0,wdOf (fmtB n) (fmtSu n) (newN n),[]⟩
theorem fmtB_len (n:Nat):(fmtB n).length=n:=by simp[fmtB]
theorem blk_rep (n:Nat) (i:Int):blk (List.replicate n empS) i=empS:=by
 unfold blk
 by_cases h:i.toNat<n
 · rw[List.getElem?_eq_getElem (by simpa using h)];simp
 · rw[List.getElem?_eq_none (by simpa using h)];rfl
theorem fmtB_blk {n:Nat} (h:24≤n) (i:Nat):blk (fmtB n) i=if i=10 then mapP 1 (newN n) else if i=0 then SuS (fmtSu n) else empS:=by
 rw[fmtB,blk_set (by simp;omega),blk_set (by simp;omega),blk_rep];rfl
theorem fmtSu_ok {n:Nat} (h:24≤n) (h2:n≤2048):suOK (fmtSu n):=⟨by show (1:Int)≤1;decide,by show (1:Int)≤1099511627776;decide,by show (24:Int)≤n;omega,by show (n:Int)≤2048;omega,.inl rfl,by show (10:Int)≤10;decide,by show (10:Int)<n;omega,by show (10:Int)≠0;decide⟩
theorem newN_sz {n:Nat} (h2:n≤2048):pgOK 3 1 (packS (newN n)):=mapP_ok (by decide) (by decide) (by rw[newN_len];exact h2)
theorem fmt_tm {n:Nat} (h:24≤n) (h2:n≤2048):∀s∈fmtB n,Tm s=true:=by
 intro s hs
 have e0:Tm empS=true:=tm_of (by decide +kernel) (by decide)
 rcases List.mem_or_eq_of_mem_set hs with hs|rfl
 · rcases List.mem_or_eq_of_mem_set hs with hs|rfl
   · rw[List.eq_of_mem_replicate hs];exact e0
   · exact tm_of (suS_trim _) (by have:=suS_size ⟨1,0,10,(n:Int)⟩;omega)
 · exact tm_of (trim_page _ _ _) (by have:=mapP_size (g:=1) (now:=newN n) (by decide) (by decide) (by rw[newN_len];exact h2);omega)
theorem fmt_dk {n:Nat} (h:24≤n) (h2:n≤2048):Dk (fmtB n) (fmtF n) 0 [] []:=by
 have hb:=fmtB_blk h
 have hlen:=fmtB_len n
 have tms:=fmt_tm h h2
 have hnow:(fmtF n).wd.now=newN n:=rfl
 refine ⟨rt_mk ⟨by rw[hlen];omega,by rw[hlen];exact h2,by decide⟩ tms (fun w hw=>by cases hw),fmtSu_ok h h2,by rw[hlen];rfl,.inl rfl,hb 0,?_,?_,?_,by rw[hnow,newN_len,hlen],rfl,rfl,rfl,.inl ⟨rfl,rfl,rfl,rfl⟩,by simp,?_,?_,?_⟩
 · left
   show (SGet (blk (fmtB n) (1 - 0))).2≠0
   rw[show (1 - 0:Int)=((1:Nat):Int) by decide,hb 1,if_neg (by decide),if_neg (by decide)]
   exact sget_emp
 · show (blk (fmtB n) (1 - 0)).size≤512
   rw[show (1 - 0:Int)=((1:Nat):Int) by decide,hb 1,if_neg (by decide),if_neg (by decide)]
   decide
 · refine ⟨⟨rfl,?_,?_,fun j hj => ?_⟩,pgsOf_len _ _,by show (1:Int)≤1+1;decide,by show (1:Int)+1≤_;decide,.inl rfl,fun s hs => ?_⟩
   · rw[hnow,newN_len];exact h
   · rw[hnow,newN_len];exact h2
   · have:tr (newN n) j=true:=by rw[newN_tr (by omega)];simp;omega
     exact ⟨this,this⟩
   · obtain ⟨i,_,rfl⟩:=List.mem_map.1 hs
     split
     · cases hx:(fmtB n)[i]? with
       | none=>decide
       | some s=>exact (tm_T (tms s (List.mem_of_getElem? hx))).2
     · decide
 · intro i hi
   rw[hnow,newN_len]at hi
   rw[hnow,newN_tr hi,decide_eq_decide]
   show _ ↔ _∨(i:Int)∈[(10:Int)]
   simp;omega
 · intro i h10 hi ht
   exact Dk.pgs_at (by omega) (by rw[newN_len];rw[hlen]at hi;omega) ht
 · refine ⟨1,by decide,by show (1:Int)≤1;decide,?_⟩
   show GetPR (blk (fmtB n) ((10:Nat):Int))=_
   rw[hb 10,if_pos rfl]
   exact get_selfQ (newN_sz h2)
theorem fmt_ring {n:Nat} (h:24≤n):∀i:Nat,2≤i→i<10→blk (fmtB n) i=empS:=fun i h2 h10=>by rw[fmtB_blk h,if_neg (by omega),if_neg (by omega)]
end Go.Proofs.YtegndijbpiccgaaGreatDoor.M
