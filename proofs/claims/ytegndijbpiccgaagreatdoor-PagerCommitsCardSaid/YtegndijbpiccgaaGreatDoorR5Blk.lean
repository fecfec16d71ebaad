import Derived.Test.YtegndijbpiccgaaGreatDoorR5EdA
namespace Go.Proofs.YtegndijbpiccgaaGreatDoor.M
set_option linter.unusedVariables false
set_option linter.unusedSimpArgs false
open Go Go.Mir
set_option linter.unusedVariables false
theorem p106 (l:List Int) (hl:Small l.length) (b:Int):Runs Fs2 106 [.o (.sl 1 (il l)),.n (.int .i64 b)] [] (.n (.bool (decide (b∈l)))) []:=by
 refine vc_eq fs106 rfl ?_
 rw[vc106,(V106e _ _ _).down,il_len]
 refine ⟨fun i=>0≤i∧i≤l.length∧∀(j:Nat) (h:j<l.length),(j:Int)<i→l[j]≠b,fun i=>(l.length - i).toNat,⟨rfl,by omega,by omega,fun j _ hj=>by omega⟩,?_⟩
 rintro i ⟨h0,h1,hok⟩ _
 refine sel_dec (fun hlt => ?_) (fun hge => ?_)
 · have hi:i.toNat<l.length:=by omega
   refine ⟨rfl,h0,_,il_at hi,_,rfl,sel_intro (fun h => ?_) (fun h => ?_)⟩
   · have h:l[i.toNat]=b:=by simpa using h
     rw[decide_eq_true (by rw[←h];exact List.getElem_mem hi)]
   · have h:l[i.toNat]≠b:=by simpa using h
     repeat (refine And.intro rfl ?_)
     rw[i64_in _ (by omega)]
     refine ⟨⟨by omega,by omega,fun j hj hji => ?_⟩,by first|omega|(dsimp only;omega)⟩
     by_cases e:(j:Int)<i
     · exact hok j hj e
     · obtain rfl:j=i.toNat:=by omega
       exact h
 · rw[decide_eq_false]
   intro hm
   obtain ⟨j,hj,hb⟩:=List.getElem_of_mem hm
   exact hok j hj (by omega) hb
def upTo (bs:List Int):Nat→List Int
 | 0=>[]
 | i+1=>if (i:Int)∈bs then upTo bs i++[(i:Int)] else upTo bs i
theorem upTo_mem {bs:List Int} {x:Int}:∀ {N:Nat},x∈upTo bs N ↔ (0≤x∧x<N∧x∈bs)
 | 0=>by simp[upTo];omega
 | N+1=>by
   have ih:=upTo_mem (bs:=bs) (x:=x) (N:=N)
   unfold upTo
   split
   · rename_i h
     rw[List.mem_append,ih,List.mem_singleton]
     constructor
     · rintro (h2|rfl)
       · exact ⟨h2.1,by omega,h2.2.2⟩
       · exact ⟨by omega,by omega,h⟩
     · rintro ⟨h1,h2,h3⟩
       by_cases e:x=N
       · exact .inr e
       · exact .inl ⟨h1,by omega,h3⟩
   · rename_i h
     rw[ih]
     constructor
     · rintro ⟨h1,h2,h3⟩;exact ⟨h1,by omega,h3⟩
     · rintro ⟨h1,h2,h3⟩
       have:x≠N:=fun e=>by subst e;exact h h3
       exact ⟨h1,by omega,h3⟩
theorem upTo_len (bs:List Int):∀N,(upTo bs N).length≤N
 | 0=>Nat.le_refl _
 | N+1=>by
   have:=upTo_len bs N
   unfold upTo
   split
   · simp;omega
   · omega
theorem tree_rg {w:Wd} (hn:w.now.length≤2048) (hb:(treeW w).bad=false):∀b∈(treeW w).bs,10≤b∧b<w.now.length:=by
 obtain ⟨h,P,B,hT,he⟩:=tree_sound hb
 rw[he]
 intro b hbm
 have:∃r n,Hold w b r=some n:=by
  rcases hT with ⟨_,_,_,rfl⟩|⟨_,_,_,h3,_⟩
  · cases hbm
  · exact h3.held b hbm
 obtain ⟨r,n,hh⟩:=this
 have:=hold_rg hn hh
 omega
noncomputable def BlkR (w:Wd):List Int×Int:=if ¬WRight w then ([],1) else if (treeW w).bad=true then ([],81) else (upTo (treeW w).bs w.now.length,0)
theorem il_snoc' (l:List Int) (b:Int):il l++[D.int .i64 b]=il (l++[b]):=by simp[il]
def h10 (v:Nat) (l:List Int):Heap:=[(1000600,.row false true v 3 1 (il l))]
end Go.Proofs.YtegndijbpiccgaaGreatDoor.M
