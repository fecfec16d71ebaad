import Derived.Test.YtegndijbpiccgaaGreatDoorMirN
namespace Go.Mir
set_option linter.unusedVariables false
set_option linter.unusedSimpArgs false
def CallLe (c d:CallFn):Prop:=∀f as H r,c f as H=some r→d f as H=some r
theorem doCall_le {c d:CallFn} (h:CallLe c d) {own:Bool} {H:Heap} {f:Nat} {as:List AV} {r:AV×Heap} (e:doCall c own H f as=some r):doCall d own H f as=some r:=by
 unfold doCall at e ⊢
 split at e <;> try (cases e;done)
 rename_i as' ha
 simp only at e ⊢
 split at e <;> try (cases e;done)
 rename_i hb
 rw[if_neg hb]
 split at e <;> try (cases e;done)
 rename_i p q hc
 rw[h _ _ _ _ hc]
 exact e
theorem exec1_le {c d:CallFn} (h:CallLe c d) {σ:Slots} {H:Heap} {o:Opn} {r:AV×Heap} (e:exec1 c σ H o=some r):exec1 d σ H o=some r:=by
 cases o
 case call own f args=>
  simp only[exec1]at e ⊢
  split at e <;> try (cases e;done)
  exact doCall_le h e
 case dyn own x args=>
  simp only[exec1]at e ⊢
  split at e <;> try (cases e;done)
  exact doCall_le h e
 all_goals exact e
theorem execOps_le {c d:CallFn} (h:CallLe c d):∀ {l:List RO} {σ:Slots} {H:Heap} {r:Slots×Heap},execOps c l σ H=some r→execOps d l σ H=some r
 | [],σ,H,r,e=>e
 | o :: l,σ,H,r,e=>by
   simp only[execOps]at e ⊢
   split at e
   · split at e <;> try (cases e;done)
     rename_i hx
     rw[exec1_le h hx]
     exact execOps_le h e
   · split at e <;> try (cases e;done)
     · split at e
       · rename_i hw
         split at e <;> try (cases e;done)
         rename_i hx
         rw[if_pos hw,exec1_le h hx]
         exact execOps_le h e
       · rename_i hw
         rw[if_neg hw]
         exact execOps_le h e
     · exact execOps_le h e
theorem roRun_le {c d:CallFn} (h:CallLe c d) {o:RO} {σ:Slots} {H:Heap} {r:Slots×Heap} (e:o.run c σ H=some r):o.run d σ H=some r:=by
 unfold RO.run at e ⊢
 split at e
 · split at e <;> try (cases e;done)
   rename_i hx
   rw[exec1_le h hx];exact e
 · split at e <;> try (cases e;done)
   · split at e
     · rename_i hw
       split at e <;> try (cases e;done)
       rename_i hx
       rw[if_pos hw,exec1_le h hx];exact e
     · rename_i hw
       rw[if_neg hw];exact e
   · exact e
theorem runOps_le {c d:CallFn} (h:CallLe c d):∀ {l:List RO} {σ:Slots} {H:Heap} {fl:List Fg} {r:Slots×Heap×List Fg},runOps c l σ H fl=some r→runOps d l σ H fl=some r
 | [],σ,H,fl,r,e=>e
 | o :: l,σ,H,fl,r,e=>by
   simp only[runOps]at e ⊢
   split at e <;> try (cases e;done)
   rename_i hx
   rw[roRun_le h hx]
   exact runOps_le h e
theorem loopN_le {f g:Slots→Heap→Option (Ex×Slots×Heap)} (h:∀σ H r,f σ H=some r→g σ H=some r):∀(k:Nat) {σ:Slots} {H:Heap} {r:Ex×Slots×Heap},loopN f k σ H=some r→loopN g k σ H=some r
 | 0,σ,H,r,e=>e
 | k+1,σ,H,r,e=>by
   simp only[loopN]at e ⊢
   cases hf:f σ H with
   | none=>rw[hf]at e;cases e
   | some x=>
     rw[hf]at e
     rw[h _ _ _ hf]
     obtain ⟨ex,σ',H'⟩:=x
     cases ex
     · exact loopN_le h k e
     · exact e
     · exact e
theorem exec_le {c d:CallFn} (h:CallLe c d) {j:Nat}:∀ {x:Cmd} {σ:Slots} {H:Heap} {r:Ex×Slots×Heap},exec c j x σ H=some r→exec d j x σ H=some r:=by
 intro x
 induction x with
 | skip=>intro σ H r e;exact e
 | region ops=>
   intro σ H r e
   simp only[exec]at e ⊢
   split at e <;> try (cases e;done)
   rename_i hx
   rw[execOps_le h hx];exact e
 | drawn ops un=>
   intro σ H r e
   simp only[exec]at e ⊢
   split at e <;> try (cases e;done)
   rename_i hx
   rw[runOps_le h hx];exact e
 | seq a b iha ihb=>
   intro σ H r e
   simp only[exec]at e ⊢
   cases hx:exec c j a σ H with
   | none=>rw[hx]at e;cases e
   | some y=>
     rw[hx]at e
     rw[iha hx]
     obtain ⟨ex,σ',H'⟩:=y
     cases ex
     · exact ihb e
     · exact e
     · exact e
 | cond v a b iha ihb=>
   intro σ H r e
   simp only[exec]at e ⊢
   split at e <;> try (cases e;done)
   split at e
   · rename_i ht;rw[if_pos ht];exact iha e
   · rename_i ht;rw[if_neg ht];exact ihb e
 | block id b ih=>
   intro σ H r e
   simp only[exec]at e ⊢
   cases hx:exec c j b σ H with
   | none=>rw[hx]at e;cases e
   | some y=>
     rw[hx]at e
     rw[ih hx]
     exact e
 | loop is b ih=>
   intro σ H r e
   simp only[exec]at e ⊢
   exact loopN_le (fun _ _ _=>ih) j e
 | exit id=>intro σ H r e;exact e
 | ret=>intro σ H r e;exact e
 | hint fn keep drop rows data=>intro σ H r e;exact e
theorem runFn_le {c d:CallFn} (h:CallLe c d) {j:Nat} {fn:FnC} {as:List AV} {H:Heap} {r:AV×Heap} (e:runFn c j fn as H=some r):runFn d j fn as H=some r:=by
 unfold runFn at e ⊢
 split at e <;> try (cases e;done)
 rename_i hb
 rw[if_neg hb]
 cases hx:exec c j fn.body (wkL fn.ps as++List.replicate (fn.ntmps - as.length) (.n .any)) H with
 | none=>rw[hx]at e;cases e
 | some y=>
   rw[hx]at e
   rw[exec_le h hx]
   exact e
def FsLe (F G:Nat→Option Fun):Prop:=∀f x,F f=some x→G f=some x
theorem run_le {F G:Nat→Option Fun} (h:FsLe F G):∀k,CallLe (run F k) (run G k)
 | 0=>fun f as H r e=>by cases e
 | k+1=>fun f as H r e=>by
   simp only[run]at e ⊢
   split at e <;> try (cases e;done)
   · rename_i hf
     rw[h _ _ hf]
     exact runFn_le (run_le h k) e
   · rename_i hf
     rw[h _ _ hf]
     exact e
theorem Runs.up {F G:Nat→Option Fun} (h:FsLe F G) {f:Nat} {as:List AV} {H:Heap} {r:AV} {H':Heap} (e:Runs F f as H r H'):Runs G f as H r H':=by
 obtain ⟨k0,hk⟩:=e
 exact ⟨k0,fun k h'=>run_le h k _ _ _ _ (hk k h')⟩
theorem table_app {l:List (Nat×Fun)}:∀ {m:List (Nat×Fun)},(∀p∈m,table l p.1=none)→FsLe (table l) (table (m++l))
 | [],_=>fun f y e=>e
 | (n,x) :: m,h=>fun f y e=>by
   have ih:=table_app (l:=l) (m:=m) (fun p hp=>h p (List.mem_cons_of_mem _ hp)) f y e
   simp only[List.cons_append,table]
   by_cases hf:f=n
   · subst hf;rw[h (f,x) (List.mem_cons_self ..)]at e;cases e
   · rw[if_neg hf];exact ih
theorem table_up {l m:List (Nat×Fun)} (h:(m.all fun p=>(table l p.1).isNone)=true):FsLe (table l) (table (m++l)):=table_app fun p hp=>by
 have:=List.all_eq_true.1 h p hp
 simpa using this
end Go.Mir
