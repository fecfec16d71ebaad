import Derived.Test.YtegndijbpiccgaaGreatDoorMirN
namespace Go.Mir
set_option linter.unusedVariables false
set_option linter.unusedSimpArgs false
def GC (c d:Al):Prop:=∀f as H r,c f as H=some r->d f as H=some r
theorem N1 {c d:Al}(h:GC c d){own:Bool}{H:Heap}{f:Nat}{as:List AV}{r:AV×Heap}(e:AF c own H f as=some r):AF d own H f as=some r:=by
 unfold AF at e |-;split at e<;>try (cases e;done)
 rename_i as' ha;simp only at e |-;split at e<;>try (cases e;done)
 rename_i hb;rw[if_neg hb];split at e<;>try (cases e;done)
 rename_i p q hc;rw[h _ _ _ _ hc];exact e
theorem IG {c d:Al}(h:GC c d){σ:Slots}{H:Heap}{o:Opn}{r:AV×Heap}(e:Ac c σ H o=some r):Ac d σ H o=some r:=by
 cases o
 case call own f args=>
  simp only[Ac]at e |-
  split at e<;>try (cases e;done)
  exact N1 h e
 case dyn own x args=>
  simp only[Ac]at e |-
  split at e<;>try (cases e;done)
  exact N1 h e
 all_goals exact e
theorem EB {c d:Al}(h:GC c d):∀ {l:List RO} {σ:Slots} {H:Heap} {r:Slots×Heap},BG c l σ H=some r->BG d l σ H=some r
 | [],σ,H,r,e=>e
 | o::l,σ,H,r,e=>by
  simp only[BG]at e |-;split at e
  ·split at e<;>try (cases e;done)
   rename_i hx;rw[IG h hx];exact EB h e
  ·split at e<;>try (cases e;done)
   ·split at e
    ·rename_i hw;split at e<;>try (cases e;done)
     rename_i hx;rw[if_pos hw,IG h hx];exact EB h e
    ·rename_i hw;rw[if_neg hw];exact EB h e
   ·exact EB h e
theorem Zk {c d:Al}(h:GC c d){o:RO}{σ:Slots}{H:Heap}{r:Slots×Heap}(e:o.run c σ H=some r):o.run d σ H=some r:=by
 unfold RO.run at e |-;split at e
 ·split at e<;>try (cases e;done)
  rename_i hx;rw[IG h hx];exact e
 ·split at e<;>try (cases e;done)
  ·split at e
   ·rename_i hw;split at e<;>try (cases e;done)
    rename_i hx;rw[if_pos hw,IG h hx];exact e
   ·rename_i hw;rw[if_neg hw];exact e
  ·exact e
theorem NB {c d:Al}(h:GC c d):∀ {l:List RO} {σ:Slots} {H:Heap} {fl:List Fg} {r:Slots×Heap×List Fg},Dy c l σ H fl=some r->Dy d l σ H fl=some r
 | [],σ,H,fl,r,e=>e
 | o::l,σ,H,fl,r,e=>by
  simp only[Dy]at e |-;split at e<;>try (cases e;done)
  rename_i hx;rw[Zk h hx];exact NB h e
theorem P9 {f g:Slots->Heap->Option (Ex×Slots×Heap)}(h:∀σ H r,f σ H=some r->g σ H=some r):∀(k:Nat) {σ:Slots} {H:Heap} {r:Ex×Slots×Heap},GU f k σ H=some r->GU g k σ H=some r
 | 0,σ,H,r,e=>e
 | k+1,σ,H,r,e=>by
  simp only[GU]at e |-
  cases hf:f σ H with
  | none=>rw[hf]at e;cases e
  | some x=>
   rw[hf]at e;rw[h _ _ _ hf];obtain⟨ex,σ',H'⟩:=x;cases ex;·exact P9 h k e
   ·exact e
   ·exact e
theorem bY {c d:Al}(h:GC c d){j:Nat}:∀ {x:Cmd} {σ:Slots} {H:Heap} {r:Ex×Slots×Heap},Bd c j x σ H=some r->Bd d j x σ H=some r:=by
 intro x
 induction x with
 | skip=>intro σ H r e;exact e
 | region ops=>
  intro σ H r e;simp only[Bd]at e |-;split at e<;>try (cases e;done)
  rename_i hx;rw[EB h hx];exact e
 | drawn ops un=>
  intro σ H r e;simp only[Bd]at e |-;split at e<;>try (cases e;done)
  rename_i hx;rw[NB h hx];exact e
 | seq a b iha ihb=>
  intro σ H r e;simp only[Bd]at e |-
  cases hx:Bd c j a σ H with
  | none=>rw[hx]at e;cases e
  | some y=>
   rw[hx]at e;rw[iha hx];obtain⟨ex,σ',H'⟩:=y;cases ex;·exact ihb e
   ·exact e
   ·exact e
 | cond v a b iha ihb=>
  intro σ H r e;simp only[Bd]at e |-;split at e<;>try (cases e;done)
  split at e;·rename_i ht;rw[if_pos ht];exact iha e
  ·rename_i ht;rw[if_neg ht];exact ihb e
 | block id b ih=>
  intro σ H r e;simp only[Bd]at e |-
  cases hx:Bd c j b σ H with
  | none=>rw[hx]at e;cases e
  | some y=> rw[hx]at e;rw[ih hx];exact e
 | loop is b ih=> intro σ H r e;simp only[Bd]at e |-;exact P9 (λ_ _ _=>ih) j e
 | exit id=>intro σ H r e;exact e
 | ret=>intro σ H r e;exact e
 | hint fn keep drop rows data=>intro σ H r e;exact e
theorem Wy {c d:Al}(h:GC c d){j:Nat}{fn:FnC}{as:List AV}{H:Heap}{r:AV×Heap}(e:HJ c j fn as H=some r):HJ d j fn as H=some r:=by
 unfold HJ at e |-;split at e<;>try (cases e;done)
 rename_i hb;rw[if_neg hb]
 cases hx:Bd c j fn.body (Ns fn.ps as++List.replicate (fn.ntmps-as.length) (.n .any)) H with
 | none=>rw[hx]at e;cases e
 | some y=> rw[hx]at e;rw[bY h hx];exact e
def PL (F G:Nat->Option Fun):Prop:=∀f x,F f=some x->G f=some x
theorem WJ {F G:Nat->Option Fun}(h:PL F G):∀k,GC (run F k) (run G k)
 | 0=>λf as H r e=>by cases e
 | k+1=>λf as H r e=>by
  simp only[run]at e |-;split at e<;>try (cases e;done)
  ·rename_i hf;rw[h _ _ hf];exact Wy (WJ h k) e
  ·rename_i hf;rw[h _ _ hf];exact e
theorem Runs.up {F G:Nat->Option Fun}(h:PL F G){f:Nat}{as:List AV}{H:Heap}{r:AV}{H':Heap}(e:Runs F f as H r H'):Runs G f as H r H':=by obtain⟨k0,hk⟩:=e;exact⟨k0,λk h'=>WJ h k _ _ _ _ (hk k h')⟩
theorem NW {l:List (Nat×Fun)}:∀ {m:List (Nat×Fun)},(∀p∈m,D3 l p.1=none)->PL (D3 l) (D3 (m++l))
 | [],_=>λf y e=>e
 | (n,x)::m,h=>λf y e=>by
  have ih:=NW (l:=l) (m:=m) (λp hp=>h p (List.mem_cons_of_mem _ hp)) f y e;simp only[List.cons_append,D3];by_cases hf:f=n;·subst hf;rw[h (f,x) (List.mem_cons_self ..)]at e;cases e
  ·rw[if_neg hf];exact ih
theorem II {l m:List (Nat×Fun)}(h:(m.all λp=>(D3 l p.1).isNone)=true):PL (D3 l) (D3 (m++l)):=NW λp hp=>by have:=List.all_eq_true.1 h p hp;simpa using this
end Go.Mir
