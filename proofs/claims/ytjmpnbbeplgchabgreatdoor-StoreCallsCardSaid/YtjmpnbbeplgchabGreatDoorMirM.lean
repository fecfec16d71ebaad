import Derived.Test.YtjmpnbbeplgchabGreatDoorMirN
namespace Go.Mir
set_option linter.unusedVariables false
set_option linter.unusedSimpArgs false
def GG (c d:Am):Prop:=∀f as H r,c f as H=some r->d f as H=some r
theorem M7 {c d:Am}(h:GG c d){own:Bool}{H:Heap}{f:Nat}{as:List AV}{r:AV×Heap}(e:AH c own H f as=some r):AH d own H f as=some r:=by
 unfold AH at e |-;split at e<;>try (cases e;done)
 rename_i as' ha;simp only at e |-;split at e<;>try (cases e;done)
 rename_i hb;rw[if_neg hb];split at e<;>try (cases e;done)
 rename_i p q hc;rw[h _ _ _ _ hc];exact e
theorem Ir {c d:Am}(h:GG c d){σ:Slots}{H:Heap}{o:Opn}{r:AV×Heap}(e:Ad c σ H o=some r):Ad d σ H o=some r:=by
 cases o
 case call own f args=>
  simp only[Ad]at e |-
  split at e<;>try (cases e;done)
  exact M7 h e
 case dyn own x args=>
  simp only[Ad]at e |-
  split at e<;>try (cases e;done)
  exact M7 h e
 all_goals exact e
theorem Ek {c d:Am}(h:GG c d):∀ {l:List RO} {σ:Slots} {H:Heap} {r:Slots×Heap},BH c l σ H=some r->BH d l σ H=some r
 | [],σ,H,r,e=>e
 | o::l,σ,H,r,e=>by
  simp only[BH]at e |-;split at e
  ·split at e<;>try (cases e;done)
   rename_i hx;rw[Ir h hx];exact Ek h e
  ·split at e<;>try (cases e;done)
   ·split at e
    ·rename_i hw;split at e<;>try (cases e;done)
     rename_i hx;rw[if_pos hw,Ir h hx];exact Ek h e
    ·rename_i hw;rw[if_neg hw];exact Ek h e
   ·exact Ek h e
theorem WV {c d:Am}(h:GG c d){o:RO}{σ:Slots}{H:Heap}{r:Slots×Heap}(e:o.run c σ H=some r):o.run d σ H=some r:=by
 unfold RO.run at e |-;split at e
 ·split at e<;>try (cases e;done)
  rename_i hx;rw[Ir h hx];exact e
 ·split at e<;>try (cases e;done)
  ·split at e
   ·rename_i hw;split at e<;>try (cases e;done)
    rename_i hx;rw[if_pos hw,Ir h hx];exact e
   ·rename_i hw;rw[if_neg hw];exact e
  ·exact e
theorem NH {c d:Am}(h:GG c d):∀ {l:List RO} {σ:Slots} {H:Heap} {fl:List Fg} {r:Slots×Heap×List Fg},Dx c l σ H fl=some r->Dx d l σ H fl=some r
 | [],σ,H,fl,r,e=>e
 | o::l,σ,H,fl,r,e=>by
  simp only[Dx]at e |-;split at e<;>try (cases e;done)
  rename_i hx;rw[WV h hx];exact NH h e
theorem QE {f g:Slots->Heap->Option (Ex×Slots×Heap)}(h:∀σ H r,f σ H=some r->g σ H=some r):∀(k:Nat) {σ:Slots} {H:Heap} {r:Ex×Slots×Heap},GP f k σ H=some r->GP g k σ H=some r
 | 0,σ,H,r,e=>e
 | k+1,σ,H,r,e=>by
  simp only[GP]at e |-
  cases hf:f σ H with
  | none=>rw[hf]at e;cases e
  | some x=>
   rw[hf]at e;rw[h _ _ _ hf];obtain⟨ex,σ',H'⟩:=x;cases ex;·exact QE h k e
   ·exact e
   ·exact e
theorem gB {c d:Am}(h:GG c d){j:Nat}:∀ {x:Cmd} {σ:Slots} {H:Heap} {r:Ex×Slots×Heap},Bg c j x σ H=some r->Bg d j x σ H=some r:=by
 intro x
 induction x with
 | skip=>intro σ H r e;exact e
 | region ops=>
  intro σ H r e;simp only[Bg]at e |-;split at e<;>try (cases e;done)
  rename_i hx;rw[Ek h hx];exact e
 | drawn ops un=>
  intro σ H r e;simp only[Bg]at e |-;split at e<;>try (cases e;done)
  rename_i hx;rw[NH h hx];exact e
 | seq a b iha ihb=>
  intro σ H r e;simp only[Bg]at e |-
  cases hx:Bg c j a σ H with
  | none=>rw[hx]at e;cases e
  | some y=>
   rw[hx]at e;rw[iha hx];obtain⟨ex,σ',H'⟩:=y;cases ex;·exact ihb e
   ·exact e
   ·exact e
 | cond v a b iha ihb=>
  intro σ H r e;simp only[Bg]at e |-;split at e<;>try (cases e;done)
  split at e;·rename_i ht;rw[if_pos ht];exact iha e
  ·rename_i ht;rw[if_neg ht];exact ihb e
 | block id b ih=>
  intro σ H r e;simp only[Bg]at e |-
  cases hx:Bg c j b σ H with
  | none=>rw[hx]at e;cases e
  | some y=> rw[hx]at e;rw[ih hx];exact e
 | loop is b ih=> intro σ H r e;simp only[Bg]at e |-;exact QE (λ_ _ _=>ih) j e
 | exit id=>intro σ H r e;exact e
 | ret=>intro σ H r e;exact e
 | hint fn keep drop rows data=>intro σ H r e;exact e
theorem WG {c d:Am}(h:GG c d){j:Nat}{fn:FnC}{as:List AV}{H:Heap}{r:AV×Heap}(e:HC c j fn as H=some r):HC d j fn as H=some r:=by
 unfold HC at e |-;split at e<;>try (cases e;done)
 rename_i hb;rw[if_neg hb]
 cases hx:Bg c j fn.body (NG fn.ps as++List.replicate (fn.ntmps-as.length) (.n .any)) H with
 | none=>rw[hx]at e;cases e
 | some y=> rw[hx]at e;rw[gB h hx];exact e
def Qi (F G:Nat->Option Fun):Prop:=∀f x,F f=some x->G f=some x
theorem Zn {F G:Nat->Option Fun}(h:Qi F G):∀k,GG (run F k) (run G k)
 | 0=>λf as H r e=>by cases e
 | k+1=>λf as H r e=>by
  simp only[run]at e |-;split at e<;>try (cases e;done)
  ·rename_i hf;rw[h _ _ hf];exact WG (Zn h k) e
  ·rename_i hf;rw[h _ _ hf];exact e
theorem Runs.up {F G:Nat->Option Fun}(h:Qi F G){f:Nat}{as:List AV}{H:Heap}{r:AV}{H':Heap}(e:Runs F f as H r H'):Runs G f as H r H':=by obtain⟨k0,hk⟩:=e;exact⟨k0,λk h'=>Zn h k _ _ _ _ (hk k h')⟩
theorem NJ {l:List (Nat×Fun)}:∀ {m:List (Nat×Fun)},(∀p∈m,DQ l p.1=none)->Qi (DQ l) (DQ (m++l))
 | [],_=>λf y e=>e
 | (n,x)::m,h=>λf y e=>by
  have ih:=NJ (l:=l) (m:=m) (λp hp=>h p (List.mem_cons_of_mem _ hp)) f y e;simp only[List.cons_append,DQ];by_cases hf:f=n;·subst hf;rw[h (f,x) (List.mem_cons_self ..)]at e;cases e
  ·rw[if_neg hf];exact ih
theorem I8 {l m:List (Nat×Fun)}(h:(m.all λp=>(DQ l p.1).isNone)=true):Qi (DQ l) (DQ (m++l)):=NJ λp hp=>by have:=List.all_eq_true.1 h p hp;simpa using this
end Go.Mir
