import Derived.Test.YtegndijbpiccgaaGreatDoorMirQ
import Derived.Laws.AppendOwn
namespace Go.Mir
set_option linter.unusedVariables false
set_option linter.unusedSimpArgs false
open Go.RowKit
inductive Loc where
 | box (b:Nat)
 | row (b n c:Nat)
 | nilrow
def Loc.block:Loc->Option Nat
 | .box b=>some b
 | .row b _ _=>some b
 | .nilrow=>none
def Loc.val:Loc->Value
 | .box b => .pointer (some ⟨b,0,none⟩)
 | .row b n c => .slice (some ⟨b,0,none⟩) n c
 | .nilrow => .slice none 0 0
def Loc.isRow:Loc->Bool
 | .box _=>false
 | _=>true
abbrev Places:=Nat->Nat->Option Loc
inductive DR (w:World) (ok:Nat->Prop):D->Value->Prop
 | int (k n):DR w ok (.int k n) (.int k n)
 | bool (b):DR w ok (.bool b) (.bool b)
 | str (s):DR w ok (.str s) (.string s)
 | nil:DR w ok .nil (.slice none 0 0)
 | sl0 (sz):DR w ok (.sl sz []) (.slice none 0 0)
 | sle (sz) (a:Addr) (c:Nat):DR w ok (.sl sz []) (.slice (some a) 0 c)
 | sl (sz els b off c) (vs:Nat->Nat->Value) (hb:ok b) (hs:b<w.heap.size) (hc:els.length<=c)
    (hsz:∀(i:Nat) (x:D),els[i]?=some x->x.cells.length=sz)
    (hv:∀(i:Nat) (x:D) (j:Nat) (y:D),els[i]?=some x->x.cells[j]?=some y->w.cell? ⟨b,off+(i*sz+j),none⟩=some (vs i j))
    (hd:∀(i:Nat) (x:D) (j:Nat) (y:D),els[i]?=some x->x.cells[j]?=some y->DR w ok y (vs i j)):DR w ok (.sl sz els) (.slice (some ⟨b,off,none⟩) els.length c)
theorem HI {w w':World}{b:Nat}(h:w'.heap[b]?=w.heap[b]?)(o:Nat):w'.cell? ⟨b,o,none⟩=w.cell? ⟨b,o,none⟩:=World.cell?_of_block (w:=w) h
theorem DR.mono {w w':World}{ok ok':Nat->Prop}(hs:w.heap.size<=w'.heap.size)(h:∀b,ok b->b<w.heap.size->ok' b/\w'.heap[b]?=w.heap[b]?){x:D}{v:Value}(hd:DR w ok x v):DR w' ok' x v:=by
 induction hd with
 | int k n=>exact .int k n
 | bool b=>exact .bool b
 | str s=>exact .str s
 | nil=>exact .nil
 | sl0 sz=>exact .sl0 sz
 | sle sz a c=>exact .sle sz a c
 | sl sz els b off c vs hb hlt hc hsz hv hd ih=> obtain⟨h1,h2⟩:=h b hb hlt;exact .sl sz els b off c vs h1 (Nat.lt_of_lt_of_le hlt hs) hc hsz (λi x j y a e=>(HI h2 _).trans (hv i x j y a e)) ih
theorem DR.one {w:World}{ok:Nat->Prop}{x:D}{v:Value}(h:DR w ok x v):v.oneCell'=true:=by cases h<;>rfl
structure Cx where
 N:Nat
 al:Nat->Prop
def Cx.okn (C:Cx)(ow:Nat->Prop)(b:Nat):Prop:=C.N<=b/\¬ow b
def Cx.okm (C:Cx)(ow:Nat->Prop)(b:Nat):Prop:=(C.al b\/C.N<=b)/\¬ow b
def Cx.ok (C:Cx)(ow:Nat->Prop)(nw:Bool):Nat->Prop:=if nw then C.okn ow else C.okm ow
theorem Cx.okn_okm {C:Cx}{ow:Nat->Prop}{b:Nat}(h:C.okn ow b):C.okm ow b:=⟨.inr h.1,h.2⟩
theorem Cx.ok_okm {C:Cx}{ow:Nat->Prop}{nw:Bool}{b:Nat}(h:C.ok ow nw b):C.okm ow b:=by
 cases nw with
 | true=>exact Cx.okn_okm h
 | false=>exact h
inductive VR (w:World) (C:Cx) (ow:Nat->Prop) (m:Places):AV->Value->Prop
 | any (v):VR w C ow m (.n .any) v
 | n (x v) (h:DR w (C.okn ow) x v):VR w C ow m (.n x) v
 | o (x v) (h:DR w (C.okm ow) x v):VR w C ow m (.o x) v
 | agg (cs:List AV) (vs:List Value) (hl:cs.length=vs.length) (h:∀(i:Nat) c v,cs[i]?=some c->vs[i]?=some v->VR w C ow m c v):VR w C ow m (.agg cs) (.agg vs.toArray)
 | tup (cs:List AV) (vs:List Value) (hl:cs.length=vs.length) (h:∀(i:Nat) c v,cs[i]?=some c->vs[i]?=some v->VR w C ow m c v):VR w C ow m (.tup cs) (.tuple vs.toArray)
 | ptr (id off b) (h:m id 0=some (.box b)):VR w C ow m (.ptr id off) (.pointer (some ⟨b,off,none⟩))
 | elt (id ver sz i off b n c) (h:m id ver=some (.row b n c)):VR w C ow m (.elt id ver sz i off) (.pointer (some ⟨b,i*sz+off,none⟩))
 | nilp:VR w C ow m .nilp (.pointer none)
 | row (id ver l) (h:m id ver=some l) (hr:l.isRow=true):VR w C ow m (.row id ver) l.val
 | dat (nw) (cs:List D) (b off) (vs:Nat->Value) (hb:C.ok ow nw b) (hs:b<w.heap.size)
    (hv:∀(j:Nat) (y:D),cs[j]?=some y->w.cell? ⟨b,off+j,none⟩=some (vs j))
    (hd:∀(j:Nat) (y:D),cs[j]?=some y->DR w (C.ok ow nw) y (vs j)):VR w C ow m (.dat nw cs) (.pointer (some ⟨b,off,none⟩))
 | undef:VR w C ow m .undef Go.undef
 | fn (f) (cap:List AV) (vs:List Value) (hl:cap.length=vs.length) (h:∀(i:Nat) c v,cap[i]?=some c->vs[i]?=some v->VR w C ow m c v):VR w C ow m (.fn f cap) (.func (.func f) #[] vs.toArray)
structure Step (C:Cx) (w:World) (ow:Nat->Prop) (m:Places) (w':World) (ow':Nat->Prop) (m':Places):Prop where
 size:w.heap.size<=w'.heap.size
 n:∀b,C.okn ow b->b<w.heap.size->C.okn ow' b/\w'.heap[b]?=w.heap[b]?
 o:∀b,C.okm ow b->b<w.heap.size->C.okm ow' b/\w'.heap[b]?=w.heap[b]?
 p:∀id ver l,m id ver=some l->m' id ver=some l
 q:∀id ver l b,m' id ver=some l->l.block=some b->b<w.heap.size->∃v' l',m id v'=some l'/\l'.block=some b
theorem Step.ok {C:Cx}{w w':World}{ow ow':Nat->Prop}{m m':Places}(S:Step C w ow m w' ow' m')(nw:Bool):∀b,C.ok ow nw b->b<w.heap.size->C.ok ow' nw b/\w'.heap[b]?=w.heap[b]?:=by
 cases nw with
 | true=>exact S.n
 | false=>exact S.o
theorem Step.refl (C:Cx)(w:World)(ow:Nat->Prop)(m:Places):Step C w ow m w ow m:=⟨Nat.le_refl _,λ_ h _=>⟨h,rfl⟩,λ_ h _=>⟨h,rfl⟩,λ_ _ _ h=>h,λ_ v l _ h hb _=>⟨v,l,h,hb⟩⟩
theorem VR.step {C:Cx}{w w':World}{ow ow':Nat->Prop}{m m':Places}(S:Step C w ow m w' ow' m'){x:AV}{v:Value}(h:VR w C ow m x v):VR w' C ow' m' x v:=by
 induction h with
 | any v=>exact .any v
 | n x v h=>exact .n x v (h.mono S.size S.n)
 | o x v h=>exact .o x v (h.mono S.size S.o)
 | agg cs vs hl h ih=>exact .agg cs vs hl ih
 | tup cs vs hl h ih=>exact .tup cs vs hl ih
 | ptr id off b h=>exact .ptr id off b (S.p _ _ _ h)
 | elt id ver sz i off b n c h=>exact .elt id ver sz i off b n c (S.p _ _ _ h)
 | nilp=>exact .nilp
 | row id ver l h hr=>exact .row id ver l (S.p _ _ _ h) hr
 | dat nw cs b off vs hb hs hv hd=> obtain⟨h1,h2⟩:=S.ok nw b hb hs;exact .dat nw cs b off vs h1 (Nat.lt_of_lt_of_le hs S.size) (λj y e=>(HI h2 _).trans (hv j y e)) (λj y e=>(hd j y e).mono S.size (S.ok nw))
 | fn f cap vs hl h ih=>exact .fn f cap vs hl ih
 | undef=>exact .undef
theorem VR.one {w:World}{C:Cx}{ow:Nat->Prop}{m:Places}{x:AV}{v:Value}(h:VR w C ow m x v)(hc:x.cellOK=true):v.oneCell'=true:=by
 cases h with
 | any v=>simp[AV.cellOK]at hc
 | n x v h=>exact h.one
 | o x v h=>exact h.one
 | agg cs vs hl h=>simp[AV.cellOK]at hc
 | tup cs vs hl h=>simp[AV.cellOK]at hc
 | row id ver l h hr=>cases l<;>rfl
 | undef=>simp[AV.cellOK]at hc
 | _=>rfl
section inv
variable {w:World} {C:Cx} {ow:Nat->Prop} {m:Places} {v:Value}
theorem VR.ptr_inv {id off:Nat}(h:VR w C ow m (.ptr id off) v):∃b,m id 0=some (.box b)/\v = .pointer (some ⟨b,off,none⟩):=by
 cases h with
 | ptr _ _ b h=>exact⟨b,h,rfl⟩
theorem VR.elt_inv {id ver sz i off:Nat}(h:VR w C ow m (.elt id ver sz i off) v):∃b n c,m id ver=some (.row b n c)/\v = .pointer (some ⟨b,i*sz+off,none⟩):=by
 cases h with
 | elt _ _ _ _ _ b n c h=>exact⟨b,n,c,h,rfl⟩
theorem VR.row_inv {id ver:Nat}(h:VR w C ow m (.row id ver) v):∃l,m id ver=some l/\l.isRow=true/\v=l.val:=by
 cases h with
 | row _ _ l h hr=>exact⟨l,h,hr,rfl⟩
theorem VR.dat_inv {nw:Bool}{cs:List D}(h:VR w C ow m (.dat nw cs) v):∃b off,∃vs:Nat->Value,C.ok ow nw b/\b<w.heap.size/\(∀(j:Nat) (y:D),cs[j]?=some y->w.cell? ⟨b,off+j,none⟩=some (vs j)) /\
   (∀(j:Nat) (y:D),cs[j]?=some y->DR w (C.ok ow nw) y (vs j))/\v = .pointer (some ⟨b,off,none⟩):=by
 cases h with
 | dat _ _ b off vs hb hs hv hd=>exact⟨b,off,vs,hb,hs,hv,hd,rfl⟩
theorem VR.agg_inv {cs:List AV}(h:VR w C ow m (.agg cs) v):∃vs:List Value,cs.length=vs.length/\(∀(i:Nat) c v,cs[i]?=some c->vs[i]?=some v->VR w C ow m c v)/\v = .agg vs.toArray:=by
 cases h with
 | agg _ vs hl h=>exact⟨vs,hl,h,rfl⟩
theorem VR.tup_inv {cs:List AV}(h:VR w C ow m (.tup cs) v):∃vs:List Value,cs.length=vs.length/\(∀(i:Nat) c v,cs[i]?=some c->vs[i]?=some v->VR w C ow m c v)/\v = .tuple vs.toArray:=by
 cases h with
 | tup _ vs hl h=>exact⟨vs,hl,h,rfl⟩
theorem VR.fn_inv {f:Nat}{cs:List AV}(h:VR w C ow m (.fn f cs) v):∃vs:List Value,cs.length=vs.length/\(∀(i:Nat) c v,cs[i]?=some c->vs[i]?=some v->VR w C ow m c v)/\v = .func (.func f) #[] vs.toArray:=by
 cases h with
 | fn _ _ vs hl h=>exact⟨vs,hl,h,rfl⟩
end inv
def ObR (w:World)(C:Cx)(ow:Nat->Prop)(m:Places)(id:Nat):Ob->Prop
 | .box cs=>∃b t c,m id 0=some (.box b)/\w.heap[b]?=some (.cells c t (0,0))/\c.size=cs.length/\∀(i:Nat) x v,cs[i]?=some x->c[i]?=some v->VR w C ow m x v
 | .row _ nw ver e sz els=>∃l xs,m id ver=some l/\l.isRow=true/\w.ownsRow 0 e sz l.val els.length xs/\(∀(i:Nat) (x:D),els[i]?=some x->x.cells.length=sz) /\
    (∀(i:Nat) (x:D) (j:Nat) (y:D) v,els[i]?=some x->x.cells[j]?=some y->xs[i*sz+j]?=some v->DR w (C.ok ow nw) y v)/\(nw=true->∀b,l.block=some b->C.N<=b)
def lies (m:Places)(id:Nat):Ob->Nat->Prop
 | .box _,b=>m id 0=some (.box b)
 | .row _ _ ver _ _ _,b=>∃l,m id ver=some l/\l.block=some b
def Ob.ver:Ob->Nat
 | .row _ _ v _ _ _=>v
 | .box _=>0
def Ob.frozen:Ob->Bool
 | .row fz _ _ _ _ _=>fz
 | .box _=>false
def HC (m:Places)(id:Nat)(o:Ob)(b:Nat):Prop:=o.frozen=false/\lies m id o b
def owned (H:Heap)(m:Places)(b:Nat):Prop:=∃id o,H.get id=some o/\HC m id o b
structure HR (w:World) (C:Cx) (own:Nat->Prop) (m:Places) (H:Heap):Prop where
 objs:∀id o,H.get id=some o->ObR w C (owned H m) m id o
 inj':∀i v l j v' l' b,m i v=some l->m j v'=some l'->l.block=some b->l'.block=some b->i=j
 base:∀b,owned H m b->own b\/C.N<=b
 dom:∀id ver l,m id ver=some l->(H.get id).isSome=true
 top:∀id o v,H.get id=some o->o.ver<v->m id v=none
 lt:∀id ver l b,m id ver=some l->l.block=some b->b<w.heap.size/\(C.al b\/C.N<=b)
theorem FM {m:Places}{i:Nat}{o:Ob}{b:Nat}(h:lies m i o b):∃v l,m i v=some l/\l.block=some b:=by
 cases o with
 | box cs=>exact⟨0,_,h,rfl⟩
 | row fz nw v e sz els=>obtain⟨l,h1,h2⟩:=h;exact⟨v,l,h1,h2⟩
theorem HR.inj {w:World}{C:Cx}{own:Nat->Prop}{m:Places}{H:Heap}(hr:HR w C own m H)(i j:Nat)(o p:Ob)(b:Nat)(_:H.get i=some o)(_:H.get j=some p)(l1:lies m i o b)(l2:lies m j p b):i=j:=by obtain⟨v,l,h1,h2⟩:=FM l1;obtain⟨v',l',h3,h4⟩:=FM l2;exact hr.inj' i v l j v' l' b h1 h3 h2 h4
structure Keep (N:Nat) (own:Nat->Prop) (w w':World):Prop where
 os:w'.os=w.os
 tape:w'.tape=w.tape
 output:w'.output=w.output
 size:w.heap.size<=w'.heap.size
 block:∀b,b<N->¬own b->w'.heap[b]?=w.heap[b]?
structure St (w0:World) (C:Cx) (own:Nat->Prop) (m0 m:Places) (σ:Slots) (H:Heap) (a:Act) (w:World):Prop where
 vals:∀t,VR w C (owned H m) m (σ.get t) (a.tmps.getD t undef)
 len:σ.length<=a.tmps.size
 dfr:a.defers=[]
 hr:HR w C own m H
 keep:Keep C.N own w0 w
 n:C.N=w0.heap.size
 sub:∀b,own b->C.al b
 sz:C.N<=w.heap.size
 p:∀id ver l,m0 id ver=some l->m id ver=some l
 fr:∀id ver l b,m id ver=some l->l.block=some b->b<C.N->∃v' l',m0 id v'=some l'/\l'.block=some b
end Go.Mir
