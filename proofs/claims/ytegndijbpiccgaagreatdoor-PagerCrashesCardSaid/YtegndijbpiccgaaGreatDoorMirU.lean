import Derived.Test.YtegndijbpiccgaaGreatDoorMirT
import Derived.Shelf.SlicesE.Delete
import Derived.Shelf.Spec.SlicesInsert
import Derived.Shelf.Spec.SlicesInsertGrow
import Derived.Shelf.Spec.SlicesGrow
namespace Go.Mir
set_option linter.unusedVariables false
set_option linter.unusedSimpArgs false
open Go.RowKit Go.Proofs Go.Shelf Go.Lib
section
variable {w w':World} {C:Cx} {own:Nat->Prop} {m:Places} {H:Heap}
theorem cN (hr:HR w C own m H)(hN:C.N<=w.heap.size){id v0 e:Nat}{nw0:Bool}{els0 els:List D}(hg0:H.get id=some (.row false nw0 v0 e 1 els0)){l:Loc}(hl0:m id v0=some l)(hlr:l.isRow=true)
  {v':Value} {xs':List Value} (hown':w'.ownsRow 0 e 1 v' els.length xs') (hg:w.grownBy w' l.val.ownBlock) (hat:v'.ownBlock=l.val.ownBlock\/∀k,v'.ownBlock=some k->w.heap.size<=k)
  (hsz:∀(i:Nat) (x:D),els[i]?=some x->x.cells.length=1)
  (hd:∀(i:Nat) (x:D) (j:Nat) (y:D) u,els[i]?=some x->x.cells[j]?=some y->xs'[i*1+j]?=some u->DR w (C.okm (owned H m)) y u):
  ∃m',Step C w (owned H m) m w' (owned (H.ins id (.row false false (v0+1) e 1 els)) m') m'/\HR w' C own m' (H.ins id (.row false false (v0+1) e 1 els))/\VR w' C (owned (H.ins id (.row false false (v0+1) e 1 els)) m') m' (.row id (v0+1)) v'/\Keep C.N own w w':=by
 obtain⟨l',hl1,rfl,hl3⟩:=JV hown'
 have hm0:m id (v0+1)=none:=hr.top id _ (v0+1) hg0 (by simp[Ob.ver])
 have hvb:∀b,l.val.ownBlock=some b->∃o0,H.get id=some o0/\lies m id o0 b:=λb hb=>⟨_,hg0,l,hl0,by rw[<-Loc.own_block hlr];exact hb⟩
 have hlb:∀b,l'.block=some b->b<w'.heap.size/\((∃o,H.get id=some o/\lies m id o b)\/w.heap.size<=b):=λb hb=>by
  rw[hl3]at hb;refine⟨(hown'.lt b hb).2,?_⟩;rcases hat with e1|e1;·rw[e1]at hb;exact .inl (hvb b hb)
  ·exact .inr (e1 b hb)
 have U:Upd w m H id (.row false false (v0+1) e 1 els) w' (m.set id (v0+1) l'):=by
  refine⟨λi v l h=>?_,λi v l h=>?_,hg.size,λk hk hnl=>hg.block k hk λe1=>?_,λo1 h1=>?_,λk hk=>?_,λv hv=>?_,hg.os,hg.tape,hg.output⟩
  ·simp only[Places.set];rw[if_neg];·exact h
   ·rintro⟨rfl,rfl⟩;rw[hm0]at h;cases h
  ·simp only[Places.set]at h;split at h;·rename_i hc;simp only[oI]at h;subst h;exact .inr ⟨hc.1,hlb⟩
   ·exact .inl h
  ·obtain⟨o0,h1,h2⟩:=hvb k e1.symm;exact hnl o0 h1 h2
  ·rw[hg0]at h1;simp only[oI]at h1;subst h1;rfl
  ·obtain⟨l1,h1,h2⟩:=hk;rw[Places.set_at]at h1;simp only[oI]at h1;subst h1;exact(hlb k h2).2
  ·simp only[Ob.ver]at hv;simp only[Places.set];rw[if_neg (by omega)];exact hr.top id _ v hg0 (by simp only[Ob.ver];omega)
 have S:=U.step hr
 refine⟨_,S,U.hr hr hN ?_,.row id _ _ (Places.set_at ..) hl1,U.keep hr hN⟩
 exact⟨l',xs',Places.set_at ..,hl1,hown',hsz,λi x j y u hx hy hu=>(hd i x j y u hx hy hu).mono S.size (S.ok false),λh=>by cases h⟩
theorem OZ {b n cap e:Nat}{cur:Array Value}{xs:List Value}(hb:w.heap[b]?=some (.cells cur e (0,0)))(ht:cur.toList.take n=xs):∀(j:Nat) u,xs[j]?=some u->w.cell? ⟨b,0+j,none⟩=some u:=λj u hu=>by
 rw[cell_of_row w b _ cur e (0,0) hb,Nat.zero_add];rw[<-ht,List.getElem?_take]at hu;split at hu;·simpa using hu
 ·cases hu
theorem Lg {b k cap e:Nat}{cur:Array Value}(hb:w.heap[b]?=some (.cells cur e (0,0)))(hk:k<cur.size):(w.cell? ⟨b,k,none⟩).isSome=true:=by rw[cell_of_row w b _ cur e (0,0) hb];simp[hk]
theorem GL {b k e:Nat}{cur:Array Value}(hb:w.heap[b]?=some (.cells cur e (0,0))):w.frozen? ⟨b,k,none⟩=false:=by simp[World.frozen?,hb]
theorem NV {b e:Nat}{cur:Array Value}(hb:w.heap[b]?=some (.cells cur e (0,0))):w.shape? b=some (e,cur.size):=by simp[World.shape?,hb]
theorem LG {b n cap e:Nat}{xs:List Value}(hl:xs.length=n)(hh:∃cur,w.heap[b]?=some (.cells cur e (0,0))/\cur.size=cap)(hn:n<=cap)(hm:cap<=maxLen)(hc:∀(j:Nat) u,xs[j]?=some u->w.cell? ⟨b,j,none⟩=some u):
   w.ownsRow 0 e 1 (.slice (some ⟨b,0,none⟩) n cap) n xs:=by
 obtain⟨cur,hb,hs⟩:=hh
 refine⟨by omega,.inr ⟨b,cap,cur,rfl,Nat.zero_le _,hb,hn,hm,by omega,?_⟩⟩
 apply List.ext_getElem?
 intro j
 by_cases hj:j<n
 ·have:=hc j xs[j] (gI (by omega))
  rw[cell_of_row w b _ cur e (0,0) hb]at this
  rw[List.getElem?_take_of_lt (by omega),gI (l:=xs) (by omega),<-this]
  simp
 ·rw[List.getElem?_eq_none (by rw[List.length_take];omega),List.getElem?_eq_none (by omega)]
theorem BL (b:Nat){t:TypeId}{fr:Nat×Nat}{s:Nat}:∀(vs:List Value) (o:Nat) (w:World),(∃cur,w.heap[b]?=some (.cells cur t fr)/\cur.size=s)->∃cur,(w.setCells b o vs).heap[b]?=some (.cells cur t fr)/\cur.size=s
 | [],o,w,h=>h
 | v::r,o,w,⟨cur,h,hs⟩=>by refine BL b r (o+1) _ ⟨cur.setIfInBounds o v,?_,by simpa using hs⟩;simp[World.setCell,Array.getElem?_modify,h]
theorem BV (b:Nat):∀(vs:List Value) (o:Nat) (w:World),w.grownBy (w.setCells b o vs) (some b)
 | [],o,w=>⟨rfl,rfl,rfl,Nat.le_refl _,λ_ _ _=>rfl⟩
 | v::r,o,w=>by
  have h:=BV b r (o+1) (w.setCell ⟨b,o,none⟩ v);refine⟨h.os,h.tape,h.output,?_,λk hk hne=>?_⟩;·have:=h.size;simpa[World.setCells,World.setCell] using this
  ·have hb:k≠b:=λe=>hne (by rw[e]);rw[World.setCells,h.block k (by simpa[World.setCell] using hk) hne,Below.heap_setCell _ _ _ _ hb]
theorem CE {a b c:World}{row:Option Nat}(h:a.grownBy b row)(k:b.grownBy c row):a.grownBy c row:=
 ⟨k.os.trans h.os,k.tape.trans h.tape,k.output.trans h.output,Nat.le_trans h.size k.size,λi hi hne=>(k.block i (Nat.lt_of_lt_of_le hi h.size) hne).trans (h.block i hi hne)⟩
theorem Vb {a b c:World}{row:Option Nat}(h:a.grownBy b none)(k:b.grownBy c (some a.heap.size)):a.grownBy c row:=
 ⟨k.os.trans h.os,k.tape.trans h.tape,k.output.trans h.output,Nat.le_trans h.size k.size,λi hi _=>(k.block i (Nat.lt_of_lt_of_le hi h.size) (λe=>by simp only[oI]at e;omega)).trans (h.block i hi (by simp))⟩
theorem Eu (w:World)(row:Option Nat):w.grownBy w.drew row:=⟨rfl,rfl,rfl,Nat.le_refl _,λ_ _ _=>rfl⟩
end
def Ha (p:Nat->List D->List AV->Heap->Option (List D))(e:Nat):List AV->Heap->Option (AV×Heap)
 | .row id v::r,H=>match H.get id with
   | some (.row false _ v' e' sz els)=>if v=v'/\e'=e/\sz=1 then match p id els r H with
      | some els'=>some (.row id (v+1),H.ins id (.row false false (v+1) e 1 els'))
      | none=>none
     else none
   | _=>none
 | _,_=>none
theorem QK {P:Program}{f e:Nat}{p:Nat->List D->List AV->Heap->Option (List D)}(hcall:Ez P f)
   (h:∀ {id:Nat} {els els':List D} {r:List AV} {H:Heap},p id els r H=some els'->∀(w:World) (al:Nat->Prop) (m:Places) (v:Nat) (nw:Bool) (l:Loc) (us xs:List Value),HR w ⟨w.heap.size,al⟩ (owned H m) m H->H.get id=some (.row false nw v e 1 els)->m id v=some l->l.isRow=true ->
     w.ownsRow 0 e 1 l.val els.length xs->(∀(i:Nat) (x:D),els[i]?=some x->x.cells.length=1) ->
     (∀(i:Nat) (x:D) (j:Nat) (y:D) u,els[i]?=some x->x.cells[j]?=some y->xs[i*1+j]?=some u->DR w ((⟨w.heap.size,al⟩:Cx).okm (owned H m)) y u) ->
     Cells w ⟨w.heap.size,al⟩ (owned H m) m r us ->
     Calls P f (l.val::us).toArray w λe' w'=>∃v' xs',e' = .returned v'/\w'.ownsRow 0 e 1 v' els'.length xs'/\w.grownBy w' l.val.ownBlock/\(v'.ownBlock=l.val.ownBlock\/∀k,v'.ownBlock=some k->w.heap.size<=k) /\
       (∀(i:Nat) (x:D),els'[i]?=some x->x.cells.length=1) /\
       (∀(i:Nat) (x:D) (j:Nat) (y:D) u,els'[i]?=some x->x.cells[j]?=some y->xs'[i*1+j]?=some u->DR w ((⟨w.heap.size,al⟩:Cx).okm (owned H m)) y u)) (id0:Nat):
   D2 P f (.prim (some (id0,e,1,false)) (Ha p e)):=by
 refine⟨hcall,λargs H r H' hp=>?_⟩
 unfold Ha at hp
 split at hp<;>try (cases hp;done)
 rename_i id v rest
 split at hp<;>try (cases hp;done)
 rename_i nw v' e' sz els hg
 split at hp<;>try (cases hp;done)
 rename_i hc
 obtain⟨rfl,rfl,rfl⟩:=hc
 split at hp<;>try (cases hp;done)
 rename_i els' hels
 simp only[oI,pI]at hp
 obtain⟨rfl,rfl⟩:=hp
 intro w al m vs hr hal hcs
 obtain⟨u,us,rfl,hu,hus⟩:∃u us,vs=u::us/\VR w ⟨w.heap.size,al⟩ (owned H m) m (.row id v) u/\Cells w ⟨w.heap.size,al⟩ (owned H m) m rest us:=by
  cases vs with
  | nil=>exact absurd hcs.1 (by simp)
  | cons u us=>exact⟨u,us,rfl,hcs.2 0 _ u rfl rfl,by simpa using hcs.1,λi c v hc hv=>hcs.2 (i+1) c v (by simpa using hc) (by simpa using hv)⟩
 obtain⟨l,hl,hlr,rfl⟩:=hu.row_inv
 obtain⟨l2,xs,hl2,_,hown,hsz,hd,_⟩:=hr.objs id _ hg
 rw[hl]at hl2
 simp only[oI]at hl2
 subst hl2
 have hd':∀(i:Nat) (x:D) (j:Nat) (y:D) u,els[i]?=some x->x.cells[j]?=some y->xs[i*1+j]?=some u->DR w ((⟨w.heap.size,al⟩:Cx).okm (owned H m)) y u:=λi x j y u hx hy hu=>(hd i x j y u hx hy hu).mono (Nat.le_refl _) (λb hb _=>⟨Cx.ok_okm hb,rfl⟩)
 refine(h hels w al m v nw l us xs hr hg hl hlr hown hsz hd' hus).mono λe1 w1 ⟨v',xs',he,ho,hgr,hat,hsz',hdr⟩=>?_
 obtain⟨m',h1,h2,h3,h4⟩:=cN (C:=⟨w.heap.size,al⟩) hr (Nat.le_refl _) hg hl hlr ho hgr hat hsz' hdr
 refine⟨v',m',he,⟨h1.p,h1.q⟩,h2,h3,h4,λi hi=>?_⟩
 rw[Heap.get_ins]
 split
 ·rfl
 ·exact hi
def MM (bytes:Nat)(id:Nat)(els:List D)(r:List AV)(H:Heap):Option (List D):=match r with
 | [.n (.int .i64 k),.row j u]=>match H.get j with
   | some (.row _ _ u' _ 1 [x])=>if id≠j/\u=u'/\0<=k/\k.toNat<=els.length/\(els.length+1)*bytes<=140737488355328 then some (els.take k.toNat++x::els.drop k.toNat) else none
   | _=>none
 | _=>none
structure InsLaw (P:Program) (f e bytes:Nat):Prop where
 shift:∀(b off n c i vb voff m vc:Nat) (cs vs:List Value) (w:World) (hi:i<n) (hm:0<m) (hroom:n+m<=c) (hc63:c<=9223372036854775807) (hvb:vb≠b)
  (hcl:cs.length=n) (hvl:vs.length=m)
  (hcs:∀j v,cs[j]?=some v->w.cell? ⟨b,off+j,none⟩=some v) (hsp:∀j,j<n+m->(w.cell? ⟨b,off+j,none⟩).isSome=true) (hfz:∀j,j<n+m->w.frozen? ⟨b,off+j,none⟩=false)
  (hvs:∀j v,vs[j]?=some v->w.cell? ⟨vb,voff+j,none⟩=some v) (h1c:∀v∈cs,v.oneCell'=true) (h1v:∀v∈vs,v.oneCell'=true)
  (tA tB:TypeId) (kA kB:Nat) (hsa:w.shape? vb=some (tA,kA)) (hsb:w.shape? b=some (tB,kB)) (hkB:kB≠0) (hfa:w.frozen? ⟨vb,voff,none⟩=false) (hfe:w.frozen? ⟨vb,kA,none⟩=false),
  Calls P f #[.slice (some ⟨b,off,none⟩) n c,.int .i64 i,.slice (some ⟨vb,voff,none⟩) m vc] w λe w'=>
    e = .returned (.slice (some ⟨b,off,none⟩) (n+m) c)/\w'=(w.drew.setCells b (off+(i+m)) (cs.drop i)).setCells b (off+i) vs
 end_room:∀(b off n c vb voff m vc:Nat) (vs:List Value) (w:World) (hm:0<m) (hroom:n+m<=c) (hc63:c<=9223372036854775807)
  (hvl:vs.length=m) (hsp:∀j,j<m->(w.cell? ⟨b,off+n+j,none⟩).isSome=true) (hfz:∀j,j<m->w.frozen? ⟨b,off+n+j,none⟩=false)
  (hvs:∀j v,vs[j]?=some v->w.cell? ⟨vb,voff+j,none⟩=some v) (h1v:∀v∈vs,v.oneCell'=true),
  Calls P f #[.slice (some ⟨b,off,none⟩) n c,.int .i64 n,.slice (some ⟨vb,voff,none⟩) m vc] w λe w'=>
    e = .returned (.slice (some ⟨b,off,none⟩) (n+m) c)/\w'=w.setCells b (off+n) vs
 end_grow:∀(base:Option Addr) (n c vb voff m vc:Nat) (cs vs:List Value) (w:World) (hm:0<m) (hnc:n<=c) (hroom:c<n+m) (hbig:(n+m)*bytes<=140737488355328)
  (hcl:cs.length=n) (hvl:vs.length=m) (hnil:base=none->n=0)
  (hcs:∀a,base=some a->∀j v,cs[j]?=some v->w.cell? (a.add j)=some v)
  (hvs:∀j v,vs[j]?=some v->w.cell? ⟨vb,voff+j,none⟩=some v) (h1v:∀v∈vs,v.oneCell'=true),
  Calls P f #[.slice base n c,.int .i64 n,.slice (some ⟨vb,voff,none⟩) m vc] w λe1 w'=>
    ∃z,z.size=1/\e1 = .returned (.slice (some ⟨w.heap.size,0,none⟩) (n+m) (grownCap w (n+m) c e)) /\
    w'=w.drew.alloc (.cells ((cs++vs).toArray++Builtin.zeroCells z (grownCap w (n+m) c e-(n+m))) e)
 grow:∀(b off n c i vb voff m vc:Nat) (cs vs:List Value) (w:World) (hi:i<n) (hm:0<m) (hnc:n<=c) (hroom:c<n+m) (hbig:(n+m)*bytes<=140737488355328)
  (hcl:cs.length=n) (hvl:vs.length=m)
  (hcs:∀j v,cs[j]?=some v->w.cell? ⟨b,off+j,none⟩=some v)
  (hvs:∀j v,vs[j]?=some v->w.cell? ⟨vb,voff+j,none⟩=some v) (h1c:∀v∈cs,v.oneCell'=true) (h1v:∀v∈vs,v.oneCell'=true),
  Calls P f #[.slice (some ⟨b,off,none⟩) n c,.int .i64 i,.slice (some ⟨vb,voff,none⟩) m vc] w λe1 w'=>
    ∃z,z.size=1/\e1 = .returned (.slice (some ⟨w.heap.size,0,none⟩) (n+m) (grownCap w (n+m) c e)) /\
    w'=(((w.alloc (.cells ((cs.take i).toArray++Builtin.zeroCells z (n+m-i)++Builtin.zeroCells z (grownCap w (n+m) c e-(n+m))) e)).drew.setCells w.heap.size i vs).drew).setCells w.heap.size (i+m) (cs.drop i)
theorem Kx {xs:List Value}{v:Value}{i j:Nat}{u:Value}(hi:i<=xs.length)(h:(xs.take i++v::xs.drop i)[j]?=some u):(j<i/\xs[j]?=some u)\/(j=i/\u=v)\/(i<j/\(xs.drop i)[j-(i+1)]?=some u):=by
 rw[List.getElem?_append]at h;have hl:(xs.take i).length=i:=by rw[List.length_take];omega
 rw[hl]at h;split at h;·rename_i hj;rw[List.getElem?_take_of_lt hj]at h;exact .inl ⟨hj,h⟩
 ·rename_i hj
  cases hk:j-i with
  | zero=> rw[hk]at h;simp only[List.getElem?_cons_zero,oI]at h;exact .inr (.inl ⟨by omega,h.symm⟩)
  | succ k=> rw[hk,List.getElem?_cons_succ]at h;exact .inr (.inr ⟨by omega,by rw[show j-(i+1)=k by omega];exact h⟩)
theorem Y0 {w:World}{ok:Nat->Prop}{els:List D}{xs:List Value}{x:D}{v:Value}{k:Nat}(hl:xs.length=els.length)(hk:k<=els.length)(hsz:∀(i:Nat) (x:D),els[i]?=some x->x.cells.length=1)
   (hd:∀(i:Nat) (x:D) (j:Nat) (y:D) u,els[i]?=some x->x.cells[j]?=some y->xs[i*1+j]?=some u->DR w ok y u) (hx:x.cells.length=1) (hxd:∀y,x.cells[0]?=some y->DR w ok y v):
   (∀(i:Nat) (z:D),(els.take k++x::els.drop k)[i]?=some z->z.cells.length=1) /\
   ∀(i:Nat) (z:D) (j:Nat) (y:D) u,(els.take k++x::els.drop k)[i]?=some z->z.cells[j]?=some y->(xs.take k++v::xs.drop k)[i*1+j]?=some u->DR w ok y u:=by
 have hlk:(els.take k).length=k:=by rw[List.length_take];omega
 have hsz':∀(i:Nat) (z:D),(els.take k++x::els.drop k)[i]?=some z->z.cells.length=1:=λi z hz=>by
  rw[List.getElem?_append]at hz;split at hz;·rename_i hi;rw[List.getElem?_take_of_lt (by omega)]at hz;exact hsz i z hz
  ·cases hq:i-(els.take k).length with
   | zero=>rw[hq]at hz;simp only[List.getElem?_cons_zero,oI]at hz;rw[<-hz];exact hx
   | succ q=>rw[hq,List.getElem?_cons_succ,List.getElem?_drop]at hz;exact hsz _ z hz
 refine⟨hsz',λi z j y u hz hy hu=>?_⟩
 have hj:j=0:=by have:=(List.getElem?_eq_some_iff.1 hy).1;rw[hsz' i z hz]at this;omega
 subst hj
 rw[Nat.mul_one,Nat.add_zero]at hu
 rcases Kx (by omega) hu with⟨h1,h2⟩|⟨rfl,rfl⟩|⟨h1,h2⟩
 ·rw[List.getElem?_append_left (by omega),List.getElem?_take_of_lt h1]at hz
  exact hd i z 0 y u hz hy (by simpa using h2)
 ·rw[List.getElem?_append_right (by omega),hlk,Nat.sub_self]at hz
  simp only[List.getElem?_cons_zero,oI]at hz
  subst hz
  exact hxd y hy
 ·rw[List.getElem?_append_right (by omega),hlk,show i-k=(i-(k+1))+1 by omega,List.getElem?_cons_succ,List.getElem?_drop]at hz
  rw[List.getElem?_drop]at h2
  exact hd _ z 0 y u hz hy (by simpa using h2)
set_option maxHeartbeats 1000000 in
theorem YP {P:Program}{f e bytes:Nat}(hcall:Ez P f)(hby:0<bytes)(L:InsLaw P f e bytes)(id0:Nat):D2 P f (.prim (some (id0,e,1,false)) (Ha (MM bytes) e)):=by
 refine QK hcall (λ{id els els' r H} hp w al m v nw l us xs hr hg hl hlr hown hsz hd hus=>?_) id0
 unfold MM at hp
 split at hp<;>try (cases hp;done)
 rename_i k j u
 split at hp<;>try (cases hp;done)
 rename_i fz nwj u' ej x hgj
 split at hp<;>try (cases hp;done)
 rename_i hok
 obtain⟨hij,rfl,hk0,hkn,hbig⟩:=hok
 simp only[oI]at hp
 subst hp
 generalize hK:k.toNat=K at hkn |-
 obtain rfl:k=(K:Nat):=by omega
 clear hK hk0
 -- the arguments
 obtain⟨a1,a2,rfl,h1,h2⟩:=DA hus
 obtain rfl:=h1.int_inv
 obtain⟨l2,hl2,hlr2,rfl⟩:=h2.row_inv
 obtain⟨l3,ys,hl3,_,hownj,hszj,hdj,_⟩:=hr.objs j _ hgj
 rw[hl2]at hl3
 simp only[oI]at hl3
 subst hl3
 have hxc:x.cells.length=1:=hszj 0 x rfl
 -- where the new one lies
 have hxs:xs.length=els.length:=by have:=hown.1;omega
 obtain⟨vb,vc,curj,hvj,hbj,hcapj,hcszj,htj⟩:∃vb vc curj,l2.val = .slice (some ⟨vb,0,none⟩) 1 vc/\w.heap[vb]?=some (.cells curj ej (0,0))/\1<=vc/\curj.size=vc/\curj.toList.take 1=ys:=by
   rcases hownj.2 with⟨_,h0⟩|⟨g,cap,cur,q1,q2,q3,q4,q5,q6,q7⟩
   · simp at h0
   · exact⟨g,cap,cur,q1,q3,q4,by omega,q7⟩
 have hyl:ys.length=1:=by have:=hownj.1;simpa using this
 obtain⟨y0,rfl⟩:∃y0,ys=[y0]:=by
   match ys,hyl with
   | [y0],_=>exact⟨y0,rfl⟩
 have hdy:∀y,x.cells[0]?=some y->DR w ((⟨w.heap.size,al⟩:Cx).okm (owned H m)) y y0:=λy hy=>(hdj 0 x 0 y y0 rfl hy rfl).mono (Nat.le_refl _) (λb hb _=>⟨Cx.ok_okm hb,rfl⟩)
 have hone:∀v∈xs,v.oneCell'=true:=λv hv=>by
   obtain⟨i,hi,rfl⟩:=List.getElem_of_mem hv
   have h3:=hsz i els[i] (gI (by omega))
   exact(hd i _ 0 (els[i].cells[0]) _ (gI (by omega)) (gI (by omega)) (by rw[Nat.mul_one,Nat.add_zero];exact gI hi)).one
 have hone1:∀v∈[y0],v.oneCell'=true:=λv hv=>by
   obtain rfl:=List.mem_singleton.1 hv
   exact(hdy (x.cells[0]) (gI (by omega))).one
 have hvs:∀(q:Nat) v,[y0][q]?=some v->w.cell? ⟨vb,0+q,none⟩=some v:=OZ (n:=1) (cap:=0) hbj htj
 have hdata:=Y0 (k:=K) hxs hkn hsz hd hxc hdy
 have hlen:(els.take K++x::els.drop K).length=els.length+1:=by simp;omega
 have hlenx:(xs.take K++y0::xs.drop K).length=els.length+1:=by simp;omega
 have h63:els.length+1<=maxLen:=by
   have:els.length+1<=(els.length+1)*bytes:=Nat.le_mul_of_pos_right _ hby
   simp only[maxLen];omega
 rw[hvj]
 -- the new row, wherever it was made
 have grownCase:∀(old:Nat),old<els.length+1->∀(w1:World),(∃cur,w1.heap[w.heap.size]?=some (.cells cur e (0,0))/\cur.size=grownCap w (els.length+1) old e)->(∀(j:Nat) u,(xs.take K++y0::xs.drop K)[j]?=some u->w1.cell? ⟨w.heap.size,j,none⟩=some u)->w.grownBy w1 l.val.ownBlock ->
     ∃v' xs',Ending.returned (Value.slice (some ⟨w.heap.size,0,none⟩) (els.length+1) (grownCap w (els.length+1) old e)) = .returned v'/\w1.ownsRow 0 e 1 v' (els.take K++x::els.drop K).length xs'/\w.grownBy w1 l.val.ownBlock/\(v'.ownBlock=l.val.ownBlock\/∀k,v'.ownBlock=some k->w.heap.size<=k) /\
       (∀(i:Nat) (z:D),(els.take K++x::els.drop K)[i]?=some z->z.cells.length=1) /\
       (∀(i:Nat) (z:D) (j:Nat) (y:D) u,(els.take K++x::els.drop K)[i]?=some z->z.cells[j]?=some y->xs'[i*1+j]?=some u->DR w ((⟨w.heap.size,al⟩:Cx).okm (owned H m)) y u):=by
   intro old ho w1 hc1 hc2 hgr
   refine⟨_,xs.take K++y0::xs.drop K,rfl,?_,hgr,.inr λk hk=>by simp[Value.ownBlock]at hk;omega,hdata.1,hdata.2⟩
   rw[hlen]
   exact LG hlenx hc1 (grownCap_ge w _ _ _) (grownCap_le_maxLen w _ _ _ h63) hc2
 rcases hown.2 with⟨hnil,hn0⟩|⟨b,cap,cur,hval,_,hb,hncap,hcm,hcs,ht⟩
 · -- no row yet
   rw[hnil]
   have hx0:xs=[]:=List.length_eq_zero_iff.1 (by omega)
   subst hx0
   obtain rfl:K=0:=by omega
   have:=L.end_grow none 0 0 vb 0 1 vc [] [y0] w (by omega) (by omega) (by omega) (by rw[hn0]at hbig;exact hbig) rfl rfl (λ_=>rfl) (λa h=>by cases h) hvs hone1
   refine Calls.mono this λe1 w1 ⟨z,hz,he,hw⟩=>?_
   subst he hw
   rw[hn0]at grownCase
   rw[hnil]at grownCase
   have hge:=grownCap_ge w (0+1) 0 e
   refine grownCase 0 (by omega) _ ⟨_,heap_alloc_new w.drew _,?_⟩ (λj u hu=>?_) (CE (Eu w _) (World.grownBy_alloc _ _ _))
   · rw[Array.size_append,size_zeroCells,hz];show 1+(grownCap w (0+1) 0 e-(0+1))*1=_;omega
   · rw[cell_of_row _ w.heap.size _ _ _ _ (heap_alloc_new w.drew _)]
     have hj:j<1:=by have:=(List.getElem?_eq_some_iff.1 hu).1;simpa using this
     obtain rfl:j=0:=by omega
     rw[Array.getElem?_append_left (by simp)]
     simpa using hu
 · rw[hval]
   have hcur:cur.size=cap:=by omega
   rw[Nat.mul_one]at ht
   have hget:∀(q:Nat) v,xs[q]?=some v->w.cell? ⟨b,0+q,none⟩=some v:=OZ (n:=els.length) (cap:=0) hb ht
   have hne:vb≠b:=by
     rintro rfl
     have hlb:l.block=some vb:=by rw[<-Loc.own_block hlr,hval];rfl
     have hlb2:l2.block=some vb:=by rw[<-Loc.own_block hlr2,hvj];rfl
     exact hij (hr.inj' _ _ _ _ _ _ _ hl hl2 hlb hlb2)
   by_cases hroom:els.length+1<=cap
   · -- in place
     have fin:∀w1:World,(∃cur,w1.heap[b]?=some (.cells cur e (0,0))/\cur.size=cap)->(∀(j:Nat) u,(xs.take K++y0::xs.drop K)[j]?=some u->w1.cell? ⟨b,j,none⟩=some u)->w.grownBy w1 (some b) ->
         ∃v' xs',Ending.returned (Value.slice (some ⟨b,0,none⟩) (els.length+1) cap) = .returned v'/\w1.ownsRow 0 e 1 v' (els.take K++x::els.drop K).length xs'/\w.grownBy w1 (Value.slice (some ⟨b,0,none⟩) els.length cap).ownBlock/\(v'.ownBlock=(Value.slice (some ⟨b,0,none⟩) els.length cap).ownBlock\/∀k,v'.ownBlock=some k->w.heap.size<=k) /\
           (∀(i:Nat) (z:D),(els.take K++x::els.drop K)[i]?=some z->z.cells.length=1) /\
           (∀(i:Nat) (z:D) (j:Nat) (y:D) u,(els.take K++x::els.drop K)[i]?=some z->z.cells[j]?=some y->xs'[i*1+j]?=some u->DR w ((⟨w.heap.size,al⟩:Cx).okm (owned H m)) y u):=by
       intro w1 hc1 hc2 hgr
       refine⟨_,xs.take K++y0::xs.drop K,rfl,?_,hgr,.inl rfl,hdata.1,hdata.2⟩
       rw[hlen]
       exact LG hlenx hc1 (by omega) hcm hc2
     have hall:∀q,q<els.length+1->(w.cell? ⟨b,q,none⟩).isSome=true:=λq hq=>Lg (cap:=0) hb (by omega)
     by_cases hend:K<els.length
     · have:=L.shift b 0 els.length cap K vb 0 1 vc xs [y0] w hend (by omega) hroom (by unfold maxLen at hcm;omega) hne hxs rfl hget (λq hq=>by rw[Nat.zero_add];exact hall q hq) (λq _=>GL hb) hvs hone hone1 ej e _ _ (NV hbj) (NV hb) (by omega) (GL hbj) (GL hbj)
       refine Calls.mono this λe1 w1 ⟨he,hw⟩=>?_
       subst he
       have hrow0:∃cur,w.drew.heap[b]?=some (.cells cur e (0,0))/\cur.size=cap:=⟨cur,hb,hcur⟩
       have hs1:∀q,q<els.length+1->(w.drew.cell? ⟨b,q,none⟩).isSome=true:=hall
       have hs2:∀q,q<els.length+1->((w.drew.setCells b (0+(K+1)) (xs.drop K)).cell? ⟨b,q,none⟩).isSome=true:=λq hq=>by
         obtain⟨c1,g1,g2⟩:=BL b (xs.drop K) (0+(K+1)) _ hrow0
         exact Lg (cap:=0) g1 (by omega)
       refine fin w1 ?_ (λq u hu=>?_) ?_
       · rw[hw];exact BL b _ _ _ (BL b _ _ _ hrow0)
       · rw[hw]
         rcases Kx (by omega) hu with⟨g1,g2⟩|⟨rfl,rfl⟩|⟨g1,g2⟩
         · rw[World.cell?_setCells_out b _ _ _ _ (λ_ _ => .inl (by simp;omega)),World.cell?_setCells_out b _ _ _ _ (λ_ _ => .inl (by simp;omega))]
           have:=hget q u g2
           rw[Nat.zero_add]at this
           exact this
         · have:=World.cell?_setCells_in b [u] (0+q) (w.drew.setCells b (0+(q+1)) (xs.drop q)) (λj hj=>by
             have:j=0:=by simpa using hj
             subst this
             exact hs2 _ (by omega)) 0 (by simp)
           simpa using this
         · rw[World.cell?_setCells_out b _ _ _ _ (λ_ _ => .inr (by simp;omega))]
           have hq:q-(K+1)<(xs.drop K).length:=(List.getElem?_eq_some_iff.1 g2).1
           have hql:(xs.drop K).length=els.length-K:=by rw[List.length_drop,hxs]
           have:=World.cell?_setCells_in b (xs.drop K) (0+(K+1)) w.drew (λj hj=>hs1 _ (by omega)) (q-(K+1)) hq
           rw[gI hq]at g2
           simp only[oI]at g2
           rw[g2,show 0+(K+1)+(q-(K+1))=q by omega]at this
           exact this
       · rw[hw];exact CE (Eu w _) (CE (BV b _ _ _) (BV b _ _ _))
     · obtain rfl:K=els.length:=by omega
       have:=L.end_room b 0 els.length cap vb 0 1 vc [y0] w (by omega) hroom (by unfold maxLen at hcm;omega) rfl (λq hq=>by rw[Nat.zero_add];exact hall _ (by omega)) (λq _=>GL hb) hvs hone1
       refine Calls.mono this λe1 w1 ⟨he,hw⟩=>?_
       subst he
       refine fin w1 ?_ (λq u hu=>?_) ?_
       · rw[hw];exact BL b _ _ _ ⟨cur,hb,hcur⟩
       · rw[hw]
         rcases Kx (by omega) hu with⟨g1,g2⟩|⟨rfl,rfl⟩|⟨g1,g2⟩
         · rw[World.cell?_setCells_out b _ _ _ _ (λ_ _ => .inl (by simp;omega))]
           have:=hget q u g2
           rw[Nat.zero_add]at this
           exact this
         · have:=World.cell?_setCells_in b [u] (0+els.length) w (λj hj=>by
             have:j=0:=by simpa using hj
             subst this
             exact hall _ (by omega)) 0 (by simp)
           simpa using this
         · rw[List.drop_eq_nil_of_le (by omega)]at g2;simp at g2
       · rw[hw];exact BV b _ _ _
   · -- a new one
     rw[hval]at grownCase
     by_cases hend:K<els.length
     · have:=L.grow b 0 els.length cap K vb 0 1 vc xs [y0] w hend (by omega) hncap (by omega) hbig hxs rfl hget hvs hone hone1
       refine Calls.mono this λe1 w1 ⟨z,hz,he,hw⟩=>?_
       subst he
       have hge:=grownCap_ge w (els.length+1) cap e
       have hgsz:((xs.take K).toArray++Builtin.zeroCells z (els.length+1-K)++Builtin.zeroCells z (grownCap w (els.length+1) cap e-(els.length+1))).size=grownCap w (els.length+1) cap e:=by
         simp only[Array.size_append,size_zeroCells,hz,List.size_toArray,List.length_take];omega
       generalize hA:(xs.take K).toArray++Builtin.zeroCells z (els.length+1-K)++Builtin.zeroCells z (grownCap w (els.length+1) cap e-(els.length+1))=A at hw hgsz
       have hAt:∀(q:Nat) u,q<K->xs[q]?=some u->A[q]?=some u:=λq u hq hu=>by
         rw[<-hA,Array.append_assoc,Array.getElem?_append_left (by simp;omega)]
         simp[List.getElem?_take_of_lt hq,hu]
       have hnew:=heap_alloc_new w (.cells A e (0,0))
       have hrow0:∃cur,(w.alloc (.cells A e (0,0))).drew.heap[w.heap.size]?=some (.cells cur e (0,0))/\cur.size=grownCap w (els.length+1) cap e:=⟨A,hnew,hgsz⟩
       have hall:∀W:World,(∃cur,W.heap[w.heap.size]?=some (.cells cur e (0,0))/\cur.size=grownCap w (els.length+1) cap e)->∀q,q<els.length+1->(W.cell? ⟨w.heap.size,q,none⟩).isSome=true:=λW ⟨c1,g1,g2⟩ q hq=>Lg (cap:=0) g1 (by omega)
       refine grownCase cap (by omega) w1 ?_ (λq u hu=>?_) ?_
       · rw[hw];exact BL _ _ _ _ (BL _ [y0] K _ hrow0)
       · rw[hw]
         have hrow1:∃cur,((w.alloc (.cells A e (0,0))).drew.setCells w.heap.size K [y0]).drew.heap[w.heap.size]?=some (.cells cur e (0,0))/\cur.size=grownCap w (els.length+1) cap e:=BL _ _ _ _ hrow0
         rcases Kx (by omega) hu with⟨g1,g2⟩|⟨rfl,rfl⟩|⟨g1,g2⟩
         · rw[World.cell?_setCells_out _ _ _ _ _ (λ_ _ => .inl (by simp;omega))]
           show((w.alloc (.cells A e (0,0))).drew.setCells w.heap.size K [y0]).cell? _=_
           rw[World.cell?_setCells_out _ _ _ _ _ (λ_ _ => .inl (by simp;omega))]
           show(w.alloc (.cells A e (0,0))).cell? _=_
           rw[cell_of_row _ _ _ _ _ _ hnew]
           exact hAt q u g1 g2
         · rw[World.cell?_setCells_out _ _ _ _ _ (λ_ _ => .inl (by simp))]
           have:=World.cell?_setCells_in w.heap.size [u] q (w.alloc (.cells A e (0,0))).drew (λj hj=>by
             have:j=0:=by simpa using hj
             subst this
             exact hall _ hrow0 _ (by omega)) 0 (by simp)
           simpa using this
         · have hq:q-(K+1)<(xs.drop K).length:=(List.getElem?_eq_some_iff.1 g2).1
           have hql:(xs.drop K).length=els.length-K:=by rw[List.length_drop,hxs]
           have:=World.cell?_setCells_in w.heap.size (xs.drop K) (K+1) _ (λj hj=>hall _ hrow1 _ (by omega)) (q-(K+1)) hq
           rw[gI hq]at g2
           simp only[oI]at g2
           rw[g2,show K+1+(q-(K+1))=q by omega]at this
           exact this
       · rw[hw]
         refine Vb (World.grownBy_alloc w (.cells A e (0,0)) none) ?_
         exact CE (Eu _ _) (CE (BV _ _ _ _) (CE (Eu _ _) (BV _ _ _ _)))
     · obtain rfl:K=els.length:=by omega
       have:=L.end_grow (some ⟨b,0,none⟩) els.length cap vb 0 1 vc xs [y0] w (by omega) hncap (by omega) hbig hxs rfl (λh=>by cases h) (λa ha j v hj=>by
         simp only[oI]at ha
         subst ha
         rw[CB]
         exact hget j v hj) hvs hone1
       refine Calls.mono this λe1 w1 ⟨z,hz,he,hw⟩=>?_
       subst he hw
       have hge:=grownCap_ge w (els.length+1) cap e
       refine grownCase cap (by omega) _ ⟨_,heap_alloc_new w.drew _,?_⟩ (λj u hu=>?_) (CE (Eu w _) (World.grownBy_alloc _ _ _))
       · simp only[Array.size_append,size_zeroCells,hz,List.size_toArray,List.length_append,List.length_singleton];omega
       · rw[cell_of_row _ w.heap.size _ _ _ _ (heap_alloc_new w.drew _)]
         rw[List.take_of_length_le (by omega),List.drop_eq_nil_of_le (by omega)]at hu
         have hj:j<(xs++[y0]).length:=(List.getElem?_eq_some_iff.1 hu).1
         rw[Array.getElem?_append_left (by simpa using hj)]
         simpa using hu
theorem Sn {P:Program}{ρ:Ren}(L:Lays2.n22 P ρ):InsLaw P (ρ.f 22) (ρ.t 9) 16 where
 shift:=λb off n c i vb voff m vc cs vs w hi hm hroom hc63 hvb hcl hvl hcs hsp hfz hvs h1c h1v tA tB kA kB hsa hsb hkB hfa hfe=>Any2.slices_Insert_string_shift L b off n c i vb voff m vc cs vs w hi hm hroom hc63 hvb hcl hvl hcs hsp hfz hvs h1c h1v tA tB kA kB hsa hsb hkB hfa hfe
 end_room:=λb off n c vb voff m vc vs w hm hroom hc63 hvl hsp hfz hvs h1v=>Any2.slices_Insert_string_end_room L b off n c vb voff m vc vs w hm hroom hc63 hvl hsp hfz hvs h1v
 end_grow:=λbase n c vb voff m vc cs vs w hm hnc hroom hbig hcl hvl hnil hcs hvs h1v=>(Any2.slices_Insert_string_end_grow L base n c vb voff m vc cs vs w hm hnc hroom hbig hcl hvl hnil hcs hvs h1v).mono λe w' h=>⟨_,rfl,h.1,h.2⟩
 grow:=λb off n c i vb voff m vc cs vs w hi hm hnc hroom hbig hcl hvl hcs hvs h1c h1v=>(Any2.slices_Insert_string_grow L b off n c i vb voff m vc cs vs w hi hm hnc hroom hbig hcl hvl hcs hvs h1c h1v).mono λe w' h=>⟨_,rfl,h.1,h.2⟩
theorem SK {P:Program}{ρ:Ren}(L:Lays2.n21 P ρ):InsLaw P (ρ.f 21) (ρ.t 3) 8 where
 shift:=λb off n c i vb voff m vc cs vs w hi hm hroom hc63 hvb hcl hvl hcs hsp hfz hvs h1c h1v tA tB kA kB hsa hsb hkB hfa hfe=>Any2.slices_Insert_int_shift L b off n c i vb voff m vc cs vs w hi hm hroom hc63 hvb hcl hvl hcs hsp hfz hvs h1c h1v tA tB kA kB hsa hsb hkB hfa hfe
 end_room:=λb off n c vb voff m vc vs w hm hroom hc63 hvl hsp hfz hvs h1v=>Any2.slices_Insert_int_end_room L b off n c vb voff m vc vs w hm hroom hc63 hvl hsp hfz hvs h1v
 end_grow:=λbase n c vb voff m vc cs vs w hm hnc hroom hbig hcl hvl hnil hcs hvs h1v=>(Any2.slices_Insert_int_end_grow L base n c vb voff m vc cs vs w hm hnc hroom hbig hcl hvl hnil hcs hvs h1v).mono λe w' h=>⟨_,rfl,h.1,h.2⟩
 grow:=λb off n c i vb voff m vc cs vs w hi hm hnc hroom hbig hcl hvl hcs hvs h1c h1v=>(Any2.slices_Insert_int_grow L b off n c i vb voff m vc cs vs w hi hm hnc hroom hbig hcl hvl hcs hvs h1c h1v).mono λe w' h=>⟨_,rfl,h.1,h.2⟩
theorem cI {P:Program}{ρ:Ren}(L:Lays2.n22 P ρ){e:Nat}(he:ρ.t 9=e)(id0:Nat):D2 P (ρ.f 22) (.prim (some (id0,e,1,false)) (Ha (MM 16) e)):=by subst he;exact YP (enters_of L.f22 (by kernel_rfl) rfl) (by decide) (Sn L) id0
theorem cY {P:Program}{ρ:Ren}(L:Lays2.n21 P ρ){e:Nat}(he:ρ.t 3=e)(id0:Nat):D2 P (ρ.f 21) (.prim (some (id0,e,1,false)) (Ha (MM 8) e)):=by subst he;exact YP (enters_of L.f21 (by kernel_rfl) rfl) (by decide) (SK L) id0
def OD (_:Nat)(els:List D)(r:List AV)(_:Heap):Option (List D):=match r with
 | [.n (.int .i64 a),.n (.int .i64 b)]=>if 0<=a/\a<=b/\b.toNat<=els.length/\els≠[] then some (els.take a.toNat++els.drop b.toNat) else none
 | _=>none
abbrev V1 := { v:Value // v.oneCell'=true }
instance:Inhabited V1:=⟨⟨.int .i64 0,rfl⟩⟩
theorem Oi {α:Type}{l:List α}{a b i:Nat}(ha:a<=b)(hb:b<=l.length){x:α}(h:(l.take a++l.drop b)[i]?=some x):∃k,l[k]?=some x/\((i<a/\k=i)\/(a<=i/\k=b+(i-a))):=by
 have hl:(l.take a).length=a:=by rw[List.length_take];omega
 rw[List.getElem?_append,hl]at h;split at h;·rename_i hi;rw[List.getElem?_take_of_lt hi]at h;exact⟨i,h,.inl ⟨hi,rfl⟩⟩
 ·rename_i hi;rw[List.getElem?_drop]at h;exact⟨_,h,.inr ⟨by omega,rfl⟩⟩
set_option maxHeartbeats 1000000 in
theorem lX {P:Program}{ρ:Ren}(L:SlLaysE.n45 P ρ){e:Nat}(he:ρ.t 23=e){i0:TypeInfo}{z:Value}(hi:P.info? e=some i0)(hz0:i0.zero=some z)(hz1:i0.size=1)(hz2:z.oneCell'=true)(id0:Nat):D2 P (ρ.f 45) (.prim (some (id0,e,1,false)) (Ha OD e)):=by
 subst he;refine QK (by obtain⟨_,hn,FG⟩:=L.f45;exact enters_of FG (by first|exact hn|(simp;done)|rfl) rfl) (λ{id els els' r H} hp w al m v nw l us xs hr hg hl hlr hown hsz hd hus=>?_) id0;unfold OD at hp;split at hp<;>try (cases hp;done)
 rename_i a b;split at hp<;>try (cases hp;done)
 rename_i hok;obtain⟨h0,hab,hb,hne⟩:=hok;simp only[oI]at hp;subst hp;generalize hA:a.toNat=A;generalize hB:b.toNat=B at hb;obtain rfl:a=(A:Nat):=by omega
 obtain rfl:b=(B:Nat):=by omega
 have hAB:A<=B:=by omega
 clear hA hB h0 hab;obtain⟨a1,a2,rfl,h1,h2⟩:=DA hus;obtain rfl:=h1.int_inv;obtain rfl:=h2.int_inv;have hn0:els.length≠0:=λh=>hne (List.length_eq_zero_iff.1 h);have hxs:xs.length=els.length:=by have:=hown.1;omega
 rcases hown.2 with⟨_,h0⟩|⟨g,cap,cur,hval,_,hgg,hncap,hcm,hcs,ht⟩
 ·omega
 rw[Nat.mul_one]at ht hcs;have hone:∀v∈xs,v.oneCell'=true:=λv hv=>by obtain⟨i,hi,rfl⟩:=List.getElem_of_mem hv;have h3:=hsz i els[i] (gI (by omega));exact(hd i _ 0 (els[i].cells[0]) _ (gI (by omega)) (gI (by omega)) (by rw[Nat.mul_one,Nat.add_zero];exact gI hi)).one
 obtain⟨ds,hds⟩:∃ds:List V1,ds.map Subtype.val=xs:=⟨xs.attach.map λv=>⟨v.1,hone v.1 v.2⟩,by simp[List.map_map,Function.comp_def]⟩
 have hdl:ds.length=els.length:=by rw[<-hxs,<-hds,List.length_map]
 have hget:∀(q:Nat) v,xs[q]?=some v->w.cell? ⟨g,0+q,none⟩=some v:=OZ (n:=els.length) (cap:=0) hgg ht;have hH:Sort.Holds Subtype.val w g 0 ds.toArray:=λj hj=>by
  have hj':j<ds.length:=by simpa using hj
  refine⟨?_,GL hgg⟩;refine(hget j ds[j].1 ?_).trans ?_;·rw[<-hds,List.getElem?_map,gI hj'];rfl
  ·rw[getElem!_pos ds.toArray j hj];simp
 have v23:∀w,(zeroValue (ρ.t 23)).run P w = .ok z w:=λw=>by simp[zeroValue,typeInfo,hi,hz0]
 have key:=AnyE.slices_Delete L Subtype.val (λx:V1=>x.2) ⟨z,hz2⟩ v23 i0 hi hz1 g 0 cap A B ds.toArray w hH (by simpa[hdl] using hncap) (by unfold maxLen at hcm;omega) hAB (by simpa[hdl] using hb);have hsize:ds.toArray.size=els.length:=by simpa using hdl
 rw[hsize]at key;rw[hval];refine Calls.mono key λe1 w1 ⟨he,q,hw⟩=>?_;have hlen:(els.take A++els.drop B).length=els.length-(B-A):=by rw[List.length_append,List.length_take,List.length_drop];omega
 have hlenx:(xs.take A++xs.drop B).length=els.length-(B-A):=by rw[List.length_append,List.length_take,List.length_drop];omega
 have hput:(ds.take A++ds.drop B++List.replicate (B-A) (⟨z,hz2⟩:V1)).toArray.size=ds.toArray.size:=by simp only[List.size_toArray,List.length_append,List.length_take,List.length_drop,List.length_replicate];omega
 refine⟨_,xs.take A++xs.drop B,he,?_,?_,.inl rfl,λi x hx=>?_,λi x j y u hx hy hu=>?_⟩
 ·rw[hlen];refine LG hlenx ?_ (by omega) hcm λj u hu=>?_;·rw[hw];refine⟨_,by simp[Sort.putRow,Sort.mapBlock,Sort.ahead,Array.getElem?_modify,hgg,Sort.onCells];rfl,?_⟩;simp[Sort.putCells,hcs]
  ·have hj:j<els.length-(B-A):=by rw[<-hlenx];exact(List.getElem?_eq_some_iff.1 hu).1
   have h3:=Sort.cell?_putRow Subtype.val (Sort.ahead w q) g 0 ds.toArray (ds.take A++ds.drop B++List.replicate (B-A) (⟨z,hz2⟩:V1)).toArray (Sort.holds_ahead _ _ _ _ _ _ hH) hput j (by rw[hput,hsize];omega);rw[Nat.zero_add]at h3;rw[hw];refine h3.trans ?_;rw[getElem!_pos _ j (by rw[hput,hsize];omega)];have e3:(ds.take A++ds.drop B).map Subtype.val=xs.take A++xs.drop B:=by rw[List.map_append,List.map_take,List.map_drop,hds]
   rw[<-e3,List.getElem?_map]at hu;rw[<-hu];have hj2:j<(ds.take A++ds.drop B).length:=by rw[List.length_append,List.length_take,List.length_drop];omega
   rw[gI hj2,Option.map_some];congr 2;simp only[List.getElem_toArray];rw[List.getElem_append_left hj2]
 ·rw[hw];refine⟨rfl,rfl,rfl,by simp,λk hk hne=>?_⟩;have:g≠k:=λe=>hne (by rw[e];rfl);simp[Sort.putRow,Sort.mapBlock,Sort.ahead,Array.getElem?_modify,this]
 ·obtain⟨k,hk,_⟩:=Oi hAB hb hx;exact hsz k x hk
 ·obtain⟨k,hk,hc⟩:=Oi hAB hb hx;have hj:j=0:=by have:=(List.getElem?_eq_some_iff.1 hy).1;rw[hsz k x hk]at this;omega
  subst hj;rw[Nat.mul_one,Nat.add_zero]at hu;obtain⟨k',hk',hc'⟩:=Oi hAB (by omega) hu;obtain rfl:k=k':=by omega
  exact hd k x 0 y u hk hy (by simpa using hk')
def Q7 (P:Program)(e:Nat):Bool:=match P.info? e with
 | some i=>match i.zero with
   | some z=>i.size==1&&z.oneCell'
   | none=>false
 | none=>false
theorem Y7 {P:Program}{ρ:Ren}(L:SlLaysE.n45 P ρ){e:Nat}(he:ρ.t 23=e)(h:Q7 P e=true)(id0:Nat):D2 P (ρ.f 45) (.prim (some (id0,e,1,false)) (Ha OD e)):=by
 unfold Q7 at h;split at h<;>try (cases h;done)
 rename_i i hi;split at h<;>try (cases h;done)
 rename_i z hz;simp only[Bool.and_eq_true,beq_iff_eq]at h;exact lX L he hi hz h.1 h.2 id0
def IU (id e sz bytes:Nat):List AV->Heap->Option (AV×Heap)
 | [.n .nil,.n (.int .i64 n)],H=>if (H.get id).isNone=true/\0<=n/\n.toNat*bytes<=140737488355328 then some (.row id 0,H.ins id (.row false false 0 e sz [])) else none
 | _,_=>none
set_option maxHeartbeats 1000000 in
theorem bM {P:Program}{ρ:Ren}(L:Lays8.n4 P ρ){id e sz bytes:Nat}{i0:TypeInfo}{z:Value}(he:ρ.t 25=e)(hi:P.info? e=some i0)(hz0:i0.zero=some z)(hz1:i0.size=sz)(hz2:i0.bytes=bytes)(hzs:z.cells.size=sz)(hsz:0<sz)(hby:0<bytes):
   D2 P (ρ.f 4) (.prim (some (id,e,sz,false)) (IU id e sz bytes)):=by
 subst he
 refine⟨by obtain⟨_,hn,FG⟩:=L.f4;exact enters_of FG (by first|exact hn|(simp;done)|rfl) rfl,λargs H r H' h=>?_⟩
 unfold IU at h
 split at h<;>try (cases h;done)
 rename_i n
 split at h<;>simp only[oI,pI,reduceCtorEq]at h
 rename_i hc
 obtain⟨rfl,rfl⟩:=h
 obtain⟨hid,h0,hlim⟩:=hc
 have hid':H.get id=none:=by simpa using hid
 generalize hN:n.toNat=N at hlim
 obtain rfl:n=(N:Nat):=by omega
 clear hN h0
 intro w al m vs hr hal hcs
 obtain⟨a1,a2,rfl,h1,h2⟩:=DA hcs
 obtain rfl:=h2.int_inv
 cases h1 with
 | n _ _ hd=>
 cases hd
 have fin:∀ {v':Value} {w':World},w'.ownsRow w.heap.size (ρ.t 25) sz v' 0 []->Below w.heap.size w w' ->
     ∃u m',Ending.returned v' = .returned u/\((∀i v l,m i v=some l->m' i v=some l)/\∀i v l b,m' i v=some l->l.block=some b->b<w.heap.size->∃v' l',m i v'=some l'/\l'.block=some b) /\
       HR w' ⟨w.heap.size,al⟩ (owned H m) m' (H.ins id (.row false false 0 (ρ.t 25) sz []))/\VR w' ⟨w.heap.size,al⟩ (owned (H.ins id (.row false false 0 (ρ.t 25) sz [])) m') m' (.row id 0) u /\
       Keep w.heap.size (owned H m) w w'/\∀i,(H.get i).isSome=true->((H.ins id (.row false false 0 (ρ.t 25) sz [])).get i).isSome=true:=by
   intro v' w' hown hb
   obtain⟨o1,o2⟩:=PE hown
   obtain⟨m',h1,h2,h3,h4⟩:=Pq (C:=⟨w.heap.size,al⟩) (id:=id) (ver:=0) (nw:=true) (b:=false) (e:=ρ.t 25) (els:=[]) (ys:=[]) (news:=[]) hr (Nat.le_refl _) (World.ownsRow_nil w 0 (ρ.t 25) sz) (λi x h=>by simp at h) (λi x j y u h=>by simp at h)
     (λ_ b hb=>by simp[Value.ownBlock]at hb) (.inl ⟨hid',rfl,rfl⟩) (by simpa using o1) (QO hb) (.inr o2) (λi x h=>by simp at h) (λi x j y u h=>by simp at h)
   simp only[Bool.true_and,List.nil_append]at h1 h2 h3
   refine⟨v',m',rfl,⟨h1.p,h1.q⟩,h2,h3,h4,λi hi=>?_⟩
   rw[Heap.get_ins]
   split
   ·rfl
   ·exact hi
 have hNm:N<=N*bytes:=Nat.le_mul_of_pos_right _ hby
 by_cases hN:N=0
 ·subst hN
  refine(Any8.slices_Grow_room L none 0 0 0 w (by omega) (by omega) (by omega) (by omega)).mono λe' w' ⟨he,hw⟩=>?_
  subst he;subst hw
  exact fin (World.ownsRow_nil w' _ _ _) (Below.refl _ _)
 ·refine(Any8.slices_Grow_grow L i0 z hi hz0 (by omega) none 0 0 N [] w (by omega) (by omega) (by rw[hz2];simpa using hlim) (by omega) (by simp) (λ_=>rfl) (λa h=>by cases h)).mono λe' w' ⟨he,hw⟩=>?_
  subst he;subst hw
  have hge:=grownCap_ge w (0+N) 0 (ρ.t 25)
  refine fin (World.ownsRow_made w.drew _ _ (Nat.le_refl _) (grownCap_le_maxLen w _ _ _ (by simp only[maxLen];omega)) ?_) (((Below.refl _ w).drew).alloc (Nat.le_refl _) _)
  rw[Array.size_append,Array.size_append,size_zeroCells,size_zeroCells,hzs]
  show 0+(0+N-0)*sz+(grownCap w (0+N) 0 (ρ.t 25)-(0+N))*sz=_
  rw[Nat.zero_add,<-Nat.add_mul]
  congr 1
  omega
theorem SZ {P:Program}{ρ:Ren}(L:Lays8.n4 P ρ){id e sz bytes:Nat}(he:ρ.t 25=e)(h:FZ P e sz bytes=true):D2 P (ρ.f 4) (.prim (some (id,e,sz,false)) (IU id e sz bytes)):=by
 unfold FZ at h;split at h<;>try (cases h;done)
 rename_i i hi;split at h<;>try (cases h;done)
 rename_i z hz;simp only[Bool.and_eq_true,beq_iff_eq,Nat.blt_eq]at h;obtain⟨⟨⟨⟨h1,h2⟩,h3⟩,h4⟩,h5⟩:=h;exact bM L he hi hz h1 h2 h3 h4 h5
theorem NL {Fs:Nat->Option Fun}{f id e sz bytes:Nat}(hf:Fs f=some (.prim (some (id,e,sz,false)) (IU id e sz bytes)))(n:Nat)(h:n*bytes<=140737488355328):
  Runs Fs f [.n .nil,.n (.int .i64 n)] [] (.row id 0) [(id,.row false false 0 e sz [])]:=by
 refine⟨1,λk hk=>?_⟩
 obtain⟨k,rfl⟩:∃j,k=j+1:=⟨k-1,by omega⟩
 simp only[run,hf,IU]
 rw[if_pos ⟨by simp[Heap.get],by omega,by simpa using h⟩]
 rfl
theorem IL {Fs:Nat->Option Fun}{f id0 e:Nat}{p:Nat->List D->List AV->Heap->Option (List D)}(hf:Fs f=some (.prim (some (id0,e,1,false)) (Ha p e))){id v:Nat}{nw:Bool}{els els':List D}{r:List AV}{H:Heap}(hg:H.get id=some (.row false nw v e 1 els))(h:p id els r H=some els'):
  Runs Fs f (.row id v::r) H (.row id (v+1)) (H.ins id (.row false false (v+1) e 1 els')):=by
 refine⟨1,λk hk=>?_⟩
 obtain⟨k,rfl⟩:∃j,k=j+1:=⟨k-1,by omega⟩
 simp only[run,hf,Ha,hg]
 rw[if_pos ⟨trivial,trivial,trivial⟩,h]
end Go.Mir
