import Derived.Test.YtegndijbpiccgaaGreatDoorMirD
import Derived.Laws.MakeOwn
import Derived.Laws.CopyRow
import Derived.Laws.Rows
namespace Go.Mir
set_option linter.unusedVariables false
set_option linter.unusedSimpArgs false
open Go.RowKit
def Places.set (m:Places)(id ver:Nat)(l:Loc):Places:=λi v=>if i=id/\v=ver then some l else m i v
theorem Places.set_at (m:Places)(id ver:Nat)(l:Loc):m.set id ver l id ver=some l:=by simp[Places.set]
section
variable {P:Program} {w:World} {C:Cx} {own:Nat->Prop} {m:Places} {H:Heap} {σ:Slots} {a:Act}
def Does (P:Program)(a:Act)(o:Oper)(w:World)(C:Cx)(own:Nat->Prop)(m:Places)(H:Heap)(v:AV)(H':Heap):Prop:=
 ∃u w' m',((execOp a.eval o).run P w = .ok (.value u) w'\/((execOp a.eval o).run P w = .ok .skip w'/\u=undef)) /\
  Step C w (owned H m) m w' (owned H' m') m'/\HR w' C own m' H'/\VR w' C (owned H' m') m' v u/\Keep C.N own w w'
theorem Does.quiet {o:Oper}{v:AV}{H':Heap}(hr:HR w C own m H)(h:H'=H/\∃u,AA P a o w u/\VR w C (owned H m) m v u):Does P a o w C own m H v H':=by obtain⟨rfl,u,h1,h2⟩:=h;exact⟨u,w,m,.inl h1,Step.refl _ _ _ _,hr,h2,Keep.refl _ _ _⟩
theorem Uz (w:World)(o:Obj){b:Nat}(h:b<w.heap.size):(w.alloc o).heap[b]?=w.heap[b]?:=Below.heap_alloc w o b h
theorem Nc (w:World)(o:Obj):(w.alloc o).heap[w.heap.size]?=some o:=by show(w.heap.push o)[w.heap.size]?=_;simp
theorem Lp (w:World)(o:Obj):(w.alloc o).heap.size=w.heap.size+1:=by show(w.heap.push o).size=_;simp
theorem T5 (hr:HR w C own m H){id:Nat}(hid:H.get id=none)(ob:Ob)(o:Obj)(ver:Nat)(l:Loc)(hl:l.block=some w.heap.size)
   (hob:∀b,lies (m.set id ver l) id ob b->b=w.heap.size) (hver:ob.ver=ver):Upd w m H id ob (w.alloc o) (m.set id ver l):=by
 have hm:∀v,m id v=none:=λv=>by
  cases h:m id v with
  | none=>rfl
  | some l=>have:=hr.dom _ _ _ h;rw[hid]at this;cases this
 refine⟨λi v l' h=>?_,λi v l' h=>?_,by rw[Lp];omega,λb hb _=>Uz w o hb,λo' h=>(by rw[hid]at h;cases h),λb h => .inr (by rw[hob b h];exact Nat.le_refl _),λv hv=>?_,rfl,rfl,rfl⟩
 ·simp only[Places.set]
  rw[if_neg]
  ·exact h
  ·rintro⟨rfl,rfl⟩;rw[hm]at h;cases h
 ·simp only[Places.set]at h
  split at h
  ·rename_i hc
   simp only[oI]at h
   subst h
   refine .inr ⟨hc.1,λb hb=>?_⟩
   rw[hl]at hb
   simp only[oI]at hb
   subst hb
   exact⟨by rw[Lp];omega,.inr (Nat.le_refl _)⟩
  ·exact .inl h
 ·simp only[Places.set]
  rw[if_neg (by omega)]
  exact hm v
theorem Qu (hr:HR w C own m H)(hN:C.N<=w.heap.size){o:Oper}{id:Nat}(hid:H.get id=none){cs:List AV}{us:Array Value}{t:TypeId}(hc:Cells w C (owned H m) m cs us.toList)
  (hrun:(execOp a.eval o).run P w = .ok (.value (.pointer (some ⟨w.heap.size,0,none⟩))) (w.alloc (.cells us t))):Does P a o w C own m H (.ptr id 0) (H.ins id (.box cs)):=by
 have U:=T5 hr hid (.box cs) (.cells us t) 0 (.box w.heap.size) rfl (λb h=>by simp only[lies,Places.set_at,oI,Loc.box.injEq]at h;exact h.symm) rfl
 have S:=U.step hr
 refine⟨_,_,_,.inl hrun,S,U.hr hr hN ?_,.ptr _ _ _ (Places.set_at ..),U.keep hr hN⟩
 refine⟨w.heap.size,t,us,Places.set_at ..,Nc _ _,by simpa using hc.1.symm,λi x v h1 h2=>(hc.2 i x v h1 (by simpa using h2)).step S⟩
theorem dS {call:Al}(hr:HR w C own m H)(hN:C.N<=w.heap.size){o:Oper}{id:Nat}{t:TypeId}{z:List AV}{v:AV}{H':Heap}(hz:Cf P t=some z)(ho:o.op = .alloc t)
  (h:Ac call σ H (.alloc id z)=some (v,H')):Does P a o w C own m H v H':=by
 simp only[Ac]at h
 split at h<;>simp only[oI,reduceCtorEq,pI]at h
 obtain⟨rfl,rfl⟩:=h
 rename_i hid
 unfold Cf at hz
 split at hz<;>try (simp at hz;done)
 rename_i i hi
 split at hz<;>try (simp at hz;done)
 rename_i zv hzv
 refine Qu hr hN (by simpa using hid) (us:=zv.cells) (t:=t) (D5 hz).1 ?_
 simp[execOp,ho,Instr.alloc,zeroValue,typeInfo,hi,hzv,newVar,newRow]
theorem ABE {call:Al}(hr:HR w C own m H)(hN:C.N<=w.heap.size)(hv:∀t,VR w C (owned H m) m (σ.get t) (a.tmps.getD t undef)){o:Oper}{id:Nat}{t:TypeId}{x:Operand}{v:AV}{H':Heap}(ho:o.op = .box t x)
   (h:Ac call σ H (.box id x)=some (v,H')):Does P a o w C own m H v H':=by
 simp only[Ac]at h
 split at h<;>try (simp at h;done)
 rename_i hid
 split at h<;>try (simp at h;done)
 rename_i xv hx
 split at h<;>simp only[oI,reduceCtorEq,pI]at h
 obtain⟨rfl,rfl⟩:=h
 rename_i hok
 refine Qu hr hN (by simpa using hid) (us:=(a.eval x).cells) (t:=t) ((AK hv hx).cells ?_) ?_
 ·rintro rfl;simp[AB,AV.cellOK]at hok
 ·simp[execOp,ho,Instr.box,newVar,newRow]
def Fc (l:List Value)(off:Nat)(us:List Value):List Value:=l.take off++us++l.drop (off+us.length)
theorem C4 (l us:List Value)(off i:Nat)(h:off+us.length<=l.length):(Fc l off us)[i]?=if off<=i/\i<off+us.length then us[i-off]? else l[i]?:=by
 unfold Fc;have h1:(l.take off).length=off:=by simp;omega
 by_cases a:i<off;·rw[if_neg (by omega),List.append_assoc,List.getElem?_append_left (by omega),List.getElem?_take,if_pos a]
 ·by_cases b:i<off+us.length;·rw[if_pos (by omega),List.append_assoc,List.getElem?_append_right (by omega),h1,List.getElem?_append_left (by omega)]
  ·rw[if_neg (by omega),List.getElem?_append_right (by simp;omega),List.getElem?_drop];congr 1;simp;omega
theorem EE (l us:List Value)(off:Nat)(h:off+us.length<=l.length):(Fc l off us).length=l.length:=by unfold Fc;simp;omega
theorem Gj {t:TypeId}{i:TypeInfo}(hi:P.info? t=some i){b off:Nat}{c:Array Value}{t':TypeId}{v:Value}(hb:w.heap[b]?=some (.cells c t' (0,0)))(hs:v.cells.size=i.size)(hle:off+v.cells.size<=c.size)(h1:∀u∈v.cells.toList,u.oneCell'=true):
  (storeVar t ⟨b,off,none⟩ v).run P w = .ok () (w.setRow b (Fc c.toList off v.cells.toList).toArray):=by
 have:=run_storeCells_at (P:=P) b off t' v.cells.toList 0 c w hb (by simpa using hle) h1
 simp only[Nat.add_zero]at this
 simp[storeVar,sizeOf,typeInfo,hi,hs,this,Fc]
theorem N9 (hr:HR w C own m H){id:Nat}{o ob:Ob}(hg:H.get id=some o)(hf:o.frozen=false){b:Nat}(hl:lies m id o b)(hsame:∀b',lies m id ob b'->lies m id o b')(hver:o.ver<=ob.ver)(cs:Array Value):Upd w m H id ob (w.setRow b cs) m:=
 ⟨λ_ _ _ h=>h,λ_ _ _ h => .inl h,by simp,λk _ h=>setRow_other w b k cs λe=>h o hg (e▸hl),λo' h=>(by rw[hg]at h;simp only[oI]at h;subst h;exact hf),
   λk h => .inl ⟨o,hg,hsame k h⟩,λv hv=>hr.top id o v hg (by omega),rfl,rfl,rfl⟩
theorem Cells.one {cs:List AV}{us:List Value}(h:Cells w C (owned H m) m cs us)(hk:cs.all AV.cellOK=true):∀u∈us,u.oneCell'=true:=by
 intro u hu;obtain⟨i,hi⟩:=List.getElem?_of_mem hu;have hlt:i<cs.length:=by rw[h.1];exact(List.getElem?_eq_some_iff.1 hi).1
 exact(h.2 i _ u (gI hlt) hi).one (List.all_eq_true.1 hk _ (List.getElem_mem hlt))
theorem Tb {x:AV}{v:Value}{b:Bool}{d:D}(h:VR w C (owned H m) m x v)(hd:x.data=some (b,d))(hany:d≠.any):DR w (C.ok (owned H m) b) d v:=by
 unfold AV.data at hd;split at hd<;>simp only[oI,reduceCtorEq,pI]at hd<;>obtain⟨rfl,rfl⟩:=hd
 ·cases h with
  | any v=>exact absurd rfl hany
  | n _ _ h=>exact h
 ·cases h with
  | o _ _ h=>exact h
theorem Zr {id off:Nat}{cs:List AV}{t:TypeId}{i:TypeInfo}{x y:Operand}{v:AV}(hr:HR w C own m H)(hN:C.N<=w.heap.size)(hv:∀t,VR w C (owned H m) m (σ.get t) (a.tmps.getD t undef)){o:Oper}(ho:o.op = .store t x y)
   (hi:P.info? t=some i) (hx:ev σ x=some (.ptr id off)) (hy:ev σ y=some v) (hg:H.get id=some (.box cs)) (hlen:(AB v).length=i.size) (hle:off+i.size<=cs.length) (hk:(AB v).all AV.cellOK=true):
   Does P a o w C own m H (.n .any) (H.ins id (.box (setCells cs off (AB v)))):=by
 obtain⟨b,hb,hpx⟩:=(AK hv hx).ptr_inv
 obtain⟨b',t',c,hm,hh,hsz,hc⟩:=hr.objs _ _ hg
 rw[hb]at hm
 obtain rfl:b=b':=by simpa using hm
 have hcv:=(AK hv hy).cells (by rintro rfl;simp[AB,AV.cellOK]at hk)
 have h1:=hcv.one hk
 have hsz2:(a.eval y).cells.size=i.size:=by rw[<-hlen,hcv.1];simp
 have hrun:=Gj (P:=P) (w:=w) hi hh hsz2 (by rw[hsz,hsz2];exact hle) h1
 have U:=N9 hr hg rfl (b:=b) hb (ob := .box (setCells cs off (AB v))) (λ_ h=>h) (Nat.le_refl _) (Fc c.toList off (a.eval y).cells.toList).toArray
 have S:=U.step hr
 refine⟨undef,_,m,.inr ⟨?_,rfl⟩,S,U.hr hr hN ?_,.any _,U.keep hr hN⟩
 ·simp[execOp,ho,hpx,Instr.storeAt,Instr.sureAddr,hrun]
 ·refine⟨b,t',_,hb,setRow_heap w b c _ t' (0,0) hh,?_,λk x u hx hu=>?_⟩
  ·rw[Gd,<-hsz]
   simp only[List.size_toArray]
   rw[EE _ _ _ (by simp;omega)];simp
  ·rw[F8 _ _ _ _ (by omega)]at hx
   simp only[List.getElem?_toArray]at hu
   rw[C4 _ _ _ _ (by simp;omega)]at hu
   rw[hcv.1]at hx
   split at hx
   ·rename_i hc'
    rw[if_pos hc']at hu
    exact(hcv.2 _ _ _ hx hu).step S
   ·rename_i hc'
    rw[if_neg hc']at hu
    exact(hc k x u hx (by simpa using hu)).step S
theorem K5 {cs:List AV}{us:List Value}{b:Bool}{ds:List D}(h:Cells w C (owned H m) m cs us)(hd:G7 cs=some (b,ds))(hk:cs.all AV.cellOK=true):
   ds.length=cs.length/\∀(j:Nat) y u,ds[j]?=some y->us[j]?=some u->DR w (C.ok (owned H m) b) y u:=by
 induction cs generalizing us b ds with
 | nil=>simp only[G7,oI,pI]at hd;obtain⟨rfl,rfl⟩:=hd;exact⟨rfl,λj y u h=>by simp at h⟩
 | cons x r ih=>
  simp only[G7]at hd
  split at hd<;>simp only[oI,reduceCtorEq,pI]at hd
  rename_i b1 y1 b2 s h1 h2
  obtain⟨rfl,rfl⟩:=hd
  simp only[List.all_cons,Bool.and_eq_true]at hk
  cases us with
  | nil=>have:=h.1;simp at this
  | cons u us=>
   obtain⟨i1,i2⟩:=ih (us:=us) ⟨by simpa using h.1,λi c u h1 h2=>h.2 (i+1) c u (by simpa using h1) (by simpa using h2)⟩ h2 hk.2
   have weak:∀ {b':Bool} {y:D} {u:Value},(b'=false->(b1&&b2)=false)->DR w (C.ok (owned H m) b') y u->DR w (C.ok (owned H m) (b1&&b2)) y u:=by
    intro b' y u hb hd;refine hd.mono (Nat.le_refl _) λk hk _=>⟨?_,rfl⟩
    cases hbb:(b1&&b2) with
    | true=>cases b' with
      | true=>exact hk
      | false=>rw[hb rfl]at hbb;cases hbb
    | false=>exact Cx.ok_okm hk
   refine⟨by simp[i1],λj y u' hy hu=>?_⟩
   cases j with
   | zero=>
    simp only[List.getElem?_cons_zero,oI]at hy hu
    subst hy hu
    exact weak (λe=>by rw[e];rfl) (Tb (h.2 0 x _ rfl rfl) h1 (by rintro rfl;unfold AV.data at h1;split at h1<;>simp only[oI,reduceCtorEq,pI]at h1<;>obtain⟨rfl,rfl⟩:=h1<;>simp[AV.cellOK]at hk))
   | succ j=>exact weak (λe=>by rw[e,Bool.and_false]) (i2 j y u' (by simpa using hy) (by simpa using hu))
theorem cM {sz:Nat}{els:List D}{l:Loc}{ok ok':Nat->Prop}(hl:Lies w ok sz els l.val)(h:∀b,ok b->b<w.heap.size->ok' b)(hb:∀b,l.block=some b->ok' b):DR w ok' (.sl sz els) l.val:=by
 rcases hl with⟨⟨p,c,e,_⟩,rfl⟩|⟨b,off,c,vs,e,hc,hbs,hsz,hv,hd⟩
 ·rw[e]
  cases p with
  | some q=>exact .sle sz q c
  | none=>
   cases l with
   | box b=>simp[Loc.val]at e
   | nilrow=>simp only[Loc.val,Value.slice.injEq]at e;obtain⟨_,_,rfl⟩:=e;exact .sl0 sz
   | row b' n c=>simp[Loc.val]at e
 ·have:l.block=some b:=by
   cases l with
   | box b=>simp[Loc.val]at e
   | nilrow=>simp[Loc.val]at e
   | row b' n c=>simp only[Loc.val,Value.slice.injEq,oI,Addr.mk.injEq]at e;simp[Loc.block,e.1.1]
  rw[e];exact .sl sz els b off c vs (hb b this) hbs hc hsz hv λi x j y h1 h2=>(hd i x j y h1 h2).mono (Nat.le_refl _) λb h1 h2=>⟨h b h1 h2,rfl⟩
structure Less (C:Cx) (w:World) (ow ow':Nat->Prop):Prop where
 h:∀b,b<w.heap.size->¬ow b->¬ow' b
theorem Less.n {ow ow':Nat->Prop}(L:Less C w ow ow'):∀b,C.okn ow b->b<w.heap.size->C.okn ow' b:=λb h hb=>⟨h.1,L.h b hb h.2⟩
theorem Less.o {ow ow':Nat->Prop}(L:Less C w ow ow'):∀b,C.okm ow b->b<w.heap.size->C.okm ow' b:=λb h hb=>⟨h.1,L.h b hb h.2⟩
theorem Less.ok {ow ow':Nat->Prop}(L:Less C w ow ow')(nw:Bool):∀b,C.ok ow nw b->b<w.heap.size->C.ok ow' nw b:=by
 cases nw with
 | true=>exact L.n
 | false=>exact L.o
theorem Less.step {ow ow':Nat->Prop}(L:Less C w ow ow'):Step C w ow m w ow' m:=⟨Nat.le_refl _,λb h hb=>⟨L.n b h hb,rfl⟩,λb h hb=>⟨L.o b h hb,rfl⟩,λ_ _ _ h=>h,λ_ v l _ h hb _=>⟨v,l,h,hb⟩⟩
mutual
theorem T9 (hr:HR w C own m H)(hal:∀b,own b->C.al b){ow':Nat->Prop}(L:Less C w (owned H m) ow'):∀(x:AV) {x':AV} {v:Value},VR w C (owned H m) m x v->AN H x=some x' ->
   (∀i∈Ak x,∀o b,H.get i=some o->lies m i o b->¬ow' b)->VR w C ow' m x' v
 | .n x,x',v,h,hs,_=>by simp only[AN,oI]at hs;subst hs;exact h.step L.step
 | .o x,x',v,h,hs,_=>by simp only[AN,oI]at hs;subst hs;exact h.step L.step
 | .ptr id off,x',v,h,hs,_=>by simp only[AN,oI]at hs;subst hs;exact h.step L.step
 | .nilp,x',v,h,hs,_=>by simp only[AN,oI]at hs;subst hs;exact h.step L.step
 | .elt ..,x',v,h,hs,_=>by simp[AN]at hs
 | .dat ..,x',v,h,hs,_=>by simp[AN]at hs
 | .row id ver,x',v,h,hs,hf=>by
  simp only[AN]at hs;split at hs<;>try (simp at hs;done)
  rename_i fz nw ver' e sz els hg;split at hs<;>simp only[oI,reduceCtorEq]at hs;rename_i hver;subst hver hs;obtain⟨l,hm,hrow,hl,_⟩:=(hr.objs _ _ hg).lies;obtain⟨l',hm',_,rfl⟩:=h.row_inv;rw[hm]at hm';obtain rfl:l=l':=by simpa using hm'
  obtain⟨_,_,hm2,_,_,_,_,hnw⟩:=hr.objs _ _ hg;rw[hm]at hm2;simp only[oI]at hm2;subst hm2;refine VR.sub (nw:=nw) (cM (ok':=C.ok ow' nw) hl (L.ok nw) λb hb=>?_);have hnot:¬ow' b:=hf id (by simp[Ak]) _ b hg ⟨l,hm,hb⟩;have hlt:=hr.lt _ _ _ _ hm hb
  cases nw with
  | true=>exact⟨hnw rfl b hb,hnot⟩
  | false=>exact⟨hlt.2,hnot⟩
 | .agg cs,x',v,h,hs,hf=>by simp only[AN,Option.map_eq_some_iff]at hs;obtain⟨cs',h1,rfl⟩:=hs;obtain⟨us,hl,hh,rfl⟩:=h.agg_inv;obtain⟨h2,h3⟩:=snapL_ok hr hal L cs ⟨hl,hh⟩ h1 (by simpa[Ak] using hf);exact .agg _ _ h2 h3
 | .tup cs,x',v,h,hs,hf=>by simp only[AN,Option.map_eq_some_iff]at hs;obtain⟨cs',h1,rfl⟩:=hs;obtain⟨us,hl,hh,rfl⟩:=h.tup_inv;obtain⟨h2,h3⟩:=snapL_ok hr hal L cs ⟨hl,hh⟩ h1 (by simpa[Ak] using hf);exact .tup _ _ h2 h3
 | .fn f cs,x',v,h,hs,hf=>by simp only[AN,Option.map_eq_some_iff]at hs;obtain⟨cs',h1,rfl⟩:=hs;obtain⟨us,hl,hh,rfl⟩:=h.fn_inv;obtain⟨h2,h3⟩:=snapL_ok hr hal L cs ⟨hl,hh⟩ h1 (by simpa[Ak] using hf);exact .fn _ _ _ h2 h3
theorem snapL_ok (hr:HR w C own m H)(hal:∀b,own b->C.al b){ow':Nat->Prop}(L:Less C w (owned H m) ow'):∀(xs:List AV) {xs':List AV} {us:List Value},Cells w C (owned H m) m xs us->snapL H xs=some xs' ->
   (∀i∈rowsInL xs,∀o b,H.get i=some o->lies m i o b->¬ow' b)->Cells w C ow' m xs' us
 | [],xs',us,h,hs,_=>by simp only[snapL,oI]at hs;subst hs;exact⟨h.1,λi c u h=>by simp at h⟩
 | x::r,xs',us,h,hs,hf=>by
  simp only[snapL]at hs;split at hs<;>simp only[oI,reduceCtorEq]at hs;rename_i y s h1 h2;subst hs
  cases us with
  | nil=>have:=h.1;simp at this
  | cons u us=>
   have hx:=T9 hr hal L x (h.2 0 x u rfl rfl) h1 (λi hi=>hf i (by simp[rowsInL,hi]));have hr':=snapL_ok hr hal L r (us:=us) ⟨by simpa using h.1,λi c u h1 h2=>h.2 (i+1) c u (by simpa using h1) (by simpa using h2)⟩ h2 (λi hi=>hf i (by simp[rowsInL,hi]));refine⟨by simp[hr'.1],λi c u' hc hu=>?_⟩
   cases i with
   | zero=>simp only[List.getElem?_cons_zero,oI]at hc hu;subst hc hu;exact hx
   | succ i=>exact hr'.2 i c u' (by simpa using hc) (by simpa using hu)
end
theorem KW {ids:List Nat}(hr:HR w C own m H):∀i∈ids,∀o b,H.get i=some o->(∃fz nw v e sz els,o = .row fz nw v e sz els)->lies m i o b->¬owned (H.freeze ids) m b:=by
 intro i hi o b hg hrow hl;obtain⟨fz,nw,v,e,sz,els,rfl⟩:=hrow;refine P0 (BW ids hr) (i:=i) (o := .row (fz||ids.contains i) nw v e sz els) ?_ ?_ hl;·rw[Heap.get_freeze,hg]
 ·simp[Ob.frozen,hi]
theorem GK (ids:List Nat):Less C w (owned H m) (owned (H.freeze ids) m):=⟨λ_ _ h h'=>h (Eg h')⟩
mutual
/-- What is snapped of a row has one. -/
theorem Oc:∀(x:AV) {x':AV},AN H x=some x'->∀i∈Ak x,∃fz nw v e sz els,H.get i=some (.row fz nw v e sz els)
 | .n x,x',hs,i,hi=>by simp[Ak]at hi
 | .o x,x',hs,i,hi=>by simp[Ak]at hi
 | .ptr ..,x',hs,i,hi=>by simp[Ak]at hi
 | .nilp,x',hs,i,hi=>by simp[Ak]at hi
 | .elt ..,x',hs,i,hi=>by simp[Ak]at hi
 | .dat ..,x',hs,i,hi=>by simp[Ak]at hi
 | .row id ver,x',hs,i,hi=>by
  simp only[Ak,List.mem_singleton]at hi;subst hi;simp only[AN]at hs;split at hs<;>try (simp at hs;done)
  rename_i hg;exact⟨_,_,_,_,_,_,hg⟩
 | .agg cs,x',hs,i,hi=>by simp only[AN,Option.map_eq_some_iff]at hs;obtain⟨cs',h1,_⟩:=hs;exact snapL_rows cs h1 i (by simpa[Ak] using hi)
 | .tup cs,x',hs,i,hi=>by simp only[AN,Option.map_eq_some_iff]at hs;obtain⟨cs',h1,_⟩:=hs;exact snapL_rows cs h1 i (by simpa[Ak] using hi)
 | .fn f cs,x',hs,i,hi=>by simp only[AN,Option.map_eq_some_iff]at hs;obtain⟨cs',h1,_⟩:=hs;exact snapL_rows cs h1 i (by simpa[Ak] using hi)
theorem snapL_rows:∀(xs:List AV) {xs':List AV},snapL H xs=some xs'->∀i∈rowsInL xs,∃fz nw v e sz els,H.get i=some (.row fz nw v e sz els)
 | [],xs',hs,i,hi=>by simp[rowsInL]at hi
 | x::r,xs',hs,i,hi=>by
  simp only[snapL]at hs;split at hs<;>simp only[oI,reduceCtorEq]at hs;rename_i h1 h2;simp only[rowsInL,List.mem_append]at hi;rcases hi with hi|hi;·exact Oc x h1 i hi
  ·exact snapL_rows r h2 i hi
end
theorem C7 (hr:HR w C own m H)(hal:∀b,own b->C.al b){x x':AV}{v:Value}(h:VR w C (owned H m) m x v)(hs:AN H x=some x'):VR w C (owned (H.freeze (Ak x)) m) m x' v:=
 T9 hr hal (GK _) x h hs λi hi o b hg hl=>by obtain⟨fz,nw,v,e,sz,els,hg'⟩:=Oc x hs i hi;rw[hg']at hg;simp only[oI]at hg;subst hg;exact KW hr i hi _ b hg' ⟨_,_,_,_,_,_,rfl⟩ hl
theorem OW (hr:HR w C own m H)(hal:∀b,own b->C.al b){xs xs':List AV}{us:List Value}(h:Cells w C (owned H m) m xs us)(hs:snapL H xs=some xs'):Cells w C (owned (H.freeze (rowsInL xs)) m) m xs' us:=
 snapL_ok hr hal (GK _) xs h hs λi hi o b hg hl=>by obtain⟨fz,nw,v,e,sz,els,hg'⟩:=snapL_rows xs hs i hi;rw[hg']at hg;simp only[oI]at hg;subst hg;exact KW hr i hi _ b hg' ⟨_,_,_,_,_,_,rfl⟩ hl
theorem Step.trans {w1 w2:World}{ow ow1 ow2:Nat->Prop}{m1 m2:Places}(S:Step C w ow m w1 ow1 m1)(T:Step C w1 ow1 m1 w2 ow2 m2):Step C w ow m w2 ow2 m2:=
 ⟨Nat.le_trans S.size T.size,λb h hb=>⟨(T.n b (S.n b h hb).1 (Nat.lt_of_lt_of_le hb S.size)).1,(T.n b (S.n b h hb).1 (Nat.lt_of_lt_of_le hb S.size)).2.trans (S.n b h hb).2⟩,
   λb h hb=>⟨(T.o b (S.o b h hb).1 (Nat.lt_of_lt_of_le hb S.size)).1,(T.o b (S.o b h hb).1 (Nat.lt_of_lt_of_le hb S.size)).2.trans (S.o b h hb).2⟩,λi v l h=>T.p i v l (S.p i v l h),λi v l b h hb hlt=>by obtain⟨v1,l1,h1,h2⟩:=T.q i v l b h hb (Nat.lt_of_lt_of_le hlt S.size);exact S.q i v1 l1 b h1 h2 hlt⟩
theorem Does.frozen {o:Oper}{ids:List Nat}{v:AV}{H':Heap}(h:Does P a o w C own m (H.freeze ids) v H'):Does P a o w C own m H v H':=by obtain⟨u,w',m',h1,S,h3,h4,h5⟩:=h;exact⟨u,w',m',h1,Step.trans (DW ids) S,h3,h4,h5⟩
theorem Up {sz:Nat}{x:AV}{v:Value}{b:Bool}{d:D}(h:VR w C (owned H m) m x v)(hm:Vf sz x=some (b,d)):
   d.cells.length=sz/\v.cells.size=sz/\(∀u∈v.cells.toList,u.oneCell'=true)/\∀(j:Nat) y u,d.cells[j]?=some y->v.cells.toList[j]?=some u->DR w (C.ok (owned H m) b) y u:=by
 unfold Vf at hm
 split at hm
 ·rename_i cs
  split at hm<;>try (simp at hm;done)
  rename_i b' ds hd
  split at hm<;>simp only[oI,reduceCtorEq,pI]at hm
  rename_i hc
  obtain⟨rfl,rfl⟩:=hm
  simp only[Bool.and_eq_true,decide_eq_true_eq]at hc
  obtain⟨us,hl,hh,rfl⟩:=h.agg_inv
  have hcells:Cells w C (owned H m) m cs us:=⟨hl,hh⟩
  obtain⟨h1,h2⟩:=K5 hcells hd hc.2
  exact⟨by simpa[D.cells] using hc.1,by simp[Value.cells];rw[<-hl,<-h1];exact hc.1,by simpa[Value.cells] using hcells.one hc.2,by simpa[D.cells,Value.cells] using h2⟩
 ·split at hm<;>try (simp at hm;done)
  rename_i b' d' hd
  split at hm<;>simp only[oI,reduceCtorEq,pI]at hm
  rename_i hc
  obtain⟨rfl,rfl⟩:=hm
  simp only[Bool.and_eq_true,decide_eq_true_eq]at hc
  obtain⟨rfl,hk⟩:=hc
  have hone:=h.one hk
  have hvc:v.cells = #[v]:=by cases v<;>simp_all[Value.cells,Value.oneCell']
  have hnany:d'≠.any:=by rintro rfl;unfold AV.data at hd;split at hd<;>simp only[oI,reduceCtorEq,pI]at hd<;>obtain⟨_,rfl⟩:=hd<;>simp[AV.cellOK]at hk
  have hdc:d'.cells=[d']:=by
   cases d' with
   | rcd fs=> exfalso;unfold AV.data at hd;split at hd<;>simp only[oI,reduceCtorEq,pI]at hd<;>obtain⟨_,rfl⟩:=hd<;>simp[AV.cellOK]at hk
   | _=>rfl
  have hdr:=Tb h hd hnany
  rw[hvc,hdc]
  refine⟨rfl,rfl,by simpa using hone,λj y u hy hu=>?_⟩
  cases j with
  | zero=>simp only[List.getElem?_cons_zero,oI]at hy hu;subst hy hu;exact hdr
  | succ j=>simp at hy
theorem HV {b c:Bool}{y:D}{u:Value}{ow:Nat->Prop}(h:DR w (C.ok ow b) y u\/DR w (C.ok ow c) y u):DR w (C.ok ow (b&&c)) y u:=by cases b<;>cases c<;>rcases h with h|h<;>first|exact h|exact h.mono (Nat.le_refl _) λk hk _=>⟨Cx.okn_okm hk,rfl⟩
theorem Pe {els:List D}{i k:Nat}{d x:D}(h:(els.set i d)[k]?=some x):(k=i/\x=d)\/(k≠i/\els[k]?=some x):=by
 by_cases e:k=i
 ·subst e;have hlt:k<els.length:=by have:=(List.getElem?_eq_some_iff.1 h).1;simpa using this
  rw[List.getElem?_set_self hlt]at h;exact .inl ⟨rfl,by simpa using h.symm⟩
 ·rw[List.getElem?_set_ne (λh=>e h.symm)]at h;exact .inr ⟨e,h⟩
theorem Q4:∀(xs cs:List D) (off:Nat),(QU cs off xs).length=cs.length
 | [],cs,off=>rfl
 | x::r,cs,off=>by rw[QU,Q4,List.length_set]
theorem PS:∀(xs cs:List D) (off j:Nat),off+xs.length<=cs.length->(QU cs off xs)[j]?=if off<=j/\j<off+xs.length then xs[j-off]? else cs[j]?
 | [],cs,off,j,_=>by rw[QU,if_neg (by simp)]
 | x::r,cs,off,j,h=>by
  simp only[List.length_cons]at h;rw[QU,PS r _ _ _ (by rw[List.length_set];omega)];by_cases h1:off+1<=j/\j<off+1+r.length;·rw[if_pos h1,if_pos (by simp only[List.length_cons];omega),show j-off=(j-(off+1))+1 by omega,List.getElem?_cons_succ]
  ·rw[if_neg h1];by_cases h2:j=off;·subst h2;rw[if_pos (by simp only[List.length_cons];omega),Nat.sub_self,List.getElem?_cons_zero,List.getElem?_set_self (by omega)]
   ·rw[if_neg (by simp only[List.length_cons];omega),List.getElem?_set_ne (λe=>h2 e.symm)]
theorem QD {sz o size:Nat}{old d:D}(h1:old.cells.length=sz)(h2:d.cells.length=size)(h3:o+size<=sz):
   (Ka sz o size old d).cells.length=sz/\∀j,(Ka sz o size old d).cells[j]?=if o<=j/\j<o+size then d.cells[j-o]? else old.cells[j]?:=by
 unfold Ka
 split
 ·rename_i hb
  simp only[Bool.and_eq_true,Nat.beq_eq]at hb
  obtain⟨rfl,rfl⟩:=hb
  refine⟨h2,λj=>?_⟩
  by_cases hj:j<sz
  ·rw[if_pos (by omega),Nat.sub_zero]
  ·rw[if_neg (by omega),List.getElem?_eq_none (by omega),List.getElem?_eq_none (by omega)]
 ·refine⟨by rw[D.cells,Q4];exact h1,λj=>?_⟩
  rw[D.cells,PS _ _ _ _ (by omega),h2]
theorem Xj {call:Al}{id ver s i off:Nat}{t:TypeId}{ti:TypeInfo}{x y:Operand}{v:AV}{H':Heap}(hr:HR w C own m H)(hN:C.N<=w.heap.size)(hal:∀b,own b->C.al b)
   (hv:∀t,VR w C (owned H m) m (σ.get t) (a.tmps.getD t undef)) {o:Oper} (ho:o.op = .store t x y) (hi:P.info? t=some ti) (hx:ev σ x=some (.elt id ver s i off)) (h:Ac call σ H (.st x y ti.size)=some (v,H')):
   Does P a o w C own m H v H':=by
 simp only[Ac,hx]at h
 split at h<;>try (simp at h;done)
 ·simp_all
 rename_i id' ver' s' i' off' yv e1 hy
 simp only[oI,AV.elt.injEq]at e1
 obtain⟨rfl,rfl,rfl,rfl,rfl⟩:=e1
 split at h<;>try (simp at h;done)
 rename_i nw vr e sz els hg
 split at h<;>try (simp at h;done)
 rename_i hc
 simp only[Bool.and_eq_true,decide_eq_true_eq]at hc
 obtain⟨⟨rfl,hsize⟩,rfl⟩:=hc
 split at h<;>try (simp at h;done)
 rename_i el hel
 split at h<;>try (simp at h;done)
 rename_i yv' hs
 split at h<;>simp only[oI,reduceCtorEq,pI]at h
 obtain⟨rfl,rfl⟩:=h
 rename_i b d hm
 have hlt:i<els.length:=(List.getElem?_eq_some_iff.1 hel).1
 have hxv:=AK hv hx
 obtain⟨bk,n,c,hmid,hpx⟩:=hxv.elt_inv
 have hyv:=C7 hr hal (AK hv hy) hs
 refine Does.frozen (ids:=Ak yv) ?_
 have hr':=BW (Ak yv) hr
 generalize H.freeze (Ak yv)=H1 at hr' hg hyv |-
 obtain⟨h1,h2,h3,h4⟩:=Up hyv hm
 obtain⟨l,xs,hml,hrow,hown,hsz,hd,hnb⟩:=hr'.objs _ _ hg
 obtain⟨hp1,hp2⟩:=QD (hsz _ _ hel) h1 hsize
 rw[hmid]at hml
 simp only[oI]at hml
 subst hml
 rcases hown.2 with⟨h0,_⟩|⟨g,cap,cur,hlv,_,hh,hn,hcap,hcs,htake⟩
 ·simp[Loc.val]at h0
 ·simp only[Loc.val,Value.slice.injEq,oI,Addr.mk.injEq]at hlv
  obtain⟨⟨rfl,_,_⟩,rfl,rfl⟩:=hlv
  have hmul:(i+1)*s<=els.length*s:=Nat.mul_le_mul_right _ hlt
  have hmul2:els.length*s<=c*s:=Nat.mul_le_mul_right _ hn
  rw[Nat.add_mul,Nat.one_mul]at hmul
  have hrun:=Gj (P:=P) (w:=w) (off:=i*s+off) hi hh h2 (by rw[h2,hcs];omega) h3
  have U:=N9 hr' hg rfl (b:=bk) ⟨_,hmid,rfl⟩ (ob := .row false (nw&&b) ver e s (els.set i (Ka s off ti.size el d))) (λ_ h=>h) (Nat.le_refl _) (Fc cur.toList (i*s+off) (a.eval y).cells.toList).toArray
  have S:=U.step hr'
  have hul:(a.eval y).cells.toList.length=ti.size:=by simpa using h2
  have hxl:xs.length=els.length*s:=hown.1
  refine⟨undef,_,m,.inr ⟨?_,rfl⟩,S,U.hr hr' hN ?_,.any _,U.keep hr' hN⟩
  ·simp only[execOp,ho,hpx]
   simp[Instr.storeAt,Instr.sureAddr,hrun]
  ·refine⟨.row bk els.length c,Fc xs (i*s+off) (a.eval y).cells.toList,hmid,rfl,⟨by rw[EE _ _ _ (by omega),List.length_set];exact hxl,.inr ⟨bk,c,_,by simp[Loc.val],Nat.zero_le _,setRow_heap w bk cur _ e (0,0) hh,by simpa using hn,hcap,?_,?_⟩⟩,?_,?_,?_⟩
   ·simp only[List.size_toArray]
    rw[EE _ _ _ (by simp;omega)];simpa using hcs
   ·rw[List.length_set]
    refine List.ext_getElem? λk=>?_
    rw[List.getElem?_take]
    rw[C4 xs (a.eval y).cells.toList (i*s+off) k (by rw[hul,hxl];omega)]
    by_cases hk:k<els.length*s
    ·rw[if_pos hk]
     rw[C4 _ _ _ _ (by simp;omega)]
     split
     ·rfl
     ·rw[<-htake,List.getElem?_take,if_pos hk]
    ·rw[if_neg hk,if_neg (by omega),List.getElem?_eq_none (by omega)]
   ·intro k x hx
    rcases Pe hx with⟨rfl,rfl⟩|⟨_,hx⟩
    ·exact hp1
    ·exact hsz k x hx
   ·intro k x j y' u hx hy' hu
    have hjs:j<s:=by
     rcases Pe hx with⟨rfl,rfl⟩|⟨_,hx⟩
     ·rw[<-hp1];exact(List.getElem?_eq_some_iff.1 hy').1
     ·rw[<-hsz k x hx];exact(List.getElem?_eq_some_iff.1 hy').1
    rw[C4 xs _ _ _ (by rw[hul,hxl];omega),hul]at hu
    rcases Pe hx with⟨rfl,rfl⟩|⟨hik,hx⟩
    ·rw[hp2]at hy'
     by_cases hj:off<=j/\j<off+ti.size
     ·rw[if_pos (by omega),show k*s+j-(k*s+off)=j-off by omega]at hu
      rw[if_pos hj]at hy'
      exact HV (.inr ((h4 _ y' u hy' hu).mono S.size (S.ok b)))
     ·rw[if_neg (by omega)]at hu
      rw[if_neg hj]at hy'
      exact HV (.inl ((hd k el j y' u hel hy' hu).mono S.size (S.ok nw)))
    ·rw[if_neg]at hu
     ·exact HV (.inl ((hd k x j y' u hx hy' hu).mono S.size (S.ok nw)))
     ·rintro⟨ha,hb'⟩
      have:k=i:=by
       rcases Nat.lt_trichotomy k i with h|h|h;·have:(k+1)*s<=i*s:=Nat.mul_le_mul_right _ h;rw[Nat.add_mul,Nat.one_mul]at this;omega
       ·exact h
       ·have:(i+1)*s<=k*s:=Nat.mul_le_mul_right _ h;rw[Nat.add_mul,Nat.one_mul]at this;omega
      exact hik this
   ·intro hnw
    simp only[Bool.and_eq_true]at hnw
    exact hnb hnw.1
end
end Go.Mir
