import Derived.Shelf.Abstract
import Derived.WalkKit
import Derived.Laws.CopyOwn
import Derived.Laws.Tables
import Derived.Tactics
import Derived.Tactics2
import Derived.Deep.OwnRows
import Derived.KernelRfl
import Derived.OwnWalkIn
import Derived.Test.YtegndijbpiccgaaGreatDoorR5Call
import Derived.Test.YtegndijbpiccgaaGreatDoorR5Eg
import Derived.Test.YtegndijbpiccgaaGreatDoorR5Scan
namespace Go.Proofs.YtegndijbpiccgaaGreatDoor.M
set_option linter.unusedVariables false
set_option linter.unusedSimpArgs false
open Go Go.RowKit Go.Shelf Go.Proofs
attribute [local go_sem] Oper.semAt_some
def BoxK (W:World)(B:Nat)(t:TypeId)(cs:Array Value):Prop:=W.heap[B]?=some (.cells cs t (0,0))
theorem BoxK.cell {W:World}{B:Nat}{t:TypeId}{cs:Array Value}(h:BoxK W B t cs)(i:Nat):W.cell? ⟨B,i,none⟩=cs[i]?:=by simp[World.cell?,show W.heap[B]?=_ from h]
theorem BoxK.frozen {W:World}{B:Nat}{t:TypeId}{cs:Array Value}(h:BoxK W B t cs)(i:Nat):W.frozen? ⟨B,i,none⟩=false:=by simp[World.frozen?,show W.heap[B]?=_ from h]
theorem BoxK.lt {W:World}{B:Nat}{t:TypeId}{cs:Array Value}(h:BoxK W B t cs):B<W.heap.size:=(Array.getElem?_eq_some_iff.1 h).1
theorem BoxK.new (W:World)(t:TypeId)(cs:Array Value):BoxK (W.alloc (.cells cs t)) W.heap.size t cs:=by unfold BoxK;show(W.heap.push _)[W.heap.size]?=_;exact Array.getElem?_push_size
theorem BoxK.below {n₀:Nat}{W W':World}{B:Nat}{t:TypeId}{cs:Array Value}(h:BoxK W B t cs)(hb:Below n₀ W W')(hB:B<n₀):BoxK W' B t cs:=(hb.block B hB).trans h
theorem BoxK.alloc {W:World}{B:Nat}{t:TypeId}{cs:Array Value}(h:BoxK W B t cs)(o:Obj):BoxK (W.alloc o) B t cs:=h.below (n₀:=W.heap.size) ((Below.refl _ W).alloc (Nat.le_refl _) _) h.lt
theorem BoxK.set {W:World}{B:Nat}{t:TypeId}{cs:Array Value}(h:BoxK W B t cs)(i:Nat)(v:Value):BoxK (W.setCell ⟨B,i,none⟩ v) B t (cs.set! i v):=heap_setCell_same W B i cs t v h
theorem BoxK.other {W:World}{B:Nat}{t:TypeId}{cs:Array Value}(h:BoxK W B t cs){a:Addr}(hn:B≠a.block)(v:Value):BoxK (W.setCell a v) B t cs:=(Below.heap_setCell W a v B hn).trans h
theorem zH:(Tryz.prog.info? 4).map (λi=>(i.zero,i.size,i.bytes))=some (some (.bool false),1,1):=by kernel_rfl
theorem wR:(Tryz.prog.info? 4).map (·.size)=some 1:=by kernel_rfl
def W2 (w:World)(vb vn:Value):World:=(w.alloc (.cells #[vb,vn] 38)).alloc (.cells #[.slice none 0 0,.slice none 0 0] 38)
theorem GX (w:World)(vb vn:Value):Below w.heap.size w (W2 w vb vn):=((Below.refl _ w).alloc (Nat.le_refl _) _).alloc (by simp) _
theorem Oh (w:World)(vb vn:Value):(W2 w vb vn).heap.size=w.heap.size+2:=by simp[W2]
theorem PJ {w w':World}{vb vn:Value}(h:Below (W2 w vb vn).heap.size (W2 w vb vn) w'):BoxK w' w.heap.size 38 #[vb,vn]/\BoxK w' (w.heap.size+1) 38 #[.slice none 0 0,.slice none 0 0]:=by have hs:=Oh w vb vn;have g1:=(BoxK.new w 38 #[vb,vn]).alloc (.cells #[.slice none 0 0,.slice none 0 0] 38);have g2:=BoxK.new (w.alloc (.cells #[vb,vn] 38)) 38 #[.slice none 0 0,.slice none 0 0];simp only[World.size_alloc]at g2;exact⟨g1.below h (by omega),g2.below h (by omega)⟩
set_option maxRecDepth 100000 in
set_option maxHeartbeats 4000000 in
theorem XY (vb vn:Value)(w:World)
   (hck:∀W,Below w.heap.size w W->Calls Tryz.prog 75 #[.agg #[vb,vn]] W λe W'=>e = .returned (.bool false)/\Below W.heap.size W W'):
   Calls Tryz.prog 63 #[.agg #[vb,vn]] w λe w'=>e = .returned (.tuple #[.agg #[.slice none 0 0,.slice none 0 0],.int .i64 1])/\Below w.heap.size w w':=by
 go_enter Tryz.func63,Tryz.ntmps63
 go_wp2_with (go_at_call 75;refine(hck _ (GX w vb vn)).mono ?_;rintro e w' ⟨rfl,hb1⟩;obtain⟨q0,q1⟩:=PJ hb1;have c0:=q1.cell 0;have c1:=q1.cell 1;have f0:=q1.frozen 0;have f1:=q1.frozen 1)
 refine⟨rfl,.tuple #[.agg #[.slice none 0 0,.slice none 0 0],.int .i64 1],?_,rfl,?_⟩
 ·have r1:=(q1.set 0 (.slice none 0 0)).set 1 (.slice none 0 0)
  have z0:=r1.cell 0
  have z1:=r1.cell 1
  simp[results,Tryz.f63,go_sem,z0,z1]
 ·exact((((GX w vb vn).trans (hb1.mono (by rw[Oh];omega))).setCell (p:=⟨w.heap.size+1,0,none⟩) (by show _<=_;simp) _).setCell (p:=⟨w.heap.size+1,1,none⟩) (by show _<=_;simp) _)
theorem AAX (w':World)(b off c:Nat)(cs:List Value)(hb:b<w'.heap.size)(hcs:∀j v,cs[j]?=some v->w'.cell? ⟨b,off+j,none⟩=some v)(h1:∀v∈cs,v.oneCell'=true):
  ∃W3,(Builtin.copy_ #[36,36] 3 #[.slice (some ⟨w'.heap.size,0,none⟩) cs.length cs.length,.slice (some ⟨b,off,none⟩) cs.length c]).run Tryz.prog (w'.alloc (.cells (madeCells #[.bool false] cs.length) 4)) = .ok (goInt cs.length) W3 /\
   BoxK W3 w'.heap.size 4 cs.toArray/\Below w'.heap.size w' W3/\W3.heap.size=w'.heap.size+1:=by
 have hg:=BoxK.new w' 4 (madeCells #[.bool false] cs.length)
 have hs:(madeCells #[Value.bool false] cs.length).size=cs.length:=size_madeCells _ _
 have hb2:Below w'.heap.size w' (w'.alloc (.cells (madeCells #[.bool false] cs.length) 4)):=(Below.refl _ w').alloc (Nat.le_refl _) _
 have hrun:=run_copy_row (P:=Tryz.prog) (w'.alloc (.cells (madeCells #[.bool false] cs.length) 4)) 36 36 3 4 w'.heap.size 0 cs.length cs.length ⟨b,off,none⟩ cs.length c (madeCells #[.bool false] cs.length) 4 cs Tryz.underlying36 wR hg (Nat.min_self _).symm (λj v hj=>by rw[show(⟨b,off,none⟩:Addr).add j=⟨b,off+j,none⟩ by simp[Addr.add]];exact(World.cell?_of_block (w:=w') (hb2.block b hb)).trans (hcs j v hj)) (by rw[hs];omega) h1
 refine⟨_,hrun,?_,hb2.trans (below_setRow (Below.refl _ _) (Nat.le_refl _) _),by simp⟩
 have e:((madeCells #[Value.bool false] cs.length).toList.take 0++cs++(madeCells #[Value.bool false] cs.length).toList.drop (0+cs.length)).toArray=cs.toArray:=by rw[List.drop_eq_nil_of_le (by rw[Array.length_toList,hs];omega)];simp
 rw[e]
 exact setRow_heap _ _ _ _ _ _ hg
set_option maxRecDepth 100000 in
set_option maxHeartbeats 200000 in
theorem cX (vb:Value)(b off c:Nat)(cs:List Value)(w:World)(hn2:cs.length<=4096)(hb:b<w.heap.size)(hcs:∀j v,cs[j]?=some v->w.cell? ⟨b,off+j,none⟩=some v)(h1:∀v∈cs,v.oneCell'=true)
   (hck:∀W,Below w.heap.size w W->Calls Tryz.prog 75 #[.agg #[vb,.slice (some ⟨b,off,none⟩) cs.length c]] W λe W'=>e = .returned (.bool true)/\Below W.heap.size W W'):
   Calls Tryz.prog 63 #[.agg #[vb,.slice (some ⟨b,off,none⟩) cs.length c]] w λe w'=>∃g cp,e = .returned (.tuple #[.agg #[.slice (some ⟨g,0,none⟩) cs.length cp,.slice (some ⟨b,off,none⟩) cs.length c],.int .i64 0])/\cs.length<=cp/\w.heap.size<=g/\(∀j v,cs[j]?=some v->w'.cell? ⟨g,j,none⟩=some v)/\g<w'.heap.size/\Below w.heap.size w w':=by
 have hmk:=run_make_row' (P:=Tryz.prog) 36 4 (.bool false) 1 Tryz.underlying36 zH rfl .i64 .i64 cs.length (by omega) (by omega)
 have hsz:=Oh w vb (.slice (some ⟨b,off,none⟩) cs.length c)
 go_enter Tryz.func63,Tryz.ntmps63
 go_wp2_with (first|(go_at_call 75;refine(hck _ (GX w vb (.slice (some ⟨b,off,none⟩) cs.length c))).mono ?_;rintro e w' ⟨rfl,hb1⟩;obtain⟨q0,q1⟩:=PJ hb1;have d0:=q0.cell 1;have d1:∀o,(w'.alloc o).cell? ⟨w.heap.size,1,none⟩=some (.slice (some ⟨b,off,none⟩) cs.length c):=λo=>(q0.alloc o).cell 1;obtain⟨W3,hcp,hg3,hb3,hs3⟩:=AAX w' b off c cs (by have:=hb1.size;omega) (λj v hj=>(World.cell?_of_block (w:=w) (((GX w vb _).trans (hb1.mono (by omega))).block b hb)).trans (hcs j v hj)) h1;have e0:=q0.below hb3 q0.lt;have e1:=q1.below hb3 q1.lt;have x0:=e0.cell 0;have x1:=e0.cell 1;have y0:=e1.cell 0;have y1:=e1.cell 1;have fx0:=e0.frozen 0;have fy0:=e1.frozen 0;have fy1:=e1.frozen 1))
 refine⟨rfl,.tuple #[.agg #[.slice (some ⟨w'.heap.size,0,none⟩) cs.length cs.length,.slice (some ⟨b,off,none⟩) cs.length c],.int .i64 0],?_,⟨w'.heap.size,cs.length,rfl,Nat.le_refl _,?_,?_,?_,?_⟩⟩
 ·have r1:=(((e1.other (a:=⟨w.heap.size,0,none⟩) (by show _≠w.heap.size;omega) (.slice (some ⟨w'.heap.size,0,none⟩) cs.length cs.length)).set 0 (.slice (some ⟨w'.heap.size,0,none⟩) cs.length cs.length)).set 1 (.slice (some ⟨b,off,none⟩) cs.length c))
  have z0:=r1.cell 0
  have z1:=r1.cell 1
  simp[results,Tryz.f63,go_sem,z0,z1]
 ·have:=hb1.size;omega
 ·intro j v hj
  have hb2:=hb1.size
  have r3:=((hg3.other (a:=⟨w.heap.size,0,none⟩) (by show _≠w.heap.size;omega) (.slice (some ⟨w'.heap.size,0,none⟩) cs.length cs.length)).other (a:=⟨w.heap.size+1,0,none⟩) (by show _≠w.heap.size+1;omega) (.slice (some ⟨w'.heap.size,0,none⟩) cs.length cs.length)).other (a:=⟨w.heap.size+1,1,none⟩) (by show _≠w.heap.size+1;omega) (.slice (some ⟨b,off,none⟩) cs.length c)
  rw[r3.cell j]
  simpa using hj
 ·simp;omega
 ·exact(((((GX w vb _).trans (hb1.mono (by omega))).trans (hb3.mono (by have:=hb1.size;omega))).setCell (p:=⟨w.heap.size,0,none⟩) (by show _<=_;simp) _).setCell (p:=⟨w.heap.size+1,0,none⟩) (by show _<=_;simp) _).setCell (p:=⟨w.heap.size+1,1,none⟩) (by show _<=_;simp) _
open Go.Mir
def Qo:List Mir.D->Option (List Bool)
 | []=>some []
 | .bool b::r=>(Qo r).map (b::·)
 | _=>none
theorem Pp:∀ {l:List Mir.D} {b:List Bool},Qo l=some b->l=Bg b
 | [],b,h=>by simp[Qo]at h;subst h;rfl
 | x::r,b,h=>by
  unfold Qo at h;split at h;·rename_i e;cases e
  ·rename_i x' r' e;cases e;simp only[Option.map_eq_some_iff]at h;obtain⟨c,hc,rfl⟩:=h;rw[Pp hc];rfl
  ·cases h
theorem TQ:∀b:List Bool,Qo (Bg b)=some b
 | []=>rfl
 | x::r=>by show(Qo (Bg r)).map (x::·)=_;rw[TQ r];rfl
def aRB (a b:List Bool):Bool:=decide (a.length=b.length)&&decide (24<=b.length)&&decide (b.length<=2048)&&(List.range 10).all λj=>tr a j&&tr b j
theorem aRB_iff {a b:List Bool}:aRB a b=true ↔ Ce a b:=by simp only[aRB,Ce,Bool.and_eq_true,decide_eq_true_eq,List.all_eq_true,List.mem_range,and_assoc]
def Rm (a b:List Bool):AV:=if aRB a b=true then .tup [.agg [aL (Bg b),aL (Bg b)],aI 0] else .tup [sN,aI 1]
def Jw:List AV->Heap->Option (AV×Heap)
 | [.agg [.o (.sl 1 l),.o (.sl 1 m)]],H=>match Qo l,Qo m with
   | some a,some b=>if a.length<=9223372036854775807/\b.length<=9223372036854775807 then some (Rm a b,H) else none
   | _,_=>none
 | _,_=>none
theorem R1 {G:Nat->Option Fun}(hf:G 63=some (.prim none Jw))(a b:List Bool)(ha:Small a.length)(hb:Small b.length):Runs G 63 [Kt a b] [] (Rm a b) []:=by
 refine⟨1,λk hk=>?_⟩;obtain⟨k,rfl⟩:∃j,k=j+1:=⟨k-1,by omega⟩
 simp only[run,hf,Kt,Jw,TQ];rw[if_pos (by omega)]
theorem dN {w:World}{ok:Nat->Prop}{b:List Bool}{v:Value}(h:DR w ok (.sl 1 (Bg b)) v)(hn:b≠[]):∃blk off c,v = .slice (some ⟨blk,off,none⟩) b.length c/\blk<w.heap.size/\∀j v,(b.map Value.bool)[j]?=some v->w.cell? ⟨blk,off+j,none⟩=some v:=by
 generalize hl:Bg b=l at h
 cases h with
 | sl0=>exact absurd (List.map_eq_nil_iff.1 hl) hn
 | sle=>exact absurd (List.map_eq_nil_iff.1 hl) hn
 | sl _ _ blk off c vs hb hs hc hsz hv hd=>
  subst hl;refine⟨blk,off,c,by rw[AH],hs,λj v hj=>?_⟩;have hjl:j<b.length:=by have:=(List.getElem?_eq_some_iff.1 hj).1;simpa using this
  have hq:v = .bool b[j]:=by simpa[hjl] using hj.symm
  subst hq;have h1:=hv j _ 0 (.bool b[j]) (Cg hjl) rfl;have h2:=hd j _ 0 (.bool b[j]) (Cg hjl) rfl;generalize vs j 0=u at h1 h2;cases h2;simpa using h1
theorem VN:D2 Tryz.prog 63 (.prim none Jw):=by
 refine⟨enters_of Tryz.func63 (by kernel_rfl) rfl,λargs H r H' h=>?_⟩;unfold Jw at h;split at h<;>try (cases h;done)
 rename_i l m;split at h<;>try (cases h;done)
 rename_i a b ha hb;split at h<;>simp only[oI,pI,reduceCtorEq]at h;rename_i hfit;obtain⟨rfl,rfl⟩:=h;obtain rfl:=Pp ha;obtain rfl:=Pp hb;intro w al m vs hr hal hc;obtain⟨u,rfl⟩:∃u,vs=[u]:=by
  match vs,hc with
  | [u],_=>exact⟨u,rfl⟩
  | [],h=>exact absurd h.1 (by simp)
  | _::_::_,h=>exact absurd h.1 (by simp)
 have hu:=hc.2 0 _ u rfl rfl;obtain⟨us,hul,hus,rfl⟩:=hu.agg_inv;obtain⟨vb,vn,rfl⟩:∃vb vn,us=[vb,vn]:=by
  match us,hul with
  | [x,y],_=>exact⟨x,y,rfl⟩
 have hvb:=hus 0 _ vb rfl rfl;have hvn:=hus 1 _ vn rfl rfl
 cases hvb with
 | o _ _ hdb=>
  cases hvn with
  | o _ _ hdn=>
   have hck:∀W,Below w.heap.size w W->Calls Tryz.prog 75 #[.agg #[vb,vn]] W λe W'=>e = .returned (.bool (decide (Ce a b)))/\Below W.heap.size W W':=λW hW=>by
    have h1:DR W ((⟨W.heap.size,λ_=>True⟩:Cx).okm (λ_=>False)) (.sl 1 (Bg a)) vb:=hdb.mono hW.size λk _ hk=>⟨⟨.inl trivial,λh=>h⟩,hW.block k hk⟩
    have h2:DR W ((⟨W.heap.size,λ_=>True⟩:Cx).okm (λ_=>False)) (.sl 1 (Bg b)) vn:=hdn.mono hW.size λk _ hk=>⟨⟨.inl trivial,λh=>h⟩,hW.block k hk⟩
    have hcells:Cells W ⟨W.heap.size,λ_=>True⟩ (λ_=>False) (λ_ _=>none) [Kt a b] [.agg #[vb,vn]]:=
      cells_cons (.agg _ [vb,vn] rfl λj c v hc hv=>by
       match j with
       | 0=>simp only[List.getElem?_cons_zero,oI]at hc hv;subst hc;subst hv;exact .o _ _ h1
       | 1=>simp only[List.getElem?_cons_succ,List.getElem?_cons_zero,oI]at hc hv;subst hc;subst hv;exact .o _ _ h2
       | j+2=>simp at hc) cells_nil
    refine(calls_of_runs QR (p75 a b (by omega) (by omega)) hcells).mono λe W' ⟨u,he,hu,hbl⟩=>?_
    cases hu with
    | n _ _ hd=>cases hd;exact⟨he,hbl⟩
   have fin:∀ {w':World} {u:Value} {r:AV},Below w.heap.size w w'->VR w' ⟨w.heap.size,al⟩ (owned H m) m r u ->
       ∃u' m',Ending.returned u = .returned u'/\((∀i v l,m i v=some l->m' i v=some l)/\∀i v l b,m' i v=some l->l.block=some b->b<w.heap.size->∃v' l',m i v'=some l'/\l'.block=some b)/\HR w' ⟨w.heap.size,al⟩ (owned H m) m' H/\VR w' ⟨w.heap.size,al⟩ (owned H m') m' r u' /\
       Keep w.heap.size (owned H m) w w'/\∀i,(H.get i).isSome=true->(H.get i).isSome=true:=λ{w' u r} hb hv=>
     ⟨u,m,rfl,⟨λ_ _ _ h=>h,λi v l b h1 h2 _=>⟨v,l,h1,h2⟩⟩,(Py hr hb.size λb h=>hb.block b h).2,hv,⟨hb.os,hb.tape,hb.output,hb.size,λb h _=>hb.block b h⟩,λ_ h=>h⟩
   by_cases hA:Ce a b
   ·rw[decide_eq_true hA]at hck;have hbn:b≠[]:=λe=>by have:=hA.2.1;rw[e]at this;simp at this
    obtain⟨blk,off,c,rfl,hblk,hcell⟩:=dN hdn hbn;have hlen:(b.map Value.bool).length=b.length:=by simp
    have hck':=hck;rw[<-hlen]at hck';have hw:=cX vb blk off c (b.map Value.bool) w (by rw[hlen];have:=hA.2.2.1;omega) hblk hcell (λv hv=>by obtain⟨x,_,rfl⟩:=List.mem_map.1 hv;rfl) hck';rw[hlen]at hw;refine hw.mono λe w' ⟨g,cp,he,hcp,hg,hgc,hgs,hbl⟩=>?_;subst he;rw[Rm,if_pos (aRB_iff.2 hA)];refine fin hbl (.tup _ [.agg #[.slice (some ⟨g,0,none⟩) b.length cp,.slice (some ⟨blk,off,none⟩) b.length c],.int .i64 0] rfl λj x v hx hv=>?_);have hng:¬owned H m g:=by
     rintro⟨id,o,h1,h2,h3⟩;have:g<w.heap.size:=by
      cases o with
      | box cs=>exact(hr.lt _ _ _ _ h3 rfl).1
      | row fz nw ver e sz els=>obtain⟨l,h4,h5⟩:=h3;exact(hr.lt _ _ _ _ h4 h5).1
     omega
    match j with
    | 0=>
     simp only[List.getElem?_cons_zero,oI]at hx hv;subst hx;subst hv;refine .agg _ [.slice (some ⟨g,0,none⟩) b.length cp,.slice (some ⟨blk,off,none⟩) b.length c] rfl λj x v hx hv=>?_
     match j with
     | 0=>
      simp only[List.getElem?_cons_zero,oI]at hx hv;subst hx;subst hv;have hd:=DR.sl (w:=w') (ok:=(⟨w.heap.size,al⟩:Cx).okm (owned H m)) 1 (Bg b) g 0 cp (λi _ => .bool (tr b i)) ⟨.inr hg,hng⟩ hgs (by rw[AH];exact hcp)
        (λi x hx=>by obtain⟨y,_,rfl⟩:=List.mem_map.1 (List.mem_of_getElem? hx);rfl)
        (λi x j y hx hy=>by
         have hi:i<b.length:=by have:=(List.getElem?_eq_some_iff.1 hx).1;rwa [AH]at this
         rw[Cg hi]at hx;obtain rfl:=Option.some.inj hx;have hj:j=0:=by have:=(List.getElem?_eq_some_iff.1 hy).1;simp[D.cells]at this;exact this
         subst hj;have:=hgc i (.bool b[i]) (by simp[hi]);rw[DN hi];simpa using this)
        (λi x j y hx hy=>by
         have hi:i<b.length:=by have:=(List.getElem?_eq_some_iff.1 hx).1;rwa [AH]at this
         rw[Cg hi]at hx;obtain rfl:=Option.some.inj hx;have hj:j=0:=by have:=(List.getElem?_eq_some_iff.1 hy).1;simp[D.cells]at this;exact this
         subst hj;have:y = .bool b[i]:=by simpa[D.cells] using hy.symm
         subst this;rw[DN hi];exact .bool _)
      rw[AH]at hd;exact .o _ _ hd
     | 1=> simp only[List.getElem?_cons_succ,List.getElem?_cons_zero,oI]at hx hv;subst hx;subst hv;exact .o _ _ (hdn.mono hbl.size λk hk hlt=>⟨hk,hbl.block k hlt⟩)
     | j+2=>simp at hx
    | 1=> simp only[List.getElem?_cons_succ,List.getElem?_cons_zero,oI]at hx hv;subst hx;subst hv;exact .n _ _ (.int _ _)
    | j+2=>simp at hx
   ·rw[decide_eq_false hA]at hck;refine(XY vb vn w hck).mono λe w' ⟨he,hbl⟩=>?_;subst he;rw[Rm,if_neg (λh=>hA (aRB_iff.1 h))];refine fin hbl (.tup _ [.agg #[.slice none 0 0,.slice none 0 0],.int .i64 1] rfl λj x v hx hv=>?_)
    match j with
    | 0=>
     simp only[List.getElem?_cons_zero,oI]at hx hv;subst hx;subst hv;refine .agg _ [.slice none 0 0,.slice none 0 0] rfl λj x v hx hv=>?_
     match j with
     | 0=>simp only[List.getElem?_cons_zero,oI]at hx hv;subst hx;subst hv;exact .o _ _ (.sl0 1)
     | 1=>simp only[List.getElem?_cons_succ,List.getElem?_cons_zero,oI]at hx hv;subst hx;subst hv;exact .o _ _ (.sl0 1)
     | j+2=>simp at hx
    | 1=> simp only[List.getElem?_cons_succ,List.getElem?_cons_zero,oI]at hx hv;subst hx;subst hv;exact .n _ _ (.int _ _)
    | j+2=>simp at hx
end Go.Proofs.YtegndijbpiccgaaGreatDoor.M
namespace Go.Proofs.YtegndijbpiccgaaGreatDoor.M
set_option linter.unusedVariables false
set_option linter.unusedSimpArgs false
open Go Go.Mir Go.Proofs
def MK:List Nat:=[1000031,1000105,1000035,1000074]
noncomputable def b35:=bO Tryz.prog Tryz.f35.body MK 35 [] []
noncomputable def c35:FnC:=⟨35,14,[.cell 2 (some 2),.tmp 3],b35,true,[.one (.int .i64)],.tup [.agg [.slo 1,.slo 2],.one (.int .i64)],none,false,[(.tup [.agg [.row 3500301,.slo 2],.one (.int .i64)],[.row 3500301 9 1 true]),(.tup [.agg [.slo 1,.slo 2],.one (.int .i64)],[])]⟩
theorem AFh:IsFn Tryz.prog 35 c35:=A0 Tryz.func35 rfl rfl
noncomputable def b37:=bO Tryz.prog Tryz.f37.body MK 37 [] [(3,[.keepF 37,.keep 3,.keep 11,.keep 12,.slot 13 (.one (.int .i64)),.row 3700104 5 1 true])]
noncomputable def c37:FnC:=⟨37,32,[.tmp 2],b37,false,[.one (.slo 1)],.val (.one .str),none,false,[]⟩
theorem AD4:IsFn Tryz.prog 37 c37:=A0 Tryz.func37 rfl rfl
noncomputable def b91:=bO Tryz.prog Tryz.f91.body MK 91 [] [(7,[.keepF 91,.keep 0,.keep 6,.keep 25,.slot 26 (.one (.int .i64)),.row 9100501 4 1 true])]
noncomputable def c91:FnC:=⟨91,47,[.tmp 4,.tmp 5],b91,false,[.one .str,.one (.int .i64)],.tup [.one (.slo 1),.one (.int .i64)],none,false,[]⟩
theorem AGU:IsFn Tryz.prog 91 c91:=A0 Tryz.func91 rfl rfl
noncomputable def b33:=bO Tryz.prog Tryz.f33.body MK 33 [] [(5,[.keepF 33,.keep 2,.keep 4,.slot 15 (.one (.int .i64)),.keepO 3300000,.row 3300301 4 1 true])]
noncomputable def c33:FnC:=⟨33,26,[.cell 2 (some 2),.tmp 3],b33,false,[.one (.int .i64)],.tup [.agg [.slo 1,.slo 1],.one (.int .i64)],none,false,[]⟩
theorem ADq:IsFn Tryz.prog 33 c33:=A0 Tryz.func33 rfl rfl
noncomputable def ACr:=bO Tryz.prog Tryz.f141.body MK 141 [] [(4,[.keepF 141,.keep 0,.keep 1,.keep 12,.slot 13 (.one (.int .i64))])]
noncomputable def c141:FnC:=⟨141,26,[.tmp 4],ACr,false,[.one (.slo 1),.one (.slo 1)],.val (.one .bool),none,false,[]⟩
theorem AAP:IsFn Tryz.prog 141 c141:=A0 Tryz.func141 rfl rfl
noncomputable def b98:=bO Tryz.prog Tryz.f98.body MK 98 [] []
noncomputable def c98:FnC:=⟨98,17,[.tmp 4],b98,false,[.agg [.slo 1,.slo 1],.agg [.slo 1,.slo 1]],.val (.one .bool),none,false,[]⟩
theorem AFw:IsFn Tryz.prog 98 c98:=A0 Tryz.func98 rfl rfl
noncomputable def b49:=bO Tryz.prog Tryz.f49.body MK 49 [] [(4,[.keepF 49,.keep 2,.keep 3,.keep 47,.slot 48 (.one (.int .i64)),.keepO 4900000,.keepO 4900001])]
noncomputable def c49:FnC:=⟨49,63,[.tmp 4],b49,false,[.agg [.slo 1,.slo 1,.slo 1,.int .i64,.int .i64],.agg [.slo 1,.slo 1,.slo 1,.int .i64,.int .i64]],.val (.one .bool),none,false,[]⟩
theorem AF9:IsFn Tryz.prog 49 c49:=A0 Tryz.func49 rfl rfl
noncomputable def b11:=bO Tryz.prog Tryz.f11.body MK 11 [] []
noncomputable def c11:FnC:=⟨11,68,[.cell 2 (some 2),.tmp 3],b11,false,[.one (.int .i64)],.tup [.agg [.slo 1,.slo 2],.one (.int .i64)],none,false,[]⟩
theorem AGT:IsFn Tryz.prog 11 c11:=A0 Tryz.func11 rfl rfl
noncomputable def b43:=bO Tryz.prog Tryz.f43.body MK 43 [] []
noncomputable def c43:FnC:=⟨43,40,[.tmp 4,.tmp 5],b43,false,[.agg [.slo 1,.slo 2],.agg [.int .i64,.int .i64,.int .i64,.int .i64]],.tup [.one (.slo 1),.one .bool],none,false,[]⟩
theorem ADY:IsFn Tryz.prog 43 c43:=A0 Tryz.func43 rfl rfl
noncomputable def b16:=bO Tryz.prog Tryz.f16.body MK 16 [] [(13,[.keepF 16,.keep 1,.keep 2,.keep 4,.keep 5,.keep 9,.keep 81,.keep 82,.slot 83 (.one (.int .i64)),.keepO 1600000,.keepO 1600001,.keepO 1600514,.keepO 1601112,.row 1601105 9 1 true])]
noncomputable def c16:FnC:=⟨16,121,[.cell 2 (some 11),.tmp 3],b16,false,[.agg [.slo 1,.slo 2]],.tup [.agg [.int .i64,.int .i64,.int .i64,.int .i64,.int .i64,.slo 1,.slo 1,.slo 1,.int .i64,.int .i64,.slo 1],.one (.int .i64)],none,false,[]⟩
theorem AEH:IsFn Tryz.prog 16 c16:=A0 Tryz.func16 rfl rfl
noncomputable def b26:=bO Tryz.prog Tryz.f26.body MK 26 [] []
noncomputable def c26:FnC:=⟨26,72,[.tmp 4],b26,false,[.agg [.slo 1,.slo 2],.agg [.int .i64,.int .i64,.int .i64,.int .i64,.int .i64,.slo 1,.slo 1,.slo 1,.int .i64,.int .i64,.slo 1]],.val (.one .bool),none,false,[]⟩
theorem AGp:IsFn Tryz.prog 26 c26:=A0 Tryz.func26 rfl rfl
noncomputable def b52:=bO Tryz.prog Tryz.f52.body MK 52 [] []
noncomputable def c52:FnC:=⟨52,12,[.cell 4 (some 2),.tmp 5],b52,false,[.agg [.slo 1,.slo 2]],.tup [.agg [.slo 1,.slo 2],.one (.int .i64)],none,false,[]⟩
theorem ADj:IsFn Tryz.prog 52 c52:=A0 Tryz.func52 rfl rfl
noncomputable def b51:=bO Tryz.prog Tryz.f51.body MK 51 [] []
noncomputable def c51:FnC:=⟨51,33,[.cell 4 (some 3),.tmp 5],b51,false,[.agg [.slo 1,.slo 2,.int .i64],.one .raw],.tup [.agg [.slo 1,.slo 2,.int .i64],.one (.int .i64)],none,false,[]⟩
theorem AGt:IsFn Tryz.prog 51 c51:=A0 Tryz.func51 rfl rfl
noncomputable def b19:=bO Tryz.prog Tryz.f19.body MK 19 [] []
noncomputable def c19:FnC:=⟨19,13,[.cell 6 (some 3),.tmp 7],b19,false,[.agg [.slo 1,.slo 2,.int .i64],.one (.int .i64),.one .str],.tup [.agg [.slo 1,.slo 2,.int .i64],.one (.int .i64)],none,false,[]⟩
theorem AF7:IsFn Tryz.prog 19 c19:=A0 Tryz.func19 rfl rfl
noncomputable def b20:=bO Tryz.prog Tryz.f20.body MK 20 [] []
noncomputable def c20:FnC:=⟨20,8,[.cell 2 (some 3),.tmp 3],b20,false,[.agg [.slo 1,.slo 2,.int .i64]],.tup [.agg [.slo 1,.slo 2,.int .i64],.one (.int .i64)],none,false,[]⟩
theorem AEM:IsFn Tryz.prog 20 c20:=A0 Tryz.func20 rfl rfl
noncomputable def b61:=bO Tryz.prog Tryz.f61.body MK 61 [] []
noncomputable def c61:FnC:=⟨61,27,[],b61,false,[.one .raw,.one (.int .i64),.one .str],.tup [],none,true,[]⟩
theorem AGL:IsFn Tryz.prog 61 c61:=A0 Tryz.func61 rfl rfl
noncomputable def b62:=bO Tryz.prog Tryz.f62.body MK 62 [] []
noncomputable def c62:FnC:=⟨62,21,[],b62,false,[.one .raw],.tup [],none,true,[]⟩
theorem AGh:IsFn Tryz.prog 62 c62:=A0 Tryz.func62 rfl rfl
noncomputable def b58:=bO Tryz.prog Tryz.f58.body MK 58 [] []
noncomputable def c58:FnC:=⟨58,8,[.cell 2 (some 3),.cell 3 (some 11),.tmp 4],b58,false,[.one (.int .i64)],.tup [.agg [.slo 1,.slo 2,.int .i64],.agg [.int .i64,.int .i64,.int .i64,.int .i64,.int .i64,.slo 1,.slo 1,.slo 1,.int .i64,.int .i64,.slo 1],.one (.int .i64)],none,false,[]⟩
theorem AGJ:IsFn Tryz.prog 58 c58:=A0 Tryz.func58 rfl rfl
noncomputable def b24:=bO Tryz.prog Tryz.f24.body MK 24 [] [(25,[.keepF 24,.keep 3,.keep 4,.keep 5,.keep 7,.keep 8,.keep 11,.keep 13,.keep 14,.keep 15,.keep 16,.keep 17,.slot 18 (.one (.int .i64)),.keepO 2400001,.keepO 2400002,.keepO 2400003,.keepO 2400202,.keepO 2401010,.keepO 2401909,.box 2402302 [.slo 1,.slo 2,.int .i64,.int .i64]])]
noncomputable def c24:FnC:=⟨24,244,[.cell 4 (some 3),.cell 5 (some 11),.tmp 6],b24,false,[.agg [.slo 1,.slo 2,.int .i64],.agg [.int .i64,.int .i64,.int .i64,.int .i64,.int .i64,.slo 1,.slo 1,.slo 1,.int .i64,.int .i64,.slo 1]],.tup [.agg [.slo 1,.slo 2,.int .i64],.agg [.int .i64,.int .i64,.int .i64,.int .i64,.int .i64,.slo 1,.slo 1,.slo 1,.int .i64,.int .i64,.slo 1],.one (.int .i64)],none,false,[]⟩
theorem AGz:IsFn Tryz.prog 24 c24:=A0 Tryz.func24 rfl rfl
noncomputable def b18:=bO Tryz.prog Tryz.f18.body MK 18 [] []
noncomputable def c18:FnC:=⟨18,31,[.tmp 4],b18,false,[.agg [.int .i64,.int .i64,.int .i64,.int .i64,.int .i64,.slo 1,.slo 1,.slo 1,.int .i64,.int .i64,.slo 1],.agg [.int .i64,.int .i64,.int .i64,.int .i64,.int .i64,.slo 1,.slo 1,.slo 1,.int .i64,.int .i64,.slo 1]],.val (.one .bool),none,false,[]⟩
theorem AFL:IsFn Tryz.prog 18 c18:=A0 Tryz.func18 rfl rfl
noncomputable def b29:=bO Tryz.prog Tryz.f29.body MK 29 [(3,[1,2,3],[2900804],[(185606471,2900805,9,1)],[]),(4,[1,2,3,11,12,13],[2900804],[(185606471,2900805,9,1)],[]),(9,[1,2,3,11,12,13],[2900804],[],[])] [(4,[.keepF 29,.keep 1,.keep 2,.keep 3,.keep 11,.keep 12,.slot 13 (.one (.int .i64)),.keepO 2900000,.keepO 2900001,.box 2900101 [.int .i64,.int .i64,.int .i64,.int .i64,.int .i64,.slo 1,.slo 1,.row 2900805,.int .i64,.int .i64,.slo 1],.row 2900805 9 1 true])]
noncomputable def c29:FnC:=⟨29,49,[.cell 2 (some 11)],b29,false,[.agg [.int .i64,.int .i64,.int .i64,.int .i64,.int .i64,.slo 1,.slo 1,.slo 1,.int .i64,.int .i64,.slo 1]],.val (.agg [.int .i64,.int .i64,.int .i64,.int .i64,.int .i64,.slo 1,.slo 1,.slo 1,.int .i64,.int .i64,.slo 1]),none,false,[]⟩
theorem AEB:IsFn Tryz.prog 29 c29:=A0 Tryz.func29 rfl rfl
noncomputable def b12:=bO Tryz.prog Tryz.f12.body MK 12 [] []
noncomputable def c12:FnC:=⟨12,32,[.tmp 0],b12,false,[],.val (.one .bool),none,false,[]⟩
theorem AG9:IsFn Tryz.prog 12 c12:=A0 Tryz.func12 rfl rfl
noncomputable def ACX:List (Nat×Fun):=[(35,.code c35),(37,.code c37),(91,.code c91),(33,.code c33),(141,.code c141),(98,.code c98),(49,.code c49),(11,.code c11),(43,.code c43),(16,.code c16),(26,.code c26),(52,.code c52),(51,.code c51),(19,.code c19),(20,.code c20),(61,.code c61),(62,.code c62),(58,.code c58),(24,.code c24),(18,.code c18),(29,.code c29),(12,.code c12),(60,.prim none ND),(63,.prim none Jw)]
noncomputable def gU:List (Nat×Fun):=ACX++fM
noncomputable def A5:Nat->Option Fun:=D3 gU
set_option maxRecDepth 100000 in
theorem Xn:Company Tryz.prog A5:=
 .cons AFh<|.cons AD4<|.cons AGU<|.cons ADq<|.cons AAP<|.cons AFw<|.cons AF9<|.cons AGT<|.cons ADY<|.cons AEH<|.cons AGp<|.cons ADj<|.cons AGt<|.cons AF7<|.cons AEM<|.cons AGL<|.cons AGh<|.cons AGJ<|.cons AGz<|.cons AFL<|.cons AEB<|.cons AG9<|.cons (Ya)<|.cons (VN)<|XB
theorem Kf:PL Az A5:=II (by kernel_rfl)
theorem ADO:A5 61=some (.code c61):=rfl
theorem AFn:A5 62=some (.code c62):=rfl
theorem AFH:A5 60=some (.prim none ND):=rfl
theorem AHo:A5 63=some (.prim none Jw):=rfl
end Go.Proofs.YtegndijbpiccgaaGreatDoor.M
namespace Go.Proofs.YtegndijbpiccgaaGreatDoor.M
set_option linter.unusedVariables false
set_option linter.unusedSimpArgs false
open Go Go.Mir
abbrev Ou:=
 D.str Fl
abbrev V6 (a:Int):=
 List.replicate (Int.toNat a) Ou
def kR (n:Int)(R:AV->Heap->Prop):Prop:=
 Ae (decide (n<1)) (R (.tup [VY,aI 1]) []) (Ae (decide (n > 2048)) (R (.tup [VY,aI 1]) []) ((0:Int)<=n/\((Int.toNat n*16):Nat)<=140737488355328/\R (.tup [.agg [.row 3500301 0,.o (D.sl 2 [])],aI 0]) [(3500301,.row false true 0 9 1 (V6 n))]))
def AAf:=λa b=>PLift.up (by delta kR Fl V6 VY Ou;exact rfl:kR a b=_)
theorem wZ (n:Int)(R:AV->Heap->Prop):Vc A5 c35.body (Af c35 [aI n]) [] (Nh c35 R)=kR n R:=by kernel_rfl
def V18 (i g y s l:Int)(q o h:LD)(w j:Int)(d:LD)(e r x m t:Int)(f u v:LD)(c k:Int)(p:LD)(R:AV->Prop):Prop:=
 Ae (i==e&&(g==r&&(y==x&&(s==m&&true)))) (Ae (l==t) (∃a:Bool,Runs A5 49 [.agg (AU q o h w j),.agg (AU f u v c k)] [] (aB a) []/\Ae a (∃b:Bool,Runs A5 50 [aL d,aL p] [] (aB b) []/\R (.n (.bool b))) (R (.n (.bool false)))) (R (.n (.bool false)))) (R (.n (.bool false)))
def AGY:=λa b c d e f g h i j k l m n o p q r s t u v w=>PLift.up (by delta V18 AU;exact rfl:V18 a b c d e f g h i j k l m n o p q r s t u v w=_)
theorem AHn l k h s n q g b v m a f r e o t j u d i c p R:Vc A5 c18.body (Af c18 [(.agg [aI l,aI k,aI h,aI s,aI n,aL q,aL g,aL b,aI v,aI m,aL a]),(.agg [aI f,aI r,aI e,aI o,aI t,aL j,aL u,aL d,aI i,aI c,aL p])]) [] (Av c18 R)=V18 l k h s n q g b v m a f r e o t j u d i c p R:=by kernel_rfl
abbrev LV:=
 Int×Int×Int×Int×Int×LD×LD×Nat×Int×Int×LD×Unit
abbrev Bv (g h a b j:Int)(f k d:LD)(e i:Int)(c:LD):List AV:=
 [aI g,aI h,aI a,aI b,aI j,aL f,aL k,aL d,aI e,aI i,aL c]
abbrev HZ:List AV:=
 [aI 0,aI 0,aI 0,aI 0,aI 0,.n D.nil,.n D.nil,.n D.nil,aI 0,aI 0,.n D.nil]
abbrev mR (a:LV):=
 hB 2900101 [aI a.1,aI a.2.1,aI a.2.2.1,aI a.2.2.2.1,aI a.2.2.2.2.1,aL a.2.2.2.2.2.1,aL a.2.2.2.2.2.2.1,.row 2900805 (a.2.2.2.2.2.2.2.1+1),aI a.2.2.2.2.2.2.2.2.1,aI a.2.2.2.2.2.2.2.2.2.1,aL a.2.2.2.2.2.2.2.2.2.2.1]
abbrev oB (b:(Nat×LD))(a:LV)(c:LD)(f n k o h:Int)(i l:LD)(g m:Int)(j:LD)(p:(Int->(LV->((Nat×LD)->Prop))))(d:Int)(e:(Int->(LV->((Nat×LD)->Nat)))):=
 rn 0/\(rn 1\/@Eq LD [Ou] [])/\((((Prod.fst b):Nat)=a.2.2.2.2.2.2.2.1/\rn 9)/\rn 1)/\(((List.length (Prod.snd b)+List.length [Ou])*16):Nat)<=140737488355328/\rq (.ptr 2900000 0)/\rq (.ptr 2900001 0)/\rq (.ptr 2900101 0)/\rq (aL c)/\GW c/\rh [hB 2900000 (Bv f n k o h i l c g m j),hB 2900001 HZ,mR a,(2900805,.row false true (a.2.2.2.2.2.2.2.1+1) 9 1 (Prod.snd b++[Ou]))]/\p (w6 (d+1)) (a.1,a.2.1,a.2.2.1,a.2.2.2.1,a.2.2.2.2.1,a.2.2.2.2.2.1,a.2.2.2.2.2.2.1,a.2.2.2.2.2.2.2.1+1,a.2.2.2.2.2.2.2.2.1,a.2.2.2.2.2.2.2.2.2.1,a.2.2.2.2.2.2.2.2.2.2.1,()) (a.2.2.2.2.2.2.2.1+1,Prod.snd b++[Ou])/\((e (w6 (d+1)) (a.1,a.2.1,a.2.2.1,a.2.2.2.1,a.2.2.2.2.1,a.2.2.2.2.2.1,a.2.2.2.2.2.2.1,a.2.2.2.2.2.2.2.1+1,a.2.2.2.2.2.2.2.2.1,a.2.2.2.2.2.2.2.2.2.1,a.2.2.2.2.2.2.2.2.2.2.1,()) (a.2.2.2.2.2.2.2.1+1,Prod.snd b++[Ou])):Nat)<e d a b
abbrev pJ (c:Int)(b:(Nat×LD))(a:LV)(e:LD)(o k p h i:Int)(m g:LD)(n j:Int)(q:LD)(l:(Int->(LV->((Nat×LD)->Prop))))(f:(Int->(LV->((Nat×LD)->Nat))))(d:bA):=
 Ae (decide (c<10)) (oB b a e o k p h i m g n j q l c f) (rn 0/\Jz d/\((((Prod.fst b):Nat)=a.2.2.2.2.2.2.2.1/\rn 9)/\rn 1)/\Jv b d/\rq (.ptr 2900000 0)/\rq (.ptr 2900001 0)/\rq (.ptr 2900101 0)/\rq (aL e)/\GW e/\rh [hB 2900000 (Bv o k p h i m g e n j q),hB 2900001 HZ,mR a,(2900805,.row false true (a.2.2.2.2.2.2.2.1+1) 9 1 (Cn b d))]/\l (w6 (c+1)) (a.1,a.2.1,a.2.2.1,a.2.2.2.1,a.2.2.2.2.1,a.2.2.2.2.2.1,a.2.2.2.2.2.2.1,a.2.2.2.2.2.2.2.1+1,a.2.2.2.2.2.2.2.2.1,a.2.2.2.2.2.2.2.2.2.1,a.2.2.2.2.2.2.2.2.2.2.1,()) (a.2.2.2.2.2.2.2.1+1,Cn b d)/\((f (w6 (c+1)) (a.1,a.2.1,a.2.2.1,a.2.2.2.1,a.2.2.2.2.1,a.2.2.2.2.2.1,a.2.2.2.2.2.2.1,a.2.2.2.2.2.2.2.1+1,a.2.2.2.2.2.2.2.2.1,a.2.2.2.2.2.2.2.2.2.1,a.2.2.2.2.2.2.2.2.2.2.1,()) (a.2.2.2.2.2.2.2.1+1,Cn b d)):Nat)<f c a b)
def V29 (h e p l j:Int)(k c f:LD)(m i:Int)(d:LD)(R:AV->Prop):Prop:=
 ∃(q:Int->LV->Nat×LD->Prop)(s:Int->LV->Nat×LD->Nat),(rh [hB 2900000 (Bv h e p l j k c f m i d),hB 2900001 HZ,hB 2900101 [aI h,aI e,aI p,aI l,aI j,aL k,aL c,.row 2900805 0,aI m,aI i,aL d],(2900805,.row false true 0 9 1 [])]/\q 0 (h,e,p,l,j,k,c,0,m,i,d,()) (0,[]))/\∀(b:Int)(a:LV)(g:Nat×LD),q b a g->∀w:Nat->AV,Ae (BK b f) (rn 1/\(0:Int)<=b/\∃u:D,AW f b u/\∃r:bA,Ci u r/\Ae (BK b c) (rn 1/\(0:Int)<=b/\∃t:D,AW c b t/\∃v:Bool,Dt t v/\Ae (Bool.not v) (oB g a f h e p l j k c m i d q b s) (pJ b g a f h e p l j k c m i d q s r)) (pJ b g a f h e p l j k c m i d q s r)) (Prod.fst g=a.2.2.2.2.2.2.2.1/\R (.agg [aI a.1,aI a.2.1,aI a.2.2.1,aI a.2.2.2.1,aI a.2.2.2.2.1,aL a.2.2.2.2.2.1,aL a.2.2.2.2.2.2.1,aL (Prod.snd g),aI a.2.2.2.2.2.2.2.2.1,aI a.2.2.2.2.2.2.2.2.2.1,aL a.2.2.2.2.2.2.2.2.2.2.1]))
def AGN:=λa b c d e f g h i j k l=>PLift.up (by delta V29 GW mR HZ Fl oB Cn Bv Ou Ci Dt LV Jv AW pJ Jz BK;exact rfl:V29 a b c d e f g h i j k l=_)
theorem AFZ g e k d a b j f i h c R:Vc A5 c29.body (Af c29 [(.agg [aI g,aI e,aI k,aI d,aI a,aL b,aL j,aL f,aI i,aI h,aL c])]) [] (Av c29 R)=V29 g e k d a b j f i h c R:=by kernel_rfl
def V12 (R:AV->Prop):Prop:=
 ∃(f g:LD)(a:Int),Runs A5 11 [aI 24] [] (.tup [Es f g,aI a]) []/\∃(b e h c j:Int)(k p o:LD)(m l:Int)(i:LD)(d:Int),Runs A5 16 [Es f g] [] (.tup [.agg (Bv b e h c j k p o m l i),aI d]) []/\Ae (a==0) (Ae (d==0) (Ae (b==1&&(e==0&&(h==10&&(c==24&&true)))) (R (.n (.bool ((i.length:Int)==0)))) (R (.n (.bool false)))) (R (.n (.bool false)))) (R (.n (.bool false)))
def ACz:=λa=>PLift.up (by delta V12 Es Bv Gx;exact rfl:V12 a=_)
theorem AFk R:Vc A5 c12.body (Af c12 []) [] (Av c12 R)=V12  R:=by kernel_rfl
abbrev LB:AV:=
 .agg [aI 0,aI 0,aI 0,aI 0,aI 0,aL [],aL [],aL [],aI 0,aI 0,aL []]
abbrev R3 (a:AV->Prop):=
 a (.tup [LB,aI 120])
abbrev eB (a:LD)(c b:Int):=
 hB 1601112 [aL a,aL a,.row 1601105 0,aI c,F3 b]
abbrev Oe (a:(Nat×LD)):=
 ((Prod.fst a):Nat)=0/\rn 1
abbrev Rj (a:(Nat×LD)):=
 (((0:Nat)=Prod.fst a/\rn 0)/\rn 1)/\rn 1
def V16 (e i:LD)(R:AV->Prop):Prop:=
 ∃v:Bool,Runs A5 41 [Es e i] [] (aB v) []/\Ae (Bool.not v) (R (.tup [LB,aI 1])) (Ae (decide ((i.length:Int) > 0)) (R (.tup [LB,aI 1])) (Ae (decide ((e.length:Int)<24)) (R3 R) (rn 1/\(0:Int)<=0/\∃z:D,(e[Int.toNat 0]?=some z)/\∃j:bA,Ci z j/\rn 1/\(0:Int)<=1/\∃r:D,(e[Int.toNat 1]?=some r)/\∃k:bA,Ci r k/\0=0/\∃(d g h f l A:Int),Runs A5 42 [aL [D.str j,D.str k]] [] (.tup [.agg [aI d,aI g,aI h,aI f],aI l,aI A]) []/\Ae (A != 0) (R3 R) (Ae (f != (e.length:Int)) (R3 R) (Ae (decide (d>=1099511627776)) (R3 R) (∃(c:LD)(u:Bool),Runs A5 43 [Es e i,.agg [aI d,aI g,aI h,aI f]] [] (.tup [aL c,aB u]) []/\Ae (Bool.not u) (R3 R) ((0:Int)<=f/\((Int.toNat f*16):Nat)<=140737488355328/\∃(q:Int->Nat×LD->Prop)(p:Int->Nat×LD->Nat),(rh [hB 1600000 (Gx e i),hB 1600001 HZ,(1600508,.row false true 0 9 1 [D.str j,D.str k]),hB 1600514 [aI d,aI g,aI h,aI f],(1601105,.row false true 0 9 1 (V6 f)),eB c g d]/\q 0 (0,V6 f))/\∀(b:Int)(a:Nat×LD),q b a->∀F:Nat->AV,Ae (BK b c) (rn 1/\(0:Int)<=b/\∃s:D,AW c b s/\∃y:Bool,Dt s y/\Ae y (rn 1/\(0:Int)<=b/\∃x:D,AW e b x/\∃m:bA,Ci x m/\Oe a/\(0:Int)<=b/\MV b a/\Rj a/\Ry b a/\rq (.ptr 1600000 0)/\rq (.ptr 1600001 0)/\rq (.ptr 1600514 0)/\rq (aI l)/\rq (.ptr 1601112 0)/\rq (aL c)/\GW c/\rh [hB 1600000 (Gx e i),hB 1600001 HZ,(1600508,.row false true 0 9 1 [D.str j,D.str k]),hB 1600514 [aI d,aI g,aI h,aI f],(1601105,.row false true (Prod.fst a) 9 1 (VT a b m)),eB c g d]/\q (w6 (b+1)) (Prod.fst a,VT a b m)/\((p (w6 (b+1)) (Prod.fst a,VT a b m)):Nat)<p b a) (rq (.ptr 1600000 0)/\rq (.ptr 1600001 0)/\rq (.ptr 1600514 0)/\rq (aI l)/\rq (.ptr 1601112 0)/\rq (aL c)/\GW c/\rh [hB 1600000 (Gx e i),hB 1600001 HZ,(1600508,.row false true 0 9 1 [D.str j,D.str k]),hB 1600514 [aI d,aI g,aI h,aI f],(1601105,.row false true (Prod.fst a) 9 1 (Prod.snd a)),eB c g d]/\q (w6 (b+1)) (Prod.fst a,Prod.snd a)/\((p (w6 (b+1)) (Prod.fst a,Prod.snd a)):Nat)<p b a)) (Prod.fst a=0/\0=0/\∃(C B E w:Int),Runs A5 44 [.agg [aL c,aL c,aL (Prod.snd a),aI g,F3 d],aL [D.int .i64 h]] [] (.tup [.agg [aI C,aI B,aI E],aI w]) []/\Ae (w != 0) (R3 R) (rn 1/\(0:Int)<=10/\Xf e/\(0:Int)<=2/\(2:Int)<=(((Int.toNat 10):Nat):Int)/\∃t:LD,Runs A5 45 [aI d,aL (List.drop (Int.toNat 2) (List.take (Int.toNat 10) e))] [] (aL t) []/\Prod.fst a=0/\R (.tup [.agg [aI d,aI g,aI h,aI f,aI l,aL c,aL c,aL (Prod.snd a),aI g,K0 d,aL t],aI 0]))))))))))
def AGr:=λa b c=>PLift.up (by delta V16 BK V6 LB eB R3 GW MV HZ VT Fl Ry Ou Ci Dt Rj Oe F3 Es K0 Xf AW Gx;exact rfl:V16 a b c=_)
theorem AGH a b R:Vc A5 c16.body (Af c16 [(.agg [aL a,(.o (.sl 2 b))])]) [] (Av c16 R)=V16 a b R:=by kernel_rfl
abbrev C3 (b c:LD)(a:Int):AV:=
 .agg [aL b,.o (D.sl 2 c),aI a]
abbrev Gr (b c:LD)(a:Int):AV:=
 .agg [aL b,.o (D.sl 2 c),aI a]
abbrev Sr (g h a b j:Int)(f k d:LD)(e i:Int)(c:LD):AV:=
 .agg [aI g,aI h,aI a,aI b,aI j,aL f,aL k,aL d,aI e,aI i,aL c]
abbrev Ve (q:AV->Prop):=
 ∃(k b:LD)(c i j e a d:Int)(p o l:LD)(h m:Int)(g:LD)(f:Int),Runs A5 58 [aI 1] [] (.tup [C3 k b c,.agg (Bv i j e a d p o l h m g),aI f]) []/\q (.tup [Gr k b c,Sr i j e a d p o l h m g,aI f])
abbrev qJ (q:Int)(r:AV->Prop):=
 ∃(k j:LD)(b p i l a f:Int)(h c g:LD)(o m:Int)(e:LD)(d:Int),Runs A5 58 [aI q] [] (.tup [C3 k j b,.agg (Bv p i l a f h c g o m e),aI d]) []/\r (.tup [Gr k j b,Sr p i l a f h c g o m e,aI d])
abbrev bR (b c:LD)(a:Int):=
 hB 2400000 [aL b,.o (D.sl 2 c),aI a]
abbrev Z9:=
 hB 2400002 [.n D.nil,.n D.nil,aI 0]
abbrev dP (a:HS):=
 hB 2402302 [aL a.1,.o (D.sl 2 a.2.1),aI a.2.2.1,aI a.2.2.2.1]
abbrev MW (b d:LD)(a c:Int):=
 hB 2402302 [aL b,.o (D.sl 2 d),aI a,aI c]
abbrev cS (f:Int)(u l:bA)(x y:LD)(w z v c g s:Int)(j i k:LD)(e d:Int)(o:LD)(q t p:Int)(m n:LD)(a:HS)(r:(Int->(HS->Prop)))(b:Int)(h:(Int->(HS->Nat))):=
 rq (.ptr 2400001 0)/\rq (.ptr 2400002 0)/\rq (.ptr 2400003 0)/\rq (.fn 58 [])/\rq (.ptr 2400202 0)/\rq (.ptr 2401010 0)/\rq (aI f)/\rq (aS u)/\rq (.ptr 2401909 0)/\rq (aS l)/\rq (.ptr 2402302 0)/\rh [bR x y w,hB 2400001 (Bv z v c g s j i k e d o),Z9,hB 2400003 HZ,hB 2400202 (AU j i k e d),(2400504,.row false true 0 3 1 [D.int .i64 c]),hB 2400509 [aI q,aI t,aI p],(2401005,.row true true 0 3 1 [D.int .i64 c]),hB 2401010 [aL m,aL n],hB 2401909 [aI d,aI e,aI f,aI g],dP a]/\r (w6 (b+1)) (a.1,a.2.1,a.2.2.1,a.2.2.2.1,())/\((h (w6 (b+1)) (a.1,a.2.1,a.2.2.1,a.2.2.2.1,())):Nat)<h b a
def V24 (p m:LD)(r t v f j l:Int)(g h c:LD)(e b:Int)(z:LD)(R:AV->Prop):Prop:=
 ∃x0:Bool,Runs A5 26 [Es p m,.agg (Bv t v f j l g h c e b z)] [] (aB x0) []/\Ae (Bool.not x0) (Ve R) (0=0/\∃(A w y S:Int),Runs A5 44 [.agg (AU g h c e b),aL [D.int .i64 f]] [] (.tup [.agg [aI A,aI w,aI y],aI S]) []/\Ae (S != 0) (Ve R) (Ae (decide (b>=1099511627776)) (∃(d0 b4:LD)(c8 a9 X a2 b8 Q:Int)(N a1 c4:LD)(b6 Y:Int)(c7:LD)(W:Int),Runs A5 58 [aI 2] [] (.tup [C3 d0 b4 c8,.agg (Bv a9 X a2 b8 Q N a1 c4 b6 Y c7),aI W]) []/\R (.tup [Gr d0 b4 c8,Sr a9 X a2 b8 Q N a1 c4 b6 Y c7,aI W])) (0=0/\∃(U a6:LD)(a7:Int),Runs A5 59 [.agg [aL g,aL h],aL [D.int .i64 f]] [] (.tup [.agg [aL U,aL a6],aI a7]) []/\Ae (a7 != 0) (Ve R) (∃(s i:LD)(d J:Int),Runs A5 34 [.agg [aL U,aL a6]] [] (.tup [.agg [aL s,aL i],aI d,aI J]) []/\Ae (J != 0) (qJ J R) (∃P:bA,Runs A5 37 [aL i] [] (aS P) []/\∃(q:bA)(M:Int),Runs A5 36 [.agg [aI 3,aI b,aS P]] [] (.tup [aS q,aI M]) []/\Ae (M != 0) (Ve R) (∃(x:bA)(b0:Int),Runs A5 38 [.agg [aI b,aI e,aI d,aI j]] [] (.tup [aS x,aI b0]) []/\Ae (b0 != 0) (Ve R) (∃(u:Int->HS->Prop)(B:Int->HS->Nat),(rh [bR p m r,hB 2400001 (Bv t v f j l g h c e b z),Z9,hB 2400003 HZ,hB 2400202 (AU g h c e b),(2400504,.row false true 0 3 1 [D.int .i64 f]),hB 2400509 [aI A,aI w,aI y],(2401005,.row true true 0 3 1 [D.int .i64 f]),hB 2401010 [aL s,aL i],hB 2401909 [aI b,aI e,aI d,aI j],hB 2402302 [aL p,.o (D.sl 2 m),aI r,aI 0]]/\u 10 (p,m,r,0,()))/\∀(a:Int)(k:HS),u a k->∀d2:Nat->AV,Ae (BK a i) (∃(O:bA)(d1:Int),Runs A5 60 [.agg [aL k.1,.o (D.sl 2 k.2.1)],aI a] [] (.tup [aS O,aI d1]) []/\rn 1/\(0:Int)<=a/\∃T:D,AW i a T/\∃c2:Bool,Dt T c2/\Ae c2 (Ae (a != d) (rn 1/\(0:Int)<=a/\∃c5:D,AW c a c5/\∃b2:bA,Ci c5 b2/\Ae (Bool.not (KM b2 O)) (rn 1/\(0:Int)<=a/\∃a5:D,AW c a a5/\∃b5:bA,Ci a5 b5/\∃(F H:LD)(E G:Int),Runs A5 61 [.ptr 2402302 0,aI a,aS b5] [dP k] (.tup []) [MW F H E G]/\rq (.ptr 2400001 0)/\rq (.ptr 2400002 0)/\rq (.ptr 2400003 0)/\rq (.fn 58 [])/\rq (.ptr 2400202 0)/\rq (.ptr 2401010 0)/\rq (aI d)/\rq (aS q)/\rq (.ptr 2401909 0)/\rq (aS x)/\rq (.ptr 2402302 0)/\rh [bR p m r,hB 2400001 (Bv t v f j l g h c e b z),Z9,hB 2400003 HZ,hB 2400202 (AU g h c e b),(2400504,.row false true 0 3 1 [D.int .i64 f]),hB 2400509 [aI A,aI w,aI y],(2401005,.row true true 0 3 1 [D.int .i64 f]),hB 2401010 [aL s,aL i],hB 2401909 [aI b,aI e,aI d,aI j],MW F H E G]/\u (w6 (a+1)) (F,H,E,G,())/\((B (w6 (a+1)) (F,H,E,G,())):Nat)<B a k) (cS d q x p m r t v f j l g h c e b z A w y s i k u a B)) (cS d q x p m r t v f j l g h c e b z A w y s i k u a B)) (cS d q x p m r t v f j l g h c e b z A w y s i k u a B)) (∃(a3 c1:LD)(c6 V:Int),Runs A5 61 [.ptr 2402302 0,aI d,aS q] [dP k] (.tup []) [MW a3 c1 c6 V]/\∃(a4 b7:LD)(b3 Z:Int),Runs A5 62 [.ptr 2402302 0] [MW a3 c1 c6 V] (.tup []) [MW a4 b7 b3 Z]/\∃(c3 a8:LD)(c0 c9:Int),Runs A5 61 [.ptr 2402302 0,aI (w6 (1-l)),aS x] [MW a4 b7 b3 Z] (.tup []) [MW c3 a8 c0 c9]/\∃(K I:LD)(L C:Int),Runs A5 62 [.ptr 2402302 0] [MW c3 a8 c0 c9] (.tup []) [MW K I L C]/\Ae (C==140) (R (.tup [Gr K I L,LB,aI 140])) (Ae (C != 0) (qJ C R) ((rn 1\/@Eq LD c [])/\((rn 0/\rn 9)/\rn 1)/\(((0+List.length c)*16):Nat)<=140737488355328/\(rn 1/\rn 1)/\(0:Int)<=d/\(d:Int)<(([]++c).length:Int)/\(((rn 1/\rn 0)/\rn 1)/\rn 1)/\((Int.toNat d):Nat)<List.length ([]++c)/\∃(b9 a0:LD)(b1:Int),Runs A5 63 [.agg [aL s,aL i]] [] (.tup [.agg [aL b9,aL a0],aI b1]) []/\1=1/\R (.tup [Gr K I L,.agg [aI b,aI e,aI d,aI j,aI (w6 (1-l)),aL b9,aL a0,aL (List.set ([]++c) (Int.toNat d) (D.str q)),aI e,K0 b,aL []],aI b1])))))))))))
def ACT:=λa b c d e f g h i j k l m n o=>PLift.up (by delta V24 Bv C3 qJ dP Ve BK LB MW AU HS HZ Ci Dt Gr Z9 cS KM Es K0 Sr AW bR Gx;exact rfl:V24 a b c d e f g h i j k l m n o=_)
theorem AGb i g m l f a b h e j k c n d R:Vc A5 c24.body (Af c24 [(.agg [aL i,(.o (.sl 2 g)),aI m]),(.agg [aI l,aI f,aI a,aI b,aI h,aL e,aL j,aL k,aI c,aI n,aL d])]) [] (Av c24 R)=V24 i g m l f a b h e j k c n d R:=by kernel_rfl
abbrev R7 (a:Int):=
 hB 1900001 [aI a]
abbrev SJ (a:bA):=
 hB 1900002 [aS a]
def pH (d e:LD)(i:Int)(s:bA)(R:AV->Heap->Prop):Prop:=
 ∃(b c:LD)(a:Int),Runs A5 53 [Es d e,aI i,aS s] [] (.tup [Es b c,aI a]) []/\R (.tup [ZP b c,aI a]) [R7 i,SJ s]
def AA7:=λa b c d e=>PLift.up (by delta pH Es Gx R7 SJ ZP;exact rfl:pH a b c d e=_)
theorem zS (bl:LD)(pe:LD)(i:Int)(s:bA)(R:AV->Heap->Prop):Vc A5 c52.body (Af c52 [(.agg [aL bl,.o (.sl 2 pe)]),.ptr 1900001 0,.ptr 1900002 0]) [(1900001,.box [aI i]),(1900002,.box [aS s])] (AP c52 [(1900001,.box [aI i]),(1900002,.box [aS s])] R)=pH bl pe i s R:=by kernel_rfl
abbrev cL (b c:LD)(a:Int):AV:=
 .tup [.agg [aL b,.o (D.sl 2 c),aI (w6 (a-1))],aI 0]
def kF (a e:LD)(l i:Int)(s:bA)(R:AV->Heap->Prop):Prop:=
 Ae (l==0) (R (.tup [Gr a e l,aI 140]) [R7 i,SJ s]) (∃(c d:LD)(b:Int),Runs A5 52 [Es a e,.ptr 1900001 0,.ptr 1900002 0] [hB 1900001 [aI i],hB 1900002 [aS s]] (.tup [Es c d,aI b]) [hB 1900001 [aI i],hB 1900002 [aS s]]/\Ae (b != 0) (R (.tup [Gr a e l,aI b]) [R7 i,SJ s]) (Ae (decide (l > 0)) (R (cL c d l) [R7 i,SJ s]) (R (.tup [Gr c d l,aI 0]) [R7 i,SJ s])))
def uB:=λa b c d e f=>PLift.up (by delta kF Es Gx cL Gr SJ R7;exact rfl:kF a b c d e f=_)
theorem yK (bl:LD)(pe:LD)(l:Int)(i:Int)(s:bA)(R:AV->Heap->Prop):Vc A5 c51.body (Af c51 [(.agg [aL bl,.o (.sl 2 pe),aI l]),.fn 52 [.ptr 1900001 0,.ptr 1900002 0]]) [(1900001,.box [aI i]),(1900002,.box [aS s])] (AP c51 [(1900001,.box [aI i]),(1900002,.box [aS s])] R)=kF bl pe l i s R:=by kernel_rfl
def jP (a e:LD)(l:Int)(R:AV->Prop):Prop:=
 Ae (l==0) (R (.tup [Gr a e l,aI 140])) (∃(c d:LD)(b:Int),Runs A5 54 [Es a e] [] (.tup [Es c d,aI b]) []/\Ae (b != 0) (R (.tup [Gr a e l,aI b])) (Ae (decide (l > 0)) (R (cL c d l)) (R (.tup [Gr c d l,aI 0]))))
def ABt:=λa b c d=>PLift.up (by delta jP Es Gx cL Gr;exact rfl:jP a b c d=_)
theorem wU a b l R:Vc A5 c51.body (Af c51 [(.agg [aL a,.o (.sl 2 b),aI l]),.fn 54 []]) [] (Av c51 R)=jP a b l R:=by kernel_rfl
def V19 (h g:LD)(i c:Int)(f:bA)(R:AV->Prop):Prop:=
 ∃(d e:LD)(a b:Int),Runs A5 51 [C3 h g i,.fn 52 [.ptr 1900001 0,.ptr 1900002 0]] [hB 1900001 [aI c],hB 1900002 [aS f]] (.tup [C3 d e a,aI b]) [hB 1900001 [aI c],hB 1900002 [aS f]]/\R (.tup [Gr d e a,aI b])
def AEq:=λa b c d e f=>PLift.up (by delta V19 C3 Gr;exact rfl:V19 a b c d e f=_)
theorem ACG c b e a d R:Vc A5 c19.body (Af c19 [(.agg [aL c,(.o (.sl 2 b)),aI e]),aI a,aS d]) [] (Av c19 R)=V19 c b e a d R:=by kernel_rfl
def V20 (e g:LD)(f:Int)(R:AV->Prop):Prop:=
 ∃(c d:LD)(a b:Int),Runs A5 51 [C3 e g f,.fn 54 []] [] (.tup [C3 c d a,aI b]) []/\R (.tup [Gr c d a,aI b])
def AC2:=λa b c d=>PLift.up (by delta V20 C3 Gr;exact rfl:V20 a b c d=_)
theorem AFQ a c b R:Vc A5 c20.body (Af c20 [(.agg [aL a,(.o (.sl 2 c)),aI b])]) [] (Av c20 R)=V20 a c b R:=by kernel_rfl
def V58 (a:Int)(R:AV->Prop):Prop:=
 R (.tup [.agg [aL [],.o (D.sl 2 []),aI 0],LB,aI a])
def AGq:=λa b=>PLift.up (by delta V58 LB;exact rfl:V58 a b=_)
theorem AF5 a R:Vc A5 c58.body (Af c58 [aI a]) [] (Av c58 R)=V58 a R:=by kernel_rfl
abbrev rU (k c i:LD)(d h j l b:Int)(a:AV->Prop):=
 ∃e:Bool,Runs A5 67 [.agg (AU k c i d h)] [] (aB e) []/\Ae e (Ae ((c.length:Int)==j) (Ae (h==w6 (l+1)) (rn 1/\(0:Int)<=b/\∃f:D,AW c b f/\∃g:Bool,Dt f g/\Ae g (a (.n (.bool (d != b)))) (a (.n (.bool false)))) (a (.n (.bool false)))) (a (.n (.bool false)))) (a (.n (.bool false)))
def V26 (h o:LD)(b m c a f:Int)(e i k:LD)(d l:Int)(p:LD)(R:AV->Prop):Prop:=
 ∃g:Bool,Runs A5 41 [Es h o] [] (aB g) []/\Ae (Bool.not g) (R (.n (.bool false))) (∃j:Bool,Runs A5 66 [.agg [aI b,aI m,aI c,aI a]] [] (aB j) []/\Ae (Bool.not j) (R (.n (.bool false))) (Ae (a != (h.length:Int)) (R (.n (.bool false))) (Ae (f != 0) (Ae (f != 1) (R (.n (.bool false))) (rU e i k d l a b c R)) (rU e i k d l a b c R))))
def AFa:=λa b c d e f g h i j k l m n=>PLift.up (by delta V26 rU Es Dt AW AU Gx;exact rfl:V26 a b c d e f g h i j k l m n=_)
theorem AGx i g d f l a h e j k b m c R:Vc A5 c26.body (Af c26 [(.agg [aL i,(.o (.sl 2 g))]),(.agg [aI d,aI f,aI l,aI a,aI h,aL e,aL j,aL k,aI b,aI m,aL c])]) [] (Av c26 R)=V26 i g d f l a h e j k b m c R:=by kernel_rfl
def V43 (k p:LD)(l m h i:Int)(R:AV->Prop):Prop:=
 rn 1/\(0:Int)<=h/\∃e:D,AW k h e/\∃f:bA,Ci e f/\0=0/\∃(j b:Int)(d:bA)(g:Int),Runs A5 90 [aS f,aL [D.int .i64 3]] [] (VU j b d g) []/\Ae (g != 0) (R (.tup [aL [],aB false])) (Ae (decide (b > l)) (R (.tup [aL [],aB false])) (∃(c:LD)(a:Int),Runs A5 91 [aS d,aI i] [] (.tup [aL c,aI a]) []/\R (.tup [aL c,aB (a==0)])))
def AEL:=λa b c d e f g=>PLift.up (by delta V43 Ci AW VU;exact rfl:V43 a b c d e f g=_)
theorem AFO e d b c f a R:Vc A5 c43.body (Af c43 [(.agg [aL e,(.o (.sl 2 d))]),(.agg [aI b,aI c,aI f,aI a])]) [] (Av c43 R)=V43 e d b c f a R:=by kernel_rfl
def V11 (e:Int)(R:AV->Prop):Prop:=
 ∃(s v:LD)(g:Int),Runs A5 33 [aI e] [] (.tup [.agg [aL s,aL v],aI g]) []/\Ae (g != 0) (O0 R g) (∃(x i:LD)(a h:Int),Runs A5 34 [.agg [aL s,aL v]] [] (.tup [.agg [aL x,aL i],aI a,aI h]) []/\Ae (h != 0) (O0 R h) ((∃(b:Nat)(p:LD)(k:Int)(d:Nat)(c:LD),Runs A5 35 [aI e] [] (.tup [.agg [.row 3500301 b,.o (D.sl 2 p)],aI k]) [(3500301,.row false true d 9 1 c)]/\Ae (k != 0) (O0 R k) (∃q:bA,Runs A5 37 [aL i] [] (aS q) []/\∃(w:bA)(l:Int),Runs A5 36 [.agg [aI 3,aI 1,aS q]] [] (.tup [aS w,aI l]) []/\Ae (l != 0) (O0 R l) (∃(f:bA)(u:Int),Runs A5 38 [.agg [aI 1,aI 0,aI a,aI e]] [] (.tup [aS f,aI u]) []/\((d:Nat)=b/\rn 1)/\(0:Int)<=0/\(0:Int)<(c.length:Int)/\((((b:Nat)=d/\rn 0)/\rn 1)/\rn 1)/\(0:Nat)<List.length c/\((d:Nat)=b/\rn 1)/\(0:Int)<=a/\(a:Int)<((List.set c 0 (D.str f)).length:Int)/\((((b:Nat)=d/\rn 0)/\rn 1)/\rn 1)/\((Int.toNat a):Nat)<List.length (List.set c 0 (D.str f))/\d=b/\R (.tup [.agg [aL (List.set (List.set c 0 (D.str f)) (Int.toNat a) (D.str w)),.o (D.sl 2 p)],aI u]))))\/∃(r y:LD)(m:Int),Runs A5 35 [aI e] [] (.tup [Es r y,aI m]) []/\Ae (m != 0) (O0 R m) (∃t:bA,Runs A5 37 [aL i] [] (aS t) []/\∃(B:bA)(j:Int),Runs A5 36 [.agg [aI 3,aI 1,aS t]] [] (.tup [aS B,aI j]) []/\Ae (j != 0) (O0 R j) (∃(A:bA)(C:Int),Runs A5 38 [.agg [aI 1,aI 0,aI a,aI e]] [] (.tup [aS A,aI C]) []/\rn 1/\(0:Int)<=0/\∃z:D,(r[Int.toNat 0]?=some z)/\False))))
def AGu:=λa b=>PLift.up (by delta V11 Gx Es VY O0;exact rfl:V11 a b=_)
theorem AEk a R:Vc A5 c11.body (Af c11 [aI a]) [] (Av c11 R)=V11 a R:=by kernel_rfl
abbrev VD (c:AV->Heap->Prop)(d a:LD)(b e:Int):=
 c (.tup []) [hB 2402302 [aL d,.o (D.sl 2 a),aI b,aI e]]
def kQ (a d:LD)(l e i:Int)(s:bA)(R:AV->Heap->Prop):Prop:=
 Ae (e==0) (∃(f g:LD)(b c:Int),Runs A5 19 [C3 a d l,aI i,aS s] [] (.tup [C3 f g b,aI c]) []/\VD R f g b c) (VD R a d l e)
def vF:=λa b c d e f g=>PLift.up (by delta kQ C3 VD;exact rfl:kQ a b c d e f g=_)
theorem wO (bl:LD)(pe:LD)(l:Int)(er:Int)(i:Int)(s:bA)(R:AV->Heap->Prop):Vc A5 c61.body (Af c61 [.ptr 2402302 0,aI i,aS s]) [(2402302,.box [aL bl,.o (.sl 2 pe),aI l,aI er])] (AP c61 [(2402302,.box [aL bl,.o (.sl 2 pe),aI l,aI er])] R)=kQ bl pe l er i s R:=by kernel_rfl
def jO (a d:LD)(l e:Int)(R:AV->Heap->Prop):Prop:=
 Ae (e==0) (∃(f g:LD)(b c:Int),Runs A5 20 [C3 a d l] [] (.tup [C3 f g b,aI c]) []/\VD R f g b c) (VD R a d l e)
def AAm:=λa b c d e=>PLift.up (by delta jO C3 VD;exact rfl:jO a b c d e=_)
theorem ABK (bl:LD)(pe:LD)(l:Int)(er:Int)(R:AV->Heap->Prop):Vc A5 c62.body (Af c62 [.ptr 2402302 0]) [(2402302,.box [aL bl,.o (.sl 2 pe),aI l,aI er])] (AP c62 [(2402302,.box [aL bl,.o (.sl 2 pe),aI l,aI er])] R)=jO bl pe l er R:=by kernel_rfl
end Go.Proofs.YtegndijbpiccgaaGreatDoor.M
