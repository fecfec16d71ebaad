import Derived.Shelf.Abstract
import Derived.WalkKit
import Derived.Laws.CopyOwn
import Derived.Laws.Tables
import Derived.Tactics
import Derived.Tactics2
import Derived.Deep.OwnRows
import Derived.KernelRfl
import Derived.OwnWalkIn
import Derived.Test.YtjmpnbbeplgchabGreatDoorProg
import Derived.Test.YtjmpnbbeplgchabGreatDoorR6EdZ
import Derived.Test.YtjmpnbbeplgchabGreatDoorR6Call
import Derived.Test.YtjmpnbbeplgchabGreatDoorMirI
import Derived.Test.YtjmpnbbeplgchabGreatDoorMirL
import Derived.Test.YtjmpnbbeplgchabGreatDoorR6Eg
import Derived.Test.YtjmpnbbeplgchabGreatDoorR6Scan
import Derived.Test.YtjmpnbbeplgchabGreatDoorR6FunB
import Derived.Test.YtjmpnbbeplgchabGreatDoorR6LV
import Derived.Test.YtjmpnbbeplgchabGreatDoorR6EW
namespace Go.Proofs.YtjmpnbbeplgchabGreatDoor.M
set_option linter.unusedVariables false
set_option linter.unusedSimpArgs false
open Go Go.RowKit Go.Shelf Go.Proofs
attribute [local go_sem] Oper.semAt_some
def BoxK (W:World)(B:Nat)(t:TypeId)(cs:Array Value):Prop:=W.heap[B]?=some (.cells cs t (0,0))
theorem BoxK.cell {W:World}{B:Nat}{t:TypeId}{cs:Array Value}(h:BoxK W B t cs)(i:Nat):W.cell? ⟨B,i,none⟩=cs[i]?:=by simp[World.cell?,show W.heap[B]?=_ from h]
theorem BoxK.frozen {W:World}{B:Nat}{t:TypeId}{cs:Array Value}(h:BoxK W B t cs)(i:Nat):W.frozen? ⟨B,i,none⟩=false:=by simp[World.frozen?,show W.heap[B]?=_ from h]
theorem BoxK.lt {W:World}{B:Nat}{t:TypeId}{cs:Array Value}(h:BoxK W B t cs):B<W.heap.size:=(Array.getElem?_eq_some_iff.1 h).1
theorem BoxK.new (W:World)(t:TypeId)(cs:Array Value):BoxK (W.alloc (.cells cs t)) W.heap.size t cs:=by unfold BoxK;show(W.heap.push _)[W.heap.size]?=_;exact Array.getElem?_push_size
theorem BoxK.below {n₀:Nat}{W W':World}{B:Nat}{t:TypeId}{cs:Array Value}(h:BoxK W B t cs)(hb:Below n₀ W W')(hB:B<n₀):BoxK W' B t cs:=(hb.block B hB).trans h
theorem BoxK.alloc {W:World}{B:Nat}{t:TypeId}{cs:Array Value}(h:BoxK W B t cs)(o:Obj):BoxK (W.alloc o) B t cs:=h.below (n₀:=W.heap.size) ((Below.refl _ W).alloc (Nat.le_refl _) _) h.lt
theorem BoxK.set {W:World}{B:Nat}{t:TypeId}{cs:Array Value}(h:BoxK W B t cs)(i:Nat)(v:Value):BoxK (W.setCell ⟨B,i,none⟩ v) B t (cs.set! i v):=heap_setCell_same W B i cs t v h
theorem BoxK.other {W:World}{B:Nat}{t:TypeId}{cs:Array Value}(h:BoxK W B t cs){a:Addr}(hn:B≠a.block)(v:Value):BoxK (W.setCell a v) B t cs:=(Below.heap_setCell W a v B hn).trans h
theorem yD:(Tryz.prog.info? 4).map (λi=>(i.zero,i.size,i.bytes))=some (some (.bool false),1,1):=by kernel_rfl
theorem xF:(Tryz.prog.info? 4).map (·.size)=some 1:=by kernel_rfl
def W2 (w:World)(vb vn:Value):World:=(w.alloc (.cells #[vb,vn] 33)).alloc (.cells #[.slice none 0 0,.slice none 0 0] 33)
theorem GB (w:World)(vb vn:Value):Below w.heap.size w (W2 w vb vn):=((Below.refl _ w).alloc (Nat.le_refl _) _).alloc (by simp) _
theorem Oa (w:World)(vb vn:Value):(W2 w vb vn).heap.size=w.heap.size+2:=by simp[W2]
theorem Qe {w w':World}{vb vn:Value}(h:Below (W2 w vb vn).heap.size (W2 w vb vn) w'):BoxK w' w.heap.size 33 #[vb,vn]/\BoxK w' (w.heap.size+1) 33 #[.slice none 0 0,.slice none 0 0]:=by have hs:=Oa w vb vn;have g1:=(BoxK.new w 33 #[vb,vn]).alloc (.cells #[.slice none 0 0,.slice none 0 0] 33);have g2:=BoxK.new (w.alloc (.cells #[vb,vn] 33)) 33 #[.slice none 0 0,.slice none 0 0];simp only[World.size_alloc]at g2;exact⟨g1.below h (by omega),g2.below h (by omega)⟩
set_option maxRecDepth 100000 in
set_option maxHeartbeats 4000000 in
theorem YZ (vb vn:Value)(w:World)
   (hck:∀W,Below w.heap.size w W->Calls Tryz.prog 82 #[.agg #[vb,vn]] W λe W'=>e = .returned (.bool false)/\Below W.heap.size W W'):
   Calls Tryz.prog 96 #[.agg #[vb,vn]] w λe w'=>e = .returned (.tuple #[.agg #[.slice none 0 0,.slice none 0 0],.int .i64 1])/\Below w.heap.size w w':=by
 go_enter Tryz.func96,Tryz.ntmps96
 go_wp2_with (go_at_call 82;refine(hck _ (GB w vb vn)).mono ?_;rintro e w' ⟨rfl,hb1⟩;obtain⟨q0,q1⟩:=Qe hb1;have c0:=q1.cell 0;have c1:=q1.cell 1;have f0:=q1.frozen 0;have f1:=q1.frozen 1)
 refine⟨rfl,.tuple #[.agg #[.slice none 0 0,.slice none 0 0],.int .i64 1],?_,rfl,?_⟩
 ·have r1:=(q1.set 0 (.slice none 0 0)).set 1 (.slice none 0 0)
  have z0:=r1.cell 0
  have z1:=r1.cell 1
  simp[results,Tryz.f96,go_sem,z0,z1]
 ·exact((((GB w vb vn).trans (hb1.mono (by rw[Oa];omega))).setCell (p:=⟨w.heap.size+1,0,none⟩) (by show _<=_;simp) _).setCell (p:=⟨w.heap.size+1,1,none⟩) (by show _<=_;simp) _)
theorem ACk (w':World)(b off c:Nat)(cs:List Value)(hb:b<w'.heap.size)(hcs:∀j v,cs[j]?=some v->w'.cell? ⟨b,off+j,none⟩=some v)(h1:∀v∈cs,v.oneCell'=true):
  ∃W3,(Builtin.copy_ #[31,31] 3 #[.slice (some ⟨w'.heap.size,0,none⟩) cs.length cs.length,.slice (some ⟨b,off,none⟩) cs.length c]).run Tryz.prog (w'.alloc (.cells (madeCells #[.bool false] cs.length) 4)) = .ok (goInt cs.length) W3 /\
   BoxK W3 w'.heap.size 4 cs.toArray/\Below w'.heap.size w' W3/\W3.heap.size=w'.heap.size+1:=by
 have hg:=BoxK.new w' 4 (madeCells #[.bool false] cs.length)
 have hs:(madeCells #[Value.bool false] cs.length).size=cs.length:=size_madeCells _ _
 have hb2:Below w'.heap.size w' (w'.alloc (.cells (madeCells #[.bool false] cs.length) 4)):=(Below.refl _ w').alloc (Nat.le_refl _) _
 have hrun:=run_copy_row (P:=Tryz.prog) (w'.alloc (.cells (madeCells #[.bool false] cs.length) 4)) 31 31 3 4 w'.heap.size 0 cs.length cs.length ⟨b,off,none⟩ cs.length c (madeCells #[.bool false] cs.length) 4 cs Tryz.underlying31 xF hg (Nat.min_self _).symm (λj v hj=>by rw[show(⟨b,off,none⟩:Addr).add j=⟨b,off+j,none⟩ by simp[Addr.add]];exact(World.cell?_of_block (w:=w') (hb2.block b hb)).trans (hcs j v hj)) (by rw[hs];omega) h1
 refine⟨_,hrun,?_,hb2.trans (below_setRow (Below.refl _ _) (Nat.le_refl _) _),by simp⟩
 have e:((madeCells #[Value.bool false] cs.length).toList.take 0++cs++(madeCells #[Value.bool false] cs.length).toList.drop (0+cs.length)).toArray=cs.toArray:=by rw[List.drop_eq_nil_of_le (by rw[Array.length_toList,hs];omega)];simp
 rw[e]
 exact setRow_heap _ _ _ _ _ _ hg
set_option maxRecDepth 100000 in
set_option maxHeartbeats 200000 in
theorem bG (vb:Value)(b off c:Nat)(cs:List Value)(w:World)(hn2:cs.length<=4096)(hb:b<w.heap.size)(hcs:∀j v,cs[j]?=some v->w.cell? ⟨b,off+j,none⟩=some v)(h1:∀v∈cs,v.oneCell'=true)
   (hck:∀W,Below w.heap.size w W->Calls Tryz.prog 82 #[.agg #[vb,.slice (some ⟨b,off,none⟩) cs.length c]] W λe W'=>e = .returned (.bool true)/\Below W.heap.size W W'):
   Calls Tryz.prog 96 #[.agg #[vb,.slice (some ⟨b,off,none⟩) cs.length c]] w λe w'=>∃g cp,e = .returned (.tuple #[.agg #[.slice (some ⟨g,0,none⟩) cs.length cp,.slice (some ⟨b,off,none⟩) cs.length c],.int .i64 0])/\cs.length<=cp/\w.heap.size<=g/\(∀j v,cs[j]?=some v->w'.cell? ⟨g,j,none⟩=some v)/\g<w'.heap.size/\Below w.heap.size w w':=by
 have hmk:=run_make_row' (P:=Tryz.prog) 31 4 (.bool false) 1 Tryz.underlying31 yD rfl .i64 .i64 cs.length (by omega) (by omega)
 have hsz:=Oa w vb (.slice (some ⟨b,off,none⟩) cs.length c)
 go_enter Tryz.func96,Tryz.ntmps96
 go_wp2_with (first|(go_at_call 82;refine(hck _ (GB w vb (.slice (some ⟨b,off,none⟩) cs.length c))).mono ?_;rintro e w' ⟨rfl,hb1⟩;obtain⟨q0,q1⟩:=Qe hb1;have d0:=q0.cell 1;have d1:∀o,(w'.alloc o).cell? ⟨w.heap.size,1,none⟩=some (.slice (some ⟨b,off,none⟩) cs.length c):=λo=>(q0.alloc o).cell 1;obtain⟨W3,hcp,hg3,hb3,hs3⟩:=ACk w' b off c cs (by have:=hb1.size;omega) (λj v hj=>(World.cell?_of_block (w:=w) (((GB w vb _).trans (hb1.mono (by omega))).block b hb)).trans (hcs j v hj)) h1;have e0:=q0.below hb3 q0.lt;have e1:=q1.below hb3 q1.lt;have x0:=e0.cell 0;have x1:=e0.cell 1;have y0:=e1.cell 0;have y1:=e1.cell 1;have fx0:=e0.frozen 0;have fy0:=e1.frozen 0;have fy1:=e1.frozen 1))
 refine⟨rfl,.tuple #[.agg #[.slice (some ⟨w'.heap.size,0,none⟩) cs.length cs.length,.slice (some ⟨b,off,none⟩) cs.length c],.int .i64 0],?_,⟨w'.heap.size,cs.length,rfl,Nat.le_refl _,?_,?_,?_,?_⟩⟩
 ·have r1:=(((e1.other (a:=⟨w.heap.size,0,none⟩) (by show _≠w.heap.size;omega) (.slice (some ⟨w'.heap.size,0,none⟩) cs.length cs.length)).set 0 (.slice (some ⟨w'.heap.size,0,none⟩) cs.length cs.length)).set 1 (.slice (some ⟨b,off,none⟩) cs.length c))
  have z0:=r1.cell 0
  have z1:=r1.cell 1
  simp[results,Tryz.f96,go_sem,z0,z1]
 ·have:=hb1.size;omega
 ·intro j v hj
  have hb2:=hb1.size
  have r3:=((hg3.other (a:=⟨w.heap.size,0,none⟩) (by show _≠w.heap.size;omega) (.slice (some ⟨w'.heap.size,0,none⟩) cs.length cs.length)).other (a:=⟨w.heap.size+1,0,none⟩) (by show _≠w.heap.size+1;omega) (.slice (some ⟨w'.heap.size,0,none⟩) cs.length cs.length)).other (a:=⟨w.heap.size+1,1,none⟩) (by show _≠w.heap.size+1;omega) (.slice (some ⟨b,off,none⟩) cs.length c)
  rw[r3.cell j]
  simpa using hj
 ·simp;omega
 ·exact(((((GB w vb _).trans (hb1.mono (by omega))).trans (hb3.mono (by have:=hb1.size;omega))).setCell (p:=⟨w.heap.size,0,none⟩) (by show _<=_;simp) _).setCell (p:=⟨w.heap.size+1,0,none⟩) (by show _<=_;simp) _).setCell (p:=⟨w.heap.size+1,1,none⟩) (by show _<=_;simp) _
open Go.Mir
def PR:List Mir.D->Option (List Bool)
 | []=>some []
 | .bool b::r=>(PR r).map (b::·)
 | _=>none
theorem Pe:∀ {l:List Mir.D} {b:List Bool},PR l=some b->l=Bk b
 | [],b,h=>by simp[PR]at h;subst h;rfl
 | x::r,b,h=>by
  unfold PR at h;split at h;·rename_i e;cases e
  ·rename_i x' r' e;cases e;simp only[Option.map_eq_some_iff]at h;obtain⟨c,hc,rfl⟩:=h;rw[Pe hc];rfl
  ·cases h
theorem Tz:∀b:List Bool,PR (Bk b)=some b
 | []=>rfl
 | x::r=>by show(PR (Bk r)).map (x::·)=_;rw[Tz r];rfl
def aRB (a b:List Bool):Bool:=decide (a.length=b.length)&&decide (24<=b.length)&&decide (b.length<=2048)&&(List.range 10).all λj=>tr a j&&tr b j
theorem aRB_iff {a b:List Bool}:aRB a b=true ↔ BJ a b:=by simp only[aRB,BJ,Bool.and_eq_true,decide_eq_true_eq,List.all_eq_true,List.mem_range,and_assoc]
def QN (a b:List Bool):AV:=if aRB a b=true then .tup [.agg [aL (Bk b),aL (Bk b)],aI 0] else .tup [uL,aI 1]
def Jt:List AV->Heap->Option (AV×Heap)
 | [.agg [.o (.sl 1 l),.o (.sl 1 m)]],H=>match PR l,PR m with
   | some a,some b=>if a.length<=9223372036854775807/\b.length<=9223372036854775807 then some (QN a b,H) else none
   | _,_=>none
 | _,_=>none
theorem SV {G:Nat->Option Fun}(hf:G 96=some (.prim none Jt))(a b:List Bool)(ha:Small a.length)(hb:Small b.length):Runs G 96 [G1 a b] [] (QN a b) []:=by
 refine⟨1,λk hk=>?_⟩;obtain⟨k,rfl⟩:∃j,k=j+1:=⟨k-1,by omega⟩
 simp only[run,hf,G1,Jt,Tz];rw[if_pos (by omega)]
theorem aD {w:World}{ok:Nat->Prop}{b:List Bool}{v:Value}(h:DR w ok (.sl 1 (Bk b)) v)(hn:b≠[]):∃blk off c,v = .slice (some ⟨blk,off,none⟩) b.length c/\blk<w.heap.size/\∀j v,(b.map Value.bool)[j]?=some v->w.cell? ⟨blk,off+j,none⟩=some v:=by
 generalize hl:Bk b=l at h
 cases h with
 | sl0=>exact absurd (List.map_eq_nil_iff.1 hl) hn
 | sle=>exact absurd (List.map_eq_nil_iff.1 hl) hn
 | sl _ _ blk off c vs hb hs hc hsz hv hd=>
  subst hl;refine⟨blk,off,c,by rw[AI],hs,λj v hj=>?_⟩;have hjl:j<b.length:=by have:=(List.getElem?_eq_some_iff.1 hj).1;simpa using this
  have hq:v = .bool b[j]:=by simpa[hjl] using hj.symm
  subst hq;have h1:=hv j _ 0 (.bool b[j]) (BU hjl) rfl;have h2:=hd j _ 0 (.bool b[j]) (BU hjl) rfl;generalize vs j 0=u at h1 h2;cases h2;simpa using h1
theorem Vi:DJ Tryz.prog 96 (.prim none Jt):=by
 refine⟨enters_of Tryz.func96 (by kernel_rfl) rfl,λargs H r H' h=>?_⟩;unfold Jt at h;split at h<;>try (cases h;done)
 rename_i l m;split at h<;>try (cases h;done)
 rename_i a b ha hb;split at h<;>simp only[oI,pI,reduceCtorEq]at h;rename_i hfit;obtain⟨rfl,rfl⟩:=h;obtain rfl:=Pe ha;obtain rfl:=Pe hb;intro w al m vs hr hal hc;obtain⟨u,rfl⟩:∃u,vs=[u]:=by
  match vs,hc with
  | [u],_=>exact⟨u,rfl⟩
  | [],h=>exact absurd h.1 (by simp)
  | _::_::_,h=>exact absurd h.1 (by simp)
 have hu:=hc.2 0 _ u rfl rfl;obtain⟨us,hul,hus,rfl⟩:=hu.agg_inv;obtain⟨vb,vn,rfl⟩:∃vb vn,us=[vb,vn]:=by
  match us,hul with
  | [x,y],_=>exact⟨x,y,rfl⟩
 have hvb:=hus 0 _ vb rfl rfl;have hvn:=hus 1 _ vn rfl rfl
 cases hvb with
 | o _ _ hdb=>
  cases hvn with
  | o _ _ hdn=>
   have hck:∀W,Below w.heap.size w W->Calls Tryz.prog 82 #[.agg #[vb,vn]] W λe W'=>e = .returned (.bool (decide (BJ a b)))/\Below W.heap.size W W':=λW hW=>by
    have h1:DR W ((⟨W.heap.size,λ_=>True⟩:Cx).okm (λ_=>False)) (.sl 1 (Bk a)) vb:=hdb.mono hW.size λk _ hk=>⟨⟨.inl trivial,λh=>h⟩,hW.block k hk⟩
    have h2:DR W ((⟨W.heap.size,λ_=>True⟩:Cx).okm (λ_=>False)) (.sl 1 (Bk b)) vn:=hdn.mono hW.size λk _ hk=>⟨⟨.inl trivial,λh=>h⟩,hW.block k hk⟩
    have hcells:Cells W ⟨W.heap.size,λ_=>True⟩ (λ_=>False) (λ_ _=>none) [G1 a b] [.agg #[vb,vn]]:=
      cells_cons (.agg _ [vb,vn] rfl λj c v hc hv=>by
       match j with
       | 0=>simp only[List.getElem?_cons_zero,oI]at hc hv;subst hc;subst hv;exact .o _ _ h1
       | 1=>simp only[List.getElem?_cons_succ,List.getElem?_cons_zero,oI]at hc hv;subst hc;subst hv;exact .o _ _ h2
       | j+2=>simp at hc) cells_nil
    refine(calls_of_runs PE (p82 a b (by omega) (by omega)) hcells).mono λe W' ⟨u,he,hu,hbl⟩=>?_
    cases hu with
    | n _ _ hd=>cases hd;exact⟨he,hbl⟩
   have fin:∀ {w':World} {u:Value} {r:AV},Below w.heap.size w w'->VR w' ⟨w.heap.size,al⟩ (owned H m) m r u ->
       ∃u' m',Ending.returned u = .returned u'/\((∀i v l,m i v=some l->m' i v=some l)/\∀i v l b,m' i v=some l->l.block=some b->b<w.heap.size->∃v' l',m i v'=some l'/\l'.block=some b)/\HR w' ⟨w.heap.size,al⟩ (owned H m) m' H/\VR w' ⟨w.heap.size,al⟩ (owned H m') m' r u' /\
       Keep w.heap.size (owned H m) w w'/\∀i,(H.get i).isSome=true->(H.get i).isSome=true:=λ{w' u r} hb hv=>
     ⟨u,m,rfl,⟨λ_ _ _ h=>h,λi v l b h1 h2 _=>⟨v,l,h1,h2⟩⟩,(ON hr hb.size λb h=>hb.block b h).2,hv,⟨hb.os,hb.tape,hb.output,hb.size,λb h _=>hb.block b h⟩,λ_ h=>h⟩
   by_cases hA:BJ a b
   ·rw[decide_eq_true hA]at hck;have hbn:b≠[]:=λe=>by have:=hA.2.1;rw[e]at this;simp at this
    obtain⟨blk,off,c,rfl,hblk,hcell⟩:=aD hdn hbn;have hlen:(b.map Value.bool).length=b.length:=by simp
    have hck':=hck;rw[<-hlen]at hck';have hw:=bG vb blk off c (b.map Value.bool) w (by rw[hlen];have:=hA.2.2.1;omega) hblk hcell (λv hv=>by obtain⟨x,_,rfl⟩:=List.mem_map.1 hv;rfl) hck';rw[hlen]at hw;refine hw.mono λe w' ⟨g,cp,he,hcp,hg,hgc,hgs,hbl⟩=>?_;subst he;rw[QN,if_pos (aRB_iff.2 hA)];refine fin hbl (.tup _ [.agg #[.slice (some ⟨g,0,none⟩) b.length cp,.slice (some ⟨blk,off,none⟩) b.length c],.int .i64 0] rfl λj x v hx hv=>?_);have hng:¬owned H m g:=by
     rintro⟨id,o,h1,h2,h3⟩;have:g<w.heap.size:=by
      cases o with
      | box cs=>exact(hr.lt _ _ _ _ h3 rfl).1
      | row fz nw ver e sz els=>obtain⟨l,h4,h5⟩:=h3;exact(hr.lt _ _ _ _ h4 h5).1
     omega
    match j with
    | 0=>
     simp only[List.getElem?_cons_zero,oI]at hx hv;subst hx;subst hv;refine .agg _ [.slice (some ⟨g,0,none⟩) b.length cp,.slice (some ⟨blk,off,none⟩) b.length c] rfl λj x v hx hv=>?_
     match j with
     | 0=>
      simp only[List.getElem?_cons_zero,oI]at hx hv;subst hx;subst hv;have hd:=DR.sl (w:=w') (ok:=(⟨w.heap.size,al⟩:Cx).okm (owned H m)) 1 (Bk b) g 0 cp (λi _ => .bool (tr b i)) ⟨.inr hg,hng⟩ hgs (by rw[AI];exact hcp)
        (λi x hx=>by obtain⟨y,_,rfl⟩:=List.mem_map.1 (List.mem_of_getElem? hx);rfl)
        (λi x j y hx hy=>by
         have hi:i<b.length:=by have:=(List.getElem?_eq_some_iff.1 hx).1;rwa [AI]at this
         rw[BU hi]at hx;obtain rfl:=Option.some.inj hx;have hj:j=0:=by have:=(List.getElem?_eq_some_iff.1 hy).1;simp[D.cells]at this;exact this
         subst hj;have:=hgc i (.bool b[i]) (by simp[hi]);rw[Dl hi];simpa using this)
        (λi x j y hx hy=>by
         have hi:i<b.length:=by have:=(List.getElem?_eq_some_iff.1 hx).1;rwa [AI]at this
         rw[BU hi]at hx;obtain rfl:=Option.some.inj hx;have hj:j=0:=by have:=(List.getElem?_eq_some_iff.1 hy).1;simp[D.cells]at this;exact this
         subst hj;have:y = .bool b[i]:=by simpa[D.cells] using hy.symm
         subst this;rw[Dl hi];exact .bool _)
      rw[AI]at hd;exact .o _ _ hd
     | 1=> simp only[List.getElem?_cons_succ,List.getElem?_cons_zero,oI]at hx hv;subst hx;subst hv;exact .o _ _ (hdn.mono hbl.size λk hk hlt=>⟨hk,hbl.block k hlt⟩)
     | j+2=>simp at hx
    | 1=> simp only[List.getElem?_cons_succ,List.getElem?_cons_zero,oI]at hx hv;subst hx;subst hv;exact .n _ _ (.int _ _)
    | j+2=>simp at hx
   ·rw[decide_eq_false hA]at hck;refine(YZ vb vn w hck).mono λe w' ⟨he,hbl⟩=>?_;subst he;rw[QN,if_neg (λh=>hA (aRB_iff.1 h))];refine fin hbl (.tup _ [.agg #[.slice none 0 0,.slice none 0 0],.int .i64 1] rfl λj x v hx hv=>?_)
    match j with
    | 0=>
     simp only[List.getElem?_cons_zero,oI]at hx hv;subst hx;subst hv;refine .agg _ [.slice none 0 0,.slice none 0 0] rfl λj x v hx hv=>?_
     match j with
     | 0=>simp only[List.getElem?_cons_zero,oI]at hx hv;subst hx;subst hv;exact .o _ _ (.sl0 1)
     | 1=>simp only[List.getElem?_cons_succ,List.getElem?_cons_zero,oI]at hx hv;subst hx;subst hv;exact .o _ _ (.sl0 1)
     | j+2=>simp at hx
    | 1=> simp only[List.getElem?_cons_succ,List.getElem?_cons_zero,oI]at hx hv;subst hx;subst hv;exact .n _ _ (.int _ _)
    | j+2=>simp at hx
end Go.Proofs.YtjmpnbbeplgchabGreatDoor.M
namespace Go.Proofs.YtjmpnbbeplgchabGreatDoor.M
set_option linter.unusedVariables false
set_option linter.unusedSimpArgs false
open Go Go.Mir Go.Proofs
def MH:List Nat:=[1000022,1000055,1000100]
noncomputable def b55:=bO Tryz.prog Tryz.f55.body MH 55 [] []
noncomputable def c55:FnC:=⟨55,14,[.cell 2 (some 2),.tmp 3],b55,true,[.one (.int .i64)],.tup [.agg [.slo 1,.slo 2],.one (.int .i64)],none,false,[(.tup [.agg [.row 5500301,.slo 2],.one (.int .i64)],[.row 5500301 9 1 true]),(.tup [.agg [.slo 1,.slo 2],.one (.int .i64)],[])]⟩
theorem AIH:IsFn Tryz.prog 55 c55:=AP Tryz.func55 rfl rfl
noncomputable def b57:=bO Tryz.prog Tryz.f57.body MH 57 [] [(3,[.keepF 57,.keep 3,.keep 11,.keep 12,.slot 13 (.one (.int .i64)),.row 5700104 5 1 true])]
noncomputable def c57:FnC:=⟨57,32,[.tmp 2],b57,false,[.one (.slo 1)],.val (.one .str),none,false,[]⟩
theorem AF4:IsFn Tryz.prog 57 c57:=AP Tryz.func57 rfl rfl
noncomputable def b78:=bO Tryz.prog Tryz.f78.body MH 78 [] [(7,[.keepF 78,.keep 0,.keep 6,.keep 25,.slot 26 (.one (.int .i64)),.row 7800501 4 1 true])]
noncomputable def c78:FnC:=⟨78,47,[.tmp 4,.tmp 5],b78,false,[.one .str,.one (.int .i64)],.tup [.one (.slo 1),.one (.int .i64)],none,false,[]⟩
theorem AIL:IsFn Tryz.prog 78 c78:=AP Tryz.func78 rfl rfl
noncomputable def b53:=bO Tryz.prog Tryz.f53.body MH 53 [] [(5,[.keepF 53,.keep 2,.keep 4,.slot 15 (.one (.int .i64)),.keepO 5300000,.row 5300301 4 1 true])]
noncomputable def c53:FnC:=⟨53,26,[.cell 2 (some 2),.tmp 3],b53,false,[.one (.int .i64)],.tup [.agg [.slo 1,.slo 1],.one (.int .i64)],none,false,[]⟩
theorem AEQ:IsFn Tryz.prog 53 c53:=AP Tryz.func53 rfl rfl
noncomputable def AGN:=bO Tryz.prog Tryz.f173.body MH 173 [] [(4,[.keepF 173,.keep 0,.keep 1,.keep 12,.slot 13 (.one (.int .i64))])]
noncomputable def c173:FnC:=⟨173,26,[.tmp 4],AGN,false,[.one (.slo 1),.one (.slo 1)],.val (.one .bool),none,false,[]⟩
theorem vO:IsFn Tryz.prog 173 c173:=AP Tryz.func173 rfl rfl
noncomputable def AD4:=bO Tryz.prog Tryz.f138.body MH 138 [] []
noncomputable def c138:FnC:=⟨138,17,[.tmp 4],AD4,false,[.agg [.slo 1,.slo 1],.agg [.slo 1,.slo 1]],.val (.one .bool),none,false,[]⟩
theorem ABY:IsFn Tryz.prog 138 c138:=AP Tryz.func138 rfl rfl
noncomputable def b98:=bO Tryz.prog Tryz.f98.body MH 98 [] [(4,[.keepF 98,.keep 2,.keep 3,.keep 47,.slot 48 (.one (.int .i64)),.keepO 9800000,.keepO 9800001])]
noncomputable def c98:FnC:=⟨98,63,[.tmp 4],b98,false,[.agg [.slo 1,.slo 1,.slo 1,.int .i64,.int .i64],.agg [.slo 1,.slo 1,.slo 1,.int .i64,.int .i64]],.val (.one .bool),none,false,[]⟩
theorem ADR:IsFn Tryz.prog 98 c98:=AP Tryz.func98 rfl rfl
noncomputable def b15:=bO Tryz.prog Tryz.f15.body MH 15 [] []
noncomputable def c15:FnC:=⟨15,68,[.cell 2 (some 2),.tmp 3],b15,false,[.one (.int .i64)],.tup [.agg [.slo 1,.slo 2],.one (.int .i64)],none,false,[]⟩
theorem AJL:IsFn Tryz.prog 15 c15:=AP Tryz.func15 rfl rfl
noncomputable def b36:=bO Tryz.prog Tryz.f36.body MH 36 [] []
noncomputable def c36:FnC:=⟨36,40,[.tmp 4,.tmp 5],b36,false,[.agg [.slo 1,.slo 2],.agg [.int .i64,.int .i64,.int .i64,.int .i64]],.tup [.one (.slo 1),.one .bool],none,false,[]⟩
theorem AEe:IsFn Tryz.prog 36 c36:=AP Tryz.func36 rfl rfl
noncomputable def b9:=bO Tryz.prog Tryz.f9.body MH 9 [] [(13,[.keepF 9,.keep 1,.keep 2,.keep 4,.keep 5,.keep 9,.keep 81,.keep 82,.slot 83 (.one (.int .i64)),.keepO 900000,.keepO 900001,.keepO 900514,.keepO 901112,.row 901105 9 1 true])]
noncomputable def c9:FnC:=⟨9,121,[.cell 2 (some 11),.tmp 3],b9,false,[.agg [.slo 1,.slo 2]],.tup [.agg [.int .i64,.int .i64,.int .i64,.int .i64,.int .i64,.slo 1,.slo 1,.slo 1,.int .i64,.int .i64,.slo 1],.one (.int .i64)],none,false,[]⟩
theorem is9:IsFn Tryz.prog 9 c9:=AP Tryz.func9 rfl rfl
noncomputable def b59:=bO Tryz.prog Tryz.f59.body MH 59 [] []
noncomputable def c59:FnC:=⟨59,72,[.tmp 4],b59,false,[.agg [.slo 1,.slo 2],.agg [.int .i64,.int .i64,.int .i64,.int .i64,.int .i64,.slo 1,.slo 1,.slo 1,.int .i64,.int .i64,.slo 1]],.val (.one .bool),none,false,[]⟩
theorem AGy:IsFn Tryz.prog 59 c59:=AP Tryz.func59 rfl rfl
noncomputable def AI0:=bO Tryz.prog Tryz.f116.body MH 116 [] []
noncomputable def c116:FnC:=⟨116,12,[.cell 4 (some 2),.tmp 5],AI0,false,[.agg [.slo 1,.slo 2]],.tup [.agg [.slo 1,.slo 2],.one (.int .i64)],none,false,[]⟩
theorem ABv:IsFn Tryz.prog 116 c116:=AP Tryz.func116 rfl rfl
noncomputable def b72:=bO Tryz.prog Tryz.f72.body MH 72 [] []
noncomputable def c72:FnC:=⟨72,33,[.cell 4 (some 3),.tmp 5],b72,false,[.agg [.slo 1,.slo 2,.int .i64],.one .raw],.tup [.agg [.slo 1,.slo 2,.int .i64],.one (.int .i64)],none,false,[]⟩
theorem AHP:IsFn Tryz.prog 72 c72:=AP Tryz.func72 rfl rfl
noncomputable def b71:=bO Tryz.prog Tryz.f71.body MH 71 [] []
noncomputable def c71:FnC:=⟨71,13,[.cell 6 (some 3),.tmp 7],b71,false,[.agg [.slo 1,.slo 2,.int .i64],.one (.int .i64),.one .str],.tup [.agg [.slo 1,.slo 2,.int .i64],.one (.int .i64)],none,false,[]⟩
theorem AFw:IsFn Tryz.prog 71 c71:=AP Tryz.func71 rfl rfl
noncomputable def b29:=bO Tryz.prog Tryz.f29.body MH 29 [] []
noncomputable def c29:FnC:=⟨29,8,[.cell 2 (some 3),.tmp 3],b29,false,[.agg [.slo 1,.slo 2,.int .i64]],.tup [.agg [.slo 1,.slo 2,.int .i64],.one (.int .i64)],none,false,[]⟩
theorem AEL:IsFn Tryz.prog 29 c29:=AP Tryz.func29 rfl rfl
noncomputable def b94:=bO Tryz.prog Tryz.f94.body MH 94 [] []
noncomputable def c94:FnC:=⟨94,27,[],b94,false,[.one .raw,.one (.int .i64),.one .str],.tup [],none,true,[]⟩
theorem AHb:IsFn Tryz.prog 94 c94:=AP Tryz.func94 rfl rfl
noncomputable def b95:=bO Tryz.prog Tryz.f95.body MH 95 [] []
noncomputable def c95:FnC:=⟨95,21,[],b95,false,[.one .raw],.tup [],none,true,[]⟩
theorem AGh:IsFn Tryz.prog 95 c95:=AP Tryz.func95 rfl rfl
noncomputable def b91:=bO Tryz.prog Tryz.f91.body MH 91 [] []
noncomputable def c91:FnC:=⟨91,8,[.cell 2 (some 3),.cell 3 (some 11),.tmp 4],b91,false,[.one (.int .i64)],.tup [.agg [.slo 1,.slo 2,.int .i64],.agg [.int .i64,.int .i64,.int .i64,.int .i64,.int .i64,.slo 1,.slo 1,.slo 1,.int .i64,.int .i64,.slo 1],.one (.int .i64)],none,false,[]⟩
theorem AIC:IsFn Tryz.prog 91 c91:=AP Tryz.func91 rfl rfl
noncomputable def b50:=bO Tryz.prog Tryz.f50.body MH 50 [] [(25,[.keepF 50,.keep 3,.keep 4,.keep 5,.keep 7,.keep 8,.keep 11,.keep 13,.keep 14,.keep 15,.keep 16,.keep 17,.slot 18 (.one (.int .i64)),.keepO 5000001,.keepO 5000002,.keepO 5000003,.keepO 5000202,.keepO 5001010,.keepO 5001909,.box 5002302 [.slo 1,.slo 2,.int .i64,.int .i64]])]
noncomputable def c50:FnC:=⟨50,244,[.cell 4 (some 3),.cell 5 (some 11),.tmp 6],b50,false,[.agg [.slo 1,.slo 2,.int .i64],.agg [.int .i64,.int .i64,.int .i64,.int .i64,.int .i64,.slo 1,.slo 1,.slo 1,.int .i64,.int .i64,.slo 1]],.tup [.agg [.slo 1,.slo 2,.int .i64],.agg [.int .i64,.int .i64,.int .i64,.int .i64,.int .i64,.slo 1,.slo 1,.slo 1,.int .i64,.int .i64,.slo 1],.one (.int .i64)],none,false,[]⟩
theorem AFH:IsFn Tryz.prog 50 c50:=AP Tryz.func50 rfl rfl
noncomputable def b52:=bO Tryz.prog Tryz.f52.body MH 52 [] []
noncomputable def c52:FnC:=⟨52,31,[.tmp 4],b52,false,[.agg [.int .i64,.int .i64,.int .i64,.int .i64,.int .i64,.slo 1,.slo 1,.slo 1,.int .i64,.int .i64,.slo 1],.agg [.int .i64,.int .i64,.int .i64,.int .i64,.int .i64,.slo 1,.slo 1,.slo 1,.int .i64,.int .i64,.slo 1]],.val (.one .bool),none,false,[]⟩
theorem AF5:IsFn Tryz.prog 52 c52:=AP Tryz.func52 rfl rfl
noncomputable def b51:=bO Tryz.prog Tryz.f51.body MH 51 [] []
noncomputable def c51:FnC:=⟨51,17,[.tmp 4],b51,false,[.agg [.slo 1,.slo 2,.int .i64],.agg [.slo 1,.slo 2,.int .i64]],.val (.one .bool),none,false,[]⟩
theorem AJd:IsFn Tryz.prog 51 c51:=AP Tryz.func51 rfl rfl
noncomputable def AEC:List (Nat×Fun):=[(55,.code c55),(57,.code c57),(78,.code c78),(53,.code c53),(173,.code c173),(138,.code c138),(98,.code c98),(15,.code c15),(36,.code c36),(9,.code c9),(59,.code c59),(116,.code c116),(72,.code c72),(71,.code c71),(29,.code c29),(94,.code c94),(95,.code c95),(91,.code c91),(50,.code c50),(52,.code c52),(51,.code c51),(93,.prim none NK),(96,.prim none Jt)]
noncomputable def jB:List (Nat×Fun):=AEC++iA
noncomputable def A8:Nat->Option Fun:=DQ jB
set_option maxRecDepth 100000 in
theorem YU:Company Tryz.prog A8:=
 .cons AIH<|.cons AF4<|.cons AIL<|.cons AEQ<|.cons vO<|.cons ABY<|.cons ADR<|.cons AJL<|.cons AEe<|.cons is9<|.cons AGy<|.cons ABv<|.cons AHP<|.cons AFw<|.cons AEL<|.cons AHb<|.cons AGh<|.cons AIC<|.cons AFH<|.cons AF5<|.cons AJd<|.cons (Zj)<|.cons (Vi)<|Y4
theorem Gu:Qi Az A8:=I8 (by kernel_rfl)
theorem AGc:A8 94=some (.code c94):=rfl
theorem AE1:A8 95=some (.code c95):=rfl
theorem AIy:A8 93=some (.prim none NK):=rfl
theorem AEF:A8 96=some (.prim none Jt):=rfl
end Go.Proofs.YtjmpnbbeplgchabGreatDoor.M
namespace Go.Proofs.YtjmpnbbeplgchabGreatDoor.M
set_option linter.unusedVariables false
set_option linter.unusedSimpArgs false
open Go Go.Mir
abbrev Zu (a:Int):=
 List.replicate (Int.toNat a) (D.str EE)
def rX (n:Int)(R:AV->Heap->Prop):Prop:=
 Ae (decide (n<1)) (R (.tup [Wq,aI 1]) []) (Ae (decide (n > 2048)) (R (.tup [Wq,aI 1]) []) ((0:Int)<=n/\((Int.toNat n*16):Nat)<=140737488355328/\R (.tup [.agg [.row 5500301 0,.o (D.sl 2 [])],aI 0]) [(5500301,.row false true 0 9 1 (Zu n))]))
def ABi:=λa b=>PLift.up (by delta rX Wq Zu EE;exact rfl:rX a b=_)
theorem ACS (n:Int)(R:AV->Heap->Prop):Vc A8 c55.body (Af c55 [aI n]) [] (N1 c55 R)=rX n R:=by kernel_rfl
def V52 (c p u f l:Int)(m y x:LD)(i h:Int)(j:LD)(w t q r o:Int)(d e g:LD)(s v:Int)(k:LD)(R:AV->Prop):Prop:=
 Ae (c==w&&(p==t&&(u==q&&(f==r&&true)))) (Ae (l==o) (∃b:Bool,Runs A8 98 [Bt m y x i h,Bt d e g s v] [] (aB b) []/\Ae b (∃a:Bool,Runs A8 99 [aL j,aL k] [] (aB a) []/\R (.n (.bool a))) (R (.n (.bool false)))) (R (.n (.bool false)))) (R (.n (.bool false)))
def AJn:=λa b c d e f g h i j k l m n o p q r s t u v w=>PLift.up (by delta V52 BI Bt;exact rfl:V52 a b c d e f g h i j k l m n o p q r s t u v w=_)
theorem AEw a h l c g q m v d p e u s i j r b n o k t f R:Vc A8 c52.body (Af c52 [(.agg [aI a,aI h,aI l,aI c,aI g,aL q,aL m,aL v,aI d,aI p,aL e]),(.agg [aI u,aI s,aI i,aI j,aI r,aL b,aL n,aL o,aI k,aI t,aL f])]) [] (Aq c52 R)=V52 a h l c g q m v d p e u s i j r b n o k t f R:=by kernel_rfl
def V51 (b e:LD)(f:Int)(g c:LD)(d:Int)(R:AV->Prop):Prop:=
 Ae (f==d) (∃a:Bool,Runs A8 97 [ER b e,ER g c] [] (aB a) []/\R (.n (.bool a))) (R (.n (.bool false)))
def AJH:=λa b c d e f g=>PLift.up (by delta V51 FA ER;exact rfl:V51 a b c d e f g=_)
theorem AEy a e c d b f R:Vc A8 c51.body (Af c51 [(.agg [aL a,(.o (.sl 2 e)),aI c]),(.agg [aL d,(.o (.sl 2 b)),aI f])]) [] (Aq c51 R)=V51 a e c d b f R:=by kernel_rfl
abbrev Qy:AV:=
 .agg [aI 0,aI 0,aI 0,aI 0,aI 0,aL [],aL [],aL [],aI 0,aI 0,aL []]
abbrev RP (a:AV->Prop):=
 a (.tup [Qy,aI 120])
abbrev Q5 (a:Int):=
 decide (a>=1099511627776)
abbrev PD:List AV:=
 [aI 0,aI 0,aI 0,aI 0,aI 0,.n D.nil,.n D.nil,.n D.nil,aI 0,aI 0,.n D.nil]
abbrev dH (a:LD)(b c:Int):=
 hB 901112 [aL a,aL a,.row 901105 0,aI b,FO c]
abbrev OC (a:(Nat×LD)):=
 ((Prod.fst a):Nat)=0/\rn 1
abbrev QF (a:(Nat×LD)):=
 (((0:Nat)=Prod.fst a/\rn 0)/\rn 1)/\rn 1
abbrev dY:=
 (2:Int)<=(((Int.toNat 10):Nat):Int)
def V9 (e i:LD)(R:AV->Prop):Prop:=
 ∃A:Bool,Runs A8 23 [ER e i] [] (aB A) []/\Ae (Bool.not A) (R (.tup [Qy,aI 1])) (Ae (decide ((i.length:Int) > 0)) (R (.tup [Qy,aI 1])) (Ae (decide ((e.length:Int)<24)) (RP R) (rn 1/\(0:Int)<=0/\∃u:D,(e[Int.toNat 0]?=some u)/\∃j:bA,B7 u j/\rn 1/\(0:Int)<=1/\∃y:D,(e[Int.toNat 1]?=some y)/\∃k:bA,B7 y k/\0=0/\∃(d f h g q v:Int),Runs A8 35 [aL [D.str j,D.str k]] [] (.tup [.agg [aI d,aI f,aI h,aI g],aI q,aI v]) []/\Ae (v != 0) (RP R) (Ae (g != (e.length:Int)) (RP R) (Ae (Q5 d) (RP R) (∃(c:LD)(x:Bool),Runs A8 36 [ER e i,.agg [aI d,aI f,aI h,aI g]] [] (.tup [aL c,aB x]) []/\Ae (Bool.not x) (RP R) ((0:Int)<=g/\((Int.toNat g*16):Nat)<=140737488355328/\∃(p:Int->Nat×LD->Prop)(l:Int->Nat×LD->Nat),(rh [hB 900000 (FA e i),hB 900001 PD,(900508,.row false true 0 9 1 [D.str j,D.str k]),hB 900514 [aI d,aI f,aI h,aI g],(901105,.row false true 0 9 1 (Zu g)),dH c f d]/\p 0 (0,Zu g))/\∀(b:Int)(a:Nat×LD),p b a->∀F:Nat->AV,Ae (Bw b c) (rn 1/\(0:Int)<=b/\∃s:D,AX c b s/\∃w:Bool,Dt s w/\Ae w (rn 1/\(0:Int)<=b/\∃t:D,AX e b t/\∃m:bA,B7 t m/\OC a/\(0:Int)<=b/\MS b a/\QF a/\RC b a/\rq (.ptr 900000 0)/\rq (.ptr 900001 0)/\rq (.ptr 900514 0)/\rq (aI q)/\rq (.ptr 901112 0)/\rq (aL c)/\E5 c/\rh [hB 900000 (FA e i),hB 900001 PD,(900508,.row false true 0 9 1 [D.str j,D.str k]),hB 900514 [aI d,aI f,aI h,aI g],(901105,.row false true (Prod.fst a) 9 1 (Wv a b m)),dH c f d]/\p (wI (b+1)) (Prod.fst a,Wv a b m)/\((l (wI (b+1)) (Prod.fst a,Wv a b m)):Nat)<l b a) (rq (.ptr 900000 0)/\rq (.ptr 900001 0)/\rq (.ptr 900514 0)/\rq (aI q)/\rq (.ptr 901112 0)/\rq (aL c)/\E5 c/\rh [hB 900000 (FA e i),hB 900001 PD,(900508,.row false true 0 9 1 [D.str j,D.str k]),hB 900514 [aI d,aI f,aI h,aI g],(901105,.row false true (Prod.fst a) 9 1 (Prod.snd a)),dH c f d]/\p (wI (b+1)) (Prod.fst a,Prod.snd a)/\((l (wI (b+1)) (Prod.fst a,Prod.snd a)):Nat)<l b a)) (Prod.fst a=0/\0=0/\∃(C B E r:Int),Runs A8 37 [.agg [aL c,aL c,aL (Prod.snd a),aI f,FO d],aL [D.int .i64 h]] [] (.tup [.agg [aI C,aI B,aI E],aI r]) []/\Ae (r != 0) (RP R) (rn 1/\(0:Int)<=10/\SG e/\(0:Int)<=2/\dY/\∃z:LD,Runs A8 38 [aI d,aL (List.drop (Int.toNat 2) (List.take (Int.toNat 10) e))] [] (aL z) []/\Prod.fst a=0/\R (.tup [.agg [aI d,aI f,aI h,aI g,aI q,aL c,aL c,aL (Prod.snd a),aI f,IN d,aL z],aI 0]))))))))))
def V9e:=λa b c=>PLift.up (by delta V9 EE FA dH SG Wv OC Zu RC MS Bw E5 QF Dt AX PD dY Q5 Qy B7 FO RP ER IN;exact rfl:V9 a b c=_)
theorem vc9 a b R:Vc A8 c9.body (Af c9 [(.agg [aL a,(.o (.sl 2 b))])]) [] (Aq c9 R)=V9 a b R:=by kernel_rfl
abbrev FY (e g i k f:Int)(d b h:LD)(j c:Int)(a:LD):List AV:=
 [aI e,aI g,aI i,aI k,aI f,aL d,aL b,aL h,aI j,aI c,aL a]
abbrev B8 (e g i k f:Int)(d b h:LD)(j c:Int)(a:LD):AV:=
 .agg (FY e g i k f d b h j c a)
abbrev By (b a:LD)(c:Int):AV:=
 .agg [aL b,.o (D.sl 2 a),aI c]
abbrev Hy (b a:LD)(c:Int):AV:=
 .agg [aL b,.o (D.sl 2 a),aI c]
abbrev dZ (g:AV->Prop)(j m:LD)(r i e b k p:Int)(d a q:LD)(h l:Int)(c:LD)(f:Int):=
 g (.tup [Hy j m r,.agg [aI i,aI e,aI b,aI k,aI p,aL d,aL a,aL q,aI h,aI l,aL c],aI f])
abbrev VH (p:AV->Prop):=
 ∃(h e:LD)(c n j f b o:Int)(i k a:LD)(l m:Int)(g:LD)(d:Int),Runs A8 91 [aI 1] [] (.tup [By h e c,B8 n j f b o i k a l m g,aI d]) []/\dZ p h e c n j f b o i k a l m g d
abbrev oM (p:Int)(q:AV->Prop):=
 ∃(l e:LD)(d c h g f m:Int)(i n a:LD)(j o:Int)(b:LD)(k:Int),Runs A8 91 [aI p] [] (.tup [By l e d,B8 c h g f m i n a j o b,aI k]) []/\dZ q l e d c h g f m i n a j o b k
abbrev fY (b a:LD)(c:Int):=
 hB 5000000 [aL b,.o (D.sl 2 a),aI c]
abbrev cW:=
 hB 5000002 [.n D.nil,.n D.nil,aI 0]
abbrev dB (a:HS):=
 hB 5002302 [aL a.1,.o (D.sl 2 a.2.1),aI a.2.2.1,aI a.2.2.2.1]
abbrev MO (b a:LD)(d c:Int):=
 hB 5002302 [aL b,.o (D.sl 2 a),aI d,aI c]
abbrev bS (k:Int)(o p:bA)(z w:LD)(v q n e f l:Int)(j g h:LD)(d b:Int)(u:LD)(x t s:Int)(y m:LD)(a:HS)(r:(Int->(HS->Prop)))(c:Int)(i:(Int->(HS->Nat))):=
 rq (.ptr 5000001 0)/\rq (.ptr 5000002 0)/\rq (.ptr 5000003 0)/\rq (.fn 91 [])/\rq (.ptr 5000202 0)/\rq (.ptr 5001010 0)/\rq (aI k)/\rq (aS o)/\rq (.ptr 5001909 0)/\rq (aS p)/\rq (.ptr 5002302 0)/\rh [fY z w v,hB 5000001 (FY q n e f l j g h d b u),cW,hB 5000003 PD,hB 5000202 (BI j g h d b),(5000504,.row false true 0 3 1 [D.int .i64 e]),hB 5000509 [aI x,aI t,aI s],(5001005,.row true true 0 3 1 [D.int .i64 e]),hB 5001010 [aL y,aL m],hB 5001909 [aI b,aI d,aI k,aI f],dB a]/\r (wI (c+1)) (a.1,a.2.1,a.2.2.1,a.2.2.2.1,())/\((i (wI (c+1)) (a.1,a.2.1,a.2.2.1,a.2.2.2.1,())):Nat)<i c a
def V50 (l m:LD)(q x w f h p:Int)(g i c:LD)(e b:Int)(t:LD)(R:AV->Prop):Prop:=
 ∃x0:Bool,Runs A8 59 [ER l m,B8 x w f h p g i c e b t] [] (aB x0) []/\Ae (Bool.not x0) (VH R) (0=0/\∃(u A z c0:Int),Runs A8 37 [Bt g i c e b,aL [D.int .i64 f]] [] (.tup [.agg [aI u,aI A,aI z],aI c0]) []/\Ae (c0 != 0) (VH R) (Ae (Q5 b) (∃(c4 Q:LD)(c2 a3 U Y b6 b1:Int)(a7 b7 X:LD)(N V:Int)(c5:LD)(b2:Int),Runs A8 91 [aI 2] [] (.tup [By c4 Q c2,B8 a3 U Y b6 b1 a7 b7 X N V c5,aI b2]) []/\dZ R c4 Q c2 a3 U Y b6 b1 a7 b7 X N V c5 b2) (0=0/\∃(c6 M:LD)(O:Int),Runs A8 92 [.agg [aL g,aL i],aL [D.int .i64 f]] [] (.tup [.agg [aL c6,aL M],aI O]) []/\Ae (O != 0) (VH R) (∃(r j:LD)(d K:Int),Runs A8 54 (Hr c6 M) [] (.tup [.agg [aL r,aL j],aI d,aI K]) []/\Ae (K != 0) (oM K R) (∃c8:bA,Runs A8 57 [aL j] [] (aS c8) []/\∃(s:bA)(W:Int),Runs A8 56 [.agg [aI 3,aI b,aS c8]] [] (.tup [aS s,aI W]) []/\Ae (W != 0) (VH R) (∃(v:bA)(b4:Int),Runs A8 58 [.agg [aI b,aI e,aI d,aI h]] [] (.tup [aS v,aI b4]) []/\Ae (b4 != 0) (VH R) (∃(y:Int->HS->Prop)(B:Int->HS->Nat),(rh [fY l m q,hB 5000001 (FY x w f h p g i c e b t),cW,hB 5000003 PD,hB 5000202 (BI g i c e b),(5000504,.row false true 0 3 1 [D.int .i64 f]),hB 5000509 [aI u,aI A,aI z],(5001005,.row true true 0 3 1 [D.int .i64 f]),hB 5001010 [aL r,aL j],hB 5001909 [aI b,aI e,aI d,aI h],hB 5002302 [aL l,.o (D.sl 2 m),aI q,aI 0]]/\y 10 (l,m,q,0,()))/\∀(a:Int)(k:HS),y a k->∀d2:Nat->AV,Ae (Bw a j) (∃(c9:bA)(d1:Int),Runs A8 93 [.agg [aL k.1,.o (D.sl 2 k.2.1)],aI a] [] (.tup [aS c9,aI d1]) []/\rn 1/\(0:Int)<=a/\∃Z:D,AX j a Z/\∃S:Bool,Dt Z S/\Ae S (Ae (a != d) (rn 1/\(0:Int)<=a/\∃a2:D,AX c a a2/\∃b3:bA,B7 a2 b3/\Ae (Bool.not (KE b3 c9)) (rn 1/\(0:Int)<=a/\∃c3:D,AX c a c3/\∃a6:bA,B7 c3 a6/\∃(E G:LD)(C F:Int),Runs A8 94 [.ptr 5002302 0,aI a,aS a6] [dB k] (.tup []) [MO E G C F]/\rq (.ptr 5000001 0)/\rq (.ptr 5000002 0)/\rq (.ptr 5000003 0)/\rq (.fn 91 [])/\rq (.ptr 5000202 0)/\rq (.ptr 5001010 0)/\rq (aI d)/\rq (aS s)/\rq (.ptr 5001909 0)/\rq (aS v)/\rq (.ptr 5002302 0)/\rh [fY l m q,hB 5000001 (FY x w f h p g i c e b t),cW,hB 5000003 PD,hB 5000202 (BI g i c e b),(5000504,.row false true 0 3 1 [D.int .i64 f]),hB 5000509 [aI u,aI A,aI z],(5001005,.row true true 0 3 1 [D.int .i64 f]),hB 5001010 [aL r,aL j],hB 5001909 [aI b,aI e,aI d,aI h],MO E G C F]/\y (wI (a+1)) (E,G,C,F,())/\((B (wI (a+1)) (E,G,C,F,())):Nat)<B a k) (bS d s v l m q x w f h p g i c e b t u A z r j k y a B)) (bS d s v l m q x w f h p g i c e b t u A z r j k y a B)) (bS d s v l m q x w f h p g i c e b t u A z r j k y a B)) (∃(a1 T:LD)(a5 a9:Int),Runs A8 94 [.ptr 5002302 0,aI d,aS s] [dB k] (.tup []) [MO a1 T a5 a9]/\∃(b5 b9:LD)(a4 c1:Int),Runs A8 95 [.ptr 5002302 0] [MO a1 T a5 a9] (.tup []) [MO b5 b9 a4 c1]/\∃(c7 d0:LD)(a8 a0:Int),Runs A8 94 [.ptr 5002302 0,aI (wI (1-p)),aS v] [MO b5 b9 a4 c1] (.tup []) [MO c7 d0 a8 a0]/\∃(I L:LD)(J H:Int),Runs A8 95 [.ptr 5002302 0] [MO c7 d0 a8 a0] (.tup []) [MO I L J H]/\Ae (H==140) (R (.tup [Hy I L J,Qy,aI 140])) (Ae (H != 0) (oM H R) ((rn 1\/@Eq LD c [])/\((rn 0/\rn 9)/\rn 1)/\(((0+List.length c)*16):Nat)<=140737488355328/\(rn 1/\rn 1)/\(0:Int)<=d/\(d:Int)<(([]++c).length:Int)/\(((rn 1/\rn 0)/\rn 1)/\rn 1)/\((Int.toNat d):Nat)<List.length ([]++c)/\∃(P b0:LD)(b8:Int),Runs A8 96 (Hr r j) [] (.tup [.agg [aL P,aL b0],aI b8]) []/\1=1/\R (.tup [Hy I L J,.agg [aI b,aI e,aI d,aI h,aI (wI (1-p)),aL P,aL b0,aL (List.set ([]++c) (Int.toNat d) (D.str s)),aI e,IN b,aL []],aI b8])))))))))))
def AGk:=λa b c d e f g h i j k l m n o=>PLift.up (by delta V50 Hy FA Hr BI cW MO KE dZ B8 dB Bw fY Bt Dt AX PD oM Q5 Qy bS B7 HS FY By ER IN VH;exact rfl:V50 a b c d e f g h i j k l m n o=_)
theorem AHc a k f h b l m j c d e n g i R:Vc A8 c50.body (Af c50 [(.agg [aL a,(.o (.sl 2 k)),aI f]),(.agg [aI h,aI b,aI l,aI m,aI j,aL c,aL d,aL e,aI n,aI g,aL i])]) [] (Aq c50 R)=V50 a k f h b l m j c d e n g i R:=by kernel_rfl
abbrev Hu (b a:LD)(c:Int):AV:=
 .tup [ER b a,aI c]
abbrev SH (a:Int):=
 hB 7100001 [aI a]
abbrev SI (a:bA):=
 hB 7100002 [aS a]
def X0 (d e:LD)(i:Int)(s:bA)(R:AV->Heap->Prop):Prop:=
 ∃(c a:LD)(b:Int),Runs A8 117 [ER d e,aI i,aS s] [] (Hu c a b) []/\R (.tup [.agg [aL c,.o (D.sl 2 a)],aI b]) [SH i,SI s]
def tL:=λa b c d e=>PLift.up (by delta X0 Hu FA SH SI ER;exact rfl:X0 a b c d e=_)
theorem tF (bl:LD)(pe:LD)(i:Int)(s:bA)(R:AV->Heap->Prop):Vc A8 c116.body (Af c116 [(.agg [aL bl,.o (.sl 2 pe)]),.ptr 7100001 0,.ptr 7100002 0]) [(7100001,.box [aI i]),(7100002,.box [aS s])] (AQ c116 [(7100001,.box [aI i]),(7100002,.box [aS s])] R)=X0 bl pe i s R:=by kernel_rfl
abbrev cZ (b a:LD)(c:Int):AV:=
 .tup [.agg [aL b,.o (D.sl 2 a),aI (wI (c-1))],aI 0]
def tK (a b:LD)(l i:Int)(s:bA)(R:AV->Heap->Prop):Prop:=
 Ae (l==0) (R (.tup [Hy a b l,aI 140]) [SH i,SI s]) (∃(e c:LD)(d:Int),Runs A8 116 [ER a b,.ptr 7100001 0,.ptr 7100002 0] [hB 7100001 [aI i],hB 7100002 [aS s]] (Hu e c d) [hB 7100001 [aI i],hB 7100002 [aS s]]/\Ae (d != 0) (R (.tup [Hy a b l,aI d]) [SH i,SI s]) (Ae (decide (l > 0)) (R (cZ e c l) [SH i,SI s]) (R (.tup [Hy e c l,aI 0]) [SH i,SI s])))
def ADo:=λa b c d e f=>PLift.up (by delta tK Hu Hy FA SH SI ER cZ;exact rfl:tK a b c d e f=_)
theorem ADa (bl:LD)(pe:LD)(l:Int)(i:Int)(s:bA)(R:AV->Heap->Prop):Vc A8 c72.body (Af c72 [(.agg [aL bl,.o (.sl 2 pe),aI l]),.fn 116 [.ptr 7100001 0,.ptr 7100002 0]]) [(7100001,.box [aI i]),(7100002,.box [aS s])] (AQ c72 [(7100001,.box [aI i]),(7100002,.box [aS s])] R)=tK bl pe l i s R:=by kernel_rfl
def mM (a b:LD)(l:Int)(R:AV->Prop):Prop:=
 Ae (l==0) (R (.tup [Hy a b l,aI 140])) (∃(d c:LD)(e:Int),Runs A8 73 [ER a b] [] (Hu d c e) []/\Ae (e != 0) (R (.tup [Hy a b l,aI e])) (Ae (decide (l > 0)) (R (cZ d c l)) (R (.tup [Hy d c l,aI 0]))))
def AB2:=λa b c d=>PLift.up (by delta mM Hu Hy FA ER cZ;exact rfl:mM a b c d=_)
theorem AB4 a b l R:Vc A8 c72.body (Af c72 [(.agg [aL a,.o (.sl 2 b),aI l]),.fn 73 []]) [] (Aq c72 R)=mM a b l R:=by kernel_rfl
def V71 (g i:LD)(h d:Int)(f:bA)(R:AV->Prop):Prop:=
 ∃(b e:LD)(c a:Int),Runs A8 72 [By g i h,.fn 116 [.ptr 7100001 0,.ptr 7100002 0]] [hB 7100001 [aI d],hB 7100002 [aS f]] (.tup [By b e c,aI a]) [hB 7100001 [aI d],hB 7100002 [aS f]]/\R (.tup [Hy b e c,aI a])
def AHM:=λa b c d e f=>PLift.up (by delta V71 Hy By;exact rfl:V71 a b c d e f=_)
theorem AEx a d b c e R:Vc A8 c71.body (Af c71 [(.agg [aL a,(.o (.sl 2 d)),aI b]),aI c,aS e]) [] (Aq c71 R)=V71 a d b c e R:=by kernel_rfl
def V29 (e f:LD)(g:Int)(R:AV->Prop):Prop:=
 ∃(c b:LD)(d a:Int),Runs A8 72 [By e f g,.fn 73 []] [] (.tup [By c b d,aI a]) []/\R (.tup [Hy c b d,aI a])
def AIq:=λa b c d=>PLift.up (by delta V29 Hy By;exact rfl:V29 a b c d=_)
theorem AFk a c b R:Vc A8 c29.body (Af c29 [(.agg [aL a,(.o (.sl 2 c)),aI b])]) [] (Aq c29 R)=V29 a c b R:=by kernel_rfl
def V91 (a:Int)(R:AV->Prop):Prop:=
 R (.tup [.agg [aL [],.o (D.sl 2 []),aI 0],Qy,aI a])
def ADH:=λa b=>PLift.up (by delta V91 Qy;exact rfl:V91 a b=_)
theorem AHU a R:Vc A8 c91.body (Af c91 [aI a]) [] (Aq c91 R)=V91 a R:=by kernel_rfl
abbrev mB (k b l:LD)(g f j i c:Int)(a:AV->Prop):=
 ∃e:Bool,Runs A8 46 [Bt k b l g f] [] (aB e) []/\Ae e (Ae ((b.length:Int)==j) (Ae (f==wI (i+1)) (rn 1/\(0:Int)<=c/\∃d:D,AX b c d/\∃h:Bool,Dt d h/\Ae h (a (.n (.bool (g != c)))) (a (.n (.bool false)))) (a (.n (.bool false)))) (a (.n (.bool false)))) (a (.n (.bool false)))
def V59 (d o:LD)(b m c a j:Int)(e f g:LD)(l h:Int)(p:LD)(R:AV->Prop):Prop:=
 ∃i:Bool,Runs A8 23 [ER d o] [] (aB i) []/\Ae (Bool.not i) (R (.n (.bool false))) (∃k:Bool,Runs A8 109 [.agg [aI b,aI m,aI c,aI a]] [] (aB k) []/\Ae (Bool.not k) (R (.n (.bool false))) (Ae (a != (d.length:Int)) (R (.n (.bool false))) (Ae (j != 0) (Ae (j != 1) (R (.n (.bool false))) (mB e f g l h a b c R)) (mB e f g l h a b c R))))
def AGL:=λa b c d e f g h i j k l m n=>PLift.up (by delta V59 Dt AX FA mB BI ER Bt;exact rfl:V59 a b c d e f g h i j k l m n=_)
theorem AHr a j g b k l i c d e m f h R:Vc A8 c59.body (Af c59 [(.agg [aL a,(.o (.sl 2 j))]),(.agg [aI g,aI b,aI k,aI l,aI i,aL c,aL d,aL e,aI m,aI f,aL h])]) [] (Aq c59 R)=V59 a j g b k l i c d e m f h R:=by kernel_rfl
def V36 (i p:LD)(j m g l:Int)(R:AV->Prop):Prop:=
 rn 1/\(0:Int)<=g/\∃c:D,AX i g c/\∃f:bA,B7 c f/\0=0/\∃(k b:Int)(h:bA)(e:Int),Runs A8 77 [aS f,aL [D.int .i64 3]] [] (Wt k b h e) []/\Ae (e != 0) (R (.tup [aL [],aB false])) (Ae (decide (b > j)) (R (.tup [aL [],aB false])) (∃(d:LD)(a:Int),Runs A8 78 [aS h,aI l] [] (.tup [aL d,aI a]) []/\R (.tup [aL d,aB (a==0)])))
def AIp:=λa b c d e f g=>PLift.up (by delta V36 Wt B7 AX;exact rfl:V36 a b c d e f g=_)
theorem AIJ a d c b e f R:Vc A8 c36.body (Af c36 [(.agg [aL a,(.o (.sl 2 d))]),(.agg [aI c,aI b,aI e,aI f])]) [] (Aq c36 R)=V36 a d c b e f R:=by kernel_rfl
def V15 (e:Int)(R:AV->Prop):Prop:=
 ∃(u q:LD)(g:Int),Runs A8 53 [aI e] [] (.tup [.agg [aL u,aL q],aI g]) []/\Ae (g != 0) (OG R g) (∃(A k:LD)(a h:Int),Runs A8 54 [.agg [aL u,aL q]] [] (.tup [.agg [aL A,aL k],aI a,aI h]) []/\Ae (h != 0) (OG R h) ((∃(c:Nat)(r:LD)(l:Int)(d:Nat)(b:LD),Runs A8 55 [aI e] [] (.tup [.agg [.row 5500301 c,.o (D.sl 2 r)],aI l]) [(5500301,.row false true d 9 1 b)]/\Ae (l != 0) (OG R l) (∃s:bA,Runs A8 57 [aL k] [] (aS s) []/\∃(w:bA)(i:Int),Runs A8 56 [.agg [aI 3,aI 1,aS s]] [] (.tup [aS w,aI i]) []/\Ae (i != 0) (OG R i) (∃(f:bA)(t:Int),Runs A8 58 [.agg [aI 1,aI 0,aI a,aI e]] [] (.tup [aS f,aI t]) []/\((d:Nat)=c/\rn 1)/\(0:Int)<=0/\(0:Int)<(b.length:Int)/\((((c:Nat)=d/\rn 0)/\rn 1)/\rn 1)/\(0:Nat)<List.length b/\((d:Nat)=c/\rn 1)/\(0:Int)<=a/\(a:Int)<((List.set b 0 (D.str f)).length:Int)/\((((c:Nat)=d/\rn 0)/\rn 1)/\rn 1)/\((Int.toNat a):Nat)<List.length (List.set b 0 (D.str f))/\d=c/\R (.tup [.agg [aL (List.set (List.set b 0 (D.str f)) (Int.toNat a) (D.str w)),.o (D.sl 2 r)],aI t]))))\/∃(v y:LD)(j:Int),Runs A8 55 [aI e] [] (Hu v y j) []/\Ae (j != 0) (OG R j) (∃p:bA,Runs A8 57 [aL k] [] (aS p) []/\∃(B:bA)(m:Int),Runs A8 56 [.agg [aI 3,aI 1,aS p]] [] (.tup [aS B,aI m]) []/\Ae (m != 0) (OG R m) (∃(z:bA)(C:Int),Runs A8 58 [.agg [aI 1,aI 0,aI a,aI e]] [] (.tup [aS z,aI C]) []/\rn 1/\(0:Int)<=0/\∃x:D,(v[Int.toNat 0]?=some x)/\False))))
def AF2:=λa b=>PLift.up (by delta V15 Wq Hu FA OG ER;exact rfl:V15 a b=_)
theorem AIj a R:Vc A8 c15.body (Af c15 [aI a]) [] (Aq c15 R)=V15 a R:=by kernel_rfl
abbrev Vd (a:AV->Heap->Prop)(c d:LD)(e b:Int):=
 a (.tup []) [hB 5002302 [aL c,.o (D.sl 2 d),aI e,aI b]]
def lR (f c:LD)(l a i:Int)(s:bA)(R:AV->Heap->Prop):Prop:=
 Ae (a==0) (∃(d g:LD)(e b:Int),Runs A8 71 [By f c l,aI i,aS s] [] (.tup [By d g e,aI b]) []/\Vd R d g e b) (Vd R f c l a)
def yP:=λa b c d e f g=>PLift.up (by delta lR By Vd;exact rfl:lR a b c d e f g=_)
theorem xR (bl:LD)(pe:LD)(l:Int)(er:Int)(i:Int)(s:bA)(R:AV->Heap->Prop):Vc A8 c94.body (Af c94 [.ptr 5002302 0,aI i,aS s]) [(5002302,.box [aL bl,.o (.sl 2 pe),aI l,aI er])] (AQ c94 [(5002302,.box [aL bl,.o (.sl 2 pe),aI l,aI er])] R)=lR bl pe l er i s R:=by kernel_rfl
def kI (f c:LD)(l a:Int)(R:AV->Heap->Prop):Prop:=
 Ae (a==0) (∃(d g:LD)(e b:Int),Runs A8 29 [By f c l] [] (.tup [By d g e,aI b]) []/\Vd R d g e b) (Vd R f c l a)
def vI:=λa b c d e=>PLift.up (by delta kI By Vd;exact rfl:kI a b c d e=_)
theorem ADc (bl:LD)(pe:LD)(l:Int)(er:Int)(R:AV->Heap->Prop):Vc A8 c95.body (Af c95 [.ptr 5002302 0]) [(5002302,.box [aL bl,.o (.sl 2 pe),aI l,aI er])] (AQ c95 [(5002302,.box [aL bl,.o (.sl 2 pe),aI l,aI er])] R)=kI bl pe l er R:=by kernel_rfl
end Go.Proofs.YtjmpnbbeplgchabGreatDoor.M
