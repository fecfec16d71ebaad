import Derived.Shelf.Abstract
import Derived.WalkKit
import Derived.Laws.CopyOwn
import Derived.Laws.Tables
import Derived.Tactics
import Derived.Tactics2
import Derived.Deep.OwnRows
import Derived.KernelRfl
import Derived.OwnWalkIn
import Derived.Test.YtegndijbpiccgaaGreatDoorProg
import Derived.Test.YtegndijbpiccgaaGreatDoorR5EdZ
import Derived.Test.YtegndijbpiccgaaGreatDoorR5Call
import Derived.Test.YtegndijbpiccgaaGreatDoorMirI
import Derived.Test.YtegndijbpiccgaaGreatDoorMirL
import Derived.Test.YtegndijbpiccgaaGreatDoorR5Scan
namespace Go.Proofs.YtegndijbpiccgaaGreatDoor.M
set_option linter.unusedVariables false
set_option linter.unusedSimpArgs false
open Go Go.RowKit Go.Shelf Go.Proofs
set_option linter.unusedVariables false
set_option linter.unusedSimpArgs false
attribute [local go_sem] Oper.semAt_some
def BoxK (W:World) (B:Nat) (t:TypeId) (cs:Array Value):Prop:=W.heap[B]?=some (.cells cs t (0,0))
theorem BoxK.cell {W:World} {B:Nat} {t:TypeId} {cs:Array Value} (h:BoxK W B t cs) (i:Nat):W.cell? ⟨B,i,none⟩=cs[i]?:=by simp[World.cell?,show W.heap[B]?=_ from h]
theorem BoxK.frozen {W:World} {B:Nat} {t:TypeId} {cs:Array Value} (h:BoxK W B t cs) (i:Nat):W.frozen? ⟨B,i,none⟩=false:=by simp[World.frozen?,show W.heap[B]?=_ from h]
theorem BoxK.lt {W:World} {B:Nat} {t:TypeId} {cs:Array Value} (h:BoxK W B t cs):B<W.heap.size:=(Array.getElem?_eq_some_iff.1 h).1
theorem BoxK.new (W:World) (t:TypeId) (cs:Array Value):BoxK (W.alloc (.cells cs t)) W.heap.size t cs:=by unfold BoxK;show (W.heap.push _)[W.heap.size]?=_;exact Array.getElem?_push_size
theorem BoxK.below {n₀:Nat} {W W':World} {B:Nat} {t:TypeId} {cs:Array Value} (h:BoxK W B t cs) (hb:Below n₀ W W') (hB:B<n₀):BoxK W' B t cs:=(hb.block B hB).trans h
theorem BoxK.alloc {W:World} {B:Nat} {t:TypeId} {cs:Array Value} (h:BoxK W B t cs) (o:Obj):BoxK (W.alloc o) B t cs:=h.below (n₀:=W.heap.size) ((Below.refl _ W).alloc (Nat.le_refl _) _) h.lt
theorem BoxK.set {W:World} {B:Nat} {t:TypeId} {cs:Array Value} (h:BoxK W B t cs) (i:Nat) (v:Value):BoxK (W.setCell ⟨B,i,none⟩ v) B t (cs.set! i v):=heap_setCell_same W B i cs t v h
theorem BoxK.other {W:World} {B:Nat} {t:TypeId} {cs:Array Value} (h:BoxK W B t cs) {a:Addr} (hn:B≠a.block) (v:Value):BoxK (W.setCell a v) B t cs:=(Below.heap_setCell W a v B hn).trans h
theorem info4:(Tryz.prog.info? 4).map (fun i=>(i.zero,i.size,i.bytes))=some (some (.bool false),1,1):=by kernel_rfl
theorem size4:(Tryz.prog.info? 4).map (·.size)=some 1:=by kernel_rfl
def W2 (w:World) (vb vn:Value):World:=(w.alloc (.cells #[vb,vn] 38)).alloc (.cells #[.slice none 0 0,.slice none 0 0] 38)
theorem w2_below (w:World) (vb vn:Value):Below w.heap.size w (W2 w vb vn):=((Below.refl _ w).alloc (Nat.le_refl _) _).alloc (by simp) _
theorem w2_size (w:World) (vb vn:Value):(W2 w vb vn).heap.size=w.heap.size+2:=by simp[W2]
theorem w2_boxes {w w':World} {vb vn:Value} (h:Below (W2 w vb vn).heap.size (W2 w vb vn) w'):BoxK w' w.heap.size 38 #[vb,vn]∧BoxK w' (w.heap.size+1) 38 #[.slice none 0 0,.slice none 0 0]:=by
 have hs:=w2_size w vb vn
 have g1:=(BoxK.new w 38 #[vb,vn]).alloc (.cells #[.slice none 0 0,.slice none 0 0] 38)
 have g2:=BoxK.new (w.alloc (.cells #[vb,vn] 38)) 38 #[.slice none 0 0,.slice none 0 0]
 simp only[World.size_alloc]at g2
 exact ⟨g1.below h (by omega),g2.below h (by omega)⟩
set_option maxRecDepth 100000 in
set_option maxHeartbeats 4000000 in
theorem acom_bad (vb vn:Value) (w:World)
   (hck:∀W,Below w.heap.size w W→Calls Tryz.prog 75 #[.agg #[vb,vn]] W fun e W'=>e = .returned (.bool false)∧Below W.heap.size W W'):
   Calls Tryz.prog 63 #[.agg #[vb,vn]] w fun e w'=>e = .returned (.tuple #[.agg #[.slice none 0 0,.slice none 0 0],.int .i64 1])∧Below w.heap.size w w':=by
 go_enter Tryz.func63,Tryz.ntmps63
 go_wp2_with (go_at_call 75;refine (hck _ (w2_below w vb vn)).mono ?_;rintro e w' ⟨rfl,hb1⟩;obtain ⟨q0,q1⟩:=w2_boxes hb1;have c0:=q1.cell 0;have c1:=q1.cell 1;have f0:=q1.frozen 0;have f1:=q1.frozen 1)
 refine ⟨rfl,.tuple #[.agg #[.slice none 0 0,.slice none 0 0],.int .i64 1],?_,rfl,?_⟩
 · have r1:=(q1.set 0 (.slice none 0 0)).set 1 (.slice none 0 0)
   have z0:=r1.cell 0
   have z1:=r1.cell 1
   simp[results,Tryz.f63,go_sem,z0,z1]
 · exact ((((w2_below w vb vn).trans (hb1.mono (by rw[w2_size];omega))).setCell (p:=⟨w.heap.size+1,0,none⟩) (by show _≤_;simp) _).setCell (p:=⟨w.heap.size+1,1,none⟩) (by show _≤_;simp) _)
theorem copyW (w':World) (b off c:Nat) (cs:List Value) (hb:b<w'.heap.size) (hcs:∀j v,cs[j]?=some v→w'.cell? ⟨b,off+j,none⟩=some v) (h1:∀v∈cs,v.oneCell'=true):
  ∃W3,(Builtin.copy_ #[36,36] 3 #[.slice (some ⟨w'.heap.size,0,none⟩) cs.length cs.length,.slice (some ⟨b,off,none⟩) cs.length c]).run Tryz.prog (w'.alloc (.cells (madeCells #[.bool false] cs.length) 4)) = .ok (goInt cs.length) W3 ∧
   BoxK W3 w'.heap.size 4 cs.toArray∧Below w'.heap.size w' W3∧W3.heap.size=w'.heap.size+1:=by
 have hg:=BoxK.new w' 4 (madeCells #[.bool false] cs.length)
 have hs:(madeCells #[Value.bool false] cs.length).size=cs.length:=size_madeCells _ _
 have hb2:Below w'.heap.size w' (w'.alloc (.cells (madeCells #[.bool false] cs.length) 4)):=(Below.refl _ w').alloc (Nat.le_refl _) _
 have hrun:=run_copy_row (P:=Tryz.prog) (w'.alloc (.cells (madeCells #[.bool false] cs.length) 4)) 36 36 3 4 w'.heap.size 0 cs.length cs.length ⟨b,off,none⟩ cs.length c (madeCells #[.bool false] cs.length) 4 cs Tryz.underlying36 size4 hg (Nat.min_self _).symm (fun j v hj=>by
  rw[show (⟨b,off,none⟩:Addr).add j=⟨b,off+j,none⟩ by simp[Addr.add]]
  exact (World.cell?_of_block (w:=w') (hb2.block b hb)).trans (hcs j v hj)) (by rw[hs];omega) h1
 refine ⟨_,hrun,?_,hb2.trans (below_setRow (Below.refl _ _) (Nat.le_refl _) _),by simp⟩
 have e:((madeCells #[Value.bool false] cs.length).toList.take 0++cs++(madeCells #[Value.bool false] cs.length).toList.drop (0+cs.length)).toArray=cs.toArray:=by
  rw[List.drop_eq_nil_of_le (by rw[Array.length_toList,hs];omega)];simp
 rw[e]
 exact setRow_heap _ _ _ _ _ _ hg
set_option maxRecDepth 100000 in
set_option maxHeartbeats 200000 in
theorem acom_ok (vb:Value) (b off c:Nat) (cs:List Value) (w:World) (hn2:cs.length≤4096) (hb:b<w.heap.size) (hcs:∀j v,cs[j]?=some v→w.cell? ⟨b,off+j,none⟩=some v) (h1:∀v∈cs,v.oneCell'=true)
   (hck:∀W,Below w.heap.size w W→Calls Tryz.prog 75 #[.agg #[vb,.slice (some ⟨b,off,none⟩) cs.length c]] W fun e W'=>e = .returned (.bool true)∧Below W.heap.size W W'):
   Calls Tryz.prog 63 #[.agg #[vb,.slice (some ⟨b,off,none⟩) cs.length c]] w fun e w'=>∃g cp,e = .returned (.tuple #[.agg #[.slice (some ⟨g,0,none⟩) cs.length cp,.slice (some ⟨b,off,none⟩) cs.length c],.int .i64 0])∧cs.length≤cp∧w.heap.size≤g∧(∀j v,cs[j]?=some v→w'.cell? ⟨g,j,none⟩=some v)∧g<w'.heap.size∧Below w.heap.size w w':=by
 have hmk:=run_make_row' (P:=Tryz.prog) 36 4 (.bool false) 1 Tryz.underlying36 info4 rfl .i64 .i64 cs.length (by omega) (by omega)
 have hsz:=w2_size w vb (.slice (some ⟨b,off,none⟩) cs.length c)
 go_enter Tryz.func63,Tryz.ntmps63
 go_wp2_with (first|(go_at_call 75;refine (hck _ (w2_below w vb (.slice (some ⟨b,off,none⟩) cs.length c))).mono ?_;rintro e w' ⟨rfl,hb1⟩;obtain ⟨q0,q1⟩:=w2_boxes hb1;have d0:=q0.cell 1;have d1:∀o,(w'.alloc o).cell? ⟨w.heap.size,1,none⟩=some (.slice (some ⟨b,off,none⟩) cs.length c):=fun o=>(q0.alloc o).cell 1;obtain ⟨W3,hcp,hg3,hb3,hs3⟩:=copyW w' b off c cs (by have:=hb1.size;omega) (fun j v hj=>(World.cell?_of_block (w:=w) (((w2_below w vb _).trans (hb1.mono (by omega))).block b hb)).trans (hcs j v hj)) h1;have e0:=q0.below hb3 q0.lt;have e1:=q1.below hb3 q1.lt;have x0:=e0.cell 0;have x1:=e0.cell 1;have y0:=e1.cell 0;have y1:=e1.cell 1;have fx0:=e0.frozen 0;have fy0:=e1.frozen 0;have fy1:=e1.frozen 1))
 refine ⟨rfl,.tuple #[.agg #[.slice (some ⟨w'.heap.size,0,none⟩) cs.length cs.length,.slice (some ⟨b,off,none⟩) cs.length c],.int .i64 0],?_,⟨w'.heap.size,cs.length,rfl,Nat.le_refl _,?_,?_,?_,?_⟩⟩
 · have r1:=(((e1.other (a:=⟨w.heap.size,0,none⟩) (by show _≠w.heap.size;omega) (.slice (some ⟨w'.heap.size,0,none⟩) cs.length cs.length)).set 0 (.slice (some ⟨w'.heap.size,0,none⟩) cs.length cs.length)).set 1 (.slice (some ⟨b,off,none⟩) cs.length c))
   have z0:=r1.cell 0
   have z1:=r1.cell 1
   simp[results,Tryz.f63,go_sem,z0,z1]
 · have:=hb1.size;omega
 · intro j v hj
   have hb2:=hb1.size
   have r3:=((hg3.other (a:=⟨w.heap.size,0,none⟩) (by show _≠w.heap.size;omega) (.slice (some ⟨w'.heap.size,0,none⟩) cs.length cs.length)).other (a:=⟨w.heap.size+1,0,none⟩) (by show _≠w.heap.size+1;omega) (.slice (some ⟨w'.heap.size,0,none⟩) cs.length cs.length)).other (a:=⟨w.heap.size+1,1,none⟩) (by show _≠w.heap.size+1;omega) (.slice (some ⟨b,off,none⟩) cs.length c)
   rw[r3.cell j]
   simpa using hj
 · simp;omega
 · exact (((((w2_below w vb _).trans (hb1.mono (by omega))).trans (hb3.mono (by have:=hb1.size;omega))).setCell (p:=⟨w.heap.size,0,none⟩) (by show _≤_;simp) _).setCell (p:=⟨w.heap.size+1,0,none⟩) (by show _≤_;simp) _).setCell (p:=⟨w.heap.size+1,1,none⟩) (by show _≤_;simp) _
open Go.Mir
def unbl:List Mir.D→Option (List Bool)
 | []=>some []
 | .bool b :: r=>(unbl r).map (b :: ·)
 | _=>none
theorem unbl_ok:∀ {l:List Mir.D} {b:List Bool},unbl l=some b→l=blD b
 | [],b,h=>by simp[unbl]at h;subst h;rfl
 | x :: r,b,h=>by
   unfold unbl at h
   split at h
   · rename_i e;cases e
   · rename_i x' r' e
     cases e
     simp only[Option.map_eq_some_iff]at h
     obtain ⟨c,hc,rfl⟩:=h
     rw[unbl_ok hc];rfl
   · cases h
theorem unbl_bl:∀b:List Bool,unbl (blD b)=some b
 | []=>rfl
 | x :: r=>by
   show (unbl (blD r)).map (x :: ·)=_
   rw[unbl_bl r];rfl
def aRB (a b:List Bool):Bool:=decide (a.length=b.length)&&decide (24≤b.length)&&decide (b.length≤2048)&&(List.range 10).all fun j=>tr a j&&tr b j
theorem aRB_iff {a b:List Bool}:aRB a b=true ↔ ARight a b:=by
 simp only[aRB,ARight,Bool.and_eq_true,decide_eq_true_eq,List.all_eq_true,List.mem_range,and_assoc]
def AComR (a b:List Bool):AV:=if aRB a b=true then .tup [.agg [.o (.sl 1 (blD b)),.o (.sl 1 (blD b))],.n (.int .i64 0)] else .tup [al0,.n (.int .i64 1)]
def acommP:List AV→Heap→Option (AV×Heap)
 | [.agg [.o (.sl 1 l),.o (.sl 1 m)]],H=>match unbl l,unbl m with
   | some a,some b=>if a.length≤9223372036854775807∧b.length≤9223372036854775807 then some (AComR a b,H) else none
   | _,_=>none
 | _,_=>none
theorem acomm_runs {G:Nat→Option Fun} (hf:G 63=some (.prim none acommP)) (a b:List Bool) (ha:Small a.length) (hb:Small b.length):Runs G 63 [alV a b] [] (AComR a b) []:=by
 refine ⟨1,fun k hk => ?_⟩
 obtain ⟨k,rfl⟩:∃j,k=j+1:=⟨k - 1,by omega⟩
 simp only[run,hf,alV,acommP,unbl_bl]
 rw[if_pos (by omega)]
theorem bl_lies {w:World} {ok:Nat→Prop} {b:List Bool} {v:Value} (h:DR w ok (.sl 1 (blD b)) v) (hn:b≠[]):∃blk off c,v = .slice (some ⟨blk,off,none⟩) b.length c∧blk<w.heap.size∧∀j v,(b.map Value.bool)[j]?=some v→w.cell? ⟨blk,off+j,none⟩=some v:=by
 generalize hl:blD b=l at h
 cases h with
 | sl0=>exact absurd (List.map_eq_nil_iff.1 hl) hn
 | sle=>exact absurd (List.map_eq_nil_iff.1 hl) hn
 | sl _ _ blk off c vs hb hs hc hsz hv hd=>
   subst hl
   refine ⟨blk,off,c,by rw[blD_len],hs,fun j v hj => ?_⟩
   have hjl:j<b.length:=by have:=(List.getElem?_eq_some_iff.1 hj).1;simpa using this
   have hq:v = .bool b[j]:=by simpa[hjl] using hj.symm
   subst hq
   have h1:=hv j _ 0 (.bool b[j]) (blD_at hjl) rfl
   have h2:=hd j _ 0 (.bool b[j]) (blD_at hjl) rfl
   generalize vs j 0=u at h1 h2
   cases h2
   simpa using h1
theorem acomm_fun:FunOK Tryz.prog 63 (.prim none acommP):=by
 refine ⟨enters_of Tryz.func63 (by kernel_rfl) rfl,fun args H r H' h => ?_⟩
 unfold acommP at h
 split at h <;> try (cases h;done)
 rename_i l m
 split at h <;> try (cases h;done)
 rename_i a b ha hb
 split at h <;> simp only[Option.some.injEq,Prod.mk.injEq,reduceCtorEq]at h
 rename_i hfit
 obtain ⟨rfl,rfl⟩:=h
 obtain rfl:=unbl_ok ha
 obtain rfl:=unbl_ok hb
 intro w al m vs hr hal hc
 obtain ⟨u,rfl⟩:∃u,vs=[u]:=by
   match vs,hc with
   | [u],_=>exact ⟨u,rfl⟩
   | [],h=>exact absurd h.1 (by simp)
   | _ :: _ :: _,h=>exact absurd h.1 (by simp)
 have hu:=hc.2 0 _ u rfl rfl
 obtain ⟨us,hul,hus,rfl⟩:=hu.agg_inv
 obtain ⟨vb,vn,rfl⟩:∃vb vn,us=[vb,vn]:=by
   match us,hul with
   | [x,y],_=>exact ⟨x,y,rfl⟩
 have hvb:=hus 0 _ vb rfl rfl
 have hvn:=hus 1 _ vn rfl rfl
 cases hvb with
 | o _ _ hdb=>
   cases hvn with
   | o _ _ hdn=>
     have hck:∀W,Below w.heap.size w W→Calls Tryz.prog 75 #[.agg #[vb,vn]] W fun e W'=>e = .returned (.bool (decide (ARight a b)))∧Below W.heap.size W W':=fun W hW=>by
       have h1:DR W ((⟨W.heap.size,fun _=>True⟩:Cx).okm (fun _=>False)) (.sl 1 (blD a)) vb:=hdb.mono hW.size fun k _ hk=>⟨⟨.inl trivial,fun h=>h⟩,hW.block k hk⟩
       have h2:DR W ((⟨W.heap.size,fun _=>True⟩:Cx).okm (fun _=>False)) (.sl 1 (blD b)) vn:=hdn.mono hW.size fun k _ hk=>⟨⟨.inl trivial,fun h=>h⟩,hW.block k hk⟩
       have hcells:Cells W ⟨W.heap.size,fun _=>True⟩ (fun _=>False) (fun _ _=>none) [alV a b] [.agg #[vb,vn]]:=
         cells_cons (.agg _ [vb,vn] rfl fun j c v hc hv=>by
           match j with
           | 0=>simp only[List.getElem?_cons_zero,Option.some.injEq]at hc hv;subst hc;subst hv;exact .o _ _ h1
           | 1=>simp only[List.getElem?_cons_succ,List.getElem?_cons_zero,Option.some.injEq]at hc hv;subst hc;subst hv;exact .o _ _ h2
           | j+2=>simp at hc) cells_nil
       refine (calls_of_runs company2 (p75 a b (by omega) (by omega)) hcells).mono fun e W' ⟨u,he,hu,hbl⟩ => ?_
       cases hu with
       | n _ _ hd=>cases hd;exact ⟨he,hbl⟩
     have fin:∀ {w':World} {u:Value} {r:AV},Below w.heap.size w w'→VR w' ⟨w.heap.size,al⟩ (owned H m) m r u →
         ∃u' m',Ending.returned u = .returned u'∧((∀i v l,m i v=some l→m' i v=some l)∧∀i v l b,m' i v=some l→l.block=some b→b<w.heap.size→∃v' l',m i v'=some l'∧l'.block=some b)∧HR w' ⟨w.heap.size,al⟩ (owned H m) m' H∧VR w' ⟨w.heap.size,al⟩ (owned H m') m' r u' ∧
         Keep w.heap.size (owned H m) w w'∧∀i,(H.get i).isSome=true→(H.get i).isSome=true:=fun {w' u r} hb hv=>
       ⟨u,m,rfl,⟨fun _ _ _ h=>h,fun i v l b h1 h2 _=>⟨v,l,h1,h2⟩⟩,(hr_ext hr hb.size fun b h=>hb.block b h).2,hv,⟨hb.os,hb.tape,hb.output,hb.size,fun b h _=>hb.block b h⟩,fun _ h=>h⟩
     by_cases hA:ARight a b
     · rw[decide_eq_true hA]at hck
       have hbn:b≠[]:=fun e=>by have:=hA.2.1;rw[e]at this;simp at this
       obtain ⟨blk,off,c,rfl,hblk,hcell⟩:=bl_lies hdn hbn
       have hlen:(b.map Value.bool).length=b.length:=by simp
       have hck':=hck
       rw[←hlen]at hck'
       have hw:=acom_ok vb blk off c (b.map Value.bool) w (by rw[hlen];have:=hA.2.2.1;omega) hblk hcell (fun v hv=>by obtain ⟨x,_,rfl⟩:=List.mem_map.1 hv;rfl) hck'
       rw[hlen]at hw
       refine hw.mono fun e w' ⟨g,cp,he,hcp,hg,hgc,hgs,hbl⟩ => ?_
       subst he
       rw[AComR,if_pos (aRB_iff.2 hA)]
       refine fin hbl (.tup _ [.agg #[.slice (some ⟨g,0,none⟩) b.length cp,.slice (some ⟨blk,off,none⟩) b.length c],.int .i64 0] rfl fun j x v hx hv => ?_)
       have hng:¬owned H m g:=by
         rintro ⟨id,o,h1,h2,h3⟩
         have:g<w.heap.size:=by
           cases o with
           | box cs=>exact (hr.lt _ _ _ _ h3 rfl).1
           | row fz nw ver e sz els=>obtain ⟨l,h4,h5⟩:=h3;exact (hr.lt _ _ _ _ h4 h5).1
         omega
       match j with
       | 0=>
         simp only[List.getElem?_cons_zero,Option.some.injEq]at hx hv
         subst hx;subst hv
         refine .agg _ [.slice (some ⟨g,0,none⟩) b.length cp,.slice (some ⟨blk,off,none⟩) b.length c] rfl fun j x v hx hv => ?_
         match j with
         | 0=>
           simp only[List.getElem?_cons_zero,Option.some.injEq]at hx hv
           subst hx;subst hv
           have hd:=DR.sl (w:=w') (ok:=(⟨w.heap.size,al⟩:Cx).okm (owned H m)) 1 (blD b) g 0 cp (fun i _ => .bool (tr b i)) ⟨.inr hg,hng⟩ hgs (by rw[blD_len];exact hcp)
             (fun i x hx=>by
               obtain ⟨y,_,rfl⟩:=List.mem_map.1 (List.mem_of_getElem? hx);rfl)
             (fun i x j y hx hy=>by
               have hi:i<b.length:=by have:=(List.getElem?_eq_some_iff.1 hx).1;rwa [blD_len]at this
               rw[blD_at hi]at hx
               obtain rfl:=Option.some.inj hx
               have hj:j=0:=by
                have:=(List.getElem?_eq_some_iff.1 hy).1
                simp[D.cells]at this;exact this
               subst hj
               have:=hgc i (.bool b[i]) (by simp[hi])
               rw[tr_at hi]
               simpa using this)
             (fun i x j y hx hy=>by
               have hi:i<b.length:=by have:=(List.getElem?_eq_some_iff.1 hx).1;rwa [blD_len]at this
               rw[blD_at hi]at hx
               obtain rfl:=Option.some.inj hx
               have hj:j=0:=by
                have:=(List.getElem?_eq_some_iff.1 hy).1
                simp[D.cells]at this;exact this
               subst hj
               have:y = .bool b[i]:=by simpa[D.cells] using hy.symm
               subst this
               rw[tr_at hi]
               exact .bool _)
           rw[blD_len]at hd
           exact .o _ _ hd
         | 1=>
           simp only[List.getElem?_cons_succ,List.getElem?_cons_zero,Option.some.injEq]at hx hv
           subst hx;subst hv
           exact .o _ _ (hdn.mono hbl.size fun k hk hlt=>⟨hk,hbl.block k hlt⟩)
         | j+2=>simp at hx
       | 1=>
         simp only[List.getElem?_cons_succ,List.getElem?_cons_zero,Option.some.injEq]at hx hv
         subst hx;subst hv
         exact .n _ _ (.int _ _)
       | j+2=>simp at hx
     · rw[decide_eq_false hA]at hck
       refine (acom_bad vb vn w hck).mono fun e w' ⟨he,hbl⟩ => ?_
       subst he
       rw[AComR,if_neg (fun h=>hA (aRB_iff.1 h))]
       refine fin hbl (.tup _ [.agg #[.slice none 0 0,.slice none 0 0],.int .i64 1] rfl fun j x v hx hv => ?_)
       match j with
       | 0=>
         simp only[List.getElem?_cons_zero,Option.some.injEq]at hx hv
         subst hx;subst hv
         refine .agg _ [.slice none 0 0,.slice none 0 0] rfl fun j x v hx hv => ?_
         match j with
         | 0=>simp only[List.getElem?_cons_zero,Option.some.injEq]at hx hv;subst hx;subst hv;exact .o _ _ (.sl0 1)
         | 1=>simp only[List.getElem?_cons_succ,List.getElem?_cons_zero,Option.some.injEq]at hx hv;subst hx;subst hv;exact .o _ _ (.sl0 1)
         | j+2=>simp at hx
       | 1=>
         simp only[List.getElem?_cons_succ,List.getElem?_cons_zero,Option.some.injEq]at hx hv
         subst hx;subst hv
         exact .n _ _ (.int _ _)
       | j+2=>simp at hx
end Go.Proofs.YtegndijbpiccgaaGreatDoor.M
namespace Go.Proofs.YtegndijbpiccgaaGreatDoor.M
set_option linter.unusedVariables false
set_option linter.unusedSimpArgs false
open Go Go.Mir Go.Proofs
@[irreducible] noncomputable def b35:Cmd:=((Tryz.f35.body).bind (trC Tryz.prog [1000031,1000105,1000035,1000074] 35 [] [])).getD .skip
noncomputable def c35:FnC:=⟨35,14,[(.cell 2 (some 2)),(.tmp 3)],b35,true,[(.one (.int .i64))],.tup [(.agg [(.slo 1),(.slo 2)]),(.one (.int .i64))],none,false,[(.tup [(.agg [(.row 3500301),(.slo 2)]),(.one (.int .i64))],[.row 3500301 9 1 true]),(.tup [(.agg [(.slo 1),(.slo 2)]),(.one (.int .i64))],[])]⟩
theorem is35:IsFn Tryz.prog 35 c35:=⟨⟨_,_,[1000031,1000105,1000035,1000074],[],[],Tryz.func35,rfl,(by kernel_rfl),rfl,(by kernel_rfl),(by kernel_rfl)⟩⟩
@[irreducible] noncomputable def b132:Cmd:=((Tryz.f132.body).bind (trC Tryz.prog [1000031,1000105,1000035,1000074] 132 [] [])).getD .skip
noncomputable def c132:FnC:=⟨132,19,[(.tmp 4)],b132,false,[(.one (.slo 1)),(.one (.int .i64))],.val (.one .bool),none,false,[]⟩
theorem is132:IsFn Tryz.prog 132 c132:=⟨⟨_,_,[1000031,1000105,1000035,1000074],[],[],Tryz.func132,rfl,(by kernel_rfl),rfl,(by kernel_rfl),(by kernel_rfl)⟩⟩
@[irreducible] noncomputable def b85:Cmd:=((Tryz.f85.body).bind (trC Tryz.prog [1000031,1000105,1000035,1000074] 85 [(2,([0,3],[8501203,8501204],[],[])),(3,([0,3,4],[8501203,8501204],[],[])),(4,([0,3,4],[8501203,8501204],[],[]))] [(3,[.keepF 85,.keep 0,.rowIn 3 8500100,.slot 4 (.one (.int .i64)),.row 8500100 5 1 true]),(7,[.keepF 85,.keep 0,.keep 3,.keep 4,.slot 5 (.one (.int .i64)),.slot 6 (.one (.int .i64)),.keepO 8500100])])).getD .skip
noncomputable def c85:FnC:=⟨85,34,[(.tmp 2)],b85,false,[(.one (.slo 1))],.val (.one .str),none,false,[]⟩
theorem is85:IsFn Tryz.prog 85 c85:=⟨⟨_,_,[1000031,1000105,1000035,1000074],[(2,([0,3],[8501203,8501204],[],[])),(3,([0,3,4],[8501203,8501204],[],[])),(4,([0,3,4],[8501203,8501204],[],[]))],[(3,[.keepF 85,.keep 0,.rowIn 3 8500100,.slot 4 (.one (.int .i64)),.row 8500100 5 1 true]),(7,[.keepF 85,.keep 0,.keep 3,.keep 4,.slot 5 (.one (.int .i64)),.slot 6 (.one (.int .i64)),.keepO 8500100])],Tryz.func85,rfl,(by kernel_rfl),rfl,(by kernel_rfl),(by kernel_rfl)⟩⟩
@[irreducible] noncomputable def b37:Cmd:=((Tryz.f37.body).bind (trC Tryz.prog [1000031,1000105,1000035,1000074] 37 [] [(3,[.keepF 37,.keep 3,.keep 11,.keep 12,.slot 13 (.one (.int .i64)),.row 3700104 5 1 true])])).getD .skip
noncomputable def c37:FnC:=⟨37,32,[(.tmp 2)],b37,false,[(.one (.slo 1))],.val (.one .str),none,false,[]⟩
theorem is37:IsFn Tryz.prog 37 c37:=⟨⟨_,_,[1000031,1000105,1000035,1000074],[],[(3,[.keepF 37,.keep 3,.keep 11,.keep 12,.slot 13 (.one (.int .i64)),.row 3700104 5 1 true])],Tryz.func37,rfl,(by kernel_rfl),rfl,(by kernel_rfl),(by kernel_rfl)⟩⟩
@[irreducible] noncomputable def b91:Cmd:=((Tryz.f91.body).bind (trC Tryz.prog [1000031,1000105,1000035,1000074] 91 [] [(7,[.keepF 91,.keep 0,.keep 6,.keep 25,.slot 26 (.one (.int .i64)),.row 9100501 4 1 true])])).getD .skip
noncomputable def c91:FnC:=⟨91,47,[(.tmp 4),(.tmp 5)],b91,false,[(.one .str),(.one (.int .i64))],.tup [(.one (.slo 1)),(.one (.int .i64))],none,false,[]⟩
theorem is91:IsFn Tryz.prog 91 c91:=⟨⟨_,_,[1000031,1000105,1000035,1000074],[],[(7,[.keepF 91,.keep 0,.keep 6,.keep 25,.slot 26 (.one (.int .i64)),.row 9100501 4 1 true])],Tryz.func91,rfl,(by kernel_rfl),rfl,(by kernel_rfl),(by kernel_rfl)⟩⟩
@[irreducible] noncomputable def b33:Cmd:=((Tryz.f33.body).bind (trC Tryz.prog [1000031,1000105,1000035,1000074] 33 [] [(5,[.keepF 33,.keep 2,.keep 4,.slot 15 (.one (.int .i64)),.keepO 3300000,.row 3300301 4 1 true])])).getD .skip
noncomputable def c33:FnC:=⟨33,26,[(.cell 2 (some 2)),(.tmp 3)],b33,false,[(.one (.int .i64))],.tup [(.agg [(.slo 1),(.slo 1)]),(.one (.int .i64))],none,false,[]⟩
theorem is33:IsFn Tryz.prog 33 c33:=⟨⟨_,_,[1000031,1000105,1000035,1000074],[],[(5,[.keepF 33,.keep 2,.keep 4,.slot 15 (.one (.int .i64)),.keepO 3300000,.row 3300301 4 1 true])],Tryz.func33,rfl,(by kernel_rfl),rfl,(by kernel_rfl),(by kernel_rfl)⟩⟩
@[irreducible] noncomputable def b145:Cmd:=((Tryz.f145.body).bind (trC Tryz.prog [1000031,1000105,1000035,1000074] 145 [] [])).getD .skip
noncomputable def c145:FnC:=⟨145,30,[(.tmp 4)],b145,false,[(.agg [(.slo 1),(.slo 1)]),(.one (.int .i64))],.val (.one .bool),none,false,[]⟩
theorem is145:IsFn Tryz.prog 145 c145:=⟨⟨_,_,[1000031,1000105,1000035,1000074],[],[],Tryz.func145,rfl,(by kernel_rfl),rfl,(by kernel_rfl),(by kernel_rfl)⟩⟩
@[irreducible] noncomputable def b144:Cmd:=((Tryz.f144.body).bind (trC Tryz.prog [1000031,1000105,1000035,1000074] 144 [(2,([1,2,3,6,7],[14400603,14400604,14400707,14400708],[(921606593,14490001,4,1)],[])),(3,([1,2,3,6,7,14,15],[14400603,14400604,14400707,14400708],[],[])),(8,([1,2,3,6,7,14,15],[14400603,14400604,14400707,14400708],[],[]))] [(3,[.keepF 144,.keep 1,.keep 2,.keep 3,.keep 6,.keep 7,.keep 14,.slot 15 (.one (.int .i64)),.keepO 14400000,.keepO 14400001,.box 14400103 [(.slo 1),(.row 14490001)],.row 14490001 4 1 true])])).getD .skip
noncomputable def c144:FnC:=⟨144,39,[(.cell 6 (some 2))],b144,false,[(.agg [(.slo 1),(.slo 1)]),(.one (.int .i64)),(.one .bool)],.val (.agg [(.slo 1),(.slo 1)]),none,false,[]⟩
theorem is144:IsFn Tryz.prog 144 c144:=⟨⟨_,_,[1000031,1000105,1000035,1000074],[(2,([1,2,3,6,7],[14400603,14400604,14400707,14400708],[(921606593,14490001,4,1)],[])),(3,([1,2,3,6,7,14,15],[14400603,14400604,14400707,14400708],[],[])),(8,([1,2,3,6,7,14,15],[14400603,14400604,14400707,14400708],[],[]))],[(3,[.keepF 144,.keep 1,.keep 2,.keep 3,.keep 6,.keep 7,.keep 14,.slot 15 (.one (.int .i64)),.keepO 14400000,.keepO 14400001,.box 14400103 [(.slo 1),(.row 14490001)],.row 14490001 4 1 true])],Tryz.func144,rfl,(by kernel_rfl),rfl,(by kernel_rfl),(by kernel_rfl)⟩⟩
@[irreducible] noncomputable def b107:Cmd:=((Tryz.f107.body).bind (trC Tryz.prog [1000031,1000105,1000035,1000074] 107 [] [(2,[.keepF 107,.keep 2,.keep 4,.keep 8,.keep 9,.slot 10 (.one (.int .i64)),.box 10700000 [(.slo 1),(.slo 1)],.box 10700001 [.nil,.nil]])])).getD .skip
noncomputable def c107:FnC:=⟨107,37,[(.cell 4 (some 2)),(.tmp 5)],b107,false,[(.agg [(.slo 1),(.slo 1)]),(.one (.slo 1))],.tup [(.agg [(.slo 1),(.slo 1)]),(.one (.int .i64))],none,false,[]⟩
theorem is107:IsFn Tryz.prog 107 c107:=⟨⟨_,_,[1000031,1000105,1000035,1000074],[],[(2,[.keepF 107,.keep 2,.keep 4,.keep 8,.keep 9,.slot 10 (.one (.int .i64)),.box 10700000 [(.slo 1),(.slo 1)],.box 10700001 [.nil,.nil]])],Tryz.func107,rfl,(by kernel_rfl),rfl,(by kernel_rfl),(by kernel_rfl)⟩⟩
@[irreducible] noncomputable def b108:Cmd:=((Tryz.f108.body).bind (trC Tryz.prog [1000031,1000105,1000035,1000074] 108 [] [(2,[.keepF 108,.keep 1,.keep 2,.keep 8,.slot 9 (.one (.int .i64)),.keepO 10800000,.box 10800001 [.nil,.nil]])])).getD .skip
noncomputable def c108:FnC:=⟨108,21,[(.cell 2 (some 2)),(.tmp 3),(.tmp 4)],b108,false,[(.agg [(.slo 1),(.slo 1)])],.tup [(.agg [(.slo 1),(.slo 1)]),(.one (.int .i64)),(.one (.int .i64))],none,false,[]⟩
theorem is108:IsFn Tryz.prog 108 c108:=⟨⟨_,_,[1000031,1000105,1000035,1000074],[],[(2,[.keepF 108,.keep 1,.keep 2,.keep 8,.slot 9 (.one (.int .i64)),.keepO 10800000,.box 10800001 [.nil,.nil]])],Tryz.func108,rfl,(by kernel_rfl),rfl,(by kernel_rfl),(by kernel_rfl)⟩⟩
@[irreducible] noncomputable def b141:Cmd:=((Tryz.f141.body).bind (trC Tryz.prog [1000031,1000105,1000035,1000074] 141 [] [(4,[.keepF 141,.keep 0,.keep 1,.keep 12,.slot 13 (.one (.int .i64))])])).getD .skip
noncomputable def c141:FnC:=⟨141,26,[(.tmp 4)],b141,false,[(.one (.slo 1)),(.one (.slo 1))],.val (.one .bool),none,false,[]⟩
theorem is141:IsFn Tryz.prog 141 c141:=⟨⟨_,_,[1000031,1000105,1000035,1000074],[],[(4,[.keepF 141,.keep 0,.keep 1,.keep 12,.slot 13 (.one (.int .i64))])],Tryz.func141,rfl,(by kernel_rfl),rfl,(by kernel_rfl),(by kernel_rfl)⟩⟩
@[irreducible] noncomputable def b98:Cmd:=((Tryz.f98.body).bind (trC Tryz.prog [1000031,1000105,1000035,1000074] 98 [] [])).getD .skip
noncomputable def c98:FnC:=⟨98,17,[(.tmp 4)],b98,false,[(.agg [(.slo 1),(.slo 1)]),(.agg [(.slo 1),(.slo 1)])],.val (.one .bool),none,false,[]⟩
theorem is98:IsFn Tryz.prog 98 c98:=⟨⟨_,_,[1000031,1000105,1000035,1000074],[],[],Tryz.func98,rfl,(by kernel_rfl),rfl,(by kernel_rfl),(by kernel_rfl)⟩⟩
@[irreducible] noncomputable def b49:Cmd:=((Tryz.f49.body).bind (trC Tryz.prog [1000031,1000105,1000035,1000074] 49 [] [(4,[.keepF 49,.keep 2,.keep 3,.keep 47,.slot 48 (.one (.int .i64)),.keepO 4900000,.keepO 4900001])])).getD .skip
noncomputable def c49:FnC:=⟨49,63,[(.tmp 4)],b49,false,[(.agg [(.slo 1),(.slo 1),(.slo 1),(.int .i64),(.int .i64)]),(.agg [(.slo 1),(.slo 1),(.slo 1),(.int .i64),(.int .i64)])],.val (.one .bool),none,false,[]⟩
theorem is49:IsFn Tryz.prog 49 c49:=⟨⟨_,_,[1000031,1000105,1000035,1000074],[],[(4,[.keepF 49,.keep 2,.keep 3,.keep 47,.slot 48 (.one (.int .i64)),.keepO 4900000,.keepO 4900001])],Tryz.func49,rfl,(by kernel_rfl),rfl,(by kernel_rfl),(by kernel_rfl)⟩⟩
@[irreducible] noncomputable def b105:Cmd:=((Tryz.f105.body).bind (trC Tryz.prog [1000031,1000105,1000035,1000074] 105 [(7,([1,4,5],[10501102,10501103],[],[])),(8,([4,5,20,21],[10501102,10501103],[],[])),(12,([4,5,20,21],[10501102,10501103],[],[]))] [(8,[.keepF 105,.keep 4,.rowIn 5 10500600,.keep 20,.slot 21 (.one (.int .i64)),.keepO 10550301,.keepO 10560301,.row 10570301 3 1 false,.row 10500600 3 1 true])])).getD .skip
noncomputable def c105:FnC:=⟨105,36,[(.tmp 2),(.tmp 3)],b105,true,[(.agg [(.slo 1),(.slo 1),(.slo 1),(.int .i64),(.int .i64)])],.tup [(.one (.slo 1)),(.one (.int .i64))],none,false,[(.tup [(.one (.row 10500600)),(.one (.int .i64))],[.row 10500600 3 1 true]),(.tup [(.one (.slo 1)),(.one (.int .i64))],[])]⟩
theorem is105:IsFn Tryz.prog 105 c105:=⟨⟨_,_,[1000031,1000105,1000035,1000074],[(7,([1,4,5],[10501102,10501103],[],[])),(8,([4,5,20,21],[10501102,10501103],[],[])),(12,([4,5,20,21],[10501102,10501103],[],[]))],[(8,[.keepF 105,.keep 4,.rowIn 5 10500600,.keep 20,.slot 21 (.one (.int .i64)),.keepO 10550301,.keepO 10560301,.row 10570301 3 1 false,.row 10500600 3 1 true])],Tryz.func105,rfl,(by kernel_rfl),rfl,(by kernel_rfl),(by kernel_rfl)⟩⟩
@[irreducible] noncomputable def b64:Cmd:=((Tryz.f64.body).bind (trC Tryz.prog [1000031,1000105,1000035,1000074] 64 [(5,([1,2,4,6,8],[6401002,6401003],[],[])),(6,([2,4,6,8,24,25,26],[6401002,6401003],[],[])),(11,([2,4,6,8,24,25,26],[6401002,6401003],[],[]))] [(6,[.keepF 64,.keep 2,.keep 4,.rowIn 6 6450101,.keep 8,.keep 24,.keep 25,.slot 26 (.one (.int .i64)),.keepO 6400000,.box 6400001 [(.int .i64),(.int .i64),(.int .i64)],.row 6450101 3 1 true,.keepO 6450401,.keepO 6460401,.keepO 6470401]),(13,[.keepF 64,.keep 4,.keep 6,.keep 8,.keep 53,.keep 54,.slot 55 (.one (.int .i64)),.box 6400001 [(.int .i64),(.int .i64),(.int .i64)],.keepO 6450101,.keepO 6450401,.keepO 6460401,.keepO 6470401])])).getD .skip
noncomputable def c64:FnC:=⟨64,86,[(.cell 4 (some 3)),(.tmp 5)],b64,false,[(.agg [(.slo 1),(.slo 1),(.slo 1),(.int .i64),(.int .i64)]),(.one (.slo 1))],.tup [(.agg [(.int .i64),(.int .i64),(.int .i64)]),(.one (.int .i64))],none,false,[]⟩
theorem is64:IsFn Tryz.prog 64 c64:=⟨⟨_,_,[1000031,1000105,1000035,1000074],[(5,([1,2,4,6,8],[6401002,6401003],[],[])),(6,([2,4,6,8,24,25,26],[6401002,6401003],[],[])),(11,([2,4,6,8,24,25,26],[6401002,6401003],[],[]))],[(6,[.keepF 64,.keep 2,.keep 4,.rowIn 6 6450101,.keep 8,.keep 24,.keep 25,.slot 26 (.one (.int .i64)),.keepO 6400000,.box 6400001 [(.int .i64),(.int .i64),(.int .i64)],.row 6450101 3 1 true,.keepO 6450401,.keepO 6460401,.keepO 6470401]),(13,[.keepF 64,.keep 4,.keep 6,.keep 8,.keep 53,.keep 54,.slot 55 (.one (.int .i64)),.box 6400001 [(.int .i64),(.int .i64),(.int .i64)],.keepO 6450101,.keepO 6450401,.keepO 6460401,.keepO 6470401])],Tryz.func64,rfl,(by kernel_rfl),rfl,(by kernel_rfl),(by kernel_rfl)⟩⟩
def b40:Cmd:=(.seq (.region [(o 4 (.mov (.const (.string ⟨#[]⟩))))]) (.seq (.region [(m 5 0),(m 6 1),(os 7 (.call false 85 [(T 6)]) sS),(o 8 (.build [(.n (.int .i64 0)),(.n (.int .i64 0)),(.n (.str ⟨#[]⟩))] [(0,(1,(N 3))),(1,(1,(T 5))),(2,(1,(T 7)))])),(os 9 (.call false 84 [(T 8)]) sS),(m 4 9)]) .ret))
noncomputable def c40:FnC:=⟨40,10,[(.tmp 4)],b40,false,[(.one (.int .i64)),(.one (.slo 1))],.val (.one .str),none,false,[]⟩
theorem is40:IsFn Tryz.prog 40 c40:=⟨⟨_,_,[1000031,1000105,1000035,1000074],[],[],Tryz.func40,rfl,(by kernel_rfl),rfl,(by kernel_rfl),(by kernel_rfl)⟩⟩
@[irreducible] noncomputable def b11:Cmd:=((Tryz.f11.body).bind (trC Tryz.prog [1000031,1000105,1000035,1000074] 11 [] [])).getD .skip
noncomputable def c11:FnC:=⟨11,68,[(.cell 2 (some 2)),(.tmp 3)],b11,false,[(.one (.int .i64))],.tup [(.agg [(.slo 1),(.slo 2)]),(.one (.int .i64))],none,false,[]⟩
theorem is11:IsFn Tryz.prog 11 c11:=⟨⟨_,_,[1000031,1000105,1000035,1000074],[],[],Tryz.func11,rfl,(by kernel_rfl),rfl,(by kernel_rfl),(by kernel_rfl)⟩⟩
@[irreducible] noncomputable def b43:Cmd:=((Tryz.f43.body).bind (trC Tryz.prog [1000031,1000105,1000035,1000074] 43 [] [])).getD .skip
noncomputable def c43:FnC:=⟨43,40,[(.tmp 4),(.tmp 5)],b43,false,[(.agg [(.slo 1),(.slo 2)]),(.agg [(.int .i64),(.int .i64),(.int .i64),(.int .i64)])],.tup [(.one (.slo 1)),(.one .bool)],none,false,[]⟩
theorem is43:IsFn Tryz.prog 43 c43:=⟨⟨_,_,[1000031,1000105,1000035,1000074],[],[],Tryz.func43,rfl,(by kernel_rfl),rfl,(by kernel_rfl),(by kernel_rfl)⟩⟩
@[irreducible] noncomputable def b16:Cmd:=((Tryz.f16.body).bind (trC Tryz.prog [1000031,1000105,1000035,1000074] 16 [] [(13,[.keepF 16,.keep 1,.keep 2,.keep 4,.keep 5,.keep 9,.keep 81,.keep 82,.slot 83 (.one (.int .i64)),.keepO 1600000,.keepO 1600001,.keepO 1600514,.keepO 1601112,.row 1601105 9 1 true])])).getD .skip
noncomputable def c16:FnC:=⟨16,121,[(.cell 2 (some 11)),(.tmp 3)],b16,false,[(.agg [(.slo 1),(.slo 2)])],.tup [(.agg [(.int .i64),(.int .i64),(.int .i64),(.int .i64),(.int .i64),(.slo 1),(.slo 1),(.slo 1),(.int .i64),(.int .i64),(.slo 1)]),(.one (.int .i64))],none,false,[]⟩
theorem is16:IsFn Tryz.prog 16 c16:=⟨⟨_,_,[1000031,1000105,1000035,1000074],[],[(13,[.keepF 16,.keep 1,.keep 2,.keep 4,.keep 5,.keep 9,.keep 81,.keep 82,.slot 83 (.one (.int .i64)),.keepO 1600000,.keepO 1600001,.keepO 1600514,.keepO 1601112,.row 1601105 9 1 true])],Tryz.func16,rfl,(by kernel_rfl),rfl,(by kernel_rfl),(by kernel_rfl)⟩⟩
@[irreducible] noncomputable def b26:Cmd:=((Tryz.f26.body).bind (trC Tryz.prog [1000031,1000105,1000035,1000074] 26 [] [])).getD .skip
noncomputable def c26:FnC:=⟨26,72,[(.tmp 4)],b26,false,[(.agg [(.slo 1),(.slo 2)]),(.agg [(.int .i64),(.int .i64),(.int .i64),(.int .i64),(.int .i64),(.slo 1),(.slo 1),(.slo 1),(.int .i64),(.int .i64),(.slo 1)])],.val (.one .bool),none,false,[]⟩
theorem is26:IsFn Tryz.prog 26 c26:=⟨⟨_,_,[1000031,1000105,1000035,1000074],[],[],Tryz.func26,rfl,(by kernel_rfl),rfl,(by kernel_rfl),(by kernel_rfl)⟩⟩
@[irreducible] noncomputable def b27:Cmd:=((Tryz.f27.body).bind (trC Tryz.prog [1000031,1000105,1000035,1000074] 27 [] [])).getD .skip
noncomputable def c27:FnC:=⟨27,76,[(.tmp 4)],b27,false,[(.agg [(.slo 1),(.slo 2)]),(.agg [(.int .i64),(.int .i64),(.int .i64),(.int .i64),(.int .i64),(.slo 1),(.slo 1),(.slo 1),(.int .i64),(.int .i64),(.slo 1)])],.val (.one .bool),none,false,[]⟩
theorem is27:IsFn Tryz.prog 27 c27:=⟨⟨_,_,[1000031,1000105,1000035,1000074],[],[],Tryz.func27,rfl,(by kernel_rfl),rfl,(by kernel_rfl),(by kernel_rfl)⟩⟩
@[irreducible] noncomputable def b52:Cmd:=((Tryz.f52.body).bind (trC Tryz.prog [1000031,1000105,1000035,1000074] 52 [] [])).getD .skip
noncomputable def c52:FnC:=⟨52,12,[(.cell 4 (some 2)),(.tmp 5)],b52,false,[(.agg [(.slo 1),(.slo 2)])],.tup [(.agg [(.slo 1),(.slo 2)]),(.one (.int .i64))],none,false,[]⟩
theorem is52:IsFn Tryz.prog 52 c52:=⟨⟨_,_,[1000031,1000105,1000035,1000074],[],[],Tryz.func52,rfl,(by kernel_rfl),rfl,(by kernel_rfl),(by kernel_rfl)⟩⟩
@[irreducible] noncomputable def b51:Cmd:=((Tryz.f51.body).bind (trC Tryz.prog [1000031,1000105,1000035,1000074] 51 [] [])).getD .skip
noncomputable def c51:FnC:=⟨51,33,[(.cell 4 (some 3)),(.tmp 5)],b51,false,[(.agg [(.slo 1),(.slo 2),(.int .i64)]),(.one .raw)],.tup [(.agg [(.slo 1),(.slo 2),(.int .i64)]),(.one (.int .i64))],none,false,[]⟩
theorem is51:IsFn Tryz.prog 51 c51:=⟨⟨_,_,[1000031,1000105,1000035,1000074],[],[],Tryz.func51,rfl,(by kernel_rfl),rfl,(by kernel_rfl),(by kernel_rfl)⟩⟩
@[irreducible] noncomputable def b19:Cmd:=((Tryz.f19.body).bind (trC Tryz.prog [1000031,1000105,1000035,1000074] 19 [] [])).getD .skip
noncomputable def c19:FnC:=⟨19,13,[(.cell 6 (some 3)),(.tmp 7)],b19,false,[(.agg [(.slo 1),(.slo 2),(.int .i64)]),(.one (.int .i64)),(.one .str)],.tup [(.agg [(.slo 1),(.slo 2),(.int .i64)]),(.one (.int .i64))],none,false,[]⟩
theorem is19:IsFn Tryz.prog 19 c19:=⟨⟨_,_,[1000031,1000105,1000035,1000074],[],[],Tryz.func19,rfl,(by kernel_rfl),rfl,(by kernel_rfl),(by kernel_rfl)⟩⟩
@[irreducible] noncomputable def b20:Cmd:=((Tryz.f20.body).bind (trC Tryz.prog [1000031,1000105,1000035,1000074] 20 [] [])).getD .skip
noncomputable def c20:FnC:=⟨20,8,[(.cell 2 (some 3)),(.tmp 3)],b20,false,[(.agg [(.slo 1),(.slo 2),(.int .i64)])],.tup [(.agg [(.slo 1),(.slo 2),(.int .i64)]),(.one (.int .i64))],none,false,[]⟩
theorem is20:IsFn Tryz.prog 20 c20:=⟨⟨_,_,[1000031,1000105,1000035,1000074],[],[],Tryz.func20,rfl,(by kernel_rfl),rfl,(by kernel_rfl),(by kernel_rfl)⟩⟩
@[irreducible] noncomputable def b23:Cmd:=((Tryz.f23.body).bind (trC Tryz.prog [1000031,1000105,1000035,1000074] 23 [] [])).getD .skip
noncomputable def c23:FnC:=⟨23,58,[(.cell 4 (some 3)),(.tmp 5)],b23,false,[(.agg [(.slo 1),(.slo 2),(.int .i64)]),(.agg [(.int .i64),.str])],.tup [(.agg [(.slo 1),(.slo 2),(.int .i64)]),(.one (.int .i64))],none,false,[]⟩
theorem is23:IsFn Tryz.prog 23 c23:=⟨⟨_,_,[1000031,1000105,1000035,1000074],[],[],Tryz.func23,rfl,(by kernel_rfl),rfl,(by kernel_rfl),(by kernel_rfl)⟩⟩
@[irreducible] noncomputable def b61:Cmd:=((Tryz.f61.body).bind (trC Tryz.prog [1000031,1000105,1000035,1000074] 61 [] [])).getD .skip
noncomputable def c61:FnC:=⟨61,27,[],b61,false,[(.one .raw),(.one (.int .i64)),(.one .str)],.tup [],none,true,[]⟩
theorem is61:IsFn Tryz.prog 61 c61:=⟨⟨_,_,[1000031,1000105,1000035,1000074],[],[],Tryz.func61,rfl,(by kernel_rfl),rfl,(by kernel_rfl),(by kernel_rfl)⟩⟩
@[irreducible] noncomputable def b62:Cmd:=((Tryz.f62.body).bind (trC Tryz.prog [1000031,1000105,1000035,1000074] 62 [] [])).getD .skip
noncomputable def c62:FnC:=⟨62,21,[],b62,false,[(.one .raw)],.tup [],none,true,[]⟩
theorem is62:IsFn Tryz.prog 62 c62:=⟨⟨_,_,[1000031,1000105,1000035,1000074],[],[],Tryz.func62,rfl,(by kernel_rfl),rfl,(by kernel_rfl),(by kernel_rfl)⟩⟩
@[irreducible] noncomputable def b58:Cmd:=((Tryz.f58.body).bind (trC Tryz.prog [1000031,1000105,1000035,1000074] 58 [] [])).getD .skip
noncomputable def c58:FnC:=⟨58,8,[(.cell 2 (some 3)),(.cell 3 (some 11)),(.tmp 4)],b58,false,[(.one (.int .i64))],.tup [(.agg [(.slo 1),(.slo 2),(.int .i64)]),(.agg [(.int .i64),(.int .i64),(.int .i64),(.int .i64),(.int .i64),(.slo 1),(.slo 1),(.slo 1),(.int .i64),(.int .i64),(.slo 1)]),(.one (.int .i64))],none,false,[]⟩
theorem is58:IsFn Tryz.prog 58 c58:=⟨⟨_,_,[1000031,1000105,1000035,1000074],[],[],Tryz.func58,rfl,(by kernel_rfl),rfl,(by kernel_rfl),(by kernel_rfl)⟩⟩
@[irreducible] noncomputable def b24:Cmd:=((Tryz.f24.body).bind (trC Tryz.prog [1000031,1000105,1000035,1000074] 24 [] [(25,[.keepF 24,.keep 3,.keep 4,.keep 5,.keep 7,.keep 8,.keep 11,.keep 13,.keep 14,.keep 15,.keep 16,.keep 17,.slot 18 (.one (.int .i64)),.keepO 2400001,.keepO 2400002,.keepO 2400003,.keepO 2400202,.keepO 2401010,.keepO 2401909,.box 2402302 [(.slo 1),(.slo 2),(.int .i64),(.int .i64)]])])).getD .skip
noncomputable def c24:FnC:=⟨24,244,[(.cell 4 (some 3)),(.cell 5 (some 11)),(.tmp 6)],b24,false,[(.agg [(.slo 1),(.slo 2),(.int .i64)]),(.agg [(.int .i64),(.int .i64),(.int .i64),(.int .i64),(.int .i64),(.slo 1),(.slo 1),(.slo 1),(.int .i64),(.int .i64),(.slo 1)])],.tup [(.agg [(.slo 1),(.slo 2),(.int .i64)]),(.agg [(.int .i64),(.int .i64),(.int .i64),(.int .i64),(.int .i64),(.slo 1),(.slo 1),(.slo 1),(.int .i64),(.int .i64),(.slo 1)]),(.one (.int .i64))],none,false,[]⟩
theorem is24:IsFn Tryz.prog 24 c24:=⟨⟨_,_,[1000031,1000105,1000035,1000074],[],[(25,[.keepF 24,.keep 3,.keep 4,.keep 5,.keep 7,.keep 8,.keep 11,.keep 13,.keep 14,.keep 15,.keep 16,.keep 17,.slot 18 (.one (.int .i64)),.keepO 2400001,.keepO 2400002,.keepO 2400003,.keepO 2400202,.keepO 2401010,.keepO 2401909,.box 2402302 [(.slo 1),(.slo 2),(.int .i64),(.int .i64)]])],Tryz.func24,rfl,(by kernel_rfl),rfl,(by kernel_rfl),(by kernel_rfl)⟩⟩
@[irreducible] noncomputable def b65:Cmd:=((Tryz.f65.body).bind (trC Tryz.prog [1000031,1000105,1000035,1000074] 65 [(8,([2,3,8,10,11],[6501209,6501210],[],[])),(9,([2,3,8,10,11,12],[6501209,6501210],[],[])),(10,([2,3,8,10,11,12],[6501209,6501210],[],[]))] [(9,[.keepF 65,.keep 2,.keep 3,.keep 8,.keep 10,.rowIn 11 6500700,.slot 12 (.one (.int .i64)),.keepO 6500000,.keepO 6500001,.keepO 6500111,.row 6500700 54 2 true])])).getD .skip
noncomputable def c65:FnC:=⟨65,114,[(.tmp 4),(.tmp 5),(.tmp 6),(.tmp 7)],b65,false,[(.agg [(.slo 1),(.slo 2)]),(.agg [(.int .i64),(.int .i64),(.int .i64),(.int .i64),(.int .i64),(.slo 1),(.slo 1),(.slo 1),(.int .i64),(.int .i64),(.slo 1)])],.tup [(.one (.slo 2)),(.one (.int .i64)),(.one (.slo 1)),(.one (.int .i64))],none,false,[]⟩
theorem is65:IsFn Tryz.prog 65 c65:=⟨⟨_,_,[1000031,1000105,1000035,1000074],[(8,([2,3,8,10,11],[6501209,6501210],[],[])),(9,([2,3,8,10,11,12],[6501209,6501210],[],[])),(10,([2,3,8,10,11,12],[6501209,6501210],[],[]))],[(9,[.keepF 65,.keep 2,.keep 3,.keep 8,.keep 10,.rowIn 11 6500700,.slot 12 (.one (.int .i64)),.keepO 6500000,.keepO 6500001,.keepO 6500111,.row 6500700 54 2 true])],Tryz.func65,rfl,(by kernel_rfl),rfl,(by kernel_rfl),(by kernel_rfl)⟩⟩
@[irreducible] noncomputable def b25:Cmd:=((Tryz.f25.body).bind (trC Tryz.prog [1000031,1000105,1000035,1000074] 25 [(11,([2,3,4,5,9,10,11],[2501302,2501406],[],[])),(12,([2,3,4,5,10,11,61,62,63],[2501302,2501406],[],[])),(20,([2,3,4,5,10,11,61,62,63],[2501302,2501406],[],[])),(25,([2,3,4,5,10,11,17],[2503004],[(160135367,2503005,9,1)],[])),(26,([2,3,4,5,10,11,17,119,120,121],[2503004],[(160135367,2503005,9,1)],[])),(31,([2,3,4,5,10,11,17,119,120,121],[2503004],[],[]))] [(12,[.keepF 25,.keep 2,.keep 3,.keep 4,.keep 5,.keep 10,.keep 11,.keep 61,.keep 62,.slot 63 (.one (.int .i64)),.box 2500000 [(.slo 1),(.slo 2),(.int .i64)],.keepO 2500001,.box 2500002 [.nil,.nil,(.int .i64)],.box 2500003 [(.int .i64),(.int .i64),(.int .i64),(.int .i64),(.int .i64),.nil,.nil,.nil,(.int .i64),(.int .i64),.nil]]),(26,[.keepF 25,.keep 2,.keep 3,.keep 4,.keep 5,.keep 10,.keep 11,.keep 17,.keep 119,.keep 120,.slot 121 (.one (.int .i64)),.keepO 2500000,.keepO 2500001,.keepO 2500002,.keepO 2500003,.box 2502115 [(.int .i64),(.int .i64),(.int .i64),(.int .i64),(.int .i64),(.slo 1),(.slo 1),(.row 2503005),(.int .i64),(.int .i64),.nil],.row 2503005 9 1 true])])).getD .skip
noncomputable def c25:FnC:=⟨25,145,[(.cell 4 (some 3)),(.cell 5 (some 11)),(.tmp 6)],b25,false,[(.agg [(.slo 1),(.slo 2),(.int .i64)]),(.agg [(.int .i64),(.int .i64),(.int .i64),(.int .i64),(.int .i64),(.slo 1),(.slo 1),(.slo 1),(.int .i64),(.int .i64),(.slo 1)])],.tup [(.agg [(.slo 1),(.slo 2),(.int .i64)]),(.agg [(.int .i64),(.int .i64),(.int .i64),(.int .i64),(.int .i64),(.slo 1),(.slo 1),(.slo 1),(.int .i64),(.int .i64),(.slo 1)]),(.one (.int .i64))],none,false,[]⟩
theorem is25:IsFn Tryz.prog 25 c25:=⟨⟨_,_,[1000031,1000105,1000035,1000074],[(11,([2,3,4,5,9,10,11],[2501302,2501406],[],[])),(12,([2,3,4,5,10,11,61,62,63],[2501302,2501406],[],[])),(20,([2,3,4,5,10,11,61,62,63],[2501302,2501406],[],[])),(25,([2,3,4,5,10,11,17],[2503004],[(160135367,2503005,9,1)],[])),(26,([2,3,4,5,10,11,17,119,120,121],[2503004],[(160135367,2503005,9,1)],[])),(31,([2,3,4,5,10,11,17,119,120,121],[2503004],[],[]))],[(12,[.keepF 25,.keep 2,.keep 3,.keep 4,.keep 5,.keep 10,.keep 11,.keep 61,.keep 62,.slot 63 (.one (.int .i64)),.box 2500000 [(.slo 1),(.slo 2),(.int .i64)],.keepO 2500001,.box 2500002 [.nil,.nil,(.int .i64)],.box 2500003 [(.int .i64),(.int .i64),(.int .i64),(.int .i64),(.int .i64),.nil,.nil,.nil,(.int .i64),(.int .i64),.nil]]),(26,[.keepF 25,.keep 2,.keep 3,.keep 4,.keep 5,.keep 10,.keep 11,.keep 17,.keep 119,.keep 120,.slot 121 (.one (.int .i64)),.keepO 2500000,.keepO 2500001,.keepO 2500002,.keepO 2500003,.box 2502115 [(.int .i64),(.int .i64),(.int .i64),(.int .i64),(.int .i64),(.slo 1),(.slo 1),(.row 2503005),(.int .i64),(.int .i64),.nil],.row 2503005 9 1 true])],Tryz.func25,rfl,(by kernel_rfl),rfl,(by kernel_rfl),(by kernel_rfl)⟩⟩
@[irreducible] noncomputable def b18:Cmd:=((Tryz.f18.body).bind (trC Tryz.prog [1000031,1000105,1000035,1000074] 18 [] [])).getD .skip
noncomputable def c18:FnC:=⟨18,31,[(.tmp 4)],b18,false,[(.agg [(.int .i64),(.int .i64),(.int .i64),(.int .i64),(.int .i64),(.slo 1),(.slo 1),(.slo 1),(.int .i64),(.int .i64),(.slo 1)]),(.agg [(.int .i64),(.int .i64),(.int .i64),(.int .i64),(.int .i64),(.slo 1),(.slo 1),(.slo 1),(.int .i64),(.int .i64),(.slo 1)])],.val (.one .bool),none,false,[]⟩
theorem is18:IsFn Tryz.prog 18 c18:=⟨⟨_,_,[1000031,1000105,1000035,1000074],[],[],Tryz.func18,rfl,(by kernel_rfl),rfl,(by kernel_rfl),(by kernel_rfl)⟩⟩
@[irreducible] noncomputable def b21:Cmd:=((Tryz.f21.body).bind (trC Tryz.prog [1000031,1000105,1000035,1000074] 21 [] [])).getD .skip
noncomputable def c21:FnC:=⟨21,17,[(.tmp 4)],b21,false,[(.agg [(.slo 1),(.slo 2),(.int .i64)]),(.agg [(.slo 1),(.slo 2),(.int .i64)])],.val (.one .bool),none,false,[]⟩
theorem is21:IsFn Tryz.prog 21 c21:=⟨⟨_,_,[1000031,1000105,1000035,1000074],[],[],Tryz.func21,rfl,(by kernel_rfl),rfl,(by kernel_rfl),(by kernel_rfl)⟩⟩
@[irreducible] noncomputable def b15:Cmd:=((Tryz.f15.body).bind (trC Tryz.prog [1000031,1000105,1000035,1000074] 15 [] [])).getD .skip
noncomputable def c15:FnC:=⟨15,13,[(.tmp 2)],b15,false,[(.agg [(.slo 1),(.slo 2)])],.val (.one .bool),none,false,[]⟩
theorem is15:IsFn Tryz.prog 15 c15:=⟨⟨_,_,[1000031,1000105,1000035,1000074],[],[],Tryz.func15,rfl,(by kernel_rfl),rfl,(by kernel_rfl),(by kernel_rfl)⟩⟩
@[irreducible] noncomputable def b12:Cmd:=((Tryz.f12.body).bind (trC Tryz.prog [1000031,1000105,1000035,1000074] 12 [] [])).getD .skip
noncomputable def c12:FnC:=⟨12,32,[(.tmp 0)],b12,false,[],.val (.one .bool),none,false,[]⟩
theorem is12:IsFn Tryz.prog 12 c12:=⟨⟨_,_,[1000031,1000105,1000035,1000074],[],[],Tryz.func12,rfl,(by kernel_rfl),rfl,(by kernel_rfl),(by kernel_rfl)⟩⟩
noncomputable def own4:List (Nat×Fun):=[(35,.code c35),(132,.code c132),(85,.code c85),(37,.code c37),(91,.code c91),(33,.code c33),(145,.code c145),(144,.code c144),(107,.code c107),(108,.code c108),(141,.code c141),(98,.code c98),(49,.code c49),(105,.code c105),(64,.code c64),(40,.code c40),(11,.code c11),(43,.code c43),(16,.code c16),(26,.code c26),(27,.code c27),(52,.code c52),(51,.code c51),(19,.code c19),(20,.code c20),(23,.code c23),(61,.code c61),(62,.code c62),(58,.code c58),(24,.code c24),(65,.code c65),(25,.code c25),(18,.code c18),(21,.code c21),(15,.code c15),(12,.code c12),(60,.prim none readP),(63,.prim none acommP)]
noncomputable def funs4:List (Nat×Fun):=own4++funs3
noncomputable def Fs4:Nat→Option Fun:=table funs4
set_option maxRecDepth 100000 in
theorem company4:Company Tryz.prog Fs4:=
 .cons is35 <| .cons is132 <| .cons is85 <| .cons is37 <| .cons is91 <| .cons is33 <| .cons is145 <| .cons is144 <| .cons is107 <| .cons is108 <| .cons is141 <| .cons is98 <| .cons is49 <| .cons is105 <| .cons is64 <| .cons is40 <| .cons is11 <| .cons is43 <| .cons is16 <| .cons is26 <| .cons is27 <| .cons is52 <| .cons is51 <| .cons is19 <| .cons is20 <| .cons is23 <| .cons is61 <| .cons is62 <| .cons is58 <| .cons is24 <| .cons is65 <| .cons is25 <| .cons is18 <| .cons is21 <| .cons is15 <| .cons is12 <| .cons (read_fun) <| .cons (acomm_fun) <| company3
theorem up4:FsLe Fs3 Fs4:=table_up (by kernel_rfl)
theorem fs35:Fs4 35=some (.code c35):=rfl
theorem fs132:Fs4 132=some (.code c132):=rfl
theorem fs85:Fs4 85=some (.code c85):=rfl
theorem fs37:Fs4 37=some (.code c37):=rfl
theorem fs91:Fs4 91=some (.code c91):=rfl
theorem fs33:Fs4 33=some (.code c33):=rfl
theorem fs145:Fs4 145=some (.code c145):=rfl
theorem fs144:Fs4 144=some (.code c144):=rfl
theorem fs107:Fs4 107=some (.code c107):=rfl
theorem fs108:Fs4 108=some (.code c108):=rfl
theorem fs141:Fs4 141=some (.code c141):=rfl
theorem fs98:Fs4 98=some (.code c98):=rfl
theorem fs49:Fs4 49=some (.code c49):=rfl
theorem fs105:Fs4 105=some (.code c105):=rfl
theorem fs64:Fs4 64=some (.code c64):=rfl
theorem fs40:Fs4 40=some (.code c40):=rfl
theorem fs11:Fs4 11=some (.code c11):=rfl
theorem fs43:Fs4 43=some (.code c43):=rfl
theorem fs16:Fs4 16=some (.code c16):=rfl
theorem fs26:Fs4 26=some (.code c26):=rfl
theorem fs27:Fs4 27=some (.code c27):=rfl
theorem fs52:Fs4 52=some (.code c52):=rfl
theorem fs51:Fs4 51=some (.code c51):=rfl
theorem fs19:Fs4 19=some (.code c19):=rfl
theorem fs20:Fs4 20=some (.code c20):=rfl
theorem fs23:Fs4 23=some (.code c23):=rfl
theorem fs61:Fs4 61=some (.code c61):=rfl
theorem fs62:Fs4 62=some (.code c62):=rfl
theorem fs58:Fs4 58=some (.code c58):=rfl
theorem fs24:Fs4 24=some (.code c24):=rfl
theorem fs65:Fs4 65=some (.code c65):=rfl
theorem fs25:Fs4 25=some (.code c25):=rfl
theorem fs18:Fs4 18=some (.code c18):=rfl
theorem fs21:Fs4 21=some (.code c21):=rfl
theorem fs15:Fs4 15=some (.code c15):=rfl
theorem fs12:Fs4 12=some (.code c12):=rfl
theorem fs60:Fs4 60=some (.prim none readP):=rfl
theorem fs63:Fs4 63=some (.prim none acommP):=rfl
end Go.Proofs.YtegndijbpiccgaaGreatDoor.M
