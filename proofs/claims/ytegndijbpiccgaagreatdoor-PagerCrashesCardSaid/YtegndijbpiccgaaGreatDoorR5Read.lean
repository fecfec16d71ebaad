import Derived.RangeFuncNested
import Derived.RangeFuncBound
import Derived.RangeFuncCalls
import Derived.RangeFuncLeaves
import Derived.Shelf.Abstract
import Derived.WalkKit
import Derived.OwnWalkIn
import Derived.TacticsInMore
import Derived.LoopNIn
import Derived.LoopIn
import Derived.Test.YtegndijbpiccgaaGreatDoorProg
namespace Go.Proofs.YtegndijbpiccgaaGreatDoor.M
set_option linter.unusedVariables false
set_option linter.unusedSimpArgs false
open Go Go.RowKit Go.Shelf Go.Proofs
attribute [local go_sem] Oper.semAt_some
def VW {α:Type}(f:Nat->α)(k:Nat):List α:=(List.range k).map f
theorem LN {α:Type}(f:Nat->α)(k:Nat):VW f (k+1)=VW f k++[f k]:=by simp[VW,List.range_succ]
theorem aK {α:Type}(f:Nat->α)(k:Nat):(VW f k).length=k:=by simp[VW]
def Px (ps:Nat->Int×ByteArray)(len k:Nat):Nat×Int×ByteArray:=(len-1-k,ps (len-1-k))
def wB (x:Int×ByteArray):Value := .agg #[.int .i64 x.1,.string x.2]
set_option maxRecDepth 100000 in
set_option maxHeartbeats 2000000 in
theorem XD (F:Fence)(n:Nat)(h61:F.fn 143)(hro:F.round=none)(hn:1<=n)(l Bs n₀ b off len cap:Nat)(ps:Nat->Int×ByteArray)(hreach:len<=2048)(hb:b<n₀)(hBn:Bs<n₀)(J Jx:List (Nat×Int×ByteArray)->World->Prop)
  (hY:∀pre x W,J pre W->pre.length<len->YieldAt F (n-1) Tryz.prog l #[.int .i64 (x.1:Int),wB x.2] W λe W'=>
   (e = .returned (.bool true)/\J (pre++[x]) W'/\Below n₀ W W')\/(e = .returned (.bool false)/\Jx (pre++[x]) W'))
  (W:World) (hBs:W.cell? ⟨Bs,0,none⟩=some (.slice (some ⟨b,off,none⟩) len cap)) (hc:∀j,j<len->W.cell? ⟨b,off+j*2,none⟩=some (.int .i64 (ps j).1)/\W.cell? ⟨b,off+j*2+1,none⟩=some (.string (ps j).2)) (h0:J [] W):
  CallsIn F n Tryz.prog 143 #[.func (.yield l) #[] #[],.pointer (some ⟨Bs,0,none⟩)] W λe W'=>(∃v,e = .returned v) /\
    (J (VW (Px ps len) len) W'\/(∃k,k<=len/\Jx (VW (Px ps len) k) W')):=by
 refine callsIn_of_wp Tryz.func143 rfl h61 ?_ hro
 simp only[Tryz.ntmps143,List.size_toArray,List.length_cons,List.length_nil,Nat.reduceAdd,Nat.reduceSub,Array.replicate_succ,Array.replicate_zero,List.push_toArray,List.append_toArray,List.nil_append,List.cons_append]
 gi_wp2
 gi_loopw [3] (λi wr=>∃k:Nat,k<=len/\i = .int .i64 ((len:Int)-1-k)/\J (VW (Px ps len) k) wr/\Below n₀ W wr)
  (λi _=>(intOf i+1).toNat)
 case atStart=>exact⟨0,Nat.zero_le _,by simp,h0,Below.refl _ _⟩
 case round=>
  obtain⟨k,hk,rfl,hJs,hnx⟩:=hrel
  by_cases hlt:k<len
  ·have e1:((len:Int)-1-k)=((len-1-k:Nat):Int):=by omega
   obtain⟨hc1,hc2⟩:=hc (len-1-k) (by omega)
   replace hc1:=(hnx.cell (p:=⟨b,off+(len-1-k)*2,none⟩) hb).trans hc1
   replace hc2:=(hnx.cell (p:=⟨b,off+(len-1-k)*2+1,none⟩) hb).trans hc2
   obtain⟨fn,tmps,assign,body,hy,hR⟩:=hY _ (Px ps len k) wr hJs (by rw[aK];exact hlt)
   dsimp only[Px,wB]at hy
   have hBs':=(hnx.cell (p:=⟨Bs,0,none⟩) hBn).trans hBs
   rw[e1]
   gi_wp2
   refine hR.mono ?_
   rintro e W3 (⟨rfl,hJ3,hk3⟩|⟨rfl,hJx3⟩)
   ·gi_wp2
    go_roundw
    case rel=>exact⟨k+1,by omega,by simp;omega,by rw[LN];exact hJ3,hnx.trans hk3⟩
    case measure=>simp[intOf]
   ·gi_wp2
    refine bodyPost_ret (results_none rfl _ _ _) rfl ?_
    exact⟨⟨_,rfl⟩,.inr ⟨k+1,by omega,by rw[LN];exact hJx3⟩⟩
  ·obtain rfl:k=len:=by omega
   have e2:((k:Int)-1-k) = -1:=by omega
   rw[e2]
   gi_wp2
   go_end0
   exact⟨⟨_,rfl⟩,.inl hJs⟩
set_option maxRecDepth 100000 in
set_option maxHeartbeats 1000000 in
theorem Ov (F:Fence)(n:Nat)(h61:F.fn 143)(hro:F.round=none)(l Bs cap:Nat)(a:Option Addr)(J:List (Nat×Int×ByteArray)->World->Prop)(W:World)(hBs:W.cell? ⟨Bs,0,none⟩=some (.slice a 0 cap))(h0:J [] W):
  CallsIn F n Tryz.prog 143 #[.func (.yield l) #[] #[],.pointer (some ⟨Bs,0,none⟩)] W λe W'=>(∃v,e = .returned v)/\J [] W':=by
 refine callsIn_of_wp Tryz.func143 rfl h61 ?_ hro
 simp only[Tryz.ntmps143,List.size_toArray,List.length_cons,List.length_nil,Nat.reduceAdd,Nat.reduceSub,Array.replicate_succ,Array.replicate_zero,List.push_toArray,List.append_toArray,List.nil_append,List.cons_append]
 gi_wp2
 gi_loopw [3] (λi wr=>i = .int .i64 (-1)/\J [] wr) (λ_ _=>0)
 case atStart=>exact⟨rfl,h0⟩
 case round=>
  obtain⟨rfl,hJs⟩:=hrel
  gi_wp2
  go_end0
  exact⟨⟨_,rfl⟩,hJs⟩
set_option maxHeartbeats 1000000 in
theorem Z3 (F:Fence)(n:Nat)(h46:F.fn 104)(hro:F.round=none)(a:Option Addr)(len cap:Nat)(w:World):
  CallsIn F n Tryz.prog 104 #[.slice a len cap] w λe w'=>e = .returned (.func (.func 143) #[] #[.pointer (some ⟨w.heap.size,0,none⟩)])/\w'=w.alloc (.cells #[.slice a len cap] 23):=by
 refine callsIn_of_wp Tryz.func104 rfl h46 ?_ hro
 simp only[Tryz.ntmps104,List.size_toArray,List.length_cons,List.length_nil,Nat.reduceAdd,Nat.reduceSub,Array.replicate_succ,Array.replicate_zero,List.push_toArray,List.append_toArray,List.nil_append,List.cons_append]
 gi_wp2
 go_ret
 exact⟨rfl,rfl⟩
def Holds2 (n₀:Nat)(W:World)(sv:Value)(ps:List (Int×ByteArray)):Prop:=
 ∃a cap,sv = .slice a ps.length cap/\(ps=[]\/∃b off,a=some ⟨b,off,none⟩/\b<n₀/\∀j p,ps[j]?=some p->W.cell? ⟨b,off+j*2,none⟩=some (.int .i64 p.1)/\W.cell? ⟨b,off+j*2+1,none⟩=some (.string p.2))
theorem Holds2.below {n₀:Nat}{A B:World}(h:Below n₀ A B){sv:Value}{ps:List (Int×ByteArray)}:Holds2 n₀ A sv ps->Holds2 n₀ B sv ps
 | ⟨a,cap,e,.inl h⟩=>⟨a,cap,e,.inl h⟩
 | ⟨a,cap,e,.inr ⟨b,off,e2,hb,hc⟩⟩=>⟨a,cap,e,.inr ⟨b,off,e2,hb,λj p hj=>⟨(h.cell (p:=⟨b,off+j*2,none⟩) hb).trans (hc j p hj).1,(h.cell (p:=⟨b,off+j*2+1,none⟩) hb).trans (hc j p hj).2⟩⟩⟩
def UH (ps:List (Int×ByteArray))(j:Nat):Int×ByteArray:=ps[j]?.getD (0,⟨#[]⟩)
theorem SD (F:Fence)(n:Nat)(h61:F.fn 143)(hro:F.round=none)(hn:1<=n)(Bs n₀:Nat)(sv:Value)(ps:List (Int×ByteArray))(hreach:ps.length<=2048)(w:World)(hBs:Bs<n₀)(hn₀:n₀<=w.heap.size)
   (hc:w.cell? ⟨Bs,0,none⟩=some sv) (hI:Holds2 n₀ w sv ps):
   SeqStopsK F n Tryz.prog 143 #[.pointer (some ⟨Bs,0,none⟩)] (λx:Nat×Int×ByteArray => #[Value.int .i64 (x.1:Int),wB x.2]) (Below n₀) (λys=>ys=VW (Px (UH ps) ps.length) ps.length)
     (λpre=>∃k,k<=ps.length/\pre=VW (Px (UH ps) ps.length) k) ps.length w:=λl J Jx W hW _ _ hY h0=>by
 have hc':=(hW.cell (p:=⟨Bs,0,none⟩) (show Bs<_ by omega)).trans hc
 obtain⟨a,cap,rfl,rfl|⟨b,off,rfl,hb,hcs⟩⟩:=hI.below (hW.mono hn₀)
 ·exact(Ov F n h61 hro l Bs cap a J W hc' h0).mono λe W' ⟨he,hj⟩=>⟨he,.inl ⟨_,rfl,hj⟩⟩
 ·refine(XD F n h61 hro hn l Bs n₀ b off ps.length cap (UH ps) hreach hb hBs J Jx hY W hc' (λj hj=>?_) h0).mono ?_
  ·have:=hcs j _ (List.getElem?_eq_getElem hj)
   rw[UH,List.getElem?_eq_getElem hj];exact this
  ·rintro e W' ⟨he,hj|⟨k,hk,hj⟩⟩
   ·exact⟨he,.inl ⟨_,rfl,hj⟩⟩
   ·exact⟨he,.inr ⟨_,⟨k,hk,rfl⟩,hj⟩⟩
attribute [local go_sem] Oper.semAt_some
def BoxC (W:World)(B:Nat)(t:TypeId)(cs:Array Value):Prop:=W.heap[B]?=some (.cells cs t (0,0))
theorem BoxC.lt {W:World}{B:Nat}{t:TypeId}{cs:Array Value}(h:BoxC W B t cs):B<W.heap.size:=(Array.getElem?_eq_some_iff.1 h).1
theorem BoxC.cell {W:World}{B:Nat}{t:TypeId}{cs:Array Value}(h:BoxC W B t cs)(i:Nat):W.cell? ⟨B,i,none⟩=cs[i]?:=by simp[World.cell?,show W.heap[B]?=_ from h]
theorem BoxC.frozen {W:World}{B:Nat}{t:TypeId}{cs:Array Value}(h:BoxC W B t cs)(i:Nat):W.frozen? ⟨B,i,none⟩=false:=by simp[World.frozen?,show W.heap[B]?=_ from h]
theorem BoxC.new (W:World)(t:TypeId)(cs:Array Value):BoxC (W.alloc (.cells cs t)) W.heap.size t cs:=World.alloc_heap_new W _
theorem BoxC.kept {W W':World}{row:Option Nat}{B:Nat}{t:TypeId}{cs:Array Value}(h:BoxC W B t cs)(hg:W.grownBy W' row)(hne:some B≠row):BoxC W' B t cs:=(hg.block B h.lt hne).trans h
theorem BoxC.alloc {W:World}{B:Nat}{t:TypeId}{cs:Array Value}(h:BoxC W B t cs)(o:Obj):BoxC (W.alloc o) B t cs:=h.kept (World.grownBy_alloc W o none) (by simp)
theorem BoxC.below {n₀:Nat}{W W':World}{B:Nat}{t:TypeId}{cs:Array Value}(h:BoxC W B t cs)(hb:Below n₀ W W')(hB:B<n₀):BoxC W' B t cs:=(hb.block B hB).trans h
theorem EC {β:Type}(B:Nat)(t:TypeId)(f:β->Array Value):Own (λs W=>BoxC W B t (f s)):=λs X Y row hs hg hrow=>
 hs.kept hg (λe'=>by obtain⟨o,ho,hc⟩:=hrow B e'.symm;rw[show X.heap[B]?=_ from hs]at ho;cases ho;cases hc)
def W4 (w:World)(vb vp:Value)(block:Int):World:=
 (((w.alloc (.cells #[vb,vp] 25)).alloc (.cells #[.int .i64 block] 3)).alloc (.cells #[.string ⟨#[]⟩] 9)).alloc (.cells #[.int .i64 0] 26)
theorem Jd (w:World)(vb vp:Value)(block:Int):Below w.heap.size w (W4 w vb vp block):=
 ((((Below.refl _ w).alloc (Nat.le_refl _) _).alloc (by simp) _).alloc (by simp;omega) _).alloc (by simp;omega) _
theorem OQ (w:World)(vb vp:Value)(block:Int):(W4 w vb vp block).heap.size=w.heap.size+4:=by simp[W4]
theorem Qv {w w':World}{vb vp:Value}{block:Int}(h:Below (W4 w vb vp block).heap.size (W4 w vb vp block) w'):
  BoxC w' w.heap.size 25 #[vb,vp]/\BoxC w' (w.heap.size+1) 3 #[.int .i64 block]/\BoxC w' (w.heap.size+1+1) 9 #[.string ⟨#[]⟩]/\BoxC w' (w.heap.size+1+1+1) 26 #[.int .i64 0]:=by
 have hs:=OQ w vb vp block
 have g1:=(((BoxC.new w 25 #[vb,vp]).alloc (.cells #[.int .i64 block] 3)).alloc (.cells #[.string ⟨#[]⟩] 9)).alloc (.cells #[.int .i64 0] 26)
 have g2:=((BoxC.new (w.alloc (.cells #[vb,vp] 25)) 3 #[.int .i64 block]).alloc (.cells #[.string ⟨#[]⟩] 9)).alloc (.cells #[.int .i64 0] 26)
 have g3:=(BoxC.new ((w.alloc (.cells #[vb,vp] 25)).alloc (.cells #[.int .i64 block] 3)) 9 #[.string ⟨#[]⟩]).alloc (.cells #[.int .i64 0] 26)
 have g4:=BoxC.new (((w.alloc (.cells #[vb,vp] 25)).alloc (.cells #[.int .i64 block] 3)).alloc (.cells #[.string ⟨#[]⟩] 9)) 26 #[.int .i64 0]
 simp only[World.size_alloc]at g2 g3 g4
 exact⟨g1.below h (by omega),g2.below h (by omega),g3.below h (by omega),g4.below h (by omega)⟩
set_option maxRecDepth 100000 in
set_option maxHeartbeats 4000000 in
theorem Zg (F:Fence)(n:Nat)(h24:F.fn 60)(h45:F.fn 99)(h46:F.fn 104)(hro:F.round=none)(hn:6<=n)(vb vp:Value)(block c:Int)(w:World)
   (hck:∀W,Below w.heap.size w W->CallsIn F (n-1) Tryz.prog 99 #[.agg #[vb,vp],.int .i64 block] W λe W'=>e = .returned (.int .i64 c)/\Below W.heap.size W W') (hc:c≠0):
   CallsIn F n Tryz.prog 60 #[.agg #[vb,vp],.int .i64 block] w λe w'=>e = .returned (.tuple #[.string ⟨#[]⟩,.int .i64 c])/\Below w.heap.size w w':=by
 have h1:1<=n:=by omega
 refine callsIn_of_wp_marks Tryz.func60 rfl h24 ?_ hro
 simp only[Tryz.ntmps60,List.size_toArray,List.length_cons,List.length_nil,Nat.reduceAdd,Nat.reduceSub,Array.replicate_succ,Array.replicate_zero,List.push_toArray,List.append_toArray,List.nil_append,List.cons_append]
 have hc':(c==0)=false:=beq_eq_false_iff_ne.2 hc
 gi_wp2_with (gi_at_call 99;refine(hck _ (Jd w vb vp block)).mono ?_;rintro e w' ⟨rfl,hb1⟩;obtain⟨q0,q1,q2,q3⟩:=Qv hb1;have c2:w'.cell? ⟨w.heap.size+1+1,0,none⟩=some (.string ⟨#[]⟩):=q2.cell 0;have c3:w'.cell? ⟨w.heap.size+1+1+1,0,none⟩=some (.int .i64 0):=q3.cell 0;have f2:=q2.frozen 0;have f3:=q3.frozen 0)
 have r2:Boxed w' (w.heap.size+1+1) 9 (.string ⟨#[]⟩):=q2
 have r3:Boxed w' (w.heap.size+1+1+1) 26 (.int .i64 0):=q3
 have r3':=(r3.other (by omega) (.string ⟨#[]⟩):Boxed (w'.setCell ⟨w.heap.size+1+1,0,none⟩ (.string ⟨#[]⟩)) _ _ _)
 have d2:=((r2.set (.string ⟨#[]⟩)).other (by omega) (.int .i64 c):Boxed ((w'.setCell ⟨w.heap.size+1+1,0,none⟩ (.string ⟨#[]⟩)).setCell ⟨w.heap.size+1+1+1,0,none⟩ (.int .i64 c)) _ _ _).cell
 have d3:=(r3'.set (.int .i64 c)).cell
 refine⟨.tuple #[.string ⟨#[]⟩,.int .i64 c],?_,rfl,?_⟩
 ·simp[results,Tryz.f60,go_sem,d2,d3]
 ·exact(((Jd w vb vp block).trans (hb1.mono (by rw[OQ];omega))).setCell (p:=⟨w.heap.size+1+1,0,none⟩) (by show _<=_;simp;omega) _).setCell (p:=⟨w.heap.size+1+1+1,0,none⟩) (by show _<=_;simp;omega) _
def J8 (pre:List (Nat×Int×ByteArray)):ByteArray:=match pre.getLast? with|some x=>x.2.2|none=>⟨#[]⟩
def Ta (block:Int)(pre:List (Nat×Int×ByteArray)):Prop:=∃pre' x,pre=pre'++[x]/\(∀y∈pre',y.2.1≠block)/\x.2.1=block
theorem L8 (pre:List (Nat×Int×ByteArray))(x:Nat×Int×ByteArray):J8 (pre++[x])=x.2.2:=by simp[J8]
def G2 (ps:List (Int×ByteArray))(k:Nat):List (Nat×Int×ByteArray):=VW (Px (UH ps) ps.length) k
set_option maxRecDepth 100000 in
set_option maxHeartbeats 8000000 in
theorem cP (F:Fence)(n:Nat)(h24:F.fn 60)(h45:F.fn 99)(h46:F.fn 104)(h61:F.fn 143)(hro:F.round=none)(hn:6<=n)(vb vp:Value)(block:Int)(s0:ByteArray)(ps:List (Int×ByteArray))(w:World)
  (hck:∀W,Below w.heap.size w W->CallsIn F (n-1) Tryz.prog 99 #[.agg #[vb,vp],.int .i64 block] W λe W'=>e = .returned (.int .i64 0)/\Below W.heap.size W W')
  (hp1:ps.length<=2048) (hp2:Holds2 w.heap.size w vp ps)
  (hbs:∃b off len cap,vb = .slice (some ⟨b,off,none⟩) len cap/\b<w.heap.size/\0<=block/\block<len/\w.cell? ⟨b,off+block.toNat,none⟩=some (.string s0)):
  CallsIn F n Tryz.prog 60 #[.agg #[vb,vp],.int .i64 block] w λe w'=>(∃s,e = .returned (.tuple #[.string s,.int .i64 0]) /\
    (((∀x∈G2 ps ps.length,x.2.1≠block)/\s=s0)\/∃k,k<=ps.length/\Ta block (G2 ps k)/\s=J8 (G2 ps k)))/\Below w.heap.size w w':=by
 have h1:1<=n:=by omega
 obtain⟨b,off,len,cap,rfl,hb,hb0,hbl,hbc⟩:=hbs
 have hp3:=hp2
 obtain⟨a,cp,rfl,hp4⟩:=hp3
 refine callsIn_of_wp_marks Tryz.func60 rfl h24 ?_ hro
 simp only[Tryz.ntmps60,List.size_toArray,List.length_cons,List.length_nil,Nat.reduceAdd,Nat.reduceSub,Array.replicate_succ,Array.replicate_zero,List.push_toArray,List.append_toArray,List.nil_append,List.cons_append]
 gi_wp2_with (first|(gi_at_call 99;refine(hck _ (Jd w _ _ block)).mono ?_;rintro e w' ⟨rfl,hb1⟩;obtain⟨q0,q1,q2,q3⟩:=Qv hb1;have c0:w'.cell? ⟨w.heap.size,1,none⟩=some (.slice a ps.length cp):=q0.cell 1)|(gi_at_call 104;refine(Z3 F (n-1) h46 hro _ _ _ _).mono ?_;rintro e w'' ⟨rfl,rfl⟩))
 have hs4:=OQ w (.slice (some ⟨b,off,none⟩) len cap) (.slice a ps.length cp) block
 have hsw':=hb1.size
 have hB0:Below w.heap.size w (w'.alloc (.cells #[.slice a ps.length cp] 23)):=((Jd w _ _ block).trans (hb1.mono (by omega))).alloc (by omega) _
 have bN:=Boxed.new w' 23 (.slice a ps.length cp)
 have g0:=q0.alloc (.cells #[.slice a ps.length cp] 23)
 have g1:=q1.alloc (.cells #[.slice a ps.length cp] 23)
 have g2:=q2.alloc (.cells #[.slice a ps.length cp] 23)
 have g3:=q3.alloc (.cells #[.slice a ps.length cp] 23)
 have hsz:(w'.alloc (.cells #[.slice a ps.length cp] 23)).heap.size=w'.heap.size+1:=by simp
 have hbs:=w'.heap.size
 obtain⟨W0,hW0⟩:∃W0,w'.alloc (.cells #[.slice a ps.length cp] 23)=W0:=⟨_,rfl⟩
 rw[hW0]at bN hB0 g0 g1 g2 g3 hsz |-
 obtain⟨Bs,hBs⟩:∃Bs,w'.heap.size=Bs:=⟨_,rfl⟩
 rw[hBs]at bN hsz hsw' |-
 clear hW0 q0 q1 q2 q3 c0 hb1 hBs
 refine wpIn_rangeFunc_ownH hro h1 (gf:=143) (lb := #[.pointer (some ⟨Bs,0,none⟩)]) rfl h61 (enters_of Tryz.func143 (by kernel_rfl) rfl)
  (SD F (n-1) h61 hro (by omega) Bs W0.heap.size (.slice a ps.length cp) ps hp1 W0 (by omega) (Nat.le_refl _) bN.cell (Holds2.below (n₀:=W0.heap.size) (Below.refl _ _) (by
   obtain⟨a',cp',e,h⟩:=Holds2.below hB0 hp2;rcases h with h|⟨b',off',h1,h2,h3⟩
   ·exact⟨a',cp',e,.inl h⟩
   ·exact⟨a',cp',e,.inr ⟨b',off',h1,by omega,h3⟩⟩))) belowK_t (belowK_b (by omega)) (Below.refl _ _) (λ_=>rfl)
  (λpre W=>((∀x∈pre,x.2.1≠block)/\(BoxC W w.heap.size 25 #[.slice (some ⟨b,off,none⟩) len cap,.slice a ps.length cp]/\(BoxC W (w.heap.size+1) 3 #[.int .i64 block]/\(BoxC W (w.heap.size+1+1) 9 #[.string ⟨#[]⟩]/\BoxC W (w.heap.size+1+1+1) 26 #[.int .i64 0]))))/\Below W0.heap.size W0 W)
  (λc pre W=>((c = .ret/\Ta block pre)/\(BoxC W (w.heap.size+1+1) 9 #[.string (J8 pre)]/\BoxC W (w.heap.size+1+1+1) 26 #[.int .i64 0]))/\Below w.heap.size w W)
  (OwnFrom.and (OwnFrom.and (ownFrom_pure _ (λ(pre:List (Nat×Int×ByteArray))=>∀x∈pre,x.2.1≠block)) (OwnFrom.and (Own.from (EC _ _ _) _) (OwnFrom.and (Own.from (EC _ _ _) _) (OwnFrom.and (Own.from (EC _ _ _) _) (Own.from (EC _ _ _) _))))) (ownFrom_below (Nat.le_refl _) (Nat.le_refl _)))
  (λc=>OwnFrom.and (OwnFrom.and (ownFrom_pure _ (λ(pre:List (Nat×Int×ByteArray))=>c = .ret/\Ta block pre)) (OwnFrom.and (Own.from (EC _ _ λpre => #[.string (J8 pre)]) _) (Own.from (EC _ _ _) _))) (ownFrom_below (Nat.le_refl _) (by omega)))
  ⟨⟨by simp,g0,g1,g2,g3⟩,Below.refl _ _⟩
  (λx a' W=>∃Bx,w.heap.size+4<=Bx/\BoxC W Bx 88 #[.int .i64 x.2.1,.string x.2.2]/\a' = { tmps := #[.agg #[.slice (some ⟨b,off,none⟩) len cap,.slice a ps.length cp],.int .i64 block,.pointer (some ⟨w.heap.size,0,none⟩),.pointer (some ⟨w.heap.size+1,0,none⟩),.pointer (some ⟨w.heap.size+1+1,0,none⟩),.pointer (some ⟨w.heap.size+1+1+1,0,none⟩),.int .i64 0,undef,.pointer (some ⟨Bx,0,none⟩),.agg #[.slice (some ⟨b,off,none⟩) len cap,.slice a ps.length cp],.int .i64 block,.int .i64 0,.int .i64 0,.bool false,undef,.pointer (some ⟨w.heap.size,1,none⟩),.slice a ps.length cp,.func (.func 143) #[] #[.pointer (some ⟨Bs,0,none⟩)],.int .i64 (x.1:Int),wB x.2,undef,undef,undef,undef,undef,undef,undef,undef,undef,undef,undef],defers:=[] })
  (λx a' _ X Y row hs hg hr=>by obtain⟨Bx,e1,e2,e3⟩:=hs;exact⟨Bx,e1,EC Bx 88 (λ(_:Unit) => #[.int .i64 x.2.1,.string x.2.2]) () X Y row e2 hg (λr e=>(hr r e).2),e3⟩)
  ?assign ?body ?done ?stop
 case assign=>
  rintro l pre x W K ⟨⟨hp,r0,r1,r2,r3⟩,hB1⟩ hK
  have hl3:=r3.lt
  dsimp only[wB]
  gi_wp2
  exact hK _ _ ((KeepsOthers.alloc _ _).from _) ((Below.refl _ W).alloc hB1.size _) ⟨⟨hp,r0.alloc _,r1.alloc _,r2.alloc _,r3.alloc _⟩,hB1.alloc hB1.size _⟩ ⟨W.heap.size,by have:=hB1.size;omega,BoxC.new W 88 _,rfl⟩
 case body=>
  rintro l pre x a' W hl ⟨r,hr⟩ ⟨⟨hp,r0,r1,r2,r3⟩,hB1⟩ ⟨Bx,hBx,bX,rfl⟩ hlt
  have cX0:W.cell? ⟨Bx,0,none⟩=some (.int .i64 x.2.1):=bX.cell 0
  have cX1:W.cell? ⟨Bx,1,none⟩=some (.string x.2.2):=bX.cell 1
  have c1:W.cell? ⟨w.heap.size+1,0,none⟩=some (.int .i64 block):=r1.cell 0
  have c2:W.cell? ⟨w.heap.size+1+1,0,none⟩=some (.string ⟨#[]⟩):=r2.cell 0
  have c3:W.cell? ⟨w.heap.size+1+1+1,0,none⟩=some (.int .i64 0):=r3.cell 0
  have f2:=r2.frozen 0
  have f3:=r3.frozen 0
  have hsz1:=hB1.size
  have hBw:Below w.heap.size w W:=hB0.trans (hB1.mono (by omega))
  gi_wp2
  ·rename_i hxy
   have hxy:x.2.1=block:=eq_of_beq hxy
   have b2:Boxed W (w.heap.size+1+1) 9 (.string ⟨#[]⟩):=r2
   have b3:Boxed W (w.heap.size+1+1+1) 26 (.int .i64 0):=r3
   have b3':=(b3.other (by omega) (.string x.2.2):Boxed (W.setCell ⟨w.heap.size+1+1,0,none⟩ (.string x.2.2)) _ _ _)
   have d2:=((b2.set (.string x.2.2)).other (by omega) (.int .i64 0):Boxed ((W.setCell ⟨w.heap.size+1+1,0,none⟩ (.string x.2.2)).setCell ⟨w.heap.size+1+1+1,0,none⟩ (.int .i64 0)) _ _ _)
   refine⟨((KeepsOthers.setCell _ _ _).trans (KeepsOthers.setCell _ _ _)).from _,⟨⟨rfl,pre,x,rfl,hp,hxy⟩,?_,b3'.set _⟩,?_⟩
   ·rw[L8];exact d2
   ·exact(hBw.setCell (p:=⟨w.heap.size+1+1,0,none⟩) (by show _<=_;simp;omega) _).setCell (p:=⟨w.heap.size+1+1+1,0,none⟩) (by show _<=_;simp;omega) _
  ·rename_i hxy
   exact⟨KeepsFrom.refl _ _,Below.refl _ _,⟨λz hz=>(List.mem_append.1 hz).elim (hp z) (λe e'=>by simp at e;subst e;rw[e']at hxy;simp at hxy),r0,r1,r2,r3⟩,hB1⟩
 case done=>
  rintro D zs W hD rfl ⟨⟨hp,r0,r1,r2,r3⟩,hB1⟩ hK
  have hsz1:=hB1.size
  have hBw:Below w.heap.size w W:=hB0.trans (hB1.mono (by omega))
  have c0:W.cell? ⟨w.heap.size,0,none⟩=some (.slice (some ⟨b,off,none⟩) len cap):=r0.cell 0
  have c1:W.cell? ⟨w.heap.size+1,0,none⟩=some (.int .i64 block):=r1.cell 0
  have c2:W.cell? ⟨w.heap.size+1+1,0,none⟩=some (.string ⟨#[]⟩):=r2.cell 0
  have c3:W.cell? ⟨w.heap.size+1+1+1,0,none⟩=some (.int .i64 0):=r3.cell 0
  have f2:=r2.frozen 0
  have f3:=r3.frozen 0
  obtain⟨bn,rfl⟩:∃bn:Nat,block=bn:=⟨block.toNat,by omega⟩
  have hbn:bn<len:=by omega
  have cb:W.cell? ⟨b,off+bn,none⟩=some (.string s0):=(hBw.cell (p:=⟨b,off+bn,none⟩) hb).trans (by simpa using hbc)
  gi_wp2
  have b2:Boxed W (w.heap.size+1+1) 9 (.string ⟨#[]⟩):=r2
  have b3:Boxed W (w.heap.size+1+1+1) 26 (.int .i64 0):=r3
  have b3':=(b3.other (by omega) (.string s0):Boxed (W.setCell ⟨w.heap.size+1+1,0,none⟩ (.string s0)) _ _ _)
  have d3:=b3'.set (.int .i64 0)
  have d2:=((b2.set (.string s0)).other (by omega) (.int .i64 0):Boxed ((W.setCell ⟨w.heap.size+1+1,0,none⟩ (.string s0)).setCell ⟨w.heap.size+1+1+1,0,none⟩ (.int .i64 0)) _ _ _)
  have hK':=((KeepsOthers.setCell W ⟨w.heap.size+1+1,0,none⟩ (.string s0)).trans (KeepsOthers.setCell _ ⟨w.heap.size+1+1+1,0,none⟩ (.int .i64 0))).same D _ hK rfl
  refine⟨by simp,.inl ⟨_,_,rfl,run_takeDeferred hK',?_⟩⟩
  have e2:=cell_kept d2.cell (grownBy_putObj' _ D (.deferred none)) (λr e=>by cases e;exact⟨_,hK',rfl⟩)
  have e3:=cell_kept d3.cell (grownBy_putObj' _ D (.deferred none)) (λr e=>by cases e;exact⟨_,hK',rfl⟩)
  refine⟨.tuple #[.string s0,.int .i64 0],?_,⟨s0,rfl,.inl ⟨hp,rfl⟩⟩,?_⟩
  ·simp[results,Tryz.f60,go_sem,e2,e3]
  ·exact((hBw.setCell (p:=⟨w.heap.size+1+1,0,none⟩) (by show _<=_;simp;omega) _).setCell (p:=⟨w.heap.size+1+1+1,0,none⟩) (by show _<=_;simp;omega) _).trans (belowK_b (w:=w) (Nat.le_refl _) _ D _ _ (by omega) hK' rfl rfl)
 case stop=>
  rintro D c pre W hD hpre ⟨⟨⟨rfl,hok⟩,r2,r3⟩,hBw⟩ hK
  gi_wp2
  have d2:Boxed W (w.heap.size+1+1) 9 (.string (J8 pre)):=r2
  have d3:Boxed W (w.heap.size+1+1+1) 26 (.int .i64 0):=r3
  refine⟨by simp,.inl ⟨_,_,rfl,run_takeDeferred hK,?_⟩⟩
  have e2:=cell_kept d2.cell (grownBy_putObj' _ D (.deferred none)) (λr e=>by cases e;exact⟨_,hK,rfl⟩)
  have e3:=cell_kept d3.cell (grownBy_putObj' _ D (.deferred none)) (λr e=>by cases e;exact⟨_,hK,rfl⟩)
  obtain⟨k,hk,rfl⟩:=hpre
  refine⟨.tuple #[.string (J8 (G2 ps k)),.int .i64 0],?_,⟨_,rfl,.inr ⟨k,hk,hok,rfl⟩⟩,?_⟩
  ·simp only[G2]
   simp[results,Tryz.f60,go_sem,e2,e3]
  ·exact hBw.trans (belowK_b (w:=w) (Nat.le_refl _) _ D _ _ (by omega) hK rfl rfl)
end Go.Proofs.YtegndijbpiccgaaGreatDoor.M
