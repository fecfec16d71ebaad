import Derived.Test.YtclgengkohbjjaaGreatDoorR4EdM
import Derived.Test.YtclgengkohbjjaaGreatDoorR4EdA
import Derived.Test.YtclgengkohbjjaaGreatDoorR4TreeB
import Derived.Test.YtclgengkohbjjaaGreatDoorR4LW
import Derived.Test.YtclgengkohbjjaaGreatDoorProg
import Derived.Test.YtclgengkohbjjaaGreatDoorMirI
import Derived.Test.YtclgengkohbjjaaGreatDoorMirL
import Derived.KernelRfl
import Derived.Test.YtclgengkohbjjaaGreatDoorMirU
namespace Go.Proofs.YtclgengkohbjjaaGreatDoor.M
set_option linter.unusedVariables false
set_option linter.unusedSimpArgs false
open Go Go.Mir
set_option linter.unusedVariables false
def KB (w:Wd) (n:Nd):Prop:=n.leaf=false→n.keys=[]→Blk w ((n.kids[0]?).getD 0)
theorem join_inv {w:Wd} {e:Ed} {n a b:Nd} {l:Nat} (h:Inv w e) (hk:n.keys≠[]):Inv w (joinE e n l a b).2∧((joinE e n l a b).2.bad=0→KB w (joinE e n l a b).1):=by
 unfold joinE
 dsimp only
 split
 · obtain ⟨a1,a2⟩:=store_inv (n:=joinN a ((n.keys[l]?).getD empS) b) h
   refine ⟨a1,fun hb _ he => ?_⟩
   have hl:l=0:=by
    have he:n.keys.take l++n.keys.drop (l+1)=[]:=he
    have:=(List.append_eq_nil_iff.1 he).1
    rcases List.take_eq_nil_iff.1 this with h|h
    · exact h
    · exact absurd h hk
   subst hl
   exact (a2 hb).2
 · obtain ⟨a1,a2⟩:=store_inv (n:=splL (joinN a ((n.keys[l]?).getD empS) b) (cutAt a b)) h
   obtain ⟨b1,b2⟩:=store_inv (n:=splR (joinN a ((n.keys[l]?).getD empS) b) (cutAt a b)) a1
   refine ⟨b1,fun hb _ he => ?_⟩
   have he:n.keys.take l++_ :: n.keys.drop (l+1)=[]:=he
   simp at he
theorem fail_inv {w:Wd} {e:Ed} (h:Inv w e):Inv w (failE e)∧(failE e).bad≠0:=by
 unfold failE
 by_cases hb:e.bad=0
 · rw[if_pos hb];exact ⟨h.tree,by simp⟩
 · rw[if_neg hb];exact ⟨h,hb⟩
theorem aft_inv {w:Wd} {e:Ed} {n kid:Nd} {i:Nat} {d:Int} (h:Inv w e) (hk:n.keys≠[]):Inv w (aftE e n i kid d).2∧((aftE e n i kid d).2.bad=0→KB w (aftE e n i kid d).1):=by
 unfold aftE
 by_cases h4:4≤kid.keys.length
 · rw[if_pos h4]
   exact ⟨(store_inv h).1,fun _ _ he=>absurd he hk⟩
 · rw[if_neg h4]
   unfold fillE
   dsimp only
   generalize (n.kids[if i - 1=i then i+1 else i - 1]?).getD 0=o
   obtain ⟨a1,a2⟩:=load_inv (b:=o) (d:=d+1) h
   by_cases hb:(loadE e o (d+1)).2.bad≠0∨(loadE e o (d+1)).1.leaf≠kid.leaf
   · rw[if_pos hb]
     have:=fail_inv a1
     exact ⟨this.1,fun h=>absurd h this.2⟩
   · rw[if_neg hb]
     have hb0:(loadE e o (d+1)).2.bad=0:=Classical.byContradiction fun hc=>hb (.inl hc)
     obtain ⟨c1,c2,c3,c4⟩:=a2 hb0
     rw[c2]
     obtain ⟨d1,d2⟩:=drop_inv h c1 c3
     by_cases hi:i - 1=i
     · rw[if_pos hi];exact join_inv d1 hk
     · rw[if_neg hi];exact join_inv d1 hk
theorem rem_inv {w:Wd} {key:ByteArray}:∀(f:Nat) (e:Ed) (b d:Int),Inv w e→(remE key f e b d).2.bad=80∨(Inv w (remE key f e b d).2∧((remE key f e b d).2.bad=0→KB w (remE key f e b d).1))
 | 0,e,b,d,h => .inr ⟨h.tree,fun hb=>by cases hb⟩
 | f+1,e,b,d,h=>by
   unfold remE
   dsimp only
   obtain ⟨a1,a2⟩:=load_inv (b:=b) (d:=d) h
   by_cases hb:(loadE e b d).2.bad=0
   · rw[if_neg (by rw[hb];simp)]
     obtain ⟨c1,c2,c3,c4⟩:=a2 hb
     rw[c2]
     generalize (loadE e b d).1=n at c3 ⊢
     obtain ⟨d1,d2⟩:=drop_inv h c1 c3
     have hok:=hold_ok c3
     by_cases hl:n.leaf=true
     · rw[if_pos hl]
       by_cases ha:isAt n.keys key=true
       · rw[if_pos ha]
         exact .inr ⟨d1,fun _ hf=>by
           have hf:n.leaf=false:=hf
           rw[hl]at hf;cases hf⟩
       · rw[if_neg ha];exact .inl rfl
     · rw[if_neg hl]
       have hk:n.keys≠[]:=by
         rcases hok.1.2.2 with ⟨hx,_⟩|⟨_,_,hx,_⟩
         · exact absurd hx hl
         · exact List.ne_nil_of_length_pos hx
       have ih:=rem_inv (key:=key) f (dropE e b) ((n.kids[kidOf n.keys key]?).getD 0) (d+1) d1
       by_cases hr:(remE key f (dropE e b) ((n.kids[kidOf n.keys key]?).getD 0) (d+1)).2.bad=0
       · rw[if_neg (by rw[hr];simp)]
         rcases ih with ih|ih
         · rw[hr]at ih;cases ih
         · exact .inr (aft_inv ih.1 hk)
       · rw[if_pos hr]
         rcases ih with ih|ih
         · exact .inl ih
         · exact .inr ⟨ih.1,fun h=>absurd h hr⟩
   · rw[if_pos hb]
     exact .inr ⟨a1,fun h=>absurd h hb⟩
theorem delW_any {w:Wd} {key:ByteArray} (hr:WRight w) (hp:isKeyP key):
   (delW w key=(wd0,60)∨delW w key=(wd0,80)∨delW w key=(wd0,81))∨∃x,delW w key=(x,0)∧WRight x∧x.base=w.base∧x.gen=w.gen∧x.now.length=w.now.length∧x.pages.length=w.pages.length∧∀b:Int,0≤b→tr w.base b.toNat=true→pgAt x b=pgAt w b:=by
 unfold delW
 rw[if_neg (by simp;exact ⟨hr,hp⟩)]
 by_cases h0:w.root=0
 · rw[if_pos h0];exact .inl (.inr (.inl rfl))
 rw[if_neg h0]
 have hx:(delR w key).2.bad=80∨(Inv w (delR w key).2∧((delR w key).2.bad=0→(delR w key).1=0∨Blk w (delR w key).1)):=by
   unfold delR
   dsimp only
   have hrem:=rem_inv (key:=key) 9 ⟨w,0⟩ w.root 1 (Inv.start hr)
   generalize remE key 9 ⟨w,0⟩ w.root 1=r at hrem ⊢
   by_cases hb:r.2.bad=0
   · rw[if_neg (by rw[hb];simp)]
     rcases hrem with hrem|⟨a1,a2⟩
     · rw[hb]at hrem;cases hrem
     by_cases hk:r.1.keys=[]
     · rw[if_neg (by simpa using hk)]
       by_cases hl:r.1.leaf=true
       · rw[if_pos hl];exact .inr ⟨a1,fun _ => .inl rfl⟩
       · rw[if_neg hl];exact .inr ⟨a1,fun _ => .inr (a2 hb (by simpa using hl) hk)⟩
     · rw[if_pos hk]
       obtain ⟨b1,b2⟩:=store_inv (n:=r.1) a1
       exact .inr ⟨b1,fun hb => .inr (b2 hb).2⟩
   · rw[if_pos hb]
     rcases hrem with hrem|⟨a1,a2⟩
     · exact .inl hrem
     · exact .inr ⟨a1,fun h=>absurd h hb⟩
 generalize delR w key=r at hx ⊢
 rcases hx with e|⟨hi,hb⟩
 · exact .inl (.inr (.inl (by rw[endE_bad (by rw[e];decide),e])))
 rcases hi.bad with e|e|e
 · refine .inr ⟨_,endE_ok e,wright_root hi.right ?_,hi.base,hi.gen,hi.nlen,?_,hi.page⟩
   · rcases hb e with h|h
     · exact .inl h
     · rw[hi.nlen];exact .inr h
   · have h1:=hi.right.2.1
     have h2:=hr.2.1
     have h3:=hi.nlen
     show r.2.w.pages.length=_
     omega
 · exact .inl (.inl (by rw[endE_bad (by rw[e];decide),e]))
 · exact .inl (.inr (.inr (by rw[endE_bad (by rw[e];decide),e])))
theorem refGet_in {P:List Pr} (h:Inc P) {p:Pr} (hp:p∈P):refGet P p.1=(p.2,0):=by
 induction P with
 | nil=>cases hp
 | cons a P ih=>
   obtain ⟨h1,h2⟩:=List.pairwise_cons.1 h
   rw[refGet]
   rcases List.mem_cons.1 hp with rfl|hp
   · rw[if_pos rfl]
   · rw[if_neg (lt_ne (h1 p hp))];exact ih h2 hp
def foldW {α:Type} (step:Wd→α→Wd×Int):Wd→List α→Wd×Int
 | w,[]=>(w,0)
 | w,c :: cs=>if (step w c).2≠0 then (wd0,(step w c).2) else foldW step (step w c).1 cs
noncomputable def allW {α:Type} (step:Wd→α→Wd×Int) (w:Wd) (l:List α):Wd×Int:=if ¬WRight w then (wd0,1) else foldW step w l
def runW {α:Type} (step:Wd→α→Wd×Int):Wd×Int→List α→Wd×Int
 | s,[]=>s
 | s,c :: cs=>runW step (if s.2=0 then step s.1 c else s) cs
theorem runW_bad {α:Type} {step:Wd→α→Wd×Int}:∀ {l:List α} {s:Wd×Int},s.2≠0→runW step s l=s
 | [],_,_=>rfl
 | c :: cs,s,h=>by rw[runW,if_neg h];exact runW_bad h
theorem fold_run {α:Type} {step:Wd→α→Wd×Int}:∀ {l:List α} {w:Wd},(foldW step w l).2=(runW step (w,0) l).2∧((foldW step w l).2=0→(foldW step w l).1=(runW step (w,0) l).1)∧((foldW step w l).2≠0→(foldW step w l).1=wd0)
 | [],w=>⟨rfl,fun _=>rfl,fun h=>absurd rfl h⟩
 | c :: cs,w=>by
   rw[foldW,runW,if_pos rfl]
   by_cases hb:(step w c).2=0
   · rw[if_neg (by simpa using hb)]
     have ih:=fold_run (step:=step) (l:=cs) (w:=(step w c).1)
     have e:step w c=((step w c).1,0):=by rw[←hb]
     rw[←e]at ih
     exact ih
   · rw[if_pos hb,runW_bad hb]
     exact ⟨rfl,fun h=>absurd h hb,fun _=>rfl⟩
structure Chg where
 gone:Bool
 key:ByteArray
 val:ByteArray
def Chg.ok (c:Chg):Prop:=1≤c.key.size∧c.key.size≤32∧c.val.size≤200∧(c.gone=true→c.val=empS)
noncomputable instance (c:Chg):Decidable c.ok:=Classical.propDecidable _
noncomputable def chW (w:Wd) (c:Chg):Wd×Int:=
 if c.gone=false then putW w c.key c.val
 else if ¬isKeyP c.key∨c.val≠empS then (w,1)
 else if (delW w c.key).2=80 then (w,0) else delW w c.key
def TreeOf (w:Wd) (P:List Pr):Prop:=WRight w∧∃h B,IsTree w h P B
theorem isTree_incP {w:Wd} {h:Nat} {P:List Pr} {B:List Int} (ht:IsTree w h P B):Inc P:=by
 rcases ht with ⟨_,_,rfl,_⟩|⟨_,_,_,hT,_⟩
 · exact List.Pairwise.nil
 · exact hT.inc (hold_hok _)
theorem TreeOf.inc {w:Wd} {P:List Pr} (h:TreeOf w P):Inc P:=by
 obtain ⟨_,_,_,ht⟩:=h
 exact isTree_incP ht
structure Nw (w x:Wd) (O N:List Int):Prop where
 base:x.base=w.base
 gen:x.gen=w.gen
 nlen:x.now.length=w.now.length
 plen:x.pages.length=w.pages.length
 now:∀i:Nat,i<w.now.length→tr x.now i=((tr w.now i && !decide ((i:Int)∈O))||decide ((i:Int)∈N))
 page:∀b:Int,0≤b→tr w.base b.toNat=true→pgAt x b=pgAt w b
 kept:∀i:Nat,i<w.now.length→(i:Int)∈N→(i:Int)∈O∨tr w.now i=false
theorem Nw.refl (w:Wd) (B:List Int) (h:∀b∈B,tr w.now b.toNat=true):Nw w w B B:=⟨rfl,rfl,rfl,rfl,fun i hi=>by
 by_cases hb:(i:Int)∈B
 · have:=h _ hb
   simp at this
   simp[hb,this]
 · simp[hb],fun _ _ _=>rfl,fun i _ h => .inl h⟩
theorem Nw.trans {w x y:Wd} {O N M:List Int} (h:Nw w x O N) (g:Nw x y N M):Nw w y O M where
 base:=g.base.trans h.base
 gen:=g.gen.trans h.gen
 nlen:=g.nlen.trans h.nlen
 plen:=g.plen.trans h.plen
 page b hb ht:=by rw[g.page b hb (by rw[h.base];exact ht),h.page b hb ht]
 now i hi:=by
  rw[g.now i (by rw[h.nlen];exact hi),h.now i hi]
  have hk:=h.kept i hi
  by_cases h1:(i:Int)∈N
  · rcases hk h1 with e|e
    · simp[h1,e]
    · simp[h1,e]
  · simp[h1]
 kept i hi hm:=by
  rcases g.kept i (by rw[h.nlen];exact hi) hm with e|e
  · exact h.kept i hi e
  · rw[h.now i hi]at e
    simp only[Bool.or_eq_false_iff,Bool.and_eq_false_iff,Bool.not_eq_false',decide_eq_true_eq]at e
    rcases e.1 with e|e
    · exact .inr e
    · exact .inl e
def From (w:Wd) (B:List Int) (x:Wd) (P':List Pr):Prop:=WRight x∧∃h' B',IsTree x h' P' B'∧Nw w x B B'
theorem isTree_tr {w:Wd} {h:Nat} {P:List Pr} {B:List Int} (ht:IsTree w h P B):∀b∈B,tr w.now b.toNat=true:=fun b hb=>by
 obtain ⟨r,m,hm⟩:=isTree_held ht b hb
 exact hold_tr hm
theorem From.start {w:Wd} {h:Nat} {P:List Pr} {B:List Int} (hr:WRight w) (ht:IsTree w h P B):From w B w P:=⟨hr,h,B,ht,Nw.refl w B (isTree_tr ht)⟩
def newRow (n:Nat):List Bool:=(List.range n).map fun i=>decide (i<10)
def newW (n:Nat):Wd:=⟨newRow n,newRow n,List.replicate n empS,0,1⟩
theorem newRow_len (n:Nat):(newRow n).length=n:=by simp[newRow]
theorem newRow_tr {n i:Nat} (h:i<n):tr (newRow n) i=decide (i<10):=by simp[tr,newRow,h]
theorem newW_right {n:Nat} (h1:24≤n) (h2:n≤2048):WRight (newW n):=by
 refine ⟨⟨rfl,by rw[newW,newRow_len];exact h1,by rw[newW,newRow_len];exact h2,fun j hj => ?_⟩,by simp[newW,newRow],by simp[newW],by simp[newW],.inl rfl,fun s hs => ?_⟩
 · have:tr (newRow n) j=true:=by rw[newRow_tr (by omega)];simpa using hj
   exact ⟨this,this⟩
 · have:=List.eq_of_mem_replicate hs
   rw[this];decide
theorem get_of {w:Wd} {P:List Pr} {key:ByteArray} (h:TreeOf w P) (h1:1≤key.size) (h2:key.size≤32):GetW w key=refGet P key:=by
 obtain ⟨hr,_,_,ht⟩:=h
 exact getW_tree hr h1 h2 ht
structure SC where
 se:Int
 out:List Pr
 nx:ByteArray
 full:Bool
 bad:Bool
def lastLt (out:List Pr) (key:ByteArray):Bool:=match out.getLast? with
 | none=>true
 | some p=>lt p.1 key
def takeS (fr:ByteArray) (mo:Int) (s:SC) (p:Pr):SC:=
 if s.full=true∨lt p.1 fr=true then s
 else if lastLt s.out p.1=false then { s with bad:=true }
 else if (s.out.length:Int)=mo then { s with full:=true,nx:=p.1 }
 else { s with out:=s.out++[p] }
def takesS (fr:ByteArray) (mo:Int) (s:SC) (l:List Pr):SC:=l.foldl (takeS fr mo) s
def Same (r s:SC):Prop:=r.out=s.out∧r.nx=s.nx∧r.full=s.full∧r.bad=s.bad
theorem Same.trans {a b c:SC} (h:Same a b) (g:Same b c):Same a c:=⟨h.1.trans g.1,h.2.1.trans g.2.1,h.2.2.1.trans g.2.2.1,h.2.2.2.trans g.2.2.2⟩
theorem Same.refl (a:SC):Same a a:=⟨rfl,rfl,rfl,rfl⟩
def Does (fr:ByteArray) (mo:Int) (s r:SC) (P:List Pr) (n:Nat):Prop:=Same r (takesS fr mo s P)∧s.se≤r.se∧r.se≤s.se+n
theorem p63i (n:Nd) (key:ByteArray) (hfit:NdFits n) (hs:Stands n) (hl:n.leaf=false):Runs Fs2 63 [ndV n,.n (.str key)] [] (.n (.int .i64 (kidI n key:Nat))) []:=by
 have g:=p63 n key hfit hs hl
 have e:((srch n.keys key:Nat):Int)+(if isAt n.keys key then 1 else 0)=(kidI n key:Nat):=by
  unfold kidI;split <;> simp
 rw[e]at g
 exact g
end Go.Proofs.YtclgengkohbjjaaGreatDoor.M
namespace Go.Proofs.YtclgengkohbjjaaGreatDoor.M
set_option linter.unusedVariables false
set_option linter.unusedSimpArgs false
open Go Go.Mir Go.Proofs
@[irreducible] noncomputable def b113:Cmd:=((Tryz.f113.body).bind (trC Tryz.prog [1000070,1000074,1000137,1000158,1000159,2000087,2000088,2000101,2000104,2000075,11300700011300102,50] 113 [(7,([1,19],[11300102],[],[]))] [(2,[.keepF 113,.keep 1,.ptr 5 11300102 0,.box 11300102 [(.int .i64)]])])).getD .skip
noncomputable def c113:FnC:=⟨113,20,[(.tmp 4)],b113,false,[(.one (.int .i64)),(.one (.slo 1))],.val (.one (.int .i64)),none,false,[]⟩
theorem is113:IsFn Tryz.prog 113 c113:=⟨⟨_,_,[1000070,1000074,1000137,1000158,1000159,2000087,2000088,2000101,2000104,2000075,11300700011300102,50],[(7,([1,19],[11300102],[],[]))],[(2,[.keepF 113,.keep 1,.ptr 5 11300102 0,.box 11300102 [(.int .i64)]])],Tryz.func113,rfl,(by kernel_rfl),rfl,(by kernel_rfl),(by kernel_rfl)⟩⟩
def b145:Cmd:=(.seq (.region [(o 3 (.mov (.const (.bool false))))]) (.seq (.region [(m 4 0),(os 5 (.ld (T 1) none) sI),(os 6 (.call false 136 [(T 4),(T 5)]) sB),(m 3 6)]) .ret))
noncomputable def c145:FnC:=⟨145,7,[(.tmp 3)],b145,false,[(.one (.slo 1))],.val (.one .bool),none,false,[]⟩
theorem is145:IsFn Tryz.prog 145 c145:=⟨⟨_,_,[1000070,1000074,1000137,1000158,1000159,2000087,2000088,2000101,2000104,2000075,11300700011300102,50],[],[],Tryz.func145,rfl,(by kernel_rfl),rfl,(by kernel_rfl),(by kernel_rfl)⟩⟩
@[irreducible] noncomputable def b114:Cmd:=((Tryz.f114.body).bind (trC Tryz.prog [1000070,1000074,1000137,1000158,1000159,2000087,2000088,2000101,2000104,2000075,11300700011300102,50] 114 [] [(3,[.keepF 114,.keep 0,.keep 1,.keep 8,.keep 13,.keep 14,.slot 15 (.one (.int .i64)),.row 11450101 4 1 false])])).getD .skip
noncomputable def c114:FnC:=⟨114,33,[(.tmp 6),(.tmp 7)],b114,false,[(.one (.slo 1)),(.one .bool),(.one (.slo 1))],.tup [(.one (.slo 1)),(.one (.int .i64))],none,false,[]⟩
theorem is114:IsFn Tryz.prog 114 c114:=⟨⟨_,_,[1000070,1000074,1000137,1000158,1000159,2000087,2000088,2000101,2000104,2000075,11300700011300102,50],[],[(3,[.keepF 114,.keep 0,.keep 1,.keep 8,.keep 13,.keep 14,.slot 15 (.one (.int .i64)),.row 11450101 4 1 false])],Tryz.func114,rfl,(by kernel_rfl),rfl,(by kernel_rfl),(by kernel_rfl)⟩⟩
@[irreducible] noncomputable def b78:Cmd:=((Tryz.f78.body).bind (trC Tryz.prog [1000070,1000074,1000137,1000158,1000159,2000087,2000088,2000101,2000104,2000075,11300700011300102,50] 78 [] [])).getD .skip
noncomputable def c78:FnC:=⟨78,34,[(.cell 2 (some 2)),(.tmp 3),(.tmp 4)],b78,false,[(.agg [(.slo 1),(.slo 1)])],.tup [(.agg [(.slo 1),(.slo 1)]),(.one (.int .i64)),(.one (.int .i64))],none,false,[]⟩
theorem is78:IsFn Tryz.prog 78 c78:=⟨⟨_,_,[1000070,1000074,1000137,1000158,1000159,2000087,2000088,2000101,2000104,2000075,11300700011300102,50],[],[],Tryz.func78,rfl,(by kernel_rfl),rfl,(by kernel_rfl),(by kernel_rfl)⟩⟩
@[irreducible] noncomputable def b100:Cmd:=((Tryz.f100.body).bind (trC Tryz.prog [1000070,1000074,1000137,1000158,1000159,2000087,2000088,2000101,2000104,2000075,11300700011300102,50] 100 [] [(5,[.keepF 100,.keep 2,.keep 4,.keep 6,.keep 16,.keep 17,.slot 18 (.one (.int .i64)),.keepO 10000000,.box 10000001 [.nil,.nil],.row 10050302 4 1 false])])).getD .skip
noncomputable def c100:FnC:=⟨100,45,[(.cell 4 (some 2)),(.tmp 5)],b100,false,[(.agg [(.slo 1),(.slo 1)]),(.one (.slo 1))],.tup [(.agg [(.slo 1),(.slo 1)]),(.one (.int .i64))],none,false,[]⟩
theorem is100:IsFn Tryz.prog 100 c100:=⟨⟨_,_,[1000070,1000074,1000137,1000158,1000159,2000087,2000088,2000101,2000104,2000075,11300700011300102,50],[],[(5,[.keepF 100,.keep 2,.keep 4,.keep 6,.keep 16,.keep 17,.slot 18 (.one (.int .i64)),.keepO 10000000,.box 10000001 [.nil,.nil],.row 10050302 4 1 false])],Tryz.func100,rfl,(by kernel_rfl),rfl,(by kernel_rfl),(by kernel_rfl)⟩⟩
@[irreducible] noncomputable def b76:Cmd:=((Tryz.f76.body).bind (trC Tryz.prog [1000070,1000074,1000137,1000158,1000159,2000087,2000088,2000101,2000104,2000075,11300700011300102,50] 76 [(13,([1,4,6],[7601702],[],[])),(14,([1,4,6,47,48,49],[7601702],[],[])),(20,([1,4,6,47,48,49],[7601702],[],[]))] [(7,[.keepF 76,.keep 1,.keep 4,.keep 6,.keep 27,.keep 28,.slot 29 (.one (.int .i64)),.keepO 7600000,.box 7600307 [.str]]),(14,[.keepF 76,.keep 1,.keep 4,.keep 6,.keep 47,.keep 48,.slot 49 (.one (.int .i64)),.keepO 7600000,.box 7600307 [.str]])])).getD .skip
noncomputable def c76:FnC:=⟨76,77,[(.tmp 2),(.tmp 3)],b76,false,[(.agg [.bool,(.slo 1),(.slo 1),(.slo 1)])],.tup [(.one .str),(.one (.int .i64))],none,false,[]⟩
theorem is76:IsFn Tryz.prog 76 c76:=⟨⟨_,_,[1000070,1000074,1000137,1000158,1000159,2000087,2000088,2000101,2000104,2000075,11300700011300102,50],[(13,([1,4,6],[7601702],[],[])),(14,([1,4,6,47,48,49],[7601702],[],[])),(20,([1,4,6,47,48,49],[7601702],[],[]))],[(7,[.keepF 76,.keep 1,.keep 4,.keep 6,.keep 27,.keep 28,.slot 29 (.one (.int .i64)),.keepO 7600000,.box 7600307 [.str]]),(14,[.keepF 76,.keep 1,.keep 4,.keep 6,.keep 47,.keep 48,.slot 49 (.one (.int .i64)),.keepO 7600000,.box 7600307 [.str]])],Tryz.func76,rfl,(by kernel_rfl),rfl,(by kernel_rfl),(by kernel_rfl)⟩⟩
def b107:Cmd:=(.seq (.region [(m 6 0),(os 7 (.call false 108 [(T 6)]) (.tup [(.one .str),(.one (.int .i64))])),(m 5 7),(o 8 (.ext (T 5) 0)),(o 9 (.ext (T 5) 1)),(m 3 8),(m 4 9)]) (.region [(os 10 (.ld (T 1) none) sS),(m 11 3),(o 12 (.lit 10700102 9 1 [(T 10),(T 11)])),(os 13 (.call false 109 [(T 12)]) sS),(u (.st (T 1) (T 13) 1))]))
noncomputable def c107:FnC:=⟨107,14,[],b107,false,[(.one .str)],.tup [],none,true,[]⟩
theorem is107:IsFn Tryz.prog 107 c107:=⟨⟨_,_,[1000070,1000074,1000137,1000158,1000159,2000087,2000088,2000101,2000104,2000075,11300700011300102,50],[],[],Tryz.func107,rfl,(by kernel_rfl),rfl,(by kernel_rfl),(by kernel_rfl)⟩⟩
@[irreducible] noncomputable def b118:Cmd:=((Tryz.f118.body).bind (trC Tryz.prog [1000070,1000074,1000137,1000158,1000159,2000087,2000088,2000101,2000104,2000075,11300700011300102,50] 118 [] [])).getD .skip
noncomputable def c118:FnC:=⟨118,74,[(.cell 2 (some 4)),(.tmp 3),(.cell 4 (some 4)),(.tmp 5)],b118,false,[(.agg [.bool,(.slo 1),(.slo 1),(.slo 1)])],.tup [(.agg [.bool,(.slo 1),(.slo 1),(.slo 1)]),(.one .str),(.agg [.bool,(.slo 1),(.slo 1),(.slo 1)]),(.one (.int .i64))],none,false,[]⟩
theorem is118:IsFn Tryz.prog 118 c118:=⟨⟨_,_,[1000070,1000074,1000137,1000158,1000159,2000087,2000088,2000101,2000104,2000075,11300700011300102,50],[],[],Tryz.func118,rfl,(by kernel_rfl),rfl,(by kernel_rfl),(by kernel_rfl)⟩⟩
@[irreducible] noncomputable def b103:Cmd:=((Tryz.f103.body).bind (trC Tryz.prog [1000070,1000074,1000137,1000158,1000159,2000087,2000088,2000101,2000104,2000075,11300700011300102,50] 103 [] [])).getD .skip
noncomputable def c103:FnC:=⟨103,63,[(.cell 6 (some 4)),(.tmp 7)],b103,false,[(.agg [.bool,(.slo 1),(.slo 1),(.slo 1)]),(.one .str),(.agg [.bool,(.slo 1),(.slo 1),(.slo 1)])],.tup [(.agg [.bool,(.slo 1),(.slo 1),(.slo 1)]),(.one (.int .i64))],none,false,[]⟩
theorem is103:IsFn Tryz.prog 103 c103:=⟨⟨_,_,[1000070,1000074,1000137,1000158,1000159,2000087,2000088,2000101,2000104,2000075,11300700011300102,50],[],[],Tryz.func103,rfl,(by kernel_rfl),rfl,(by kernel_rfl),(by kernel_rfl)⟩⟩
def b138:Cmd:=(.seq (.region [(o 2 (.mov (.const (.slice none 0 0))))]) (.seq (.region [(m 3 0),(os 4 (.call false 140 [(T 3)]) sL),(m 2 4)]) .ret))
noncomputable def c138:FnC:=⟨138,5,[(.tmp 2)],b138,false,[(.one (.slo 1))],.val (.one (.slo 1)),none,false,[]⟩
theorem is138:IsFn Tryz.prog 138 c138:=⟨⟨_,_,[1000070,1000074,1000137,1000158,1000159,2000087,2000088,2000101,2000104,2000075,11300700011300102,50],[],[],Tryz.func138,rfl,(by kernel_rfl),rfl,(by kernel_rfl),(by kernel_rfl)⟩⟩
def b139:Cmd:=(.seq (.region [(o 2 (.mov (.const (.slice none 0 0))))]) (.seq (.region [(m 3 0),(os 4 (.call false 141 [(T 3)]) sL),(m 2 4)]) .ret))
noncomputable def c139:FnC:=⟨139,5,[(.tmp 2)],b139,false,[(.one (.slo 1))],.val (.one (.slo 1)),none,false,[]⟩
theorem is139:IsFn Tryz.prog 139 c139:=⟨⟨_,_,[1000070,1000074,1000137,1000158,1000159,2000087,2000088,2000101,2000104,2000075,11300700011300102,50],[],[],Tryz.func139,rfl,(by kernel_rfl),rfl,(by kernel_rfl),(by kernel_rfl)⟩⟩
@[irreducible] noncomputable def b140:Cmd:=((Tryz.f140.body).bind (trC Tryz.prog [1000070,1000074,1000137,1000158,1000159,2000087,2000088,2000101,2000104,2000075,11300700011300102,50] 140 [(10,([0,6],[14001302],[],[])),(11,([6,25,26,27],[14001302],[],[])),(14,([6,25,26,27],[14001302],[],[]))] [(3,[.keepF 140,.keep 0,.slot 3 (.one (.int .i64)),.keep 9,.keep 10,.slot 11 (.one (.int .i64))]),(11,[.keepF 140,.rowIn 6 14050901,.keep 25,.keep 26,.slot 27 (.one (.int .i64)),.row 14050901 9 1 false])])).getD .skip
noncomputable def c140:FnC:=⟨140,36,[(.tmp 2)],b140,false,[(.one (.slo 1))],.val (.one (.slo 1)),none,false,[]⟩
theorem is140:IsFn Tryz.prog 140 c140:=⟨⟨_,_,[1000070,1000074,1000137,1000158,1000159,2000087,2000088,2000101,2000104,2000075,11300700011300102,50],[(10,([0,6],[14001302],[],[])),(11,([6,25,26,27],[14001302],[],[])),(14,([6,25,26,27],[14001302],[],[]))],[(3,[.keepF 140,.keep 0,.slot 3 (.one (.int .i64)),.keep 9,.keep 10,.slot 11 (.one (.int .i64))]),(11,[.keepF 140,.rowIn 6 14050901,.keep 25,.keep 26,.slot 27 (.one (.int .i64)),.row 14050901 9 1 false])],Tryz.func140,rfl,(by kernel_rfl),rfl,(by kernel_rfl),(by kernel_rfl)⟩⟩
@[irreducible] noncomputable def b141:Cmd:=((Tryz.f141.body).bind (trC Tryz.prog [1000070,1000074,1000137,1000158,1000159,2000087,2000088,2000101,2000104,2000075,11300700011300102,50] 141 [(10,([0,6],[14101302],[],[])),(11,([6,25,26,27],[14101302],[],[])),(14,([6,25,26,27],[14101302],[],[]))] [(3,[.keepF 141,.keep 0,.slot 3 (.one (.int .i64)),.keep 9,.keep 10,.slot 11 (.one (.int .i64))]),(11,[.keepF 141,.rowIn 6 14150901,.keep 25,.keep 26,.slot 27 (.one (.int .i64)),.row 14150901 3 1 false])])).getD .skip
noncomputable def c141:FnC:=⟨141,36,[(.tmp 2)],b141,false,[(.one (.slo 1))],.val (.one (.slo 1)),none,false,[]⟩
theorem is141:IsFn Tryz.prog 141 c141:=⟨⟨_,_,[1000070,1000074,1000137,1000158,1000159,2000087,2000088,2000101,2000104,2000075,11300700011300102,50],[(10,([0,6],[14101302],[],[])),(11,([6,25,26,27],[14101302],[],[])),(14,([6,25,26,27],[14101302],[],[]))],[(3,[.keepF 141,.keep 0,.slot 3 (.one (.int .i64)),.keep 9,.keep 10,.slot 11 (.one (.int .i64))]),(11,[.keepF 141,.rowIn 6 14150901,.keep 25,.keep 26,.slot 27 (.one (.int .i64)),.row 14150901 3 1 false])],Tryz.func141,rfl,(by kernel_rfl),rfl,(by kernel_rfl),(by kernel_rfl)⟩⟩
@[irreducible] noncomputable def b50:Cmd:=((Tryz.f50.body).bind (trC Tryz.prog [1000070,1000074,1000137,1000158,1000159,2000087,2000088,2000101,2000104,2000075,11300700011300102,50] 50 [] [])).getD .skip
noncomputable def c50:FnC:=⟨50,10,[(.tmp 2)],b50,true,[(.agg [(.slo 1),(.slo 1),(.slo 1),(.int .i64),(.int .i64)])],.val (.one .raw),none,false,[(.val (.one (.ptr 5000202 0)),[.box 5000202 [(.slo 1),(.slo 1),(.row 5050102),(.int .i64),(.int .i64),(.int .i64)],.row 5050102 9 1 false])]⟩
theorem is50:IsFn Tryz.prog 50 c50:=⟨⟨_,_,[1000070,1000074,1000137,1000158,1000159,2000087,2000088,2000101,2000104,2000075,11300700011300102,50],[],[],Tryz.func50,rfl,(by kernel_rfl),rfl,(by kernel_rfl),(by kernel_rfl)⟩⟩
@[irreducible] noncomputable def b71:Cmd:=((Tryz.f71.body).bind (trC Tryz.prog [1000070,1000074,1000137,1000158,1000159,2000087,2000088,2000101,2000104,2000075,11300700011300102,50] 71 [] [])).getD .skip
noncomputable def c71:FnC:=⟨71,37,[(.cell 6 (some 4))],b71,false,[(.one .raw),(.one (.int .i64)),(.one (.int .i64))],.val (.agg [.bool,(.sln 1),(.sln 1),(.sln 1)]),none,true,[]⟩
theorem is71:IsFn Tryz.prog 71 c71:=⟨⟨_,_,[1000070,1000074,1000137,1000158,1000159,2000087,2000088,2000101,2000104,2000075,11300700011300102,50],[],[],Tryz.func71,rfl,(by kernel_rfl),rfl,(by kernel_rfl),(by kernel_rfl)⟩⟩
@[irreducible] noncomputable def b72:Cmd:=((Tryz.f72.body).bind (trC Tryz.prog [1000070,1000074,1000137,1000158,1000159,2000087,2000088,2000101,2000104,2000075,11300700011300102,50] 72 [] [])).getD .skip
noncomputable def c72:FnC:=⟨72,32,[],b72,false,[(.one .raw),(.one (.int .i64))],.tup [],none,true,[]⟩
theorem is72:IsFn Tryz.prog 72 c72:=⟨⟨_,_,[1000070,1000074,1000137,1000158,1000159,2000087,2000088,2000101,2000104,2000075,11300700011300102,50],[],[],Tryz.func72,rfl,(by kernel_rfl),rfl,(by kernel_rfl),(by kernel_rfl)⟩⟩
@[irreducible] noncomputable def b52:Cmd:=((Tryz.f52.body).bind (trC Tryz.prog [1000070,1000074,1000137,1000158,1000159,2000087,2000088,2000101,2000104,2000075,11300700011300102,50] 52 [] [])).getD .skip
noncomputable def c52:FnC:=⟨52,75,[(.tmp 4)],b52,false,[(.one .raw),(.agg [.bool,(.slo 1),(.slo 1),(.slo 1)])],.val (.one (.int .i64)),none,true,[]⟩
theorem is52:IsFn Tryz.prog 52 c52:=⟨⟨_,_,[1000070,1000074,1000137,1000158,1000159,2000087,2000088,2000101,2000104,2000075,11300700011300102,50],[],[],Tryz.func52,rfl,(by kernel_rfl),rfl,(by kernel_rfl),(by kernel_rfl)⟩⟩
@[irreducible] noncomputable def b53:Cmd:=((Tryz.f53.body).bind (trC Tryz.prog [1000070,1000074,1000137,1000158,1000159,2000087,2000088,2000101,2000104,2000075,11300700011300102,50] 53 [] [])).getD .skip
noncomputable def c53:FnC:=⟨53,18,[(.cell 2 (some 5)),(.tmp 3)],b53,false,[(.one .raw)],.tup [(.agg [(.slo 1),(.slo 1),(.slo 1),(.int .i64),(.int .i64)]),(.one (.int .i64))],none,true,[(.val (.one .raw),[.keepO 5050102])]⟩
theorem is53:IsFn Tryz.prog 53 c53:=⟨⟨_,_,[1000070,1000074,1000137,1000158,1000159,2000087,2000088,2000101,2000104,2000075,11300700011300102,50],[],[],Tryz.func53,rfl,(by kernel_rfl),rfl,(by kernel_rfl),(by kernel_rfl)⟩⟩
@[irreducible] noncomputable def b58:Cmd:=((Tryz.f58.body).bind (trC Tryz.prog [1000070,1000074,1000137,1000158,1000159,2000087,2000088,2000101,2000104,2000075,11300700011300102,50] 58 [] [])).getD .skip
noncomputable def c58:FnC:=⟨58,18,[(.tmp 4)],b58,false,[(.one .str),(.one .str)],.val (.one .bool),none,false,[]⟩
theorem is58:IsFn Tryz.prog 58 c58:=⟨⟨_,_,[1000070,1000074,1000137,1000158,1000159,2000087,2000088,2000101,2000104,2000075,11300700011300102,50],[],[],Tryz.func58,rfl,(by kernel_rfl),rfl,(by kernel_rfl),(by kernel_rfl)⟩⟩
@[irreducible] noncomputable def b86:Cmd:=((Tryz.f86.body).bind (trC Tryz.prog [1000070,1000074,1000137,1000158,1000159,2000087,2000088,2000101,2000104,2000075,11300700011300102,50] 86 [] [])).getD .skip
noncomputable def c86:FnC:=⟨86,52,[(.cell 4 (some 4))],b86,false,[(.one .raw),(.agg [.bool,(.slo 1),(.slo 1),(.slo 1)])],.val (.agg [(.int .i64),(.int .i64),.str,.bool]),none,true,[]⟩
theorem is86:IsFn Tryz.prog 86 c86:=⟨⟨_,_,[1000070,1000074,1000137,1000158,1000159,2000087,2000088,2000101,2000104,2000075,11300700011300102,50],[],[],Tryz.func86,rfl,(by kernel_rfl),rfl,(by kernel_rfl),(by kernel_rfl)⟩⟩
@[irreducible] noncomputable def b59:Cmd:=((Tryz.f59.body).bind (trC Tryz.prog [1000070,1000074,1000137,1000158,1000159,2000087,2000088,2000101,2000104,2000075,11300700011300102,50] 59 [] [])).getD .skip
noncomputable def c59:FnC:=⟨59,143,[(.cell 6 (some 4))],b59,false,[(.one .raw),(.one (.int .i64)),(.one (.int .i64))],.val (.agg [(.int .i64),(.int .i64),.str,.bool]),none,true,[]⟩
theorem is59:IsFn Tryz.prog 59 c59:=⟨⟨_,_,[1000070,1000074,1000137,1000158,1000159,2000087,2000088,2000101,2000104,2000075,11300700011300102,50],[],[],Tryz.func59,rfl,(by kernel_rfl),rfl,(by kernel_rfl),(by kernel_rfl)⟩⟩
@[irreducible] noncomputable def b30:Cmd:=((Tryz.f30.body).bind (trC Tryz.prog [1000070,1000074,1000137,1000158,1000159,2000087,2000088,2000101,2000104,2000075,11300700011300102,50] 30 [] [])).getD .skip
noncomputable def c30:FnC:=⟨30,96,[(.cell 6 (some 5)),(.tmp 7)],b30,false,[(.agg [(.slo 1),(.slo 1),(.slo 1),(.int .i64),(.int .i64)]),(.one .str),(.one .str)],.tup [(.agg [(.slo 1),(.slo 1),(.slo 1),(.int .i64),(.int .i64)]),(.one (.int .i64))],none,false,[]⟩
theorem is30:IsFn Tryz.prog 30 c30:=⟨⟨_,_,[1000070,1000074,1000137,1000158,1000159,2000087,2000088,2000101,2000104,2000075,11300700011300102,50],[],[],Tryz.func30,rfl,(by kernel_rfl),rfl,(by kernel_rfl),(by kernel_rfl)⟩⟩
def b49:Cmd:=(.seq (.region [(o 2 (.mov (.const (.bool false))))]) (.seq (.region [(m 3 0),(os 4 (.slen (T 3)) sI),(o 5 (.bin .geq (T 4) (N 1))),(m 6 5),(gd 7 (.mov (T 0)) 6 true),(gs 8 (.slen (T 7)) 6 true sI),(gd 9 (.bin .leq (T 8) (N 32)) 6 true),(o 10 (.pick (T 6) (T 9) (.const (.bool false)))),(m 2 10)]) .ret))
noncomputable def c49:FnC:=⟨49,11,[(.tmp 2)],b49,false,[(.one .str)],.val (.one .bool),none,false,[]⟩
theorem is49:IsFn Tryz.prog 49 c49:=⟨⟨_,_,[1000070,1000074,1000137,1000158,1000159,2000087,2000088,2000101,2000104,2000075,11300700011300102,50],[],[],Tryz.func49,rfl,(by kernel_rfl),rfl,(by kernel_rfl),(by kernel_rfl)⟩⟩
@[irreducible] noncomputable def b73:Cmd:=((Tryz.f73.body).bind (trC Tryz.prog [1000070,1000074,1000137,1000158,1000159,2000087,2000088,2000101,2000104,2000075,11300700011300102,50] 73 [] [])).getD .skip
noncomputable def c73:FnC:=⟨73,22,[(.cell 4 (some 4))],b73,false,[(.agg [.bool,(.slo 1),(.slo 1),(.slo 1)]),(.one (.int .i64))],.val (.agg [.bool,(.slo 1),(.slo 1),(.slo 1)]),none,false,[]⟩
theorem is73:IsFn Tryz.prog 73 c73:=⟨⟨_,_,[1000070,1000074,1000137,1000158,1000159,2000087,2000088,2000101,2000104,2000075,11300700011300102,50],[],[],Tryz.func73,rfl,(by kernel_rfl),rfl,(by kernel_rfl),(by kernel_rfl)⟩⟩
@[irreducible] noncomputable def b51:Cmd:=((Tryz.f51.body).bind (trC Tryz.prog [1000070,1000074,1000137,1000158,1000159,2000087,2000088,2000101,2000104,2000075,11300700011300102,50] 51 [] [])).getD .skip
noncomputable def c51:FnC:=⟨51,110,[(.cell 6 (some 4))],b51,false,[(.one .raw),(.one (.int .i64)),(.one (.int .i64))],.val (.agg [.bool,(.slo 1),(.slo 1),(.slo 1)]),none,true,[]⟩
theorem is51:IsFn Tryz.prog 51 c51:=⟨⟨_,_,[1000070,1000074,1000137,1000158,1000159,2000087,2000088,2000101,2000104,2000075,11300700011300102,50],[],[],Tryz.func51,rfl,(by kernel_rfl),rfl,(by kernel_rfl),(by kernel_rfl)⟩⟩
@[irreducible] noncomputable def b75:Cmd:=((Tryz.f75.body).bind (trC Tryz.prog [1000070,1000074,1000137,1000158,1000159,2000087,2000088,2000101,2000104,2000075,11300700011300102,50] 75 [] [])).getD .skip
noncomputable def c75:FnC:=⟨75,161,[(.cell 10 (some 4))],b75,false,[(.one .raw),(.agg [.bool,(.slo 1),(.slo 1),(.slo 1)]),(.one (.int .i64)),(.agg [.bool,(.slo 1),(.slo 1),(.slo 1)]),(.one (.int .i64))],.val (.agg [.bool,(.slo 1),(.slo 1),(.slo 1)]),none,true,[(.val (.one .raw),[.keepO 5151502,.keepO 5151505])]⟩
theorem is75:IsFn Tryz.prog 75 c75:=⟨⟨_,_,[1000070,1000074,1000137,1000158,1000159,2000087,2000088,2000101,2000104,2000075,11300700011300102,50],[],[],Tryz.func75,rfl,(by kernel_rfl),rfl,(by kernel_rfl),(by kernel_rfl)⟩⟩
def b102:Cmd:=(.seq (.region [(m 2 0),(o 3 (.nilck (T 2))),(o 4 (.fadr (T 3) 0)),(o 5 (.ld (T 4) none)),(o 6 (.nilck (T 5))),(o 7 (.fadr (T 6) 5)),(os 8 (.ld (T 7) none) sI),(o 9 (.bin .eql (T 8) (N 0)))]) (.cond (T 9) (.region [(m 10 0),(o 11 (.nilck (T 10))),(o 12 (.fadr (T 11) 0)),(o 13 (.ld (T 12) none)),(o 14 (.nilck (T 13))),(o 15 (.fadr (T 14) 5)),(u (.st (T 15) (N 81) 1))]) .skip))
noncomputable def c102:FnC:=⟨102,16,[],b102,false,[(.one .raw)],.tup [],none,true,[]⟩
theorem is102:IsFn Tryz.prog 102 c102:=⟨⟨_,_,[1000070,1000074,1000137,1000158,1000159,2000087,2000088,2000101,2000104,2000075,11300700011300102,50],[],[],Tryz.func102,rfl,(by kernel_rfl),rfl,(by kernel_rfl),(by kernel_rfl)⟩⟩
@[irreducible] noncomputable def b105:Cmd:=((Tryz.f105.body).bind (trC Tryz.prog [1000070,1000074,1000137,1000158,1000159,2000087,2000088,2000101,2000104,2000075,11300700011300102,50] 105 [] [])).getD .skip
noncomputable def c105:FnC:=⟨105,104,[(.cell 6 (some 4)),(.tmp 7),(.cell 8 (some 4))],b105,false,[(.agg [.bool,(.slo 1),(.slo 1),(.slo 1)]),(.one .str),(.agg [.bool,(.slo 1),(.slo 1),(.slo 1)])],.tup [(.agg [.bool,(.slo 1),(.slo 1),(.slo 1)]),(.one .str),(.agg [.bool,(.slo 1),(.slo 1),(.slo 1)])],none,false,[]⟩
theorem is105:IsFn Tryz.prog 105 c105:=⟨⟨_,_,[1000070,1000074,1000137,1000158,1000159,2000087,2000088,2000101,2000104,2000075,11300700011300102,50],[],[],Tryz.func105,rfl,(by kernel_rfl),rfl,(by kernel_rfl),(by kernel_rfl)⟩⟩
@[irreducible] noncomputable def b17:Cmd:=((Tryz.f17.body).bind (trC Tryz.prog [1000070,1000074,1000137,1000158,1000159,2000087,2000088,2000101,2000104,2000075,11300700011300102,50] 17 [] [])).getD .skip
noncomputable def c17:FnC:=⟨17,95,[(.cell 4 (some 5)),(.tmp 5)],b17,false,[(.agg [(.slo 1),(.slo 1),(.slo 1),(.int .i64),(.int .i64)]),(.one .str)],.tup [(.agg [(.slo 1),(.slo 1),(.slo 1),(.int .i64),(.int .i64)]),(.one (.int .i64))],none,false,[]⟩
theorem is17:IsFn Tryz.prog 17 c17:=⟨⟨_,_,[1000070,1000074,1000137,1000158,1000159,2000087,2000088,2000101,2000104,2000075,11300700011300102,50],[],[],Tryz.func17,rfl,(by kernel_rfl),rfl,(by kernel_rfl),(by kernel_rfl)⟩⟩
@[irreducible] noncomputable def b42:Cmd:=((Tryz.f42.body).bind (trC Tryz.prog [1000070,1000074,1000137,1000158,1000159,2000087,2000088,2000101,2000104,2000075,11300700011300102,50] 42 [(3,([1,2,4],[4200606],[],[])),(4,([2,4,14,15,16],[4200606],[],[])),(10,([2,4,14,15,16],[4200606],[],[]))] [(4,[.keepF 42,.keep 2,.keep 4,.keep 14,.keep 15,.slot 16 (.one (.int .i64)),.box 4200000 [(.slo 1),(.slo 1),(.slo 1),(.int .i64),(.int .i64)],.box 4200001 [.nil,.nil,.nil,(.int .i64),(.int .i64)]])])).getD .skip
noncomputable def c42:FnC:=⟨42,33,[(.cell 4 (some 5)),(.tmp 5)],b42,false,[(.agg [(.slo 1),(.slo 1),(.slo 1),(.int .i64),(.int .i64)]),(.one (.slo 1))],.tup [(.agg [(.slo 1),(.slo 1),(.slo 1),(.int .i64),(.int .i64)]),(.one (.int .i64))],none,false,[]⟩
theorem is42:IsFn Tryz.prog 42 c42:=⟨⟨_,_,[1000070,1000074,1000137,1000158,1000159,2000087,2000088,2000101,2000104,2000075,11300700011300102,50],[(3,([1,2,4],[4200606],[],[])),(4,([2,4,14,15,16],[4200606],[],[])),(10,([2,4,14,15,16],[4200606],[],[]))],[(4,[.keepF 42,.keep 2,.keep 4,.keep 14,.keep 15,.slot 16 (.one (.int .i64)),.box 4200000 [(.slo 1),(.slo 1),(.slo 1),(.int .i64),(.int .i64)],.box 4200001 [.nil,.nil,.nil,(.int .i64),(.int .i64)]])],Tryz.func42,rfl,(by kernel_rfl),rfl,(by kernel_rfl),(by kernel_rfl)⟩⟩
@[irreducible] noncomputable def b41:Cmd:=((Tryz.f41.body).bind (trC Tryz.prog [1000070,1000074,1000137,1000158,1000159,2000087,2000088,2000101,2000104,2000075,11300700011300102,50] 41 [(3,([1,2,4],[4100502,4100601],[],[])),(4,([2,4,14,15,16],[4100502,4100601],[],[])),(17,([2,4,14,15,16],[4100502,4100601],[],[]))] [(4,[.keepF 41,.keep 2,.keep 4,.keep 14,.keep 15,.slot 16 (.one (.int .i64)),.box 4100000 [(.slo 1),(.slo 1),(.slo 1),(.int .i64),(.int .i64)],.box 4100001 [.nil,.nil,.nil,(.int .i64),(.int .i64)]])])).getD .skip
noncomputable def c41:FnC:=⟨41,61,[(.cell 4 (some 5)),(.tmp 5)],b41,false,[(.agg [(.slo 1),(.slo 1),(.slo 1),(.int .i64),(.int .i64)]),(.one (.slo 3))],.tup [(.agg [(.slo 1),(.slo 1),(.slo 1),(.int .i64),(.int .i64)]),(.one (.int .i64))],none,false,[]⟩
theorem is41:IsFn Tryz.prog 41 c41:=⟨⟨_,_,[1000070,1000074,1000137,1000158,1000159,2000087,2000088,2000101,2000104,2000075,11300700011300102,50],[(3,([1,2,4],[4100502,4100601],[],[])),(4,([2,4,14,15,16],[4100502,4100601],[],[])),(17,([2,4,14,15,16],[4100502,4100601],[],[]))],[(4,[.keepF 41,.keep 2,.keep 4,.keep 14,.keep 15,.slot 16 (.one (.int .i64)),.box 4100000 [(.slo 1),(.slo 1),(.slo 1),(.int .i64),(.int .i64)],.box 4100001 [.nil,.nil,.nil,(.int .i64),(.int .i64)]])],Tryz.func41,rfl,(by kernel_rfl),rfl,(by kernel_rfl),(by kernel_rfl)⟩⟩
noncomputable def own3:List (Nat×Fun):=[(113,.code c113),(145,.code c145),(114,.code c114),(78,.code c78),(100,.code c100),(76,.code c76),(107,.code c107),(118,.code c118),(103,.code c103),(138,.code c138),(139,.code c139),(140,.code c140),(141,.code c141),(50,.code c50),(71,.code c71),(72,.code c72),(52,.code c52),(53,.code c53),(58,.code c58),(86,.code c86),(59,.code c59),(30,.code c30),(49,.code c49),(73,.code c73),(51,.code c51),(75,.code c75),(102,.code c102),(105,.code c105),(17,.code c17),(42,.code c42),(41,.code c41),(70,.prim (some (7000001,9,1,false)) (cloneP 7000001 9 1 16)),(74,.prim (some (7400001,3,1,false)) (cloneP 7400001 3 1 8)),(137,.prim (some (13700001,4,1,false)) (cloneP 13700001 4 1 1)),(158,.prim (some (15800001,9,1,false)) (growP 15800001 9 1 16)),(159,.prim (some (15900001,3,1,false)) (growP 15900001 3 1 8)),(87,.prim (some (8700001,9,1,false)) (updP (insL 16) 9)),(88,.prim (some (8800001,3,1,false)) (updP (insL 8) 3)),(101,.prim (some (10100001,9,1,false)) (updP delL 9)),(104,.prim (some (10400001,3,1,false)) (updP delL 3))]
noncomputable def funs3:List (Nat×Fun):=own3++funs2
noncomputable def Fs3:Nat→Option Fun:=table funs3
set_option maxRecDepth 100000 in
theorem company3:Company Tryz.prog Fs3:=
 .cons is113 <| .cons is145 <| .cons is114 <| .cons is78 <| .cons is100 <| .cons is76 <| .cons is107 <| .cons is118 <| .cons is103 <| .cons is138 <| .cons is139 <| .cons is140 <| .cons is141 <| .cons is50 <| .cons is71 <| .cons is72 <| .cons is52 <| .cons is53 <| .cons is58 <| .cons is86 <| .cons is59 <| .cons is30 <| .cons is49 <| .cons is73 <| .cons is51 <| .cons is75 <| .cons is102 <| .cons is105 <| .cons is17 <| .cons is42 <| .cons is41 <| .cons (clone_at Tryz.laysSlE041_f70 rfl (by kernel_rfl)) <| .cons (clone_at Tryz.laysSlE041_f74 rfl (by kernel_rfl)) <| .cons (clone_at Tryz.laysSlE041_f137 rfl (by kernel_rfl)) <| .cons (grow_at Tryz.laysGrow_f158 rfl (by kernel_rfl)) <| .cons (grow_at Tryz.laysGrow_f159 rfl (by kernel_rfl)) <| .cons (ins_str Tryz.laysIns_f87 rfl 8700001) <| .cons (ins_int Tryz.laysIns_f88 rfl 8800001) <| .cons (del_at Tryz.laysSlE45_f101 rfl (by kernel_rfl) 10100001) <| .cons (del_at Tryz.laysSlE45_f104 rfl (by kernel_rfl) 10400001) <| company2
theorem up3:FsLe Fs2 Fs3:=table_up (by kernel_rfl)
theorem fs113:Fs3 113=some (.code c113):=rfl
theorem fs145:Fs3 145=some (.code c145):=rfl
theorem fs114:Fs3 114=some (.code c114):=rfl
theorem fs78:Fs3 78=some (.code c78):=rfl
theorem fs100:Fs3 100=some (.code c100):=rfl
theorem fs76:Fs3 76=some (.code c76):=rfl
theorem fs107:Fs3 107=some (.code c107):=rfl
theorem fs118:Fs3 118=some (.code c118):=rfl
theorem fs103:Fs3 103=some (.code c103):=rfl
theorem fs138:Fs3 138=some (.code c138):=rfl
theorem fs139:Fs3 139=some (.code c139):=rfl
theorem fs140:Fs3 140=some (.code c140):=rfl
theorem fs141:Fs3 141=some (.code c141):=rfl
theorem fs50:Fs3 50=some (.code c50):=rfl
theorem fs71:Fs3 71=some (.code c71):=rfl
theorem fs72:Fs3 72=some (.code c72):=rfl
theorem fs52:Fs3 52=some (.code c52):=rfl
theorem fs53:Fs3 53=some (.code c53):=rfl
theorem fs58:Fs3 58=some (.code c58):=rfl
theorem fs86:Fs3 86=some (.code c86):=rfl
theorem fs59:Fs3 59=some (.code c59):=rfl
theorem fs30:Fs3 30=some (.code c30):=rfl
theorem fs49:Fs3 49=some (.code c49):=rfl
theorem fs73:Fs3 73=some (.code c73):=rfl
theorem fs51:Fs3 51=some (.code c51):=rfl
theorem fs75:Fs3 75=some (.code c75):=rfl
theorem fs102:Fs3 102=some (.code c102):=rfl
theorem fs105:Fs3 105=some (.code c105):=rfl
theorem fs17:Fs3 17=some (.code c17):=rfl
theorem fs42:Fs3 42=some (.code c42):=rfl
theorem fs41:Fs3 41=some (.code c41):=rfl
theorem fs70:Fs3 70=some (.prim (some (7000001,9,1,false)) (cloneP 7000001 9 1 16)):=rfl
theorem fs74:Fs3 74=some (.prim (some (7400001,3,1,false)) (cloneP 7400001 3 1 8)):=rfl
theorem fs137:Fs3 137=some (.prim (some (13700001,4,1,false)) (cloneP 13700001 4 1 1)):=rfl
theorem fs158:Fs3 158=some (.prim (some (15800001,9,1,false)) (growP 15800001 9 1 16)):=rfl
theorem fs159:Fs3 159=some (.prim (some (15900001,3,1,false)) (growP 15900001 3 1 8)):=rfl
theorem fs87:Fs3 87=some (.prim (some (8700001,9,1,false)) (updP (insL 16) 9)):=rfl
theorem fs88:Fs3 88=some (.prim (some (8800001,3,1,false)) (updP (insL 8) 3)):=rfl
theorem fs101:Fs3 101=some (.prim (some (10100001,9,1,false)) (updP delL 9)):=rfl
theorem fs104:Fs3 104=some (.prim (some (10400001,3,1,false)) (updP delL 3)):=rfl
end Go.Proofs.YtclgengkohbjjaaGreatDoor.M
