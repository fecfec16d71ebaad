import Derived.Test.YtegndijbpiccgaaGreatDoorR5EdA
import Derived.Test.YtegndijbpiccgaaGreatDoorProg
import Derived.Test.YtegndijbpiccgaaGreatDoorMirI
import Derived.Test.YtegndijbpiccgaaGreatDoorMirL
import Derived.KernelRfl
import Derived.Test.YtegndijbpiccgaaGreatDoorMirT
import Derived.Shelf.SlicesE.Delete
import Derived.Shelf.Spec.SlicesInsert
import Derived.Shelf.Spec.SlicesInsertGrow
import Derived.Shelf.Spec.SlicesGrow
import Derived.Test.YtegndijbpiccgaaGreatDoorR5FunB
import Derived.Test.YtegndijbpiccgaaGreatDoorR5LV
namespace Go.Proofs.YtegndijbpiccgaaGreatDoor.M
set_option linter.unusedVariables false
set_option linter.unusedSimpArgs false
open Go Go.Mir
set_option linter.unusedVariables false
def freeAt (w:Wd) (i:Nat):Bool := !(tr w.base i) && !(tr w.now i)
def ffUp (w:Wd):Nat→Option Nat
 | 0=>none
 | i+1=>match ffUp w i with
   | some j=>some j
   | none=>if freeAt w i then some i else none
def firstFree (w:Wd):Option Nat:=ffUp w w.now.length
theorem ffUp_some {w:Wd}:∀ {i j:Nat},ffUp w i=some j→j<i∧freeAt w j=true∧∀k,k<j→freeAt w k=false
 | 0,j,h=>by cases h
 | i+1,j,h=>by
   unfold ffUp at h
   cases hx:ffUp w i with
   | some k=>
     rw[hx]at h
     obtain rfl:k=j:=by simpa using h
     obtain ⟨h1,h2,h3⟩:=ffUp_some hx
     exact ⟨by omega,h2,h3⟩
   | none=>
     rw[hx]at h
     dsimp only at h
     split at h
     · rename_i hf
       obtain rfl:i=j:=by simpa using h
       refine ⟨by omega,hf,fun k hk => ?_⟩
       have hn:∀(m:Nat),ffUp w m=none→∀k,k<m→freeAt w k=false:=fun m=>by
        induction m with
        | zero=>intro _ k hk;omega
        | succ m ih=>
          intro hm k hk
          unfold ffUp at hm
          cases hy:ffUp w m with
          | some z=>rw[hy]at hm;cases hm
          | none=>
            rw[hy]at hm
            dsimp only at hm
            split at hm
            · cases hm
            · rename_i hg
              by_cases e:k=m
              · subst e;simpa using hg
              · exact ih hy k (by omega)
       exact hn i hx k hk
     · cases h
theorem ffUp_none {w:Wd}:∀ {i:Nat},ffUp w i=none→∀k,k<i→freeAt w k=false
 | 0,_,k,hk=>by omega
 | i+1,h,k,hk=>by
   unfold ffUp at h
   cases hx:ffUp w i with
   | some z=>rw[hx]at h;cases h
   | none=>
     rw[hx]at h
     dsimp only at h
     split at h
     · cases h
     · rename_i hg
       by_cases e:k=i
       · subst e;simpa using hg
       · exact ffUp_none hx k (by omega)
structure Fr (w x:Wd) (O N W:List Int):Prop where
 base:x.base=w.base
 gen:x.gen=w.gen
 root:x.root=w.root
 nlen:x.now.length=w.now.length
 plen:x.pages.length=w.pages.length
 now:∀i:Nat,i<w.now.length→tr x.now i=((tr w.now i && !decide ((i:Int)∈O))||decide ((i:Int)∈N))
 page:∀b:Int,0≤b→b∉W→pgAt x b=pgAt w b
 wr:∀b∈W,b∈N∧10≤b∧b<w.now.length∧tr w.base b.toNat=false∧(b∈O∨tr w.now b.toNat=false)∧∃n,NdOK n true∧pgAt x b=pageB w.gen n
 kept:∀b∈N,b∈W∨b∈O
theorem Fr.refl (w:Wd):Fr w w [] [] []:=⟨rfl,rfl,rfl,rfl,rfl,fun i _=>by simp,fun _ _ _=>rfl,fun b h=>(by cases h),fun b h=>(by cases h)⟩
theorem Fr.trans {w x y:Wd} {O N W O' N' W':List Int} (h:Fr w x O N W) (g:Fr x y O' N' W') (hd:∀b∈N,b∉O'):Fr w y (O++O') (N++N') (W++W') where
 base:=g.base.trans h.base
 gen:=g.gen.trans h.gen
 root:=g.root.trans h.root
 nlen:=g.nlen.trans h.nlen
 plen:=g.plen.trans h.plen
 now i hi:=by
  rw[g.now i (by rw[h.nlen];exact hi),h.now i hi]
  simp only[List.mem_append]
  by_cases hN:(i:Int)∈N
  · have:=hd _ hN
    simp[hN,this]
  · by_cases h1:(i:Int)∈O <;> by_cases h2:(i:Int)∈O' <;> by_cases h3:(i:Int)∈N' <;> simp[hN,h1,h2,h3]
 page b hb hn:=by
  rw[List.mem_append]at hn
  rw[g.page b hb fun e=>hn (.inr e),h.page b hb fun e=>hn (.inl e)]
 wr b hb:=by
  rw[List.mem_append]at hb
  by_cases h2:b∈W'
  · obtain ⟨a1,a2,a3,a4,a5,n,a6,a7⟩:=g.wr b h2
    rw[h.nlen]at a3
    refine ⟨List.mem_append_right _ a1,a2,a3,by rw[←h.base];exact a4,?_,n,a6,by rw[a7,h.gen]⟩
    rcases a5 with a5|a5
    · exact .inl (List.mem_append_right _ a5)
    · rw[h.now b.toNat (by omega),show ((b.toNat:Nat):Int)=b by omega]at a5
      simp only[Bool.or_eq_false_iff,Bool.and_eq_false_iff,Bool.not_eq_false',decide_eq_true_eq]at a5
      rcases a5.1 with a6|a6
      · exact .inr a6
      · exact .inl (List.mem_append_left _ a6)
  · have hb:=hb.resolve_right h2
    obtain ⟨a1,a2,a3,a4,a5,n,a6,a7⟩:=h.wr b hb
    refine ⟨List.mem_append_left _ a1,a2,a3,a4,?_,n,a6,by rw[g.page b (by omega) h2];exact a7⟩
    rcases a5 with a5|a5
    · exact .inl (List.mem_append_left _ a5)
    · exact .inr a5
 kept b hb:=by
  rcases List.mem_append.1 hb with hb|hb
  · rcases h.kept b hb with e|e
    · exact .inl (List.mem_append_left _ e)
    · exact .inr (List.mem_append_left _ e)
  · rcases g.kept b hb with e|e
    · exact .inl (List.mem_append_right _ e)
    · exact .inr (List.mem_append_right _ e)
theorem Fr.keep {w x:Wd} {O N W:List Int} (h:Fr w x O N W) (E:List Int) (hE:∀b∈E,tr w.now b.toNat=true∧b∉O∧0≤b):Fr w x (O++E) (N++E) W where
 base:=h.base
 gen:=h.gen
 root:=h.root
 nlen:=h.nlen
 plen:=h.plen
 now i hi:=by
  rw[h.now i hi]
  simp only[List.mem_append]
  by_cases h1:(i:Int)∈E
  · obtain ⟨a,b,_⟩:=hE _ h1
    rw[show (i:Int).toNat=i by omega]at a
    simp[h1,a,b]
  · simp[h1]
 page:=h.page
 wr b hb:=by
  obtain ⟨a1,a2,a3,a4,a5,a6⟩:=h.wr b hb
  refine ⟨List.mem_append_left _ a1,a2,a3,a4,?_,a6⟩
  rcases a5 with a5|a5
  · exact .inl (List.mem_append_left _ a5)
  · exact .inr a5
 kept b hb:=by
  rcases List.mem_append.1 hb with hb|hb
  · rcases h.kept b hb with e|e
    · exact .inl e
    · exact .inr (List.mem_append_left _ e)
  · exact .inr (List.mem_append_right _ hb)
theorem Fr.used {w x:Wd} {O N W:List Int} (h:Fr w x O N W) {b:Int} (hb:b∈N) (h0:0≤b) (h1:b<w.now.length):tr x.now b.toNat=true:=by
 rw[h.now b.toNat (by omega),show ((b.toNat:Nat):Int)=b by omega]
 simp[hb]
theorem Fr.right {w x:Wd} {O N W:List Int} (h:Fr w x O N W) (hr:WRight w) (hO:∀b∈O,10≤b) (hs:∀s∈x.pages,s.size≤4096):WRight x:=by
 obtain ⟨⟨a1,a2,a3,a4⟩,a5,a6,a7,a8,a9⟩:=hr
 refine ⟨⟨by rw[h.base,h.nlen];exact a1,by rw[h.nlen];exact a2,by rw[h.nlen];exact a3,fun j hj=>⟨by rw[h.base];exact (a4 j hj).1,?_⟩⟩,by rw[h.plen,h.nlen];exact a5,by rw[h.gen];exact a6,by rw[h.gen];exact a7,by rw[h.root,h.nlen];exact a8,hs⟩
 rw[h.now j (by omega),(a4 j hj).2]
 have:(j:Int)∉O:=fun e=>by have:=hO _ e;omega
 simp[this]
structure Ed where
 w:Wd
 bad:Int
theorem tr_set {l:List Bool} {j:Nat} {v:Bool} (hj:j<l.length) (i:Nat):tr (l.set j v) i=if i=j then v else tr l i:=by
 unfold tr
 by_cases e:i=j
 · subst e;rw[if_pos rfl,List.getElem?_set_self hj];rfl
 · rw[if_neg e,List.getElem?_set_ne (fun h=>e h.symm)]
theorem pgAt_set {w:Wd} {j:Nat} {s:ByteArray} (hj:j<w.pages.length) (b:Int):pgAt { w with pages:=w.pages.set j s } b=if b.toNat=j then s else pgAt w b:=by
 unfold pgAt
 dsimp only
 by_cases e:b.toNat=j
 · rw[if_pos e,e,List.getElem?_set_self hj];rfl
 · rw[if_neg e,List.getElem?_set_ne (fun h=>e h.symm)]
def Cont (H:Hd) (h:Nat) (lo hi:ByteArray) (n:Nd) (P:List Pr) (B:List Int):Prop:=
 (∀k∈n.keys,within k lo hi=true)∧((n.leaf=true∧h=0∧n.keys≠[]∧P=n.keys.zip n.vals∧B=[])∨(n.leaf=false∧KTr (fun c lo hi P B=>Tr H h c false lo hi P B) lo hi n.keys n.kids P B))
theorem tr_get {H:Hd} {h:Nat} {b:Int} {root:Bool} {lo hi:ByteArray} {P:List Pr} {B:List Int} (ht:Tr H (h+1) b root lo hi P B):∃n B0,H b root=some n∧Cont H h lo hi n P B0∧B=b :: B0:=by
 obtain ⟨n,hn,hw,⟨a1,a2,a3,a4,rfl⟩|⟨a1,B',rfl,a2⟩⟩:=ht
 · exact ⟨n,[],hn,⟨hw,.inl ⟨a1,a2,a3,a4,rfl⟩⟩,rfl⟩
 · exact ⟨n,B',hn,⟨hw,.inr ⟨a1,a2⟩⟩,rfl⟩
theorem Cont.frame {H G:Hd} {h:Nat} {lo hi:ByteArray} {n:Nd} {P:List Pr} {B:List Int} (hc:Cont H h lo hi n P B) (f:∀x∈B,∀r n,H x r=some n→G x r=some n):Cont G h lo hi n P B:=by
 obtain ⟨hw,a|⟨a1,a2⟩⟩:=hc
 · exact ⟨hw,.inl a⟩
 · exact ⟨hw,.inr ⟨a1,KTr.mono (fun c lo hi P B' hB hx=>Tr.frame (fun x hx'=>f x (hB x hx')) hx) a2⟩⟩
theorem Cont.held {H:Hd} {h:Nat} {lo hi:ByteArray} {n:Nd} {P:List Pr} {B:List Int} (hc:Cont H h lo hi n P B):∀x∈B,∃r n,H x r=some n:=by
 obtain ⟨_,⟨_,_,_,_,rfl⟩|⟨_,a2⟩⟩:=hc
 · intro x hx;cases hx
 · exact KTr.mem (Q:=fun x=>∃r n,H x r=some n) (fun c lo hi P B hc=>Tr.held hc) a2
theorem Fr.new {w x:Wd} {N W:List Int} (h:Fr w x [] N W) {b:Int} (hb:b∈W):tr w.now b.toNat=false:=by
 rcases (h.wr b hb).2.2.2.2.1 with e|e
 · cases e
 · exact e
structure Inv (w:Wd) (e:Ed):Prop where
 right:WRight e.w
 base:e.w.base=w.base
 gen:e.w.gen=w.gen
 root:e.w.root=w.root
 nlen:e.w.now.length=w.now.length
 page:∀b:Int,0≤b→tr w.base b.toNat=true→pgAt e.w b=pgAt w b
 bad:e.bad=0∨e.bad=60∨e.bad=81
theorem Inv.tree {w:Wd} {e:Ed} (h:Inv w e):Inv w { e with bad:=81 }:=⟨h.right,h.base,h.gen,h.root,h.nlen,h.page,.inr (.inr rfl)⟩
theorem Inv.step {w:Wd} {e e':Ed} {O N W:List Int} (h:Inv w e) (f:Fr e.w e'.w O N W) (hr:WRight e'.w) (hb:e'.bad=0∨e'.bad=60∨e'.bad=81):Inv w e' where
 right:=hr
 base:=f.base.trans h.base
 gen:=f.gen.trans h.gen
 root:=f.root.trans h.root
 nlen:=f.nlen.trans h.nlen
 page b hb ht:=by
  rw[f.page b hb fun hw => ?_,h.page b hb ht]
  have:=(f.wr b hw).2.2.2.1
  rw[h.base,ht]at this;cases this
 bad:=hb
def wd0:Wd:=⟨[],[],[],0,0⟩
def Fq (w x:Wd) (O N W:List Int):Prop:=Fr w { x with root:=w.root } O N W
theorem Fr.q {w x:Wd} {O N W:List Int} (h:Fr w x O N W) (r:Int):Fq w { x with root:=r } O N W:=by
 unfold Fq
 have e:({ { x with root:=r } with root:=w.root }:Wd)=x:=by
  obtain ⟨b,n,p,r0,g⟩:=x
  have:=h.root
  simp only at this
  simp[this]
 rw[e];exact h
theorem ktr_app {R:TR} {k hi:ByteArray} {ks2:List ByteArray} {cs2:List Int} {P2:List Pr} {B2:List Int} (h2:KTr R k hi ks2 cs2 P2 B2):∀ {ks1:List ByteArray} {cs1:List Int} {lo:ByteArray} {P1:List Pr} {B1:List Int},KTr R lo k ks1 cs1 P1 B1→KTr R lo hi (ks1++k :: ks2) (cs1++cs2) (P1++P2) (B1++B2)
 | [],[],_,_,_,h=>h.elim
 | [],[c],lo,P1,B1,h=>⟨P1,B1,P2,B2,h,h2,rfl,rfl⟩
 | [],_ :: _ :: _,_,_,_,h=>h.elim
 | _ :: _,[],_,_,_,h=>h.elim
 | y :: ks1,c :: cs1,lo,P1,B1,h=>by
   obtain ⟨Q1,C1,Q2,C2,g1,g2,rfl,rfl⟩:=h
   exact ⟨Q1,C1,Q2++P2,C2++B2,g1,ktr_app h2 g2,by simp,by simp⟩
def Tail (R:TR) (hi' hi:ByteArray) (kr:List ByteArray) (cr:List Int) (P:List Pr) (B:List Int):Prop:=
 (kr=[]∧cr=[]∧hi'=hi∧P=[]∧B=[])∨∃kr',kr=hi' :: kr'∧KTr R hi' hi kr' cr P B
theorem Tail.mono {R S:TR} {hi' hi:ByteArray} {kr:List ByteArray} {cr:List Int} {P:List Pr} {B:List Int} (m:∀c lo hi P B',(∀x∈B',x∈B)→R c lo hi P B'→S c lo hi P B') (h:Tail R hi' hi kr cr P B):Tail S hi' hi kr cr P B:=by
 rcases h with h|⟨kr',h1,h2⟩
 · exact .inl h
 · exact .inr ⟨kr',h1,KTr.mono m h2⟩
def CR (H:Hd) (h:Nat) (lo hi:ByteArray) (n:Nd) (P:List Pr) (B:List Int):Prop:=
 (∀k∈n.keys,within k lo hi=true)∧KOK n.keys ∧
 ((n.leaf=true∧h=0∧n.kids=[]∧n.vals.length=n.keys.length∧(∀v∈n.vals,v.size≤200)∧P=n.keys.zip n.vals∧B=[]) ∨
  (n.leaf=false∧n.vals=[]∧KTr (fun c lo hi P B=>Tr H h c false lo hi P B) lo hi n.keys n.kids P B))
theorem CR.frame {H G:Hd} {h:Nat} {lo hi:ByteArray} {n:Nd} {P:List Pr} {B:List Int} (hc:CR H h lo hi n P B) (f:∀x∈B,∀r n,H x r=some n→G x r=some n):CR G h lo hi n P B:=by
 obtain ⟨c1,c2,a|⟨a1,a2,a3⟩⟩:=hc
 · exact ⟨c1,c2,.inl a⟩
 · exact ⟨c1,c2,.inr ⟨a1,a2,KTr.mono (fun c lo hi P B' hB hx=>Tr.frame (fun x hx'=>f x (hB x hx')) hx) a3⟩⟩
theorem CR.held {H:Hd} {h:Nat} {lo hi:ByteArray} {n:Nd} {P:List Pr} {B:List Int} (hc:CR H h lo hi n P B):∀x∈B,∃r n,H x r=some n:=by
 obtain ⟨c1,c2,⟨_,_,_,_,_,_,rfl⟩|⟨a1,a2,a3⟩⟩:=hc
 · intro x hx;cases hx
 · exact KTr.mem (Q:=fun x=>∃r n,H x r=some n) (fun c lo hi P B hc=>Tr.held hc) a3
def joinN (a:Nd) (k:ByteArray) (b:Nd):Nd:=
 if a.leaf then ⟨true,a.keys++b.keys,a.vals++b.vals,[]⟩ else ⟨false,a.keys++k :: b.keys,[],a.kids++b.kids⟩
theorem rise_app {l1 l2:List ByteArray} (h1:Rise l1) (h2:Rise l2) (h:∀x∈l1,∀y∈l2,lt x y=true):Rise (l1++l2):=List.pairwise_append.2 ⟨h1,h2,h⟩
theorem ktr_ne {R:TR} (m:∀c lo hi P B,R c lo hi P B→P≠[]):∀ {ks:List ByteArray} {cs:List Int} {lo hi:ByteArray} {P:List Pr} {B:List Int},KTr R lo hi ks cs P B→P≠[]
 | [],[],_,_,_,_,hk=>hk.elim
 | [],[c],_,_,_,_,hk=>m _ _ _ _ _ hk
 | [],_ :: _ :: _,_,_,_,_,hk=>hk.elim
 | _ :: _,[],_,_,_,_,hk=>hk.elim
 | k :: ks,c :: cs,lo,hi,P,B,hk=>by
   obtain ⟨P1,B1,P2,B2,h1,h2,rfl,rfl⟩:=hk
   have:=m _ _ _ _ _ h1
   simp[this]
theorem tr_ne {H:Hd} (ho:HOK H):∀(h:Nat) (b:Int) (lo hi:ByteArray) (P:List Pr) (B:List Int),Tr H h b false lo hi P B→P≠[]
 | 0,_,_,_,_,_,ht=>ht.elim
 | h+1,b,lo,hi,P,B,ht=>by
   obtain ⟨n,B0,hn,⟨_,⟨hl,_,hk,hP,_⟩|⟨hl,hk⟩⟩,rfl⟩:=tr_get ht
   · rcases (ho _ _ _ hn).1.2.2 with ⟨_,_,hv,_⟩|⟨hx,_⟩
     · rw[hP]
       intro e
       have:=congrArg List.length e
       rw[List.length_zip,hv,Nat.min_self,List.length_nil]at this
       have h0:=List.length_pos_iff.2 hk
       omega
     · rw[hl]at hx;cases hx
   · exact ktr_ne (fun c lo hi P B hc=>tr_ne ho h c lo hi P B hc) hk
theorem ktr_lt {R:TR} (mw:∀c lo hi P B,R c lo hi P B→∀p∈P,within p.1 lo hi=true) (m:∀c lo hi P B,R c lo hi P B→P≠[]) {ks:List ByteArray} {cs:List Int} {lo hi:ByteArray} {P:List Pr} {B:List Int} (hr:Rise ks) (he:∀k∈ks,k≠empS) (h:KTr R lo hi ks cs P B):∀k∈ks,lt lo k=true:=by
 cases ks with
 | nil=>intro k hk;cases hk
 | cons k ks=>
   cases cs with
   | nil=>exact h.elim
   | cons c cs=>
     obtain ⟨P1,B1,P2,B2,h1,h2,rfl,rfl⟩:=h
     obtain ⟨p,hp⟩:=List.exists_mem_of_ne_nil _ (m _ _ _ _ _ h1)
     obtain ⟨g1,g2⟩:=within_iff.1 (mw _ _ _ _ _ h1 p hp)
     have g2:=g2.resolve_left (he k (by simp))
     have hk:lt lo k=true:=by
       rcases nlt_iff.1 g1 with e|e
       · first | exact e▸g2|exact e.symm▸g2
       · exact lt_trans e g2
     intro x hx
     rcases List.mem_cons.1 hx with rfl|hx
     · exact hk
     · exact lt_trans hk ((List.pairwise_cons.1 hr).1 x hx)
theorem join_ok {H:Hd} (ho:HOK H) {h:Nat} {lo k hi:ByteArray} {a b:Nd} {Pa Pb:List Pr} {Ba Bb:List Int} (hk:1≤k.size∧k.size≤32) (hw:within k lo hi=true) (ha:CR H h lo k a Pa Ba) (hb:CR H h k hi b Pb Bb) (hl:a.leaf=b.leaf):
   CR H h lo hi (joinN a k b) (Pa++Pb) (Ba++Bb)∧(joinN a k b).leaf=a.leaf:=by
 have hke:k≠empS:=fun e=>by have:=hk.1;rw[e]at this;exact absurd this (by decide)
 obtain ⟨a1,a2,a3⟩:=ha
 obtain ⟨b1,b2,b3⟩:=hb
 obtain ⟨ar,az⟩:=kok_iff.1 a2
 obtain ⟨br,bz⟩:=kok_iff.1 b2
 obtain ⟨w1,w2⟩:=within_iff.1 hw
 have ak:∀x∈a.keys,lt x k=true:=fun x hx=>by
   rcases (within_iff.1 (a1 x hx)).2 with e|e
   · exact absurd e hke
   · exact e
 have bk:∀x∈b.keys,lt x k=false:=fun x hx=>(within_iff.1 (b1 x hx)).1
 have aw:∀x∈a.keys,within x lo hi=true:=fun x hx=>within_high (a1 x hx) hke hw
 have bw:∀x∈b.keys,within x lo hi=true:=fun x hx=>within_low (b1 x hx) w1
 unfold joinN
 rcases a3 with ⟨x1,x2,x3,x4,x5,x6,x7⟩|⟨x1,x2,x3⟩
 · rw[x1]at hl ⊢
   rw[if_pos rfl]
   rcases b3 with ⟨y1,y2,y3,y4,y5,y6,y7⟩|⟨y1,_⟩
   · refine ⟨⟨fun x hx => ?_,kok_iff.2 ⟨rise_app ar br fun x hx y hy=>lt_nlt (ak x hx) (bk y hy),fun x hx => ?_⟩,.inl ⟨rfl,x2,rfl,by simp;omega,fun v hv => ?_,?_,by rw[x7,y7];rfl⟩⟩,rfl⟩
     · rcases List.mem_append.1 hx with h|h
       · exact aw x h
       · exact bw x h
     · rcases List.mem_append.1 hx with h|h
       · exact az x h
       · exact bz x h
     · rcases List.mem_append.1 hv with h|h
       · exact x5 v h
       · exact y5 v h
     · rw[x6,y6];exact (List.zip_append (by omega)).symm
   · rw[y1]at hl;cases hl
 · rw[x1]at hl ⊢
   rw[if_neg (by simp)]
   rcases b3 with ⟨y1,_⟩|⟨y1,y2,y3⟩
   · rw[y1]at hl;cases hl
   · have hbr:∀x∈b.keys,lt k x=true:=ktr_lt (fun c lo hi P B hc=>hc.within ho) (fun c lo hi P B hc=>tr_ne ho h c lo hi P B hc) br (fun x hx e=>by have:=(bz x hx).1;rw[e]at this;exact absurd this (by decide)) y3
     refine ⟨⟨fun x hx => ?_,kok_iff.2 ⟨rise_app ar (List.pairwise_cons.2 ⟨hbr,br⟩) fun x hx y hy => ?_,fun x hx => ?_⟩,.inr ⟨rfl,rfl,ktr_app y3 x3⟩⟩,rfl⟩
     · rcases List.mem_append.1 hx with h|h
       · exact aw x h
       · rcases List.mem_cons.1 h with rfl|h
         · exact hw
         · exact bw x h
     · rcases List.mem_cons.1 hy with rfl|hy
       · exact ak x hx
       · exact lt_trans (ak x hx) (hbr y hy)
     · rcases List.mem_append.1 hx with h|h
       · exact az x h
       · rcases List.mem_cons.1 h with rfl|h
         · exact hk
         · exact bz x h
structure Chg where
 gone:Bool
 key:ByteArray
 val:ByteArray
def Chg.ok (c:Chg):Prop:=1≤c.key.size∧c.key.size≤32∧c.val.size≤200∧(c.gone=true→c.val=empS)
noncomputable instance (c:Chg):Decidable c.ok:=Classical.propDecidable _
theorem trim_page (k g:Int) (b:ByteArray):TrimS (PageS k g b)=PageS k g b:=by
 have h:=trim_pageS k g b 0
 have e:padB (PageS k g b) 0=PageS k g b:=bytes_ext (by rw[padB_data];simp)
 rwa [e]at h
structure Nw (w x:Wd) (O N:List Int):Prop where
 base:x.base=w.base
 gen:x.gen=w.gen
 nlen:x.now.length=w.now.length
 plen:x.pages.length=w.pages.length
 now:∀i:Nat,i<w.now.length→tr x.now i=((tr w.now i && !decide ((i:Int)∈O))||decide ((i:Int)∈N))
 page:∀b:Int,0≤b→tr w.base b.toNat=true→pgAt x b=pgAt w b
 kept:∀i:Nat,i<w.now.length→(i:Int)∈N→(i:Int)∈O∨tr w.now i=false
 tidy:(∀s∈w.pages,TrimS s=s)→∀s∈x.pages,TrimS s=s
theorem Nw.refl (w:Wd) (B:List Int) (h:∀b∈B,tr w.now b.toNat=true):Nw w w B B:=⟨rfl,rfl,rfl,rfl,fun i hi=>by
 by_cases hb:(i:Int)∈B
 · have:=h _ hb
   simp at this
   simp[hb,this]
 · simp[hb],fun _ _ _=>rfl,fun i _ h => .inl h,fun h=>h⟩
theorem Nw.trans {w x y:Wd} {O N M:List Int} (h:Nw w x O N) (g:Nw x y N M):Nw w y O M where
 base:=g.base.trans h.base
 gen:=g.gen.trans h.gen
 nlen:=g.nlen.trans h.nlen
 plen:=g.plen.trans h.plen
 page b hb ht:=by rw[g.page b hb (by rw[h.base];exact ht),h.page b hb ht]
 tidy ht:=g.tidy (h.tidy ht)
 now i hi:=by
  rw[g.now i (by rw[h.nlen];exact hi),h.now i hi]
  have hk:=h.kept i hi
  by_cases h1:(i:Int)∈N
  · rcases hk h1 with e|e
    · simp[h1,e]
    · simp[h1,e]
  · simp[h1]
 kept i hi hm:=by
  rcases g.kept i (by rw[h.nlen];exact hi) hm with e|e
  · exact h.kept i hi e
  · rw[h.now i hi]at e
    simp only[Bool.or_eq_false_iff,Bool.and_eq_false_iff,Bool.not_eq_false',decide_eq_true_eq]at e
    rcases e.1 with e|e
    · exact .inr e
    · exact .inl e
theorem isTree_tr {w:Wd} {h:Nat} {P:List Pr} {B:List Int} (ht:IsTree w h P B):∀b∈B,tr w.now b.toNat=true:=fun b hb=>by
 obtain ⟨r,m,hm⟩:=isTree_held ht b hb
 exact hold_tr hm
theorem hold_gen {w:Wd} {b g:Int} {r:Bool} {n:Nd} {l:List Bool} (hg:w.gen≤g) (h:Hold w b r=some n):Hold ⟨l,w.now,w.pages,w.root,g⟩ b r=some n:=by
 unfold Hold at h ⊢
 dsimp only
 split at h
 · cases h
 · rename_i h1
   rw[if_neg h1]
   have hp:pgAt ⟨l,w.now,w.pages,w.root,g⟩ b=pgAt w b:=rfl
   rw[hp]
   rcases getP_cases (pgAt w b) with ⟨e,he,h'⟩|⟨k,g',s,h',_⟩
   · rw[h',hPage_err he]at h;cases h
   · rw[h',hPage_ok]at h ⊢
     split at h
     · cases h
     rw[if_neg (by omega)]
     exact h
theorem isTree_nodup {w:Wd} {h:Nat} {P:List Pr} {B:List Int} (hr:WRight w) (ht:IsTree w h P B):B.Nodup∧∀b∈B,10≤b∧b<w.now.length:=by
 refine ⟨?_,fun b hb => ?_⟩
 · rcases ht with ⟨_,_,_,rfl⟩|⟨_,_,_,_,hu⟩
   · exact List.nodup_nil
   · exact hu
 · obtain ⟨r,m,hm⟩:=isTree_held ht b hb
   have:=hold_rg (wr_now hr) hm
   omega
def newRow (n:Nat):List Bool:=(List.range n).map fun i=>decide (i<10)
def newW (n:Nat):Wd:=⟨newRow n,newRow n,List.replicate n empS,0,1⟩
theorem newRow_tr {n i:Nat} (h:i<n):tr (newRow n) i=decide (i<10):=by simp[tr,newRow,h]
def gave (w:Wd) (m:Int):Wd := { w with now:=w.now.set m.toNat false }
def comW (w:Wd) (m:Int) (b:Nat) (s:ByteArray):Wd:=
 ⟨(gave w m).now.set b true,(gave w m).now.set b true,w.pages.set b s,w.root,w.gen+1⟩
theorem com_ok {w:Wd} {m:Int} {b h:Nat} {s:ByteArray} {P:List Pr} {B:List Int} (hr:WRight w) (ht:IsTree w h P B) (hm:10≤m∧m<w.now.length∧m∉B) (hn:nowIs w.now (B++[m])) (hb:firstFree (gave w m)=some b) (hg:w.gen<1099511627776) (hs:s.size≤4096):
  10≤b∧b<w.now.length∧(b:Int)∉B∧WRight (comW w m b s)∧IsTree (comW w m b s) h P B∧nowIs (comW w m b s).now (B++[(b:Int)]):=by
 obtain ⟨hu,hB⟩:=isTree_nodup hr ht
 obtain ⟨f1,f2,f3⟩:=ffUp_some hb
 have hlen:(gave w m).now.length=w.now.length:=by simp[gave]
 have hmi:m.toNat<w.now.length:=by omega
 have hmn:((m.toNat:Nat):Int)=m:=by omega
 rw[hlen]at f1
 have htr:∀i,tr (gave w m).now i=if i=m.toNat then false else tr w.now i:=fun i=>tr_set hmi i
 have hfree:tr w.base b=false∧tr (gave w m).now b=false:=by
  have:freeAt (gave w m) b=true:=f2
  unfold freeAt at this
  simpa[gave] using this
 obtain ⟨⟨r1,r2,r3,r4⟩,r5,r6,r7,r8,r9⟩:=id hr
 have hb10:10≤b:=Classical.byContradiction fun hc=>by
  have:=(r4 b (by omega)).2
  have h2:=hfree.2
  rw[htr,if_neg (by omega),this]at h2;cases h2
 have hbB:(b:Int)∉B:=fun hx=>by
  have h2:=hfree.2
  have hne:b≠m.toNat:=fun e=>hm.2.2 (by rw[←hmn,←e];exact hx)
  rw[htr,if_neg hne,hn b f1]at h2
  simp[hx]at h2
 have hlen2:(comW w m b s).now.length=w.now.length:=by simp[comW,gave]
 have hnow:∀i:Nat,i<w.now.length→tr (comW w m b s).now i=decide (i<10∨(i:Int)∈B++[(b:Int)]):=fun i hi=>by
  have e:tr (comW w m b s).now i=if i=b then true else tr (gave w m).now i:=tr_set (by rw[hlen];exact f1) i
  rw[e,htr]
  by_cases h1:i=b
  · simp[h1]
  · rw[if_neg h1]
    have h1':¬(i:Int)=b:=by omega
    by_cases h2:i=m.toNat
    · rw[if_pos h2]
      have h3:(i:Int)∉B:=by rw[h2,hmn];exact hm.2.2
      simp[h1',h3]
      omega
    · rw[if_neg h2,hn i hi]
      have h3:¬(i:Int)=m:=by omega
      simp[h1',h3]
 have hR:WRight (comW w m b s):=by
  refine ⟨⟨rfl,by rw[hlen2];exact r2,by rw[hlen2];exact r3,fun j hj => ?_⟩,by rw[hlen2];simp[comW];omega,by simp only[comW];omega,by simp only[comW];omega,by rw[hlen2];exact r8,fun t ht => ?_⟩
  · have:tr (comW w m b s).now j=true:=by rw[hnow j (by omega)];simp[hj]
    exact ⟨this,this⟩
  · rcases List.mem_or_eq_of_mem_set ht with h|rfl
    · exact r9 t h
    · exact hs
 refine ⟨hb10,f1,hbB,hR,isTree_frame ht rfl fun x hx r n hh => ?_,fun i hi=>hnow i (by rw[hlen2]at hi;exact hi)⟩
 have hxr:=hB x hx
 have h1:=hold_gen (g:=w.gen+1) (l:=w.base) (by omega) hh
 have hxb:x.toNat≠b:=fun e=>hbB (by rw[←e,show ((x.toNat:Nat):Int)=x by omega];exact hx)
 rw[←h1]
 have hp:pgAt (comW w m b s) x=pgAt ⟨w.base,w.now,w.pages,w.root,w.gen+1⟩ x:=by
  show pgAt { comW w m b s with pages:=w.pages.set b s } x=_
  rw[pgAt_set (w := { comW w m b s with pages:=w.pages }) (by show b<w.pages.length;omega),if_neg hxb]
  rfl
 have hp2:(comW w m b s).pages.length=w.pages.length:=by simp[comW]
 have hx1:tr (comW w m b s).now x.toNat=true:=by
  rw[hnow _ (by omega),show ((x.toNat:Nat):Int)=x by omega];simp[hx]
 unfold Hold
 dsimp only
 rw[hlen2,hp2,hx1,hold_tr hh,hp]
 rfl
end Go.Proofs.YtegndijbpiccgaaGreatDoor.M
namespace Go.Proofs.YtegndijbpiccgaaGreatDoor.M
set_option linter.unusedVariables false
set_option linter.unusedSimpArgs false
open Go Go.Mir Go.Proofs
@[irreducible] noncomputable def b76:Cmd:=((Tryz.f76.body).bind (trC Tryz.prog [1000119,1000180,1000074,1000242,1000243,2000178,2000181,2000204,2000207,2000183,7600700007600102,148] 76 [(7,([1,19],[7600102],[],[]))] [(2,[.keepF 76,.keep 1,.ptr 5 7600102 0,.box 7600102 [(.int .i64)]])])).getD .skip
noncomputable def c76:FnC:=⟨76,20,[(.tmp 4)],b76,false,[(.one (.int .i64)),(.one (.slo 1))],.val (.one (.int .i64)),none,false,[]⟩
theorem is76:IsFn Tryz.prog 76 c76:=⟨⟨_,_,[1000119,1000180,1000074,1000242,1000243,2000178,2000181,2000204,2000207,2000183,7600700007600102,148],[(7,([1,19],[7600102],[],[]))],[(2,[.keepF 76,.keep 1,.ptr 5 7600102 0,.box 7600102 [(.int .i64)]])],Tryz.func76,rfl,(by kernel_rfl),rfl,(by kernel_rfl),(by kernel_rfl)⟩⟩
def b124:Cmd:=(.seq (.region [(o 3 (.mov (.const (.bool false))))]) (.seq (.region [(m 4 0),(os 5 (.ld (T 1) none) sI),(os 6 (.call false 125 [(T 4),(T 5)]) sB),(m 3 6)]) .ret))
noncomputable def c124:FnC:=⟨124,7,[(.tmp 3)],b124,false,[(.one (.slo 1))],.val (.one .bool),none,false,[]⟩
theorem is124:IsFn Tryz.prog 124 c124:=⟨⟨_,_,[1000119,1000180,1000074,1000242,1000243,2000178,2000181,2000204,2000207,2000183,7600700007600102,148],[],[],Tryz.func124,rfl,(by kernel_rfl),rfl,(by kernel_rfl),(by kernel_rfl)⟩⟩
@[irreducible] noncomputable def b77:Cmd:=((Tryz.f77.body).bind (trC Tryz.prog [1000119,1000180,1000074,1000242,1000243,2000178,2000181,2000204,2000207,2000183,7600700007600102,148] 77 [] [(3,[.keepF 77,.keep 0,.keep 1,.keep 8,.keep 13,.keep 14,.slot 15 (.one (.int .i64)),.row 7750101 4 1 false])])).getD .skip
noncomputable def c77:FnC:=⟨77,33,[(.tmp 6),(.tmp 7)],b77,false,[(.one (.slo 1)),(.one .bool),(.one (.slo 1))],.tup [(.one (.slo 1)),(.one (.int .i64))],none,false,[]⟩
theorem is77:IsFn Tryz.prog 77 c77:=⟨⟨_,_,[1000119,1000180,1000074,1000242,1000243,2000178,2000181,2000204,2000207,2000183,7600700007600102,148],[],[(3,[.keepF 77,.keep 0,.keep 1,.keep 8,.keep 13,.keep 14,.slot 15 (.one (.int .i64)),.row 7750101 4 1 false])],Tryz.func77,rfl,(by kernel_rfl),rfl,(by kernel_rfl),(by kernel_rfl)⟩⟩
@[irreducible] noncomputable def b34:Cmd:=((Tryz.f34.body).bind (trC Tryz.prog [1000119,1000180,1000074,1000242,1000243,2000178,2000181,2000204,2000207,2000183,7600700007600102,148] 34 [] [])).getD .skip
noncomputable def c34:FnC:=⟨34,34,[(.cell 2 (some 2)),(.tmp 3),(.tmp 4)],b34,false,[(.agg [(.slo 1),(.slo 1)])],.tup [(.agg [(.slo 1),(.slo 1)]),(.one (.int .i64)),(.one (.int .i64))],none,false,[]⟩
theorem is34:IsFn Tryz.prog 34 c34:=⟨⟨_,_,[1000119,1000180,1000074,1000242,1000243,2000178,2000181,2000204,2000207,2000183,7600700007600102,148],[],[],Tryz.func34,rfl,(by kernel_rfl),rfl,(by kernel_rfl),(by kernel_rfl)⟩⟩
@[irreducible] noncomputable def b59:Cmd:=((Tryz.f59.body).bind (trC Tryz.prog [1000119,1000180,1000074,1000242,1000243,2000178,2000181,2000204,2000207,2000183,7600700007600102,148] 59 [] [(5,[.keepF 59,.keep 2,.keep 4,.keep 6,.keep 16,.keep 17,.slot 18 (.one (.int .i64)),.keepO 5900000,.box 5900001 [.nil,.nil],.row 5950302 4 1 false])])).getD .skip
noncomputable def c59:FnC:=⟨59,45,[(.cell 4 (some 2)),(.tmp 5)],b59,false,[(.agg [(.slo 1),(.slo 1)]),(.one (.slo 1))],.tup [(.agg [(.slo 1),(.slo 1)]),(.one (.int .i64))],none,false,[]⟩
theorem is59:IsFn Tryz.prog 59 c59:=⟨⟨_,_,[1000119,1000180,1000074,1000242,1000243,2000178,2000181,2000204,2000207,2000183,7600700007600102,148],[],[(5,[.keepF 59,.keep 2,.keep 4,.keep 6,.keep 16,.keep 17,.slot 18 (.one (.int .i64)),.keepO 5900000,.box 5900001 [.nil,.nil],.row 5950302 4 1 false])],Tryz.func59,rfl,(by kernel_rfl),rfl,(by kernel_rfl),(by kernel_rfl)⟩⟩
noncomputable def own3:List (Nat×Fun):=[(76,.code c76),(124,.code c124),(77,.code c77),(34,.code c34),(59,.code c59),(74,.prim (some (7400001,4,1,false)) (cloneP 7400001 4 1 1))]
noncomputable def funs3:List (Nat×Fun):=own3++funs2
noncomputable def Fs3:Nat→Option Fun:=table funs3
set_option maxRecDepth 100000 in
theorem company3:Company Tryz.prog Fs3:=
 .cons is76 <| .cons is124 <| .cons is77 <| .cons is34 <| .cons is59 <| .cons (clone_at Tryz.laysSlE041_f74 rfl (by kernel_rfl)) <| company2
theorem up3:FsLe Fs2 Fs3:=table_up (by kernel_rfl)
theorem fs76:Fs3 76=some (.code c76):=rfl
theorem fs124:Fs3 124=some (.code c124):=rfl
theorem fs77:Fs3 77=some (.code c77):=rfl
theorem fs34:Fs3 34=some (.code c34):=rfl
theorem fs59:Fs3 59=some (.code c59):=rfl
theorem fs74:Fs3 74=some (.prim (some (7400001,4,1,false)) (cloneP 7400001 4 1 1)):=rfl
end Go.Proofs.YtegndijbpiccgaaGreatDoor.M
namespace Go.Proofs.YtegndijbpiccgaaGreatDoor.M
set_option linter.unusedVariables false
set_option linter.unusedSimpArgs false
open Go Go.Mir
set_option linter.unusedVariables false
def V76 (a0:Int) (a1:LD) (R:Mir.AV→Prop):Prop:=
 (∃x0:((Unit)→((Int×(Unit))→Prop)),(∃x1:((Unit)→((Int×(Unit))→Nat)),(((rh [(hB 7600102 [(aI (mmI true a0 0))])])∧(x0 () ((mmI true a0 0),())))∧(∀x2:(Unit),(∀x3:(Int×(Unit)),((x0 x2 x3)→(∀x4:(Nat→Mir.AV),(∃x5:Int,((Runs Fs3 122 [(aL a1)] [] (aI x5) [])∧(sel (decide (x3.1<x5)) (∃x6:Bool,((Runs Fs3 123 [(aL a1),(.fn 124 [(.ptr 7600102 0)])] [(hB 7600102 [(aI x3.1)])] (aB x6) [(hB 7600102 [(aI x3.1)])])∧(sel (Bool.not x6) (R (.n (.int .i64 x3.1))) ((rq (aL a1))∧(rh [(hB 7600102 [(aI (IntKind.wrap .i64 (x3.1+1)))])])∧(x0 () ((IntKind.wrap .i64 (x3.1+1)),()))∧(((x1 () ((IntKind.wrap .i64 (x3.1+1)),())):Nat)<(x1 x2 x3)))))) (R (.n (.int .i64 (-1))))))))))))))
theorem vc76 (a0:Int) (a1:LD) (R:Mir.AV→Prop):Vc Fs3 c76.body (argsQ c76 [(.n (.int .i64 a0)),(.o (.sl 1 a1))]) [] (endQ c76 R)=V76 a0 a1 R:=by kernel_rfl
abbrev qc1_ (p0:Mir.AV→Prop):=
 (p0 (.tup [(.o (.sl 1 [])),(.n (.int .i64 1))]))
def V77 (a0:LD) (a1:Bool) (a2:LD) (R:Mir.AV→Prop):Prop:=
 (∃x0:Nat,(∃x1:LD,((Runs Fs3 74 [(aL a0)] [] (.row 7400001 x0) [(hR 7400001 x0 4 1 x1)])∧(∃x2:(Int→((Nat×LD)→Prop)),(∃x3:(Int→((Nat×LD)→Nat)),(((rh [(hR 7750101 x0 4 1 x1)])∧(x2 0 (x0,x1)))∧(∀x4:Int,(∀x5:(Nat×LD),((x2 x4 x5)→(∀x6:(Nat→Mir.AV),(sel (qU_ x4 a2) ((rn 1)∧((0:Int)≤x4)∧(∃x7:Mir.D,((qv_ a2 x4 x7)∧(∃x8:Int,(((D.cells x7)[0]?=some (Mir.D.int .i64 x8))∧(sel (decide (x8<0)) (qc1_ R) (sel (qbn_ x8 a0) (qc1_ R) ((qd_ x5 x0)∧((0:Int)≤x8)∧(qbt_ x8 x5)∧(qe_ x0 x5)∧(qbw_ x8 x5)∧(rq (aL a0))∧(rq (aB a1))∧(rq (.row 7750101 x0))∧(rq (aL a2))∧(rq (aI (a2.length:Int)))∧(rh [(hR 7750101 (Prod.fst x5) 4 1 (List.set (Prod.snd x5) (Int.toNat x8) (Mir.D.bool a1)))])∧(x2 (IntKind.wrap .i64 (x4+1)) ((Prod.fst x5),(List.set (Prod.snd x5) (Int.toNat x8) (Mir.D.bool a1))))∧(((x3 (IntKind.wrap .i64 (x4+1)) ((Prod.fst x5),(List.set (Prod.snd x5) (Int.toNat x8) (Mir.D.bool a1)))):Nat)<(x3 x4 x5)))))))))) (((Prod.fst x5)=x0)∧(R (.tup [(.o (.sl 1 (Prod.snd x5))),(.n (.int .i64 0))]))))))))))))))
def V77e (a0:LD) (a1:Bool) (a2:LD) (R:Mir.AV→Prop):=PLift.up (by delta V77 qf_ qc1_ qbA_ qd_ qU_ qe_ qbw_ qbt_ qbn_ qv_;exact rfl:V77 a0 a1 a2 R=_)
theorem vc77 (a0:LD) (a1:Bool) (a2:LD) (R:Mir.AV→Prop):Vc Fs3 c77.body (argsQ c77 [(.o (.sl 1 a0)),(.n (.bool a1)),(.o (.sl 1 a2))]) [] (endQ c77 R)=V77 a0 a1 a2 R:=by kernel_rfl
abbrev qc2_:Mir.AV:=
 (.agg [(.o (.sl 1 [])),(.o (.sl 1 []))])
def V34 (a0_0:LD) (a0_1:LD) (R:Mir.AV→Prop):Prop:=
 (∃x0:Bool,((Runs Fs3 75 (qbJ_ a0_0 a0_1) [] (aB x0) [])∧(sel (Bool.not x0) (R (.tup [qc2_,(.n (.int .i64 0)),(.n (.int .i64 1))])) ((0=0)∧(∃x1:Int,((Runs Fs3 76 [(aI 0),(aL [(Mir.D.sl 1 a0_0),(Mir.D.sl 1 a0_1)])] [] (aI x1) [])∧(sel (decide (x1<0)) (R (.tup [qc2_,(.n (.int .i64 0)),(.n (.int .i64 60))])) ((0=0)∧(∃x2:LD,(∃x3:Int,((Runs Fs3 77 [(aL a0_1),(aB true),(aL [(Mir.D.int .i64 x1)])] [] (.tup [(aL x2),(aI x3)]) [])∧(R (.tup [(.agg [(.o (.sl 1 a0_0)),(.o (.sl 1 x2))]),(.n (.int .i64 x1)),(.n (.int .i64 x3))])))))))))))))
def V34e (a0_0:LD) (a0_1:LD) (R:Mir.AV→Prop):=PLift.up (by delta V34 qbJ_ qc2_;exact rfl:V34 a0_0 a0_1 R=_)
theorem vc34 (a0_0:LD) (a0_1:LD) (R:Mir.AV→Prop):Vc Fs3 c34.body (argsQ c34 [(.agg [(.o (.sl 1 a0_0)),(.o (.sl 1 a0_1))])]) [] (endQ c34 R)=V34 a0_0 a0_1 R:=by kernel_rfl
abbrev qc3_ (p0:Mir.AV→Prop):=
 (p0 (.tup [qc2_,(.n (.int .i64 1))]))
abbrev qc4_ (p0:Mir.AV→Prop):=
 (p0 (.tup [qc2_,(.n (.int .i64 30))]))
abbrev qc5_ (p0:(Nat×LD)) (p1:Int):=
 (List.set (Prod.snd p0) (Int.toNat p1) (Mir.D.bool false))
def V59 (a0_0:LD) (a0_1:LD) (a1:LD) (R:Mir.AV→Prop):Prop:=
 (∃x0:Bool,((Runs Fs3 75 (qbJ_ a0_0 a0_1) [] (aB x0) [])∧(sel (Bool.not x0) (qc3_ R) (∃x1:Nat,(∃x2:LD,((Runs Fs3 74 [(aL a0_1)] [] (.row 7400001 x1) [(hR 7400001 x1 4 1 x2)])∧(∃x3:(Int→(qb7_→((Nat×LD)→Prop))),(∃x4:(Int→(qb7_→((Nat×LD)→Nat))),(((rh [(hB 5900000 [(aL a0_0),(aL a0_1)]),(hB 5900001 qbz_),(hR 5950302 x1 4 1 x2)])∧(x3 0 ((),((),())) (x1,x2)))∧(∀x5:Int,(∀x6:qb7_,(∀x7:(Nat×LD),((x3 x5 x6 x7)→(∀x8:(Nat→Mir.AV),(sel (qU_ x5 a1) ((rn 1)∧((0:Int)≤x5)∧(∃x9:Mir.D,((qv_ a1 x5 x9)∧(∃x10:Int,(((D.cells x9)[0]?=some (Mir.D.int .i64 x10))∧(sel (decide (x10<10)) (qc4_ R) ((qf_ x7 x1)∧(sel (decide (x10≥((Prod.snd x7).length:Int))) (qc4_ R) ((qd_ x7 x1)∧((0:Int)≤x10)∧(qbt_ x10 x7)∧(qbB_ x1 x7)∧(∃x11:Mir.D,((qbu_ x7 x10 x11)∧(∃x12:Bool,((qbP_ x11 x12)∧(sel (Bool.not x12) (qc4_ R) ((qd_ x7 x1)∧((0:Int)≤x10)∧(qbt_ x10 x7)∧(qe_ x1 x7)∧(qbw_ x10 x7)∧(rq (.ptr 5900000 0))∧(rq (.ptr 5900001 0))∧(rq (.row 5950302 x1))∧(rq (aL a1))∧(rq (aI (a1.length:Int)))∧(rh [(hB 5900000 [(aL a0_0),(aL a0_1)]),(hB 5900001 qbz_),(hR 5950302 (Prod.fst x7) 4 1 (qc5_ x7 x10))])∧(x3 (IntKind.wrap .i64 (x5+1)) ((),((),())) ((Prod.fst x7),(qc5_ x7 x10)))∧(((x4 (IntKind.wrap .i64 (x5+1)) ((),((),())) ((Prod.fst x7),(qc5_ x7 x10))):Nat)<(x4 x5 x6 x7))))))))))))))))) (((Prod.fst x7)=x1)∧(R (.tup [(.agg [(.o (.sl 1 a0_0)),(.o (.sl 1 (Prod.snd x7)))]),(.n (.int .i64 0))]))))))))))))))))))
def V59e (a0_0:LD) (a0_1:LD) (a1:LD) (R:Mir.AV→Prop):=PLift.up (by delta V59 qbz_ qf_ qe_ qc2_ qbu_ qb7_ qbB_ qd_ qU_ qbP_ qc4_ qbA_ qbw_ qc3_ qbt_ qv_ qbJ_ qc5_;exact rfl:V59 a0_0 a0_1 a1 R=_)
theorem vc59 (a0_0:LD) (a0_1:LD) (a1:LD) (R:Mir.AV→Prop):Vc Fs3 c59.body (argsQ c59 [(.agg [(.o (.sl 1 a0_0)),(.o (.sl 1 a0_1))]),(.o (.sl 1 a1))]) [] (endQ c59 R)=V59 a0_0 a0_1 a1 R:=by kernel_rfl
abbrev qc6_ (p0:Int):=
 (hB 7600102 [(.n (.int .i64 p0))])
def V124h (a:LD) (i:Int) (R:Mir.AV→Heap→Prop):Prop:=
 (∃x0:Bool,((Runs Fs3 125 [(aL a),(aI i)] [] (aB x0) [])∧(R (.n (.bool x0)) [(qc6_ i)])))
def V124he (a:LD) (i:Int) (R:Mir.AV→Heap→Prop):=PLift.up (by delta V124h qc6_;exact rfl:V124h a i R=_)
theorem vc124h (a:LD) (i:Int) (R:Mir.AV→Heap→Prop):Vc Fs3 c124.body (argsQ c124 [.o (.sl 1 a),.ptr 7600102 0]) [(7600102,.box [.n (.int .i64 i)])] (endQH c124 [(7600102,.box [.n (.int .i64 i)])] R)=V124h a i R:=by kernel_rfl
def V123f (l:LD) (i:Int) (R:Mir.AV→Heap→Prop):Prop:=
 (∃x0:Int,((Runs Fs3 158 [(aL l),(.fn 124 [(.ptr 7600102 0)])] [(hB 7600102 [(aI i)])] (aI x0) [(hB 7600102 [(aI i)])])∧(R (qI_ x0) [(qc6_ i)])))
def V123fe (l:LD) (i:Int) (R:Mir.AV→Heap→Prop):=PLift.up (by delta V123f qI_ qc6_;exact rfl:V123f l i R=_)
theorem vc123f (l:LD) (i:Int) (R:Mir.AV→Heap→Prop):Vc Fs3 c123.body (argsQ c123 [.o (.sl 1 l),.fn 124 [.ptr 7600102 0]]) [(7600102,.box [.n (.int .i64 i)])] (endQH c123 [(7600102,.box [.n (.int .i64 i)])] R)=V123f l i R:=by kernel_rfl
def V158f (l:LD) (i:Int) (R:Mir.AV→Heap→Prop):Prop:=
 (∃x0:(Int→Prop),(∃x1:(Int→Nat),(((rh [(hB 7600102 [(aI i)])])∧(x0 0))∧(∀x2:Int,((x0 x2)→(∀x3:(Nat→Mir.AV),(sel (qU_ x2 l) ((rn 1)∧((0:Int)≤x2)∧(∃x4:Mir.D,((qv_ l x2 x4)∧(∃x5:LD,(((D.cells x4)[0]?=some (Mir.D.sl 1 x5))∧(∃x6:Bool,((Runs Fs3 124 [(aL x5),(.ptr 7600102 0)] [(hB 7600102 [(aI i)])] (aB x6) [(hB 7600102 [(aI i)])])∧(sel x6 (R (.n (.int .i64 x2)) [(qc6_ i)]) ((rq (aL l))∧(rq (.fn 124 [(.ptr 7600102 0)]))∧(rq (aI (l.length:Int)))∧(rh [(hB 7600102 [(aI i)])])∧(x0 (IntKind.wrap .i64 (x2+1)))∧(((x1 (IntKind.wrap .i64 (x2+1))):Nat)<(x1 x2))))))))))) (R (.n (.int .i64 (-1))) [(qc6_ i)]))))))))
def V158fe (l:LD) (i:Int) (R:Mir.AV→Heap→Prop):=PLift.up (by delta V158f qU_ qc6_ qv_;exact rfl:V158f l i R=_)
theorem vc158f (l:LD) (i:Int) (R:Mir.AV→Heap→Prop):Vc Fs3 c158.body (argsQ c158 [.o (.sl 1 l),.fn 124 [.ptr 7600102 0]]) [(7600102,.box [.n (.int .i64 i)])] (endQH c158 [(7600102,.box [.n (.int .i64 i)])] R)=V158f l i R:=by kernel_rfl
def hFi (i:Int):Heap:=[(7600102,.box [.n (.int .i64 i)])]
theorem p124 (a:List Bool) (i:Int) (h0:0≤i):Runs Fs3 124 [.o (.sl 1 (blD a)),.ptr 7600102 0] (hFi i) (.n (.bool (tr a i.toNat))) (hFi i):=by
 refine vc_look fs124 rfl (by kernel_rfl) ?_
 rewrite[hFi,vc124h,(V124he _ _ _).down]
 exact ⟨_,(p125 a i h0).up up3,rfl,rfl⟩
theorem fsThIdx:Fs3 158=some (.code c158):=rfl
theorem fsThCon:Fs3 123=some (.code c123):=rfl
theorem p158f (L:List (List Bool)) (hl:Small L.length) (i:Int) (h0:0≤i):∃r:Int,decide (r≥0)=L.any (fun a=>tr a i.toNat)∧Runs Fs3 158 [.o (.sl 1 (bls L)),.fn 124 [.ptr 7600102 0]] (hFi i) (.n (.int .i64 r)) (hFi i):=by
 have key:∃r H',Runs Fs3 158 [.o (.sl 1 (bls L)),.fn 124 [.ptr 7600102 0]] (hFi i) r H'∧∃k:Int,r = .n (.int .i64 k)∧H'=hFi i∧decide (k≥0)=L.any (fun a=>tr a i.toNat):=by
  refine vc_objs (R:=fun r H'=>∃k:Int,r = .n (.int .i64 k)∧H'=hFi i∧decide (k≥0)=L.any (fun a=>tr a i.toNat)) fsThIdx rfl (by kernel_rfl) ?_
  rw[hFi,vc158f,(V158fe _ _ _).down,bls_len]
  refine ⟨fun k=>0≤k∧k≤L.length∧∀(j:Nat) (h:j<L.length),(j:Int)<k→tr L[j] i.toNat=false,fun k=>(L.length - k).toNat,⟨rfl,by omega,by omega,fun j _ hj=>by omega⟩,?_⟩
  rintro k ⟨k0,k1,hok⟩ _
  refine sel_dec (fun h => ?_) (fun h=>⟨-1,rfl,rfl,?_⟩)
  · have hi:k.toNat<L.length:=by omega
    refine ⟨rfl,k0,_,bls_at hi,_,rfl,_,p124 _ i h0,sel_intro (fun hb=>⟨k,rfl,rfl,?_⟩) (fun hb => ?_)⟩
    · rw[decide_eq_true k0];exact (any_at (p:=fun a:List Bool=>tr a i.toNat) hi hb).symm
    · repeat (refine And.intro rfl ?_)
      rw[i64_in _ (by omega)]
      exact ⟨⟨by omega,by omega,step_up (p:=fun a:List Bool=>tr a i.toNat) k0 hi hb hok⟩,by first|omega|(dsimp only;omega)⟩
  · exact (any_up (p:=fun a:List Bool=>tr a i.toNat) k0 h hok).symm
 obtain ⟨r,H',hr,k,rfl,rfl,hk⟩:=key
 exact ⟨k,hk,hr⟩
theorem p123f (L:List (List Bool)) (hl:Small L.length) (i:Int) (h0:0≤i):Runs Fs3 123 [.o (.sl 1 (bls L)),.fn 124 [.ptr 7600102 0]] (hFi i) (.n (.bool (L.any fun a=>tr a i.toNat))) (hFi i):=by
 refine vc_look fsThCon rfl (by kernel_rfl) ?_
 rewrite[hFi,vc123f,(V123fe _ _ _).down]
 obtain ⟨r,hr,h⟩:=p158f L hl i h0
 exact ⟨r,h,by rw[hr],rfl⟩
def FirstIs (L:List (List Bool)) (r:Int):Prop:=
 (r = -1∧∀j,j<longest L→(L.any fun a=>tr a j)=true)∨(0≤r∧r.toNat<longest L∧(L.any fun a=>tr a r.toNat)=false∧∀j,j<r.toNat→(L.any fun a=>tr a j)=true)
theorem p76 (L:List (List Bool)) (hl:Small L.length) (hL:longest L≤2048):∃r,FirstIs L r∧Runs Fs3 76 [.n (.int .i64 0),.o (.sl 1 (bls L))] [] (.n (.int .i64 r)) []:=by
 have key:∃r,Runs Fs3 76 [.n (.int .i64 0),.o (.sl 1 (bls L))] [] r []∧∃k:Int,r = .n (.int .i64 k)∧FirstIs L k:=by
  refine vc_runs (R:=fun r=>∃k:Int,r = .n (.int .i64 k)∧FirstIs L k) fs76 rfl ?_
  rw[vc76,V76]
  refine ⟨fun _ p=>0≤p.1∧p.1≤longest L∧∀j:Nat,(j:Int)<p.1→(L.any fun a=>tr a j)=true,fun _ p=>(longest L - p.1).toNat,⟨rfl,by decide,by show mmI true 0 0≤_;simp[mmI],fun j hj=>by simp[mmI]at hj;omega⟩,?_⟩
  rintro _ ⟨i,_⟩ ⟨h0,h1,hok⟩ _
  dsimp only at h0 h1 hok ⊢
  refine ⟨_,(p122 L hl).up up3,sel_dec (fun h => ?_) (fun h=>⟨-1,rfl,.inl ⟨rfl,fun j hj=>hok j (by omega)⟩⟩)⟩
  refine ⟨_,p123f L hl i h0,sel_intro (fun hb=>⟨i,rfl,.inr ⟨h0,by omega,by simpa using hb,fun j hj=>hok j (by omega)⟩⟩) (fun hb => ?_)⟩
  repeat (refine And.intro rfl ?_)
  rw[i64_in _ (by omega)]
  refine ⟨⟨by omega,by omega,fun j hj => ?_⟩,by first|omega|(dsimp only;omega)⟩
  by_cases e:(j:Int)<i
  · exact hok j e
  · obtain rfl:j=i.toNat:=by omega
    simpa using hb
 obtain ⟨r,hr,k,rfl,hk⟩:=key
 exact ⟨k,hk,hr⟩
theorem p77 (l:List Bool) (b:Bool) (p:Nat) (hp:p<l.length) (hl:l.length≤2048):Runs Fs3 77 [.o (.sl 1 (blD l)),.n (.bool b),.o (.sl 1 [.int .i64 p])] [] (.tup [.o (.sl 1 (blD (l.set p b))),.n (.int .i64 0)]) []:=by
 refine vc_eq fs77 rfl ?_
 rw[vc77,(V77e _ _ _ _).down,blD_len]
 refine ⟨_,_,clone_runs fs74 (blD l) (by rw[blD_len];omega),fun i r=>(i=0∧r=(0,blD l))∨(i=1∧r=(0,blD (l.set p b))),fun i _=>(1 - i).toNat,⟨rfl,.inl ⟨rfl,rfl⟩⟩,?_⟩
 rintro i ⟨v,els⟩ h _
 rcases h with ⟨rfl,h⟩|⟨rfl,h⟩
 · obtain ⟨rfl,rfl⟩:=Prod.mk.inj h
   refine sel_dec (fun _ => ?_) (fun h=>absurd (by decide:(0:Int)<1) h)
   refine ⟨rfl,by decide,_,rfl,_,rfl,sel_dec (fun h=>by omega) (fun _=>sel_dec (fun h=>by omega) (fun _ => ?_))⟩
   dsimp only
   rw[blD_len,show Int.toNat (p:Int)=p from rfl,blD_set]
   refine ⟨⟨rfl,rfl⟩,by omega,by omega,⟨⟨⟨rfl,rfl⟩,rfl⟩,rfl⟩,hp,?_⟩
   repeat (refine And.intro rfl ?_)
   rw[i64_in _ (by omega)]
   exact ⟨.inr ⟨rfl,rfl⟩,by decide⟩
 · obtain ⟨rfl,rfl⟩:=Prod.mk.inj h
   exact sel_dec (fun h=>absurd h (by simp)) (fun _=>⟨rfl,rfl⟩)
theorem longest_two (a b:List Bool):longest [a,b]=max a.length b.length:=by simp[longest]
theorem any_two (a b:List Bool) (j:Nat):([a,b].any fun x=>tr x j)=(tr a j||tr b j):=by simp
theorem first_is {w:Wd} (hw:w.base.length=w.now.length) {r:Int} (h:FirstIs [w.base,w.now] r):match firstFree w with
   | none=>r<0
   | some b=>r=b∧b<w.now.length:=by
 have hl:longest [w.base,w.now]=w.now.length:=by rw[longest_two,hw];exact Nat.max_self _
 have hf:∀j,freeAt w j = !([w.base,w.now].any fun x=>tr x j):=fun j=>by
   rw[any_two,freeAt]
   cases tr w.base j <;> cases tr w.now j <;> rfl
 unfold FirstIs at h
 rw[hl]at h
 cases hx:firstFree w with
 | none=>
   have hn:=ffUp_none hx
   rcases h with ⟨h1,_⟩|⟨h0,h1,h2,_⟩
   · dsimp only;omega
   · have:=hn r.toNat h1
     rw[hf,h2]at this
     cases this
 | some b=>
   obtain ⟨k1,k2,k3⟩:=ffUp_some hx
   refine ⟨?_,k1⟩
   rcases h with ⟨_,h2⟩|⟨h0,h1,h2,h3⟩
   · have:=h2 b k1
     rw[hf,this]at k2
     cases k2
   · rcases Nat.lt_trichotomy r.toNat b with h|h|h
     · have:=k3 _ h
       rw[hf,h2]at this
       cases this
     · omega
     · have:=h3 _ h
       rw[hf,this]at k2
       cases k2
def al0:AV := .agg [.o (.sl 1 []),.o (.sl 1 [])]
theorem p34 (w:Wd) (h:ARight w.base w.now):Runs Fs3 34 [alV w.base w.now] [] (match firstFree w with
   | none => .tup [al0,.n (.int .i64 0),.n (.int .i64 60)]
   | some b => .tup [alV w.base (w.now.set b true),.n (.int .i64 b),.n (.int .i64 0)]) []:=by
 have h1:=h.1
 have h2:=h.2.2.1
 have g:=(p75 w.base w.now (by omega) (by omega)).up up3
 rw[decide_eq_true h]at g
 obtain ⟨r,hr,g2⟩:=p76 [w.base,w.now] (by simp) (by rw[longest_two];omega)
 have hf:=first_is h1 hr
 refine vc_eq fs34 rfl ?_
 rw[alV,vc34,(V34e _ _ _).down]
 refine ⟨_,g,sel_intro (fun h=>by cases h) (fun _=>⟨rfl,_,g2,?_⟩)⟩
 cases hx:firstFree w with
 | none=>
   rw[hx]at hf
   exact sel_dec (fun _=>rfl) (fun h=>absurd hf h)
 | some b=>
   rw[hx]at hf
   obtain ⟨rfl,hb⟩:=hf
   exact sel_dec (fun h=>by omega) (fun _=>⟨rfl,_,_,p77 w.now true b hb h2,rfl⟩)
theorem p59 (a b:List Bool) (h:ARight a b) (p:Int):Runs Fs3 59 [alV a b,.o (.sl 1 [.int .i64 p])] [] (if p<10∨p≥b.length∨tr b p.toNat=false then .tup [al0,.n (.int .i64 30)] else .tup [alV a (b.set p.toNat false),.n (.int .i64 0)]) []:=by
 have h1:=h.1
 have h2:=h.2.2.1
 have g:=(p75 a b (by omega) (by omega)).up up3
 rw[decide_eq_true h]at g
 refine vc_eq fs59 rfl ?_
 rw[alV,vc59,(V59e _ _ _ _).down]
 refine ⟨_,g,sel_intro (fun h=>by cases h) (fun _=>⟨_,_,clone_runs fs74 (blD b) (by rw[blD_len];omega),?_⟩)⟩
 refine ⟨fun i _ r=>(i=0∧r=(0,blD b))∨(i=1∧r=(0,blD (b.set p.toNat false))∧¬(p<10∨p≥b.length∨tr b p.toNat=false)),fun i _ _=>(1 - i).toNat,⟨rfl,.inl ⟨rfl,rfl⟩⟩,?_⟩
 rintro i _ ⟨v,els⟩ h _
 rcases h with ⟨rfl,h⟩|⟨rfl,h,hok⟩
 · obtain ⟨rfl,rfl⟩:=Prod.mk.inj h
   refine sel_dec (fun _ => ?_) (fun h=>absurd (by decide:(0:Int)<1) h)
   refine ⟨rfl,by decide,_,rfl,_,rfl,sel_dec (fun h=>by rw[if_pos (.inl h)];rfl) (fun k1=>⟨rfl,?_⟩)⟩
   dsimp only
   rw[blD_len]
   refine sel_dec (fun h=>by rw[if_pos (.inr (.inl h))];rfl) (fun k2 => ?_)
   have hp:p.toNat<b.length:=by omega
   refine ⟨⟨rfl,rfl⟩,by omega,by omega,⟨rfl,rfl⟩,_,blD_at hp,_,rfl,?_⟩
   rw[←tr_at hp]
   refine sel_intro (fun h=>by rw[if_pos (.inr (.inr (by simpa using h)))];rfl) (fun k3 => ?_)
   rw[blD_set]
   refine ⟨⟨rfl,rfl⟩,by omega,by omega,⟨⟨⟨rfl,rfl⟩,rfl⟩,rfl⟩,hp,?_⟩
   repeat (refine And.intro rfl ?_)
   rw[i64_in _ (by omega)]
   exact ⟨.inr ⟨rfl,rfl,by
    rintro (h|h|h)
    · exact k1 h
    · exact k2 h
    · rw[h]at k3;cases k3⟩,by decide⟩
 · obtain ⟨rfl,rfl⟩:=Prod.mk.inj h
   rw[if_neg hok]
   exact sel_dec (fun h=>absurd h (by simp)) (fun _=>⟨rfl,rfl⟩)
def fl (L:List (List D)):List D:=L.flatten
def hEz (e:Ed) (v:Nat) (fz:Bool):Heap:=[(14800202,.box [.o (.sl 1 (blD e.w.base)),.o (.sl 1 (blD e.w.now)),.row 14850102 v,.n (.int .i64 e.w.root),.n (.int .i64 e.w.gen),.n (.int .i64 e.bad)]),(14850102,.row fz false v 9 1 (sl_ e.w.pages))]
def hE (e:Ed) (v:Nat):Heap:=hEz e v false
theorem sl_set (l:List ByteArray) (i:Nat) (x:ByteArray):(sl_ l).set i (.str x)=sl_ (l.set i x):=by simp[sl_,List.map_set]
def hG (key val:ByteArray) (e:Ed) (v:Nat):Heap:=(11400305,.box [.ptr 14800202 0,.n (.str key),.n (.str val)]) :: hE e v
def Shp (n:Nd):Prop:=n.keys.length≤8∧((n.leaf=true∧n.vals.length=n.keys.length∧n.kids=[])∨(n.leaf=false∧n.vals=[]∧n.kids.length=n.keys.length+1))
theorem Shp.lens {n:Nd} (h:Shp n):n.keys.length≤8∧n.vals.length≤8∧n.kids.length≤9:=by
 obtain ⟨h8,⟨_,h1,h2⟩|⟨_,h1,h2⟩⟩:=h
 · rw[h2];exact ⟨h8,by omega,by simp⟩
 · rw[h1];exact ⟨h8,by simp,by omega⟩
theorem Shp.fits {n:Nd} (h:Shp n):NdFits n:=by
 obtain ⟨h1,h2,h3⟩:=h.lens
 exact ⟨by omega,by omega,by omega⟩
theorem Shp.leaf {n:Nd} (h:Shp n) (hl:n.leaf=true):n.vals.length=n.keys.length∧n.kids=[]:=by
 rcases h.2 with ⟨_,h1,h2⟩|⟨h0,_⟩
 · exact ⟨h1,h2⟩
 · rw[hl]at h0;cases h0
def hP (key:ByteArray) (e:Ed) (v:Nat):Heap:=(11600504,.box [.ptr 14800202 0,.n (.str key)]) :: hE e v
def hF (key:ByteArray) (e:Ed) (v:Nat) (fz:Bool) (a b:Nat) (K C:List D):Heap:=(11600504,.box [.ptr 14800202 0,.n (.str key)]) :: (hE e v++[(15251502,.row fz false a 9 1 K),(15251505,.row fz false b 3 1 C)])
end Go.Proofs.YtegndijbpiccgaaGreatDoor.M
