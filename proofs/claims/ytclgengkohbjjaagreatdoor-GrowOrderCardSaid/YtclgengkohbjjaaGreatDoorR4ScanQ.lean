import Derived.Test.YtclgengkohbjjaaGreatDoorR4EdF
import Derived.Test.YtclgengkohbjjaaGreatDoorR4EdA
import Derived.Test.YtclgengkohbjjaaGreatDoorR4TreeB
import Derived.Test.YtclgengkohbjjaaGreatDoorR4LW
namespace Go.Proofs.YtclgengkohbjjaaGreatDoor.M
set_option linter.unusedVariables false
set_option linter.unusedSimpArgs false
open Go Go.Mir
set_option linter.unusedVariables false
theorem cnt_root (w:Wd) (r:Int):cnt { w with root:=r } = cnt w:=by
 have h:∀i,cntUp { w with root:=r } i=cntUp w i:=fun i=>by
  induction i with
  | zero=>rfl
  | succ i ih=>rw[cntUp,cntUp,ih];rfl
 exact h _
theorem endE_bad {r:Int×Ed} (h:r.2.bad≠0):endE (setRoot r)=(wd0,r.2.bad):=by
 unfold endE setRoot
 rw[if_pos (by exact h)]
theorem endE_ok {r:Int×Ed} (h:r.2.bad=0):endE (setRoot r)=({ r.2.w with root:=r.1 },0):=by
 unfold endE setRoot
 rw[if_neg (by simpa using h)]
theorem kok_one {k:ByteArray} (h:1≤k.size∧k.size≤32):KOK [k]:=kok_iff.2 ⟨List.pairwise_singleton _ _,fun x hx=>by
 obtain rfl:x=k:=by simpa using hx
 exact h⟩
theorem leaf_one {key val:ByteArray} (hp:isPair key val):NdOK ⟨true,[key],[val],[]⟩ true:=by
 refine ⟨⟨by simp,kok_one ⟨hp.1,hp.2.1⟩,.inl ⟨rfl,rfl,rfl,fun v hv => ?_⟩⟩,by simp,.inl rfl⟩
 obtain rfl:v=val:=by simpa using hv
 exact hp.2.2
theorem putR_tree {w:Wd} {key val:ByteArray} {h:Nat} {P:List Pr} {B:List Int} (hr:WRight w) (hp:isPair key val) (ht:IsTree w h P B):
   ((putR w key val).2.bad=60∧cnt w<2*h+1)∨((putR w key val).2.bad=0∧WRight (putR w key val).2.w∧cnt w≤cnt (putR w key val).2.w+(2*h+1) ∧
     ∃h' B' W,Fr w (putR w key val).2.w B B' W∧1≤h'∧h'≤h+1∧Tr (Hold (putR w key val).2.w) h' (putR w key val).1 true empS empS (withP key val P) B'∧B'.Nodup):=by
 unfold putR
 rcases id ht with ⟨h0,rfl,rfl,rfl⟩|⟨h0,h1,h8,hT,hu⟩
 · rw[if_pos h0]
   rcases store_ok (e:=⟨w,0⟩) rfl hr (leaf_one hp) with ⟨a1,a2,_⟩|⟨a1,a2,a3,a4,a5,a6⟩
   · exact .inl ⟨a1,by simp only at a2;omega⟩
   · refine .inr ⟨a1,a2,by simp only at a4;omega,1,_,_,a3,by omega,by omega,tr_of (a6 _ (leaf_one hp)) ⟨fun k _=>empS_within k,.inl ⟨rfl,rfl,by simp,rfl,rfl⟩⟩,by simp⟩
 · rw[if_neg h0]
   have hlow:=isTree_low hr ht
   dsimp only
   have hput:=put_ok ⟨hp.1,hp.2.1⟩ hp.2.2 9 h ⟨w,0⟩ w.root 1 empS empS P B rfl hr hT hu (empS_within key) (by omega) (by omega) (by omega)
   generalize putE key val 9 ⟨w,0⟩ w.root 1=r at hput ⊢
   rcases hput with ⟨a1,a2⟩|⟨a1,a2,a3,B',W,a4,a5,a6⟩
   · refine .inl ⟨?_,by simp only at a2;omega⟩
     by_cases ht2:r.1.two=true
     · rw[if_pos ht2,store_bad (by rw[a1];decide)];exact a1
     · rw[if_neg ht2];exact a1
   · simp only at a3 a4
     rcases a6 with ⟨b1,b2⟩|⟨b1,b2,b3,b4,b5,Pl,Bl,Pr,Br,b6,b7,b8,b9⟩
     · rw[if_neg (by rw[b1];simp)]
       exact .inr ⟨a1,a2,by dsimp only;omega,h,B',W,a4,h1,by omega,b2,a5⟩
     · rw[if_pos b1]
       have hnow:=wr_now a2
       have hok:NdOK ⟨false,[r.1.key],[],[r.1.left,r.1.right]⟩ true:=by
         refine ⟨⟨by simp,kok_one ⟨b4,b5⟩,.inr ⟨rfl,rfl,by simp,by simp,fun b hb => ?_⟩⟩,by simp,.inl rfl⟩
         rcases List.mem_cons.1 hb with rfl|hb
         · exact tr_rg hnow b6
         · obtain rfl:b=r.1.right:=by simpa using hb
           exact tr_rg hnow b7
       rcases store_ok a1 a2 hok with ⟨c1,c2,_⟩|⟨c1,c2,c3,c4,c5,c6⟩
       · exact .inl ⟨c1,by omega⟩
       · have hc:Cont (Hold r.2.w) h empS empS ⟨false,[r.1.key],[],[r.1.left,r.1.right]⟩ (withP key val P) B':=⟨fun k _=>empS_within k,.inr ⟨rfl,Pl,Bl,Pr,Br,b6,b7,b8,b9⟩⟩
         refine .inr ⟨c1,c2,by omega,h+1,_,_,(a4.trans c3 (by simp)).congr (O':=B) (N':=(storeE r.2 ⟨false,[r.1.key],[],[r.1.left,r.1.right]⟩).1 :: B') (fun x=>by simp) (fun x=>by simp[or_comm]),by omega,by omega,
           tr_of (c6 _ hok) (hc.frame fun x hx r m hm=>c3.hold (by simp) hm),List.nodup_cons.2 ⟨fun hx => ?_,a5⟩⟩
         obtain ⟨r0,m,hm⟩:=hc.held _ hx
         have:=hold_tr hm
         rw[c5]at this;cases this
theorem putW_tree {w:Wd} {key val:ByteArray} {h:Nat} {P:List Pr} {B:List Int} (hr:WRight w) (hp:isPair key val) (ht:IsTree w h P B):
   (putW w key val=(wd0,60)∧cnt w<2*h+1)∨∃x,putW w key val=(x,0)∧WRight x∧cnt w≤cnt x+(2*h+1)∧∃h' B' W,Fq w x B B' W∧h'≤h+1∧IsTree x h' (withP key val P) B':=by
 unfold putW
 rw[if_neg (by simp;exact ⟨hr,hp⟩)]
 have hx:=putR_tree hr hp ht
 generalize putR w key val=r at hx ⊢
 rcases hx with ⟨a1,a2⟩|⟨a1,a2,a3,h',B',W,a4,a5,a6,a7,a8⟩
 · exact .inl ⟨by rw[endE_bad (by rw[a1];decide),a1],a2⟩
 · have hlow:=isTree_low hr ht
   have hb:10≤r.1∧r.1<r.2.w.now.length:=by
     obtain ⟨r0,m,hm⟩:=a7.held _ a7.root_mem
     have:=hold_rg (wr_now a2) hm
     omega
   refine .inr ⟨_,endE_ok a1,wright_root a2 (.inr hb),(cnt_root r.2.w r.1)▸a3,h',B',W,a4.q _,a6,.inr ⟨by show r.1≠0;omega,a5,by omega,a7,a8⟩⟩
theorem putW_any {w:Wd} {key val:ByteArray} (hr:WRight w) (hp:isPair key val):
   (putW w key val=(wd0,60)∨putW w key val=(wd0,81))∨∃x,putW w key val=(x,0)∧WRight x∧x.base=w.base∧x.gen=w.gen∧x.now.length=w.now.length∧x.pages.length=w.pages.length∧∀b:Int,0≤b→tr w.base b.toNat=true→pgAt x b=pgAt w b:=by
 unfold putW
 rw[if_neg (by simp;exact ⟨hr,hp⟩)]
 have hx:Inv w (putR w key val).2∧((putR w key val).2.bad=0→Blk w (putR w key val).1):=by
   unfold putR
   by_cases h0:w.root=0
   · rw[if_pos h0]
     obtain ⟨a1,a2⟩:=store_inv (n:=⟨true,[key],[val],[]⟩) (Inv.start hr)
     exact ⟨a1,fun hb=>(a2 hb).2⟩
   · rw[if_neg h0]
     dsimp only
     obtain ⟨a1,a2⟩:=put_inv (key:=key) (val:=val) 9 ⟨w,0⟩ w.root 1 (Inv.start hr)
     by_cases ht:(putE key val 9 ⟨w,0⟩ w.root 1).1.two=true
     · rw[if_pos ht]
       obtain ⟨b1,b2⟩:=store_inv (n:=⟨false,[(putE key val 9 ⟨w,0⟩ w.root 1).1.key],[],[(putE key val 9 ⟨w,0⟩ w.root 1).1.left,(putE key val 9 ⟨w,0⟩ w.root 1).1.right]⟩) a1
       exact ⟨b1,fun hb=>(b2 hb).2⟩
     · rw[if_neg ht]
       exact ⟨a1,fun hb=>(a2 hb).1⟩
 generalize putR w key val=r at hx ⊢
 obtain ⟨hi,hb⟩:=hx
 rcases hi.bad with e|e|e
 · refine .inr ⟨_,endE_ok e,wright_root hi.right (.inr ?_),hi.base,hi.gen,hi.nlen,?_,hi.page⟩
   · have:=hb e
     rw[hi.nlen];exact this
   · have h1:=hi.right.2.1
     have h2:=hr.2.1
     have h3:=hi.nlen
     show r.2.w.pages.length=_
     omega
 · exact .inl (.inl (by rw[endE_bad (by rw[e];decide),e]))
 · exact .inl (.inr (by rw[endE_bad (by rw[e];decide),e]))
theorem ktr_app {R:TR} {k hi:ByteArray} {ks2:List ByteArray} {cs2:List Int} {P2:List Pr} {B2:List Int} (h2:KTr R k hi ks2 cs2 P2 B2):∀ {ks1:List ByteArray} {cs1:List Int} {lo:ByteArray} {P1:List Pr} {B1:List Int},KTr R lo k ks1 cs1 P1 B1→KTr R lo hi (ks1++k :: ks2) (cs1++cs2) (P1++P2) (B1++B2)
 | [],[],_,_,_,h=>h.elim
 | [],[c],lo,P1,B1,h=>⟨P1,B1,P2,B2,h,h2,rfl,rfl⟩
 | [],_ :: _ :: _,_,_,_,h=>h.elim
 | _ :: _,[],_,_,_,h=>h.elim
 | y :: ks1,c :: cs1,lo,P1,B1,h=>by
   obtain ⟨Q1,C1,Q2,C2,g1,g2,rfl,rfl⟩:=h
   exact ⟨Q1,C1,Q2++P2,C2++B2,g1,ktr_app h2 g2,by simp,by simp⟩
def Tail (R:TR) (hi' hi:ByteArray) (kr:List ByteArray) (cr:List Int) (P:List Pr) (B:List Int):Prop:=
 (kr=[]∧cr=[]∧hi'=hi∧P=[]∧B=[])∨∃kr',kr=hi' :: kr'∧KTr R hi' hi kr' cr P B
theorem Tail.mono {R S:TR} {hi' hi:ByteArray} {kr:List ByteArray} {cr:List Int} {P:List Pr} {B:List Int} (m:∀c lo hi P B',(∀x∈B',x∈B)→R c lo hi P B'→S c lo hi P B') (h:Tail R hi' hi kr cr P B):Tail S hi' hi kr cr P B:=by
 rcases h with h|⟨kr',h1,h2⟩
 · exact .inl h
 · exact .inr ⟨kr',h1,KTr.mono m h2⟩
def CR (H:Hd) (h:Nat) (lo hi:ByteArray) (n:Nd) (P:List Pr) (B:List Int):Prop:=
 (∀k∈n.keys,within k lo hi=true)∧KOK n.keys ∧
 ((n.leaf=true∧h=0∧n.kids=[]∧n.vals.length=n.keys.length∧(∀v∈n.vals,v.size≤200)∧P=n.keys.zip n.vals∧B=[]) ∨
  (n.leaf=false∧n.vals=[]∧KTr (fun c lo hi P B=>Tr H h c false lo hi P B) lo hi n.keys n.kids P B))
theorem CR.frame {H G:Hd} {h:Nat} {lo hi:ByteArray} {n:Nd} {P:List Pr} {B:List Int} (hc:CR H h lo hi n P B) (f:∀x∈B,∀r n,H x r=some n→G x r=some n):CR G h lo hi n P B:=by
 obtain ⟨c1,c2,a|⟨a1,a2,a3⟩⟩:=hc
 · exact ⟨c1,c2,.inl a⟩
 · exact ⟨c1,c2,.inr ⟨a1,a2,KTr.mono (fun c lo hi P B' hB hx=>Tr.frame (fun x hx'=>f x (hB x hx')) hx) a3⟩⟩
theorem CR.held {H:Hd} {h:Nat} {lo hi:ByteArray} {n:Nd} {P:List Pr} {B:List Int} (hc:CR H h lo hi n P B):∀x∈B,∃r n,H x r=some n:=by
 obtain ⟨c1,c2,⟨_,_,_,_,_,_,rfl⟩|⟨a1,a2,a3⟩⟩:=hc
 · intro x hx;cases hx
 · exact KTr.mem (Q:=fun x=>∃r n,H x r=some n) (fun c lo hi P B hc=>Tr.held hc) a3
def joinN (a:Nd) (k:ByteArray) (b:Nd):Nd:=
 if a.leaf then ⟨true,a.keys++b.keys,a.vals++b.vals,[]⟩ else ⟨false,a.keys++k :: b.keys,[],a.kids++b.kids⟩
theorem rise_app {l1 l2:List ByteArray} (h1:Rise l1) (h2:Rise l2) (h:∀x∈l1,∀y∈l2,lt x y=true):Rise (l1++l2):=List.pairwise_append.2 ⟨h1,h2,h⟩
theorem ktr_ne {R:TR} (m:∀c lo hi P B,R c lo hi P B→P≠[]):∀ {ks:List ByteArray} {cs:List Int} {lo hi:ByteArray} {P:List Pr} {B:List Int},KTr R lo hi ks cs P B→P≠[]
 | [],[],_,_,_,_,hk=>hk.elim
 | [],[c],_,_,_,_,hk=>m _ _ _ _ _ hk
 | [],_ :: _ :: _,_,_,_,_,hk=>hk.elim
 | _ :: _,[],_,_,_,_,hk=>hk.elim
 | k :: ks,c :: cs,lo,hi,P,B,hk=>by
   obtain ⟨P1,B1,P2,B2,h1,h2,rfl,rfl⟩:=hk
   have:=m _ _ _ _ _ h1
   simp[this]
theorem tr_ne {H:Hd} (ho:HOK H):∀(h:Nat) (b:Int) (lo hi:ByteArray) (P:List Pr) (B:List Int),Tr H h b false lo hi P B→P≠[]
 | 0,_,_,_,_,_,ht=>ht.elim
 | h+1,b,lo,hi,P,B,ht=>by
   obtain ⟨n,B0,hn,⟨_,⟨hl,_,hk,hP,_⟩|⟨hl,hk⟩⟩,rfl⟩:=tr_get ht
   · rcases (ho _ _ _ hn).1.2.2 with ⟨_,_,hv,_⟩|⟨hx,_⟩
     · rw[hP]
       intro e
       have:=congrArg List.length e
       rw[List.length_zip,hv,Nat.min_self,List.length_nil]at this
       have h0:=List.length_pos_iff.2 hk
       omega
     · rw[hl]at hx;cases hx
   · exact ktr_ne (fun c lo hi P B hc=>tr_ne ho h c lo hi P B hc) hk
theorem ktr_lt {R:TR} (mw:∀c lo hi P B,R c lo hi P B→∀p∈P,within p.1 lo hi=true) (m:∀c lo hi P B,R c lo hi P B→P≠[]) {ks:List ByteArray} {cs:List Int} {lo hi:ByteArray} {P:List Pr} {B:List Int} (hr:Rise ks) (he:∀k∈ks,k≠empS) (h:KTr R lo hi ks cs P B):∀k∈ks,lt lo k=true:=by
 cases ks with
 | nil=>intro k hk;cases hk
 | cons k ks=>
   cases cs with
   | nil=>exact h.elim
   | cons c cs=>
     obtain ⟨P1,B1,P2,B2,h1,h2,rfl,rfl⟩:=h
     obtain ⟨p,hp⟩:=List.exists_mem_of_ne_nil _ (m _ _ _ _ _ h1)
     obtain ⟨g1,g2⟩:=within_iff.1 (mw _ _ _ _ _ h1 p hp)
     have g2:=g2.resolve_left (he k (by simp))
     have hk:lt lo k=true:=by
       rcases nlt_iff.1 g1 with e|e
       · first | exact e▸g2|exact e.symm▸g2
       · exact lt_trans e g2
     intro x hx
     rcases List.mem_cons.1 hx with rfl|hx
     · exact hk
     · exact lt_trans hk ((List.pairwise_cons.1 hr).1 x hx)
theorem join_ok {H:Hd} (ho:HOK H) {h:Nat} {lo k hi:ByteArray} {a b:Nd} {Pa Pb:List Pr} {Ba Bb:List Int} (hk:1≤k.size∧k.size≤32) (hw:within k lo hi=true) (ha:CR H h lo k a Pa Ba) (hb:CR H h k hi b Pb Bb) (hl:a.leaf=b.leaf):
   CR H h lo hi (joinN a k b) (Pa++Pb) (Ba++Bb)∧(joinN a k b).leaf=a.leaf:=by
 have hke:k≠empS:=fun e=>by have:=hk.1;rw[e]at this;exact absurd this (by decide)
 obtain ⟨a1,a2,a3⟩:=ha
 obtain ⟨b1,b2,b3⟩:=hb
 obtain ⟨ar,az⟩:=kok_iff.1 a2
 obtain ⟨br,bz⟩:=kok_iff.1 b2
 obtain ⟨w1,w2⟩:=within_iff.1 hw
 have ak:∀x∈a.keys,lt x k=true:=fun x hx=>by
   rcases (within_iff.1 (a1 x hx)).2 with e|e
   · exact absurd e hke
   · exact e
 have bk:∀x∈b.keys,lt x k=false:=fun x hx=>(within_iff.1 (b1 x hx)).1
 have aw:∀x∈a.keys,within x lo hi=true:=fun x hx=>within_high (a1 x hx) hke hw
 have bw:∀x∈b.keys,within x lo hi=true:=fun x hx=>within_low (b1 x hx) w1
 unfold joinN
 rcases a3 with ⟨x1,x2,x3,x4,x5,x6,x7⟩|⟨x1,x2,x3⟩
 · rw[x1]at hl ⊢
   rw[if_pos rfl]
   rcases b3 with ⟨y1,y2,y3,y4,y5,y6,y7⟩|⟨y1,_⟩
   · refine ⟨⟨fun x hx => ?_,kok_iff.2 ⟨rise_app ar br fun x hx y hy=>lt_nlt (ak x hx) (bk y hy),fun x hx => ?_⟩,.inl ⟨rfl,x2,rfl,by simp;omega,fun v hv => ?_,?_,by rw[x7,y7];rfl⟩⟩,rfl⟩
     · rcases List.mem_append.1 hx with h|h
       · exact aw x h
       · exact bw x h
     · rcases List.mem_append.1 hx with h|h
       · exact az x h
       · exact bz x h
     · rcases List.mem_append.1 hv with h|h
       · exact x5 v h
       · exact y5 v h
     · rw[x6,y6];exact (List.zip_append (by omega)).symm
   · rw[y1]at hl;cases hl
 · rw[x1]at hl ⊢
   rw[if_neg (by simp)]
   rcases b3 with ⟨y1,_⟩|⟨y1,y2,y3⟩
   · rw[y1]at hl;cases hl
   · have hbr:∀x∈b.keys,lt k x=true:=ktr_lt (fun c lo hi P B hc=>hc.within ho) (fun c lo hi P B hc=>tr_ne ho h c lo hi P B hc) br (fun x hx e=>by have:=(bz x hx).1;rw[e]at this;exact absurd this (by decide)) y3
     refine ⟨⟨fun x hx => ?_,kok_iff.2 ⟨rise_app ar (List.pairwise_cons.2 ⟨hbr,br⟩) fun x hx y hy => ?_,fun x hx => ?_⟩,.inr ⟨rfl,rfl,ktr_app y3 x3⟩⟩,rfl⟩
     · rcases List.mem_append.1 hx with h|h
       · exact aw x h
       · rcases List.mem_cons.1 h with rfl|h
         · exact hw
         · exact bw x h
     · rcases List.mem_cons.1 hy with rfl|hy
       · exact ak x hx
       · exact lt_trans (ak x hx) (hbr y hy)
     · rcases List.mem_append.1 hx with h|h
       · exact az x h
       · rcases List.mem_cons.1 h with rfl|h
         · exact hk
         · exact bz x h
theorem withP_mem {key val:ByteArray} {P:List Pr} {p:Pr}:p∈withP key val P ↔ p=(key,val)∨(p∈P∧p.1≠key):=by
 unfold withP
 rw[List.mem_append,List.mem_cons,List.mem_filter,List.mem_filter]
 constructor
 · rintro (⟨h1,h2⟩|h|⟨h1,h2⟩)
   · exact .inr ⟨h1,lt_ne h2⟩
   · exact .inl h
   · exact .inr ⟨h1,(lt_ne h2).symm⟩
 · rintro (h|⟨h1,h2⟩)
   · exact .inr (.inl h)
   · by_cases h3:lt p.1 key=true
     · exact .inl ⟨h1,h3⟩
     · rcases nlt_iff.1 (by simpa using h3) with e|e
       · exact absurd e h2
       · exact .inr (.inr ⟨h1,e⟩)
theorem inc_ext:∀ {P Q:List Pr},Inc P→Inc Q→(∀p,p∈P ↔ p∈Q)→P=Q
 | [],[],_,_,_=>rfl
 | [],q :: Q,_,_,h=>by have:=(h q).2 (by simp);cases this
 | p :: P,[],_,_,h=>by have:=(h p).1 (by simp);cases this
 | p :: P,q :: Q,hP,hQ,h=>by
   obtain ⟨a1,a2⟩:=List.pairwise_cons.1 hP
   obtain ⟨b1,b2⟩:=List.pairwise_cons.1 hQ
   have e:p=q:=by
     rcases List.mem_cons.1 ((h p).1 (by simp)) with e|e
     · exact e
     · rcases List.mem_cons.1 ((h q).2 (by simp)) with e2|e2
       · exact e2.symm
       · exact absurd (lt_trans (a1 q e2) (b1 p e)) (by rw[lt_irr];simp)
   subst e
   rw[inc_ext a2 b2 fun x=>⟨fun hx => ?_,fun hx => ?_⟩]
   · rcases List.mem_cons.1 ((h x).1 (by simp[hx])) with e|e
     · exact absurd (a1 x hx) (by rw[e,lt_irr];simp)
     · exact e
   · rcases List.mem_cons.1 ((h x).2 (by simp[hx])) with e|e
     · exact absurd (b1 x hx) (by rw[e,lt_irr];simp)
     · exact e
theorem withP_swap {k v l u:ByteArray} {P:List Pr} (h:Inc P) (hne:k≠l):withP k v (withP l u P)=withP l u (withP k v P):=
 inc_ext (withP_inc (withP_inc h)) (withP_inc (withP_inc h)) fun p=>by
  simp only[withP_mem]
  constructor
  · rintro (rfl|⟨rfl|⟨h1,h2⟩,h3⟩)
    · exact .inr ⟨.inl rfl,hne⟩
    · exact .inl rfl
    · exact .inr ⟨.inr ⟨h1,h3⟩,h2⟩
  · rintro (rfl|⟨rfl|⟨h1,h2⟩,h3⟩)
    · exact .inr ⟨.inl rfl,hne.symm⟩
    · exact .inl rfl
    · exact .inr ⟨.inr ⟨h1,h3⟩,h2⟩
theorem withP_over {k v u:ByteArray} {P:List Pr} (h:Inc P):withP k v (withP k u P)=withP k v P:=
 inc_ext (withP_inc (withP_inc h)) (withP_inc h) fun p=>by
  simp only[withP_mem]
  constructor
  · rintro (rfl|⟨rfl|⟨h1,h2⟩,h3⟩)
    · exact .inl rfl
    · exact absurd rfl h3
    · exact .inr ⟨h1,h3⟩
  · rintro (rfl|⟨h1,h2⟩)
    · exact .inl rfl
    · exact .inr ⟨.inr ⟨h1,h2⟩,h2⟩
def withR (key val:ByteArray):Bool→List Pr→List Pr
 | put,[]=>if put then [] else [(key,val)]
 | put,p :: r=>(if !put && !(lt p.1 key) then [(key,val)] else [])++(if p.1=key then [] else [p])++withR key val (put || !(lt p.1 key)) r
theorem withR_true {key val:ByteArray}:∀(P:List Pr),withR key val true P=P.filter (fun p=>decide (p.1≠key))
 | []=>rfl
 | p :: r=>by
   rw[withR,Bool.true_or,withR_true r,List.filter_cons]
   by_cases e:p.1=key <;> simp[e]
theorem withR_ok {key val:ByteArray}:∀ {P:List Pr},Inc P→withR key val false P=withP key val P
 | [],_=>rfl
 | p :: r,h=>by
   obtain ⟨h1,h2⟩:=List.pairwise_cons.1 h
   by_cases hp:lt p.1 key=true
   · have hne:=lt_ne hp
     rw[withR,hp,if_neg (by simp),if_neg hne,show (false || !true)=false from rfl,withR_ok h2,withP,withP,List.filter_cons,if_pos hp,List.filter_cons,if_neg (by rw[lt_asym hp];simp)]
     rfl
   · have hp':lt p.1 key=false:=by simpa using hp
     have hall:∀q∈r,lt key q.1=true:=fun q hq=>by
       rcases nlt_iff.1 hp' with e|e
       · rw[←e];exact h1 q hq
       · exact lt_trans e (h1 q hq)
     have hfr:r.filter (fun p=>decide (p.1≠key))=r:=List.filter_eq_self.2 fun q hq=>by simpa using (lt_ne (hall q hq)).symm
     have e1:withR key val false (p :: r)=(key,val) :: ((if p.1=key then [] else [p])++r):=by
       rw[withR,hp',show (false || !false)=true from rfl,withR_true,hfr];rfl
     have e2:withP key val (p :: r)=(key,val) :: ((if lt key p.1=true then [p] else [])++r):=by
       unfold withP
       rw[List.filter_cons,List.filter_cons,(filt_hi hall).1,(filt_hi hall).2,if_neg (show ¬lt p.1 key=true by rw[hp'];simp)]
       split <;> rfl
     rw[e1,e2]
     rcases nlt_iff.1 hp' with e|e
     · rw[if_pos e,if_neg (by rw[e,lt_irr];simp)]
     · rw[if_neg (lt_ne e).symm,if_pos e]
theorem refGet_in {P:List Pr} (h:Inc P) {p:Pr} (hp:p∈P):refGet P p.1=(p.2,0):=by
 induction P with
 | nil=>cases hp
 | cons a P ih=>
   obtain ⟨h1,h2⟩:=List.pairwise_cons.1 h
   rw[refGet]
   rcases List.mem_cons.1 hp with rfl|hp
   · rw[if_pos rfl]
   · rw[if_neg (lt_ne (h1 p hp))];exact ih h2 hp
theorem refGet_with {key val:ByteArray} {P:List Pr} (h:Inc P):refGet (withP key val P) key=(val,0):=refGet_in (withP_inc h) (p:=(key,val)) (withP_mem.2 (.inl rfl))
theorem refGet_other {key val k:ByteArray} {P:List Pr} (h:Inc P) (hne:k≠key):refGet (withP key val P) k=refGet P k:=by
 by_cases hk:∃p∈P,p.1=k
 · obtain ⟨p,hp,rfl⟩:=hk
   rw[refGet_in h hp,refGet_in (withP_inc h) (withP_mem.2 (.inr ⟨hp,hne⟩))]
 · have h1:∀p∈P,p.1≠k:=fun p hp e=>hk ⟨p,hp,e⟩
   rw[refGet_no h1,refGet_no fun p hp => ?_]
   rcases withP_mem.1 hp with rfl|⟨h2,_⟩
   · exact hne.symm
   · exact h1 p h2
def foldW {α:Type} (step:Wd→α→Wd×Int):Wd→List α→Wd×Int
 | w,[]=>(w,0)
 | w,c :: cs=>if (step w c).2≠0 then (wd0,(step w c).2) else foldW step (step w c).1 cs
noncomputable def allW {α:Type} (step:Wd→α→Wd×Int) (w:Wd) (l:List α):Wd×Int:=if ¬WRight w then (wd0,1) else foldW step w l
structure Chg where
 gone:Bool
 key:ByteArray
 val:ByteArray
def Chg.ok (c:Chg):Prop:=1≤c.key.size∧c.key.size≤32∧c.val.size≤200∧(c.gone=true→c.val=empS)
noncomputable instance (c:Chg):Decidable c.ok:=Classical.propDecidable _
def TreeOf (w:Wd) (P:List Pr):Prop:=WRight w∧∃h B,IsTree w h P B
theorem isTree_incP {w:Wd} {h:Nat} {P:List Pr} {B:List Int} (ht:IsTree w h P B):Inc P:=by
 rcases ht with ⟨_,_,rfl,_⟩|⟨_,_,_,hT,_⟩
 · exact List.Pairwise.nil
 · exact hT.inc (hold_hok _)
theorem TreeOf.inc {w:Wd} {P:List Pr} (h:TreeOf w P):Inc P:=by
 obtain ⟨_,_,_,ht⟩:=h
 exact isTree_incP ht
theorem put_tree {w:Wd} {P:List Pr} {key val:ByteArray} (h:TreeOf w P):(¬isPair key val∧putW w key val=(wd0,1))∨(isPair key val∧(putW w key val=(wd0,60)∨((putW w key val).2=0∧TreeOf (putW w key val).1 (withP key val P)))):=by
 obtain ⟨hr,h',B,ht⟩:=h
 by_cases hp:isPair key val
 · rcases putW_tree hr hp ht with ⟨a1,a2⟩|⟨x,a1,a2,a3,h'',B',W,a4,a5,a6⟩
   · exact .inr ⟨hp,.inl a1⟩
   · exact .inr ⟨hp,.inr ⟨by rw[a1],by rw[a1];exact ⟨a2,h'',B',a6⟩⟩⟩
 · refine .inl ⟨hp,?_⟩
   unfold putW
   rw[if_pos (by rintro ⟨_,h⟩;exact hp h)]
structure Nw (w x:Wd) (O N:List Int):Prop where
 base:x.base=w.base
 gen:x.gen=w.gen
 nlen:x.now.length=w.now.length
 plen:x.pages.length=w.pages.length
 now:∀i:Nat,i<w.now.length→tr x.now i=((tr w.now i && !decide ((i:Int)∈O))||decide ((i:Int)∈N))
 page:∀b:Int,0≤b→tr w.base b.toNat=true→pgAt x b=pgAt w b
 kept:∀i:Nat,i<w.now.length→(i:Int)∈N→(i:Int)∈O∨tr w.now i=false
theorem Nw.refl (w:Wd) (B:List Int) (h:∀b∈B,tr w.now b.toNat=true):Nw w w B B:=⟨rfl,rfl,rfl,rfl,fun i hi=>by
 by_cases hb:(i:Int)∈B
 · have:=h _ hb
   simp at this
   simp[hb,this]
 · simp[hb],fun _ _ _=>rfl,fun i _ h => .inl h⟩
theorem Fq.nw {w x:Wd} {O N W:List Int} (h:Fq w x O N W):Nw w x O N where
 base:=h.base
 gen:=h.gen
 nlen:=h.nlen
 plen:=h.plen
 now:=h.now
 page b hb ht:=h.page b hb fun hw=>by
  have:=(h.wr b hw).2.2.2.1
  rw[ht]at this;cases this
 kept i hi hb:=by
  rcases h.kept _ hb with e|e
  · have:=(h.wr _ e).2.2.2.2.1
    simpa using this
  · exact .inl e
theorem Nw.trans {w x y:Wd} {O N M:List Int} (h:Nw w x O N) (g:Nw x y N M):Nw w y O M where
 base:=g.base.trans h.base
 gen:=g.gen.trans h.gen
 nlen:=g.nlen.trans h.nlen
 plen:=g.plen.trans h.plen
 page b hb ht:=by rw[g.page b hb (by rw[h.base];exact ht),h.page b hb ht]
 now i hi:=by
  rw[g.now i (by rw[h.nlen];exact hi),h.now i hi]
  have hk:=h.kept i hi
  by_cases h1:(i:Int)∈N
  · rcases hk h1 with e|e
    · simp[h1,e]
    · simp[h1,e]
  · simp[h1]
 kept i hi hm:=by
  rcases g.kept i (by rw[h.nlen];exact hi) hm with e|e
  · exact h.kept i hi e
  · rw[h.now i hi]at e
    simp only[Bool.or_eq_false_iff,Bool.and_eq_false_iff,Bool.not_eq_false',decide_eq_true_eq]at e
    rcases e.1 with e|e
    · exact .inr e
    · exact .inl e
def From (w:Wd) (B:List Int) (x:Wd) (P':List Pr):Prop:=WRight x∧∃h' B',IsTree x h' P' B'∧Nw w x B B'
theorem isTree_tr {w:Wd} {h:Nat} {P:List Pr} {B:List Int} (ht:IsTree w h P B):∀b∈B,tr w.now b.toNat=true:=fun b hb=>by
 obtain ⟨r,m,hm⟩:=isTree_held ht b hb
 exact hold_tr hm
theorem From.start {w:Wd} {h:Nat} {P:List Pr} {B:List Int} (hr:WRight w) (ht:IsTree w h P B):From w B w P:=⟨hr,h,B,ht,Nw.refl w B (isTree_tr ht)⟩
theorem put_from {w0 w:Wd} {B0:List Int} {P:List Pr} {key val:ByteArray} (h:From w0 B0 w P):(¬isPair key val∧putW w key val=(wd0,1))∨(isPair key val∧(putW w key val=(wd0,60)∨((putW w key val).2=0∧From w0 B0 (putW w key val).1 (withP key val P)))):=by
 obtain ⟨hr,h',B,ht,hn⟩:=h
 by_cases hp:isPair key val
 · rcases putW_tree hr hp ht with ⟨a1,a2⟩|⟨x,a1,a2,a3,h'',B',W,a4,a5,a6⟩
   · exact .inr ⟨hp,.inl a1⟩
   · exact .inr ⟨hp,.inr ⟨by rw[a1],by rw[a1];exact ⟨a2,h'',B',a6,hn.trans a4.nw⟩⟩⟩
 · refine .inl ⟨hp,?_⟩
   unfold putW
   rw[if_pos (by rintro ⟨_,h⟩;exact hp h)]
theorem old_tree {w x:Wd} {h:Nat} {P:List Pr} {B B':List Int} (hr:WRight w) (hb:w.base=w.now) (ht:IsTree w h P B) (hn:Nw w x B B'):IsTree ⟨w.now,w.now,x.pages,w.root,x.gen⟩ h P B:=by
 refine isTree_frame ht rfl fun b hb' r n hh => ?_
 have htr:=isTree_tr ht b hb'
 have hrg:=hold_rg (wr_now hr) hh
 rw[←hh]
 unfold Hold
 dsimp only
 have hp:∀g,pgAt ⟨w.now,w.now,x.pages,w.root,g⟩ b=pgAt w b:=fun g=>by
  rw[←hn.page b (by omega) (by rw[hb];exact htr)];rfl
 rw[hn.gen,hn.plen,hp]
theorem hold_gen {w:Wd} {b g:Int} {r:Bool} {n:Nd} {l:List Bool} (hg:w.gen≤g) (h:Hold w b r=some n):Hold ⟨l,w.now,w.pages,w.root,g⟩ b r=some n:=by
 unfold Hold at h ⊢
 dsimp only
 split at h
 · cases h
 · rename_i h1
   rw[if_neg h1]
   have hp:pgAt ⟨l,w.now,w.pages,w.root,g⟩ b=pgAt w b:=rfl
   rw[hp]
   rcases getP_cases (pgAt w b) with ⟨e,he,h'⟩|⟨k,g',s,h',_⟩
   · rw[h',hPage_err he]at h;cases h
   · rw[h',hPage_ok]at h ⊢
     split at h
     · cases h
     rw[if_neg (by omega)]
     exact h
theorem isTree_gen {w:Wd} {g:Int} {h:Nat} {P:List Pr} {B:List Int} {l:List Bool} (hg:w.gen≤g) (ht:IsTree w h P B):IsTree ⟨l,w.now,w.pages,w.root,g⟩ h P B:=
 isTree_frame ht rfl fun b _ r n hh=>hold_gen hg hh
theorem filt_succ (i:Nat):∀ {B:List Int},B.Nodup→(B.filter (fun x=>decide (x<((i+1:Nat):Int)))).length=(B.filter (fun x=>decide (x<(i:Int)))).length+if (i:Int)∈B then 1 else 0
 | [],_=>by simp
 | b :: B,hu=>by
   obtain ⟨h1,h2⟩:=List.nodup_cons.1 hu
   have ih:=filt_succ i h2
   rw[List.filter_cons,List.filter_cons]
   by_cases e:b=i
   · subst e
     rw[if_neg h1]at ih
     rw[if_pos (by simp;omega),if_neg (by simp),if_pos (by simp),List.length_cons]
     omega
   · have em:((i:Int)∈b :: B) ↔ (i:Int)∈B:=by
       rw[List.mem_cons]
       exact ⟨fun h=>h.resolve_left fun h=>e h.symm,.inr⟩
     by_cases hb:b<(i:Int)
     · rw[if_pos (by simp;omega),if_pos (by simpa using hb),List.length_cons,List.length_cons,ih]
       simp only[em]
       omega
     · rw[if_neg (by simp;omega),if_neg (by simpa using hb),ih]
       simp only[em]
theorem cntUp_of {w:Wd} {B:List Int} (hu:B.Nodup) (hb:∀i:Nat,i<w.now.length→tr w.base i=decide (i<10)) (hn:∀i:Nat,i<w.now.length→tr w.now i=(decide (i<10)||decide ((i:Int)∈B))) (h10:∀b∈B,10≤b):
   ∀i,i≤w.now.length→cntUp w i+(B.filter (fun x=>decide (x<(i:Int)))).length+min i 10=i
 | 0,_=>by
   have:B.filter (fun x=>decide (x<((0:Nat):Int)))=[]:=List.filter_eq_nil_iff.2 fun x hx=>by have:=h10 x hx;simp;omega
   rw[this];rfl
 | i+1,hi=>by
   have ih:=cntUp_of hu hb hn h10 i (by omega)
   rw[cntUp,filt_succ i hu,freeAt,hb i (by omega),hn i (by omega)]
   by_cases h1:i<10
   · have:(i:Int)∉B:=fun h=>by have:=h10 _ h;omega
     simp[h1,this]
     omega
   · by_cases h2:(i:Int)∈B
     · simp[h1,h2]
       omega
     · simp[h1,h2]
       omega
theorem cnt_of {w:Wd} {B:List Int} (hu:B.Nodup) (h24:10≤w.now.length) (hb:∀i:Nat,i<w.now.length→tr w.base i=decide (i<10)) (hn:∀i:Nat,i<w.now.length→tr w.now i=(decide (i<10)||decide ((i:Int)∈B))) (h10:∀b∈B,10≤b∧b<w.now.length):
  cnt w+B.length+10=w.now.length:=by
 have:=cntUp_of hu hb hn (fun b h=>(h10 b h).1) w.now.length (Nat.le_refl _)
 rw[List.filter_eq_self.2 (fun x hx=>by simpa using (h10 x hx).2)]at this
 unfold cnt
 omega
theorem isTree_nodup {w:Wd} {h:Nat} {P:List Pr} {B:List Int} (hr:WRight w) (ht:IsTree w h P B):B.Nodup∧∀b∈B,10≤b∧b<w.now.length:=by
 refine ⟨?_,fun b hb => ?_⟩
 · rcases ht with ⟨_,_,_,rfl⟩|⟨_,_,_,_,hu⟩
   · exact List.nodup_nil
   · exact hu
 · obtain ⟨r,m,hm⟩:=isTree_held ht b hb
   have:=hold_rg (wr_now hr) hm
   omega
def newRow (n:Nat):List Bool:=(List.range n).map fun i=>decide (i<10)
def newW (n:Nat):Wd:=⟨newRow n,newRow n,List.replicate n empS,0,1⟩
theorem newRow_len (n:Nat):(newRow n).length=n:=by simp[newRow]
theorem newRow_tr {n i:Nat} (h:i<n):tr (newRow n) i=decide (i<10):=by simp[tr,newRow,h]
theorem newW_right {n:Nat} (h1:24≤n) (h2:n≤2048):WRight (newW n):=by
 refine ⟨⟨rfl,by rw[newW,newRow_len];exact h1,by rw[newW,newRow_len];exact h2,fun j hj => ?_⟩,by simp[newW,newRow],by simp[newW],by simp[newW],.inl rfl,fun s hs => ?_⟩
 · have:tr (newRow n) j=true:=by rw[newRow_tr (by omega)];simpa using hj
   exact ⟨this,this⟩
 · have:=List.eq_of_mem_replicate hs
   rw[this];decide
theorem newW_tree (n:Nat):IsTree (newW n) 0 [] [] := .inl ⟨rfl,rfl,rfl,rfl⟩
theorem new_cnt {n:Nat} {x:Wd} {P:List Pr} (h1:24≤n) (h:From (newW n) [] x P):∃h' B',IsTree x h' P B'∧x.now.length=n∧cnt x+B'.length+10=n:=by
 obtain ⟨hr,h',B',ht,hn⟩:=h
 have hl:(newW n).now.length=n:=newRow_len n
 obtain ⟨hu,hrg⟩:=isTree_nodup hr ht
 have hx:x.now.length=n:=by rw[hn.nlen,hl]
 refine ⟨h',B',ht,hx,?_⟩
 have:=cnt_of (w:=x) hu (by omega) (fun i hi=>by rw[hn.base];exact newRow_tr (by omega)) (fun i hi=>by
  rw[hn.now i (by omega),show tr (newW n).now i=decide (i<10) from newRow_tr (by omega)]
  simp) hrg
 omega
theorem isTree_low200 {w:Wd} (hr:WRight w) {h:Nat} {P:List Pr} {B:List Int} (ht:IsTree w h P B) (hn:w.now.length≤200):h≤4:=by
 obtain ⟨hu,hrg⟩:=isTree_nodup hr ht
 rcases ht with ⟨_,rfl,_⟩|⟨_,_,_,hT,_⟩
 · omega
 · refine Classical.byContradiction fun hc => ?_
   obtain ⟨j,rfl⟩:∃j,h=j+2:=⟨h - 2,by omega⟩
   have h1:=root_blocks (hold_hok w) hT
   have h2:=nodup_len hu (n:=200) fun x hx=>by have:=hrg x hx;omega
   have h3:=pw5_up (show 3≤j by omega)
   have h4:pw5 3=125:=by decide
   omega
theorem put_low {w:Wd} {P:List Pr} {key val:ByteArray} {w0:Wd} {B0:List Int} (h:From w0 B0 w P) (hn:w.now.length≤200) (hb:putW w key val=(wd0,60)):cnt w<9:=by
 obtain ⟨hr,h',B,ht,_⟩:=h
 have h4:=isTree_low200 hr ht hn
 by_cases hp:isPair key val
 · rcases putW_tree hr hp ht with ⟨a1,a2⟩|⟨x,a1,_⟩
   · omega
   · rw[hb]at a1;simp at a1
 · have:putW w key val=(wd0,1):=by
     unfold putW
     rw[if_pos (by rintro ⟨_,h⟩;exact hp h)]
   rw[hb]at this;simp at this
structure KeepsR (w x:Wd) (old fresh:List Int):Prop where
 gen:x.gen=w.gen
 plen:x.pages.length=w.pages.length
 nlen:x.now.length=w.now.length
 base:x.base=w.base
 page:∀i:Nat,i<w.now.length→tr w.base i=true→pgAt x i=pgAt w i
 now:∀i:Nat,i<w.now.length→tr x.now i=((tr w.now i && !decide ((i:Int)∈old))||decide ((i:Int)∈fresh))
 new:∀b∈fresh,(b∈old∧pgAt x b=pgAt w b)∨∃k s,GetPR (pgAt x b) = .tup [pg k w.gen s,.n (.int .i64 0)]
theorem keeps_of {w x:Wd} {O N W:List Int} (hr:WRight w) (h:Fq w x O N W) (hN:∀b∈N,10≤b):KeepsR w x O N where
 gen:=h.gen
 plen:=h.plen
 nlen:=h.nlen
 base:=h.base
 page i hi ht:=h.nw.page i (by omega) (by simpa using ht)
 now:=h.now
 new b hb:=by
  by_cases hw:b∈W
  · obtain ⟨_,_,_,_,_,n,a6,a7⟩:=h.wr b hw
    right
    have e:pgAt x b=pageB w.gen n:=a7
    rw[e,pageB,get_self (page_ok a6 (by have:=hr.2.2.1;omega) hr.2.2.2.1)]
    exact ⟨_,_,rfl⟩
  · left
    have h0:=hN b hb
    exact ⟨(h.kept b hb).resolve_left hw,h.page b (by omega) hw⟩
theorem keeps_any {w x:Wd} (h1:x.base=w.base) (h2:x.gen=w.gen) (h3:x.now.length=w.now.length) (h4:x.pages.length=w.pages.length) (h5:∀b:Int,0≤b→tr w.base b.toNat=true→pgAt x b=pgAt w b):KeepsR ⟨w.base,x.now,w.pages,0,w.gen⟩ x [] [] where
 gen:=h2
 plen:=h4
 nlen:=rfl
 base:=h1
 page i hi ht:=h5 i (by omega) (by simpa using ht)
 now i hi:=by simp
 new b hb:=by cases hb
theorem get_of {w:Wd} {P:List Pr} {key:ByteArray} (h:TreeOf w P) (h1:1≤key.size) (h2:key.size≤32):GetW w key=refGet P key:=by
 obtain ⟨hr,_,_,ht⟩:=h
 exact getW_tree hr h1 h2 ht
theorem get_off {w:Wd} {key:ByteArray} (h:¬(1≤key.size∧key.size≤32)):GetW w key=(empS,1):=by
 rw[GetW,if_pos (by omega)]
theorem grow_gets {w:Wd} {P:List Pr} {key val:ByteArray} (h:TreeOf w P):
   ((putW w key val).2≠0∧((putW w key val).2=60∨¬isPair key val))∨((putW w key val).2=0∧GetW (putW w key val).1 key=(val,0)∧∀other,other≠key→GetW (putW w key val).1 other=GetW w other):=by
 have hinc:=h.inc
 rcases put_tree (key:=key) (val:=val) h with ⟨a1,a2⟩|⟨a1,a2|⟨a2,a3⟩⟩
 · exact .inl ⟨by rw[a2];decide,.inr a1⟩
 · exact .inl ⟨by rw[a2];decide,.inl (by rw[a2])⟩
 · refine .inr ⟨a2,by rw[get_of a3 a1.1 a1.2.1,refGet_with hinc],fun o ho => ?_⟩
   by_cases hs:1≤o.size∧o.size≤32
   · rw[get_of a3 hs.1 hs.2,get_of h hs.1 hs.2,refGet_other hinc ho]
   · rw[get_off hs,get_off hs]
noncomputable def put2 (w:Wd) (p q:Pr):Wd×Int:=allW (fun w (p:Pr)=>putW w p.1 p.2) w [p,q]
theorem put2_tree {w:Wd} {P:List Pr} {p q:Pr} (h:TreeOf w P):((put2 w p q).2=60∨((put2 w p q).2=1∧¬(isPair p.1 p.2∧isPair q.1 q.2)))∨((put2 w p q).2=0∧TreeOf (put2 w p q).1 (withP q.1 q.2 (withP p.1 p.2 P))):=by
 unfold put2 allW
 rw[if_neg (by simpa using h.1),foldW]
 rcases put_tree (key:=p.1) (val:=p.2) h with ⟨a1,a2⟩|⟨a1,a2|⟨a2,a3⟩⟩
 · rw[if_pos (by rw[a2];decide)]
   exact .inl (.inr ⟨by rw[a2],fun hh=>a1 hh.1⟩)
 · rw[if_pos (by rw[a2];decide)]
   exact .inl (.inl (by rw[a2]))
 · rw[if_neg (by simpa using a2),foldW]
   rcases put_tree (key:=q.1) (val:=q.2) a3 with ⟨b1,b2⟩|⟨b1,b2|⟨b2,b3⟩⟩
   · rw[if_pos (by rw[b2];decide)]
     exact .inl (.inr ⟨by rw[b2],fun hh=>b1 hh.2⟩)
   · rw[if_pos (by rw[b2];decide)]
     exact .inl (.inl (by rw[b2]))
   · rw[if_neg (by simpa using b2),foldW]
     exact .inr ⟨rfl,b3⟩
theorem grow_order {w:Wd} {P:List Pr} {p q:Pr} (h:TreeOf w P) (h1:(put2 w p q).2=0) (h2:(put2 w q p).2=0):
   ∃X Y,TreeOf (put2 w p q).1 X∧TreeOf (put2 w q p).1 Y∧(p.1=q.1→X=withP q.1 q.2 P∧Y=withP p.1 p.2 P)∧(p.1≠q.1→X=Y):=by
 have hinc:=h.inc
 refine ⟨withP q.1 q.2 (withP p.1 p.2 P),withP p.1 p.2 (withP q.1 q.2 P),?_,?_,fun e=>⟨?_,?_⟩,fun hne=>(withP_swap hinc hne).symm⟩
 · rcases put2_tree (p:=p) (q:=q) h with (a|a)|a
   · rw[a]at h1;cases h1
   · rw[a.1]at h1;cases h1
   · exact a.2
 · rcases put2_tree (p:=q) (q:=p) h with (a|a)|a
   · rw[a]at h2;cases h2
   · rw[a.1]at h2;cases h2
   · exact a.2
 · rw[e];exact withP_over hinc
 · rw[e];exact withP_over hinc
structure SC where
 se:Int
 out:List Pr
 nx:ByteArray
 full:Bool
 bad:Bool
def lastLt (out:List Pr) (key:ByteArray):Bool:=match out.getLast? with
 | none=>true
 | some p=>lt p.1 key
def takeS (fr:ByteArray) (mo:Int) (s:SC) (p:Pr):SC:=
 if s.full=true∨lt p.1 fr=true then s
 else if lastLt s.out p.1=false then { s with bad:=true }
 else if (s.out.length:Int)=mo then { s with full:=true,nx:=p.1 }
 else { s with out:=s.out++[p] }
def takesS (fr:ByteArray) (mo:Int) (s:SC) (l:List Pr):SC:=l.foldl (takeS fr mo) s
def Same (r s:SC):Prop:=r.out=s.out∧r.nx=s.nx∧r.full=s.full∧r.bad=s.bad
theorem Same.trans {a b c:SC} (h:Same a b) (g:Same b c):Same a c:=⟨h.1.trans g.1,h.2.1.trans g.2.1,h.2.2.1.trans g.2.2.1,h.2.2.2.trans g.2.2.2⟩
theorem Same.refl (a:SC):Same a a:=⟨rfl,rfl,rfl,rfl⟩
def Does (fr:ByteArray) (mo:Int) (s r:SC) (P:List Pr) (n:Nat):Prop:=Same r (takesS fr mo s P)∧s.se≤r.se∧r.se≤s.se+n
theorem p63i (n:Nd) (key:ByteArray) (hfit:NdFits n) (hs:Stands n) (hl:n.leaf=false):Runs Fs2 63 [ndV n,.n (.str key)] [] (.n (.int .i64 (kidI n key:Nat))) []:=by
 have g:=p63 n key hfit hs hl
 have e:((srch n.keys key:Nat):Int)+(if isAt n.keys key then 1 else 0)=(kidI n key:Nat):=by
  unfold kidI;split <;> simp
 rw[e]at g
 exact g
theorem p25 (a b:List Pr) (ha:Small a.length) (hb:Small b.length):Runs Fs2 25 [.o (.sl 2 (psD a)),.o (.sl 2 (psD b))] [] (.n (.bool (decide (a=b)))) []:=by
 refine vc_eq fs25 rfl ?_
 rw[vc25,(V25e _ _ _).down,psD_len,psD_len]
 refine sel_intro (fun h => ?_) (fun h => ?_)
 · rw[decide_eq_false]
   rintro rfl
   simp at h
 have hl:a.length=b.length:=by
   have:(a.length:Int)=b.length:=by simpa using h
   omega
 refine ⟨fun i=>0≤i∧i≤a.length∧∀j:Nat,(j:Int)<i→a[j]?=b[j]?,fun i=>(a.length - i).toNat,⟨rfl,by omega,by omega,fun j hj=>by omega⟩,?_⟩
 rintro i ⟨h0,h1,hok⟩ _
 refine sel_dec (fun hlt => ?_) (fun hge => ?_)
 · have hi:i.toNat<a.length:=by omega
   have hj:i.toNat<b.length:=by omega
   refine ⟨rfl,h0,_,psD_at hi,_,_,rfl,Nat.le_refl 2,rfl,h0,_,psD_at hj,_,_,rfl,Nat.le_refl 2,?_⟩
   rw[beq_dec,beq_dec]
   refine sel_intro (fun hx => ?_) (fun hx => ?_)
   · rw[decide_eq_false]
     rintro rfl
     simp at hx
   · have hx:a[i.toNat].1=b[i.toNat].1∧a[i.toNat].2=b[i.toNat].2:=by simpa using hx
     repeat (refine And.intro rfl ?_)
     rw[i64_in _ (by omega)]
     refine ⟨⟨by omega,by omega,fun j hji => ?_⟩,by first|omega|(dsimp only;omega)⟩
     by_cases e:(j:Int)<i
     · exact hok j e
     · obtain rfl:j=i.toNat:=by omega
       rw[List.getElem?_eq_getElem hi,List.getElem?_eq_getElem hj,Prod.ext hx.1 hx.2]
 · rw[decide_eq_true]
   refine List.ext_getElem? fun j => ?_
   by_cases hj:j<a.length
   · exact hok j (by omega)
   · rw[List.getElem?_eq_none (by omega),List.getElem?_eq_none (by omega)]
end Go.Proofs.YtclgengkohbjjaaGreatDoor.M
